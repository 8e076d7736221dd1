/- Part 4 of the proof of MixedDecisionsMatchReference_said. -/
import Derived.Test.YthjnojbeimchdaaGreatU2
import Derived.Test.YthjnojbeimchdaaGreatU1
import Derived.Lib.AppendZerosOnto
import Derived.Test.YthjnojbeimchdaaGreatU3
import Derived.Deep.Cut
import Derived.Deep.CutBlock
import Derived.Deep.DeepCutAuto
import Derived.Test.YthjnojbeimchdaaGreatRows
import Derived.WalkKit
import Derived.ProofKit
import Derived.OpenShut
import Derived.ShutString
import Derived.ChangeOld
import Derived.Below
import Derived.Lib.SmallJoins
set_option linter.unusedVariables false
set_option linter.unusedSimpArgs false
set_option maxRecDepth 100000
set_option maxHeartbeats 4000000
section
variable {ops:Array Go.Oper}{b:Bool}{F P a at_ d f n r s st step x y:Int}{m out:List (List Kal.Per)}{l:List Int}{rest:List Go.Oper}{t u:List Kal.Per}{cs xs:List Go.Value}{B R base c cap g i j k mb ob:Nat}{o:Go.Oper}{row:Option Nat}{p q qa qb:Kal.Per}{c1 c2 h h1 h2 v xv yv:Go.Value}{A W W' w w':Go.World}
namespace Go.Proofs.YthjnojbeimchdaaGreat
open Go.RowKit Kal
open Go.Sort (Holds putRow)
theorem OwnI.cut {n:Nat} (h:w.ownsRow base 3 1 (.slice (some ⟨g,0,none⟩) n cap) n (l.map (Value.int .i64))) (hk:k≤n) (hr:∀ x∈l.take k,InI x) (hln:l.length=n) (hb:n≤17592186044416):OwnI w base (.slice (some ⟨g,0,none⟩) k cap) (l.take k):=by
 obtain ⟨h1,h2⟩:=h;rcases h2 with ⟨h2,_⟩|⟨g',cap',cur,hv,hg,hh,hn,hc,hs,ht⟩
 ·cases h2
 ·injection hv with e1 e2 e3
  injection e1 with e1;injection e1 with e1
  subst e1;subst e3;have hlk:(l.take k).length=k:=by simp;omega
  refine ⟨?_,hr,oq_⟩;rw [hlk];refine ⟨tq_,.inr ⟨g,cap,cur,rfl,hg,hh,oq_,hc,hs,?_⟩⟩;rw [Nat.mul_one] at ht ⊢;rw [List.map_take,<- ht,List.take_take,Nat.min_eq_left hk]
theorem vm_ (W:World):Go.Sort.grow W #[]=W:=by cases W;simp [Go.Sort.grow]
theorem p6_ (v:Value) (l:List Int) (base:Nat) (w:World) (hv:OwnI w base v l) :
  Calls Tryz.prog 154 #[v] w fun e w'=>∃ v',e=.returned v'∧OwnI w' base v' (Go.Lib.compact l)∧w.grownBy w' v.ownBlock∧v'.ownBlock=v.ownBlock:=by
 have hv0:=hv;obtain ⟨⟨h1,h2⟩,h3,h4⟩:=hv;rcases h2 with ⟨rfl,h0⟩|⟨g,cap,cur,rfl,hg,hh,hn,hc,hs,ht⟩
 ·have hl:l=[]:=List.eq_nil_of_length_eq_zero h0;subst hl;exact (Tryz.slices_Compact_int_empty none 0 w).mono fun e w' ⟨he,hw⟩=>⟨_,he,by rw [hw];exact OwnI.nil w base,by rw [hw];exact ⟨rfl,rfl,rfl,Nat.le_refl _,fun _ _ _=>rfl⟩,rfl⟩
 ·rw [Nat.mul_one] at ht;have hlc:(Go.Lib.compact l).length≤l.length:=la_;have hmem:∀ x∈Go.Lib.compact l,x∈l:=fun x hx=>by
   unfold Go.Lib.compact Go.Lib.compactUpTo at hx;obtain ⟨j,hj,rfl⟩:=List.mem_map.1 hx;have:=List.mem_range.1 (List.mem_filter.1 hj).1;rw [getElem!_pos l.toArray j (by simpa using this)];simp
  refine (Tryz.slices_Compact_int g 0 cap l w (holds_of_blockI hh ht) oq_ hn).mono fun e w' ⟨he,n,hw⟩=>⟨_,he,?_,?_,rfl⟩
  ·have hlen:(Go.Lib.compact l ++ List.replicate (l.length-(Go.Lib.compact l).length) 0).length=l.length:=by simp;omega
   have:=ownsRow_sortedI (n:=n) (os:=#[]) (ts:=Go.Lib.compact l ++ List.replicate (l.length-(Go.Lib.compact l).length) 0) hlen hg hh hn hc hs;rw [vm_,<- hw] at this;have h9:=OwnI.cut (k:=(Go.Lib.compact l).length) this hlc (fun x hx=>h3 x (hmem x (by simpa using hx))) hlen h4;simpa using h9
  ·have:=grownBy_sortedI (w:=w) (g:=g) (n:=n) (os:=#[]) (Go.Lib.compact l ++ List.replicate (l.length-(Go.Lib.compact l).length) 0).toArray;rw [vm_,<- hw] at this;exact this
theorem v7_ (n:Nat) (w:World) (hn:n≤8796093022208) :
  Calls Tryz.prog 179 #[.slice none 0 0,.int .i64 (n:Int)] w fun e w'=>∃ v,e=.returned v∧OwnI w' w.heap.size v []∧Below w.heap.size w w':=by
 obtain ⟨i0,hi0,hz0,hs0,hb0⟩:=dt_
 by_cases hpos:0<n
 ·have hrz:∀ ty,(Builtin.append_ #[37,3] ty #[.slice none 0 0,.int .i64 (n:Int)]).run Tryz.prog w =
    .ok (.slice (some ⟨w.heap.size,0,none⟩) n (grownCap w n 0 3)) (w.drew.alloc (.cells (#[] ++ Builtin.zeroCells (Value.int .i64 0).cells n ++ Builtin.zeroCells (Value.int .i64 0).cells (grownCap w n 0 3-n)) 3)):=fun ty=>by
   have h:=Lib.run_append_grow_zeros w 37 3 ty 3 i0 (.int .i64 0) .i64 .i64 Tryz.underlying37 Tryz.underlying3 hi0 hz0 none 0 0 [] (run_firstCells_none w.drew i0.size 0 0 0) n hpos oq_ oq_ oq_ (by rw [hb0];omega)
    (growslice_fits oq_ (by rw [hb0];omega))
   simpa using h
  have hGn:n≤grownCap w n 0 3:=grownCap_ge w _ _ _;have hGm:=grownCap_le_maxLen w n 0 3 (by unfold maxLen;omega);obtain ⟨G,hG⟩:∃ G,G=grownCap w n 0 3:=⟨_,rfl⟩;rw [<- hG] at hrz hGn hGm;have hG63:G≤9223372036854775807:=by unfold maxLen at hGm;omega
  have HGM:=hq_ hGm;clear hG hGm;have hnI:(0:Int)<(n:Int):=oq_
  go_enter Tryz.func179,Tryz.ntmps179
  go_wp2_with (at_builtin;refine Lib.wpList_append_run _ rfl _ _ _ _ rfl _ _ rfl rfl _ _ (hrz _) ?_)
  go_ret;refine ⟨_,rfl,⟨⟨rfl,.inr ⟨w.heap.size,G,_,rfl,Nat.le_refl _,World.alloc_heap_new w.drew _,sq_,HGM.out,?_,sq_⟩⟩,sq_,sq_⟩,?_⟩
  ·simp [Builtin.zeroCells,Value.cells];omega
  ·exact ((Below.refl _ _).drew).alloc (Nat.le_refl _) _
 ·obtain rfl:n=0:=oq_
  go_enter Tryz.func179,Tryz.ntmps179
  go_wp2_with fail
  go_ret;exact ⟨_,rfl,OwnI.nil _ _,Below.refl _ _⟩
theorem h1_ {a:Act} {Q:Exit->Act->World->Prop} (hgd:o.guard=none) (s x:Operand)
  (ho:o.op=.call { callee:=.builtin .append,args:=#[s,x],argTypes:=#[37,37] }) (base:Nat) (v xv:Value) (l ys:List Int) (hs:a.eval s=v) (hown:OwnI w base v l)
  (hx:a.eval x=xv) (hxs:Ints w xv ys) (hlen:l.length+ys.length≤17592186044416) (hbase:base≤w.heap.size)
  (h:∀ v' w',OwnI w' base v' (l ++ ys)->w.grownBy w' v.ownBlock->(v'.ownBlock=v.ownBlock∨v'.ownBlock=some w.heap.size)->wpList Tryz.prog ops Q rest (a.put o.dst v') w') :
  wpList Tryz.prog ops Q (o :: rest) a w:=by
 obtain ⟨i,hi,h1,h2,h3⟩:=dt_;obtain ⟨⟨xa,xc,rfl,g1,g2,g3⟩,g4,g5⟩:=hxs;refine wpList_plain hgd fun K hK=>?_;rcases g3 with rfl|⟨b,off,rfl,hcell⟩
 ·have hrun:(Builtin.append_ #[37,37] o.type #[v,.slice xa ([]:List Int).length xc]).run Tryz.prog w=.ok v w:=by
   obtain ⟨⟨r1,r2⟩,r3,r4⟩:=hown;rcases r2 with ⟨rfl,r0⟩|⟨g,cap,cur,rfl,r5,r6,r7,r8,r9,r10⟩
   ·cases xa <;> simp [Builtin.append_,run_underlying Tryz.underlying37,sizeOf,typeInfo,hi,Builtin.lenOf,Builtin.firstCells,loadCells,loadCellsFrom,storeCells]
   ·cases xa <;> simp [Builtin.append_,run_underlying Tryz.underlying37,sizeOf,typeInfo,hi,Builtin.lenOf,Builtin.firstCells,r7,loadCells,loadCellsFrom,storeCells]
  unfold Oper.wp execOp;simp only [ho,resolve,invoke,builtin,Sem.run_bind,Sem.run_pure,Result.andThen_ok,List.map_toArray,List.map_cons,List.map_nil,hs,hx,hrun];exact hK _ _ (h v w (by simpa using hown) (World.grownBy.refl w _) (.inl rfl))
 ·obtain ⟨v',w',hrun,k2,k3,_,k5⟩:=run_append_own_at (P:=Tryz.prog) w base 37 o.type 3 i (.int .i64 0) 1 8 Tryz.underlying37 hi h1 h2 h3 rfl oq_ v l.length (l.map (Value.int .i64)) hown.row ⟨b,off,none⟩ ys.length xc (ys.map (Value.int .i64)) sq_
   (fun j u hu=>by
    rw [List.getElem?_map] at hu;obtain ⟨y,hy,rfl⟩:=Option.map_eq_some_iff.1 hu;obtain ⟨hj,hy'⟩:=List.getElem?_eq_some_iff.1 hy;have:=hcell j hj;rw [show ys.getD j 0=y from by simp [hj,hy']] at this;rw [show (⟨b,off,none⟩:Addr).add j=⟨b,off+j,none⟩ from by simp [Addr.add]];exact this) (by simp [Value.oneCell']) (by unfold maxLen;omega) oq_ hbase
  unfold Oper.wp execOp;simp only [ho,resolve,invoke,builtin,Sem.run_bind,Sem.run_pure,Result.andThen_ok,List.map_toArray,List.map_cons,List.map_nil,hs,hx,hrun];refine hK _ _ (h v' w' ⟨?_,fun z hz=>?_,tq_⟩ k3 k5)
  ·rw [List.length_append,List.map_append];exact k2
  ·rcases List.mem_append.1 hz with hz|hz
   ·exact hown.rng z hz
   ·exact g5 z hz
def Bxx' (w:World) (b:Nat) (c:Array Value):Prop:=∀ i,w.cell? ⟨b,i,none⟩=c[i]?
def st_ (l:List Int) (w:World) (e:Ending) (w':World):Prop:=∃ v,e=.returned v∧OwnI w' w.heap.size v l∧Below w.heap.size w w'
theorem rl_ (b c:Nat) (v1 v2:Value) (l1 l2:List Int) (w:World) (hb:Bxx' w b #[v1,v2]) (h1:Ints w v1 l1) (h2:Ints w v2 l2) (hl:l1.length+l2.length≤8796093022208) (hc:2≤c) (hc1:c≤1000) :
  Calls Tryz.prog 151 #[.slice (some ⟨b,0,none⟩) 2 c] w (st_ (l1 ++ l2) w):=by
 obtain ⟨a1,c1,rfl⟩:∃ a c,v1=.slice a l1.length c:=by obtain ⟨⟨a,c,e,_⟩,_⟩:=h1;exact ⟨a,c,e⟩
 obtain ⟨a2,c2,rfl⟩:∃ a c,v2=.slice a l2.length c:=by obtain ⟨⟨a,c,e,_⟩,_⟩:=h2;exact ⟨a,c,e⟩
 have q0:w.cell? ⟨b,0,none⟩=some (.slice a1 l1.length c1):=(hb 0);have q1:w.cell? ⟨b,1,none⟩=some (.slice a2 l2.length c2):=(hb 1);have H1:=hq_ h1;have H2:=hq_ h2;have HB:=hq_ hb;clear h1 h2 hb
 go_enter Tryz.func151,Tryz.ntmps151
 go_wp2_with fail
 go_loop [11,3] (fun i n=>(i=.int .i64 0∧n=.int .i64 0)∨(i=.int .i64 1∧n=.int .i64 l1.length)∨(i=.int .i64 2∧n=.int .i64 (l1.length+l2.length))) (fun i _=>2-(intOf i).toNat)
 case atStart=>exact .inl ⟨rfl,rfl⟩
 case round=>
  rcases hrel with ⟨rfl,rfl⟩|⟨rfl,rfl⟩|⟨rfl,rfl⟩
  ·go_wp2_with fail
   go_round
   case rel=>exact .inr (.inl ⟨rfl,rfl⟩)
   case measure=>simp [intOf]
  ·go_wp2_with fail
   go_round
   case rel=>exact .inr (.inr ⟨rfl,rfl⟩)
   case measure=>simp [intOf]
  ·go_wp2_with (go_at_call 179;rw [show ((l1.length:Int)+(l2.length:Int))=((l1.length+l2.length:Nat):Int) from by push_cast;rfl];refine (v7_ (l1.length+l2.length) _ hl).mono ?_;rintro e w2 ⟨v2,rfl,hown2,hb2⟩;obtain ⟨va,vc,rfl⟩:=hown2.form;obtain ⟨hc2,hf2⟩:=au_ hb2;(try simp only [World.size_alloc,World.size_drew,af_,World.size_setCell] at hc2 hf2))
   have hE2:Below w.heap.size w w2:=hb2;have HOWN2:=hq_ hown2;clear hown2 hb2 hc2 hf2
   go_loopw [27,6] (fun i ns wr=>((i=.int .i64 0∧OwnI wr w.heap.size ns [])∨(i=.int .i64 1∧OwnI wr w.heap.size ns l1)∨(i=.int .i64 2∧OwnI wr w.heap.size ns (l1 ++ l2)))∧Below w.heap.size w wr) (fun i _ _=>2-(intOf i).toNat)
   case atStart=>exact ⟨.inl ⟨rfl,HOWN2.out⟩,hE2⟩
   case round=>
    obtain ⟨hrel,hEr⟩:=hrel;have q0:=Ext.cell hEr q0;have q1:=Ext.cell hEr q1;have hszr:=hEr.size;rcases hrel with ⟨rfl,hown⟩|⟨rfl,hown⟩|⟨rfl,hown⟩
    ·obtain ⟨na,nc,rfl⟩:=hown.form;have HOWN:=hq_ hown;clear hown;go_wp2_with (at_builtin;refine h1_ rq_ _ _ rq_ w.heap.size (.slice na 0 nc) (.slice a1 l1.length c1) [] l1 rq_ HOWN.out rq_ (H1.out.ext hEr) tq_ oq_ ?_;intro v5 w5 hown5 hgrow5 hloc5;obtain ⟨na5,nc5,rfl⟩:=hown5.form)
     go_roundw
     case rel=>exact ⟨.inr (.inl ⟨rfl,by simpa using hown5⟩),hEr.grown hgrow5 hEr.size (fun k e=>(HOWN.out.lt k e).1)⟩
     case measure=>simp [intOf]
    ·obtain ⟨na,nc,rfl⟩:=hown.form;have HOWN:=hq_ hown;clear hown;go_wp2_with (at_builtin;refine h1_ rq_ _ _ rq_ w.heap.size (.slice na l1.length nc) (.slice a2 l2.length c2) l1 l2 rq_ HOWN.out rq_ (H2.out.ext hEr) oq_ oq_ ?_;intro v5 w5 hown5 hgrow5 hloc5;obtain ⟨na5,nc5,rfl⟩:=hown5.form)
     go_roundw
     case rel=>exact ⟨.inr (.inr ⟨rfl,by simpa using hown5⟩),hEr.grown hgrow5 hEr.size (fun k e=>(HOWN.out.lt k e).1)⟩
     case measure=>simp [intOf]
    ·obtain ⟨na,nc,rfl⟩:=hown.form;have HOWN:=hq_ hown;clear hown;go_wp2_with fail
     go_ret;exact ⟨_,rfl,HOWN.out,hEr⟩
end Go.Proofs.YthjnojbeimchdaaGreat
namespace Go.Proofs.YthjnojbeimchdaaGreat
open Go.RowKit Go.Maps Kal
theorem eu_.below {lo hi:Nat} (h:eu_ w lo hi h1 c1 h2 c2 qa qb st xv yv mb) (hb:Below B w w') (hB:hi≤B):eu_ w' lo hi h1 c1 h2 c2 qa qb st xv yv mb:=
 ⟨h.a.below hb hB,h.b.below hb hB,h.x.below hb hB,h.y.below hb hB,h.m.of_blocks (fun k _ h2=>hb.block k oq_),h.lom⟩
theorem dp_ (h:q.WF) (hs:q.frm≤st) (y:Int):y∈a0_ (cycL q st)↔0≤y∧y<q.period∧q.mem (st+y):=(dj_ _ y).trans (ju_ h hs y)
theorem kf_ (h:q.WF) (hs:q.frm≤st):Rise 0 q.period (a0_ (cycL q st)):=⟨ga_ (l0_ h st),fun x hx=>by have:=(dp_ h hs x).1 hx;exact ⟨this.1,this.2.1⟩⟩
theorem kw_ (st:Int):(a0_ (cycL q st)).length=q.cycle.length:=by rw [dk_];unfold cycL;simp
theorem mj_ (xs ys:List Int) (a b st:Int):comN xs ys (Int.gcd a b:Nat)=(c1_ xs ys a b st).length:=by
 unfold comN c1_ grp;rw [lo_]
 congr 1
 refine List.map_congr_left fun x _=>?_;simp
structure we_ (p1 p2 qa qb:Per) (st L g:Int):Prop where
 hx:Rise 0 qa.period (a0_ (cycL qa st))
 hy:Rise 0 qb.period (a0_ (cycL qb st))
 n:((sel (fun n=>qa.mem n∧qb.mem n) 0 st).length:Int)+comN (a0_ (cycL qa st)) (a0_ (cycL qb st)) g=cnt (fun n=>p1.mem n∧p2.mem n) (st+L).toNat
 inA:ay_ qa st+(a0_ (cycL qa st)).length*(L / qa.period)=cnt p1.mem (st+L).toNat
 inB:ay_ qb st+(a0_ (cycL qb st)).length*(L / qb.period)=cnt p2.mem (st+L).toNat
 meet:∀ n,n∈c1_ (a0_ (cycL qa st)) (a0_ (cycL qb st)) qa.period qb.period st↔st≤n∧n<st+L∧p1.mem n∧p2.mem n
 headsEq:sel (fun n=>qa.mem n∧qb.mem n) 0 st=sel (fun n=>p1.mem n∧p2.mem n) 0 st
 com:comN (a0_ (cycL qa st)) (a0_ (cycL qb st)) g=(c1_ (a0_ (cycL qa st)) (a0_ (cycL qb st)) qa.period qb.period st).length
theorem vv_ {p1 p2:Per} (hqa:a6_ qa p1.mem) (hqb:a6_ qb p2.mem) {L g:Int} (hs1:qa.frm≤st) (hs2:qb.frm≤st) (hL:L=lcmI qa.period qb.period) (hg:g=(Int.gcd qa.period qb.period:Nat)):we_ p1 p2 qa qb st L g:=by
 have hx:=kf_ hqa.wf hs1;have hy:=kf_ hqb.wf hs2;have h0:0≤st:=by have:=hqa.wf.frm;omega
 have hsel:sel (fun n=>qa.mem n∧qb.mem n) 0 st=sel (fun n=>p1.mem n∧p2.mem n) 0 st:=eb_ (Int.le_refl _) fun n=>by rw [hqa.mem,hqb.mem]
 have hL1:1≤L:=by rw [hL];exact c7_ hqa.wf.per hqb.wf.per
 refine ⟨hx,hy,?_,?_,?_,?_,hsel,by rw [hg];exact mj_ _ _ _ _ _⟩
 ·rw [hsel,hg,mj_ (st:=st),hL];exact ue_ hqa hqb hs1 hs2 hx hy (dp_ hqa.wf hs1) (dp_ hqb.wf hs2) h0
 ·rw [kw_];exact sk_ hqa hs1 hL1 (hL ▸ cr_)
 ·rw [kw_];exact sk_ hqb hs2 hL1 (hL ▸ cz_)
 ·rw [hL];exact ka_ hqa hqb hs1 hs2 hx hy (dp_ hqa.wf hs1) (dp_ hqb.wf hs2)
theorem qu_ {a:Option Addr} (l:List Int) (hi:i≤l.length) (hc:l.length≤c) :
  ∃ a',(∀ W,(Instr.slice 37 (.slice a l.length c) none (some (.int .i64 (i:Int))) (some (.int .i64 (i:Int)))).run Tryz.prog W=.ok (.slice a' i i) W)∧
   (∀ w,Ints w (.slice a l.length c) l->Ints w (.slice a' i i) (l.take i)):=by
 refine ⟨if i=0 then a else a.map (·.add (0*1)),fun W=>?_,fun w h=>?_⟩
 ·rw [run_slice_hm W 37 _ _ _ (by kernel_rfl) .i64 .i64 _ _ oq_ oq_ oq_];have hz:(sizeOf (Tryz.prog.elem 37)).run Tryz.prog W=.ok 1 W:=by kernel_rfl
  rw [hz];simp only [Result.andThen,sliced,Int.toNat_natCast,Nat.sub_zero]
 ·obtain ⟨⟨a2,c2,he,h1,h2,h3⟩,h4,h5⟩:=h;injection he with e1 e2 e3
  subst e1;subst e3;have hl:(l.take i).length=i:=by simp;omega
  refine ⟨⟨_,i,by rw [hl],by rw [hl];exact Nat.le_refl _,oq_,?_⟩,oq_,fun x hx=>h5 x (List.mem_of_mem_take hx)⟩
  by_cases h0:i=0
  ·subst h0;exact .inl sq_
  ·rcases h3 with rfl|⟨b,o,rfl,hcell⟩
   ·simp at hi;omega
   ·refine .inr ⟨b,o,by rw [if_neg h0];simp [Addr.add],fun j hj=>?_⟩;rw [hl] at hj;rw [hcell j oq_];simp [List.getD_eq_getElem?_getD,List.getElem?_take_of_lt hj]
theorem u3_ {wr w17:World} (h:A.grownBy wr (some ob)) (hb:Below A.heap.size wr w17):A.grownBy (w17.setCell ⟨ob,i,none⟩ v) (some ob):=
 ⟨(
  show (w17.setCell ⟨ob,i,none⟩ v).os=_ from hb.os).trans h.os,(show (w17.setCell ⟨ob,i,none⟩ v).tape=_ from hb.tape).trans h.tape,(show (w17.setCell ⟨ob,i,none⟩ v).output=_ from hb.output).trans h.output,by have:=h.size;have:=hb.size;simp [World.setCell];omega,
  fun k hk hne=>((Below.heap_setCell w17 ⟨ob,i,none⟩ v k (by intro e;exact hne (by rw [e]))).trans (hb.block k hk)).trans (h.block k hk hne)⟩
theorem mr_ {LL SEL:List Int} (hs:SEL.Pairwise (· < ·)) (hm:∀ x,x∈LL↔x∈SEL):Go.Lib.compact (a0_ LL)=SEL:=by
 obtain ⟨h1,h2⟩:=lm_ (o6_ LL);exact ep_ h1 hs fun x=>by rw [h2,dj_,hm]
theorem v4_ (hq:q.WF) (hs:q.frm≤st) {g:Int} (hg:1≤g) (hgd:g∣q.period) (hf:e3_ (a0_ (cycL q st)) g q.period r=true) (hn:st≤n) (hr:(n-st) % g=r % g):q.mem n:=by
 have hp:=hq.per;have hr0:=Int.emod_nonneg r (show g≠0 by omega);have hr1:=Int.emod_lt_of_pos r (show 0<g by omega);have h1:=(rg_ (ys:=a0_ (cycL q st)) hp hg hgd (kf_ hq hs) hr0 hr1).1 (of_decide_eq_true hf);refine (ew_ hq hs (dp_ hq hs) hn).1 (h1 _ (Int.emod_nonneg _ oq_) (Int.emod_lt_of_pos _ oq_) ?_);rw [Int.emod_emod_of_dvd _ hgd,hr]
theorem sb_ (ha:qa.WF) (hb:qb.WF) {g L:Int} (hs1:qa.frm≤st) (hs2:qb.frm≤st) (hg:g=(Int.gcd qa.period qb.period:Nat)) (hLR:L=R*qa.period) (x:Int) :
  x∈eo_ qa qb st g (a0_ (cycL qa st)) (a0_ (cycL qb st)) R (a0_ (cycL qa st)).length↔x∈sel (fun n=>qa.mem n∧¬ qb.mem n) 0 (st+L):=by
 have hf0:=ha.frm;have hp:=ha.per;have hg1:1≤g:=by rw [hg];exact (bn_ hp).1
 have hga:g∣qa.period:=by rw [hg];exact Int.gcd_dvd_left _ _
 have hgb:g∣qb.period:=by rw [hg];exact Int.gcd_dvd_right _ _
 have hL0:0≤L:=by rw [hLR];exact Int.mul_nonneg oq_ oq_
 have key:∀ {r:Int} {j:Nat},r∈a0_ (cycL qa st)->j<R->qa.mem (st+(r+j*qa.period))∧0≤r+j*qa.period∧r+j*qa.period<L:=by
  intro r j hr hj;have hr':=(dp_ ha hs1 r).1 hr;have h3:=lj_ (a:=qa.period) (L:=L) (m:=j) (R:=R) hr'.1 hr'.2.1 hLR oq_;have h4:=h3.1.2 hj;refine ⟨(ew_ ha hs1 (dp_ ha hs1) oq_).1 ?_,oq_,h4⟩;rw [show st+(r+j*qa.period)-st=r+j*qa.period from oq_,Int.add_mul_emod_self_right,Int.emod_eq_of_lt hr'.1 hr'.2.1];exact hr
 have nm:∀ {n:Int},0≤n->((!memB qb n)=true↔¬ qb.mem n):=fun {n} h=>by
  have:=gh_ (p:=qb) h;cases hm:memB qb n <;> simp [hm] at this ⊢ <;> assumption
 unfold eo_;rw [List.take_length,List.mem_append,List.mem_flatMap,ae_ (Int.le_refl _)];constructor
 ·rintro (h|⟨r,hr,h⟩)
  ·unfold cg_ at h;rw [List.mem_filter,ae_ (Int.le_refl _)] at h;exact ⟨h.1.1,oq_,h.1.2.2,(nm h.1.1).1 h.2⟩
  ·split at h
   ·simp at h
   ·unfold cc_ cg_ at h;rw [List.mem_filter,List.mem_map] at h;obtain ⟨⟨j,hj,rfl⟩,h2⟩:=h;rw [ey_] at hj;obtain ⟨m,rfl⟩:=Int.eq_ofNat_of_zero_le hj.1;obtain ⟨k1,k2,k3⟩:=key hr (show m<R by omega);exact ⟨oq_,oq_,k1,(nm oq_).1 h2⟩
 ·rintro ⟨h0,h1,h2,h3⟩
  by_cases hx:x<st
  ·refine .inl ?_;unfold cg_;rw [List.mem_filter,ae_ (Int.le_refl _)];exact ⟨⟨h0,hx,h2⟩,(nm h0).2 h3⟩
  ·have hr:=(ew_ ha hs1 (dp_ ha hs1) (show st≤x by omega)).2 h2;refine .inr ⟨_,hr,?_⟩;have hnf:¬ e3_ (a0_ (cycL qb st)) g qb.period ((x-st) % qa.period)=true:=fun hf=>
    h3 (v4_ hb hs2 hg1 hgb hf oq_ (by rw [Int.emod_emod_of_dvd _ hga]))
   rw [if_neg hnf];unfold cc_ cg_;rw [List.mem_filter,List.mem_map];have e:=Int.emod_add_ediv_mul (x-st) qa.period;have hd0:0≤(x-st) / qa.period:=Int.ediv_nonneg oq_ oq_;refine ⟨⟨(x-st) / qa.period,(ey_ _ _).2 ⟨hd0,?_⟩,oq_⟩,(nm h0).2 h3⟩;exact Int.ediv_lt_of_lt_mul oq_ (by rw [<- hLR];omega)
theorem s3_ {k:Int} (h:opS k p.mem q.mem n):0≤n:=by
 unfold opS at h
 split at h
 ·exact h.1.1
 ·split at h
  ·exact h.elim And.left And.left
  ·exact h.1.1
theorem mk_ {k:Int} {T:Int} (h1:am_ p.mem s T) (h2:am_ q.mem s T):am_ (opS k p.mem q.mem) s T:=by
 intro n hn;have a:=h1 n hn;have b:=h2 n hn;unfold opS
 split
 ·exact ⟨fun h=>⟨a.1 h.1,b.1 h.2⟩,fun h=>⟨a.2 h.1,b.2 h.2⟩⟩
 ·split
  ·exact ⟨fun h=>h.imp a.1 b.1,fun h=>h.imp a.2 b.2⟩
  ·exact ⟨fun h=>⟨a.1 h.1,fun g=>h.2 (b.2 g)⟩,fun h=>⟨a.2 h.1,fun g=>h.2 (b.1 g)⟩⟩
theorem hs_ (kd:Int) (hkd:kd=0∨kd=1∨kd=2) (h1 c1 h2 c2:Value) (p1 p2 qa qb q:Per) (w:World) (hp1:a8_ w h1 c1 p1) (hp2:a8_ w h2 c2 p2) (hv1:Valid p1) (hv2:Valid p2) (hqa:a6_ qa p1.mem) (hqb:a6_ qb p2.mem)
  (hL:lcmI qa.period qb.period≤1099511627776) (hpp:kd=0->qa.period≤4294967295∧qb.period≤4294967295)
  (hq:a6_ q (opS kd p1.mem p2.mem)) (hcn:cnt (opS kd p1.mem p2.mem) (max qa.frm qb.frm+lcmI qa.period qb.period).toNat≤1048576) :
  Calls Tryz.prog 119 #[perV h1 c1 p1.frm p1.period,perV h2 c2 p2.frm p2.period,.int .i64 kd] w (b6_ q w):=by
 have hk0:0≤kd:=oq_;have hk1:kd≤2:=oq_;have HKD:=hq_ hkd;have HPP:=hq_ hpp;have HCNT:=hq_ hcn;clear hkd hpp hcn;obtain ⟨a1,m1,a2,m2,rfl,rfl⟩:=hp1.inn.form;obtain ⟨a3,m3,a4,m4,rfl,rfl⟩:=hp2.inn.form;have hl1:∀ W,Below w.heap.size w W->a8_ W (.slice a1 p1.head.length m1) (.slice a2 p1.cycle.length m2) p1:=fun W hb=>hp1.ext hb;have hl2:∀ W,Below w.heap.size w W->a8_ W (.slice a3 p2.head.length m3) (.slice a4 p2.cycle.length m4) p2:=fun W hb=>hp2.ext hb;have hvb1:=(as_ p1).2 hv1;have hvb2:=(as_ p2).2 hv2;have HV1:=hq_ hv1;have HV2:=hq_ hv2;have HQA:=hq_ hqa;have HQB:=hq_ hqb;have HF1:Hid (p1.frm≤562949953421312∧p1.period≤562949953421312):=by have:=hv1.frm;have:=hv1.per;exact hq_ oq_
 have HF2:Hid (p2.frm≤562949953421312∧p2.period≤562949953421312):=by have:=hv2.frm;have:=hv2.per;exact hq_ oq_
 obtain ⟨b1,b2,_,b4,b5⟩:=hqa.smaller hv1.wf;obtain ⟨d1,d2,_,d4,d5⟩:=hqb.smaller hv2.wf;have za0:=hqa.wf.frm;have zb0:=hqb.wf.frm;have za1:=hqa.wf.per;have zb1:=hqb.wf.per;have e1:=hv1.frm;have e2:=hv1.per;have e3:=hv2.frm;have e4:=hv2.per;have hgl:=bn_ (b:=qb.period) za1;have hgl2:=cs_ (a:=qa.period) zb1;clear hp1 hp2 hv1 hv2 hqa hqb;obtain ⟨st,hst⟩:∃ st,st=max (max qa.frm qb.frm) 0:=⟨_,rfl⟩;have HSTT:=hq_ hst;have hs1:qa.frm≤st:=oq_;have hs2:qb.frm≤st:=oq_;have hs3:st≤1099511627776:=oq_;clear hst;generalize hG:((Int.gcd qa.period qb.period:Nat):Int)=g at *;have HG:=hq_ hG;clear hG
 go_enter Tryz.func119,Tryz.ntmps119
 go_upto_region 4 with ((first|(go_at_call 65;first|((with_reducible refine (cd_ _ _ p1 _ (hl1 _ xE)).mono ?_);rintro e w1 ⟨rfl,hb1⟩;obtain ⟨hx1,hf1⟩:=au_ hb1;(try simp only [World.size_alloc,World.size_drew,af_,World.size_setCell] at hx1 hf1);have hz1:w.heap.size+2<w1.heap.size:=(by have h7:=hb1.size;simp at h7;omega))|((with_reducible refine (cd_ _ _ p2 _ (hl2 _ xE)).mono ?_);rintro e w2 ⟨rfl,hb2⟩;obtain ⟨hx2,hf2⟩:=au_ hb2;(try simp only [World.size_alloc,World.size_drew,af_,World.size_setCell] at hx2 hf2);have hz2:w.heap.size+2<w2.heap.size:=(by have h7:=hb2.size;omega);have hA:=(((((Bxx.new w #[.slice a1 p1.head.length m1,.int .i64 p1.frm,.int .i64 p1.period,.slice a2 p1.cycle.length m2] 39).alloc (.cells #[.slice a3 p2.head.length m3,.int .i64 p2.frm,.int .i64 p2.period,.slice a4 p2.cycle.length m4] 39)).alloc (.cells #[.slice none 0 0,.int .i64 0,.int .i64 0,.slice none 0 0] 39)).upto hb1 tq_).upto hb2 oq_);have hB:=((((Bxx.new (w.alloc (.cells #[.slice a1 p1.head.length m1,.int .i64 p1.frm,.int .i64 p1.period,.slice a2 p1.cycle.length m2] 39)) #[.slice a3 p2.head.length m3,.int .i64 p2.frm,.int .i64 p2.period,.slice a4 p2.cycle.length m4] 39).alloc (.cells #[.slice none 0 0,.int .i64 0,.int .i64 0,.slice none 0 0] 39)).upto hb1 sq_).upto hb2 tq_);simp only [World.size_alloc] at hB;have A0:=(hA.cells 0).1;have A1:=(hA.cells 1).1;have A2:=(hA.cells 2).1;have A3:=(hA.cells 3).1;have B0:=(hB.cells 0).1;have B1:=(hB.cells 1).1;have B2:=(hB.cells 2).1;have B3:=(hB.cells 3).1))|(go_at_call 147;refine (pi_ _ _ _ _ p1 p2 qa qb 0 _ (hl1 _ xE) (hl2 _ xE) HV1.out.wf HV2.out.wf HF1.out.1 HF2.out.1 HF1.out.2 HF2.out.2 HQA.out HQB.out oq_ oq_).mono ?_;rintro e w3 ⟨x1,x2,x3,x4,xv,yv,mb,he,hP,hb3⟩;rw [<- HSTT.out,HG.out] at he;rw [<- HSTT.out] at hP;subst he;obtain ⟨z1,y1,z2,y2,rfl,rfl⟩:=hP.a.form;obtain ⟨z3,y3,z4,y4,rfl,rfl⟩:=hP.b.form;obtain ⟨⟨⟨xa,xc,rfl,_⟩,hxl,_⟩,_⟩:=hP.x;obtain ⟨⟨⟨ya,yc,rfl,_⟩,hyl,_⟩,_⟩:=hP.y)))
 generalize hpbw:w3.heap.size=pb at *;have hszb:w.heap.size+2<w2.heap.size:=hz2;have hszc:w2.heap.size≤pb:=by have:=hb3.size;omega
 have hrx:Bxx w3 (w.heap.size+2) #[.slice none 0 0,.int .i64 0,.int .i64 0,.slice none 0 0] 39:=(((Bxx.at sq_).upto hb1 sq_).upto hb2 oq_).upto hb3 oq_;refine al_ (F:=fun W3=>Bxx W3 pb #[.slice z1 qa.head.length y1,.int .i64 qa.frm,.int .i64 qa.period,.slice z2 qa.cycle.length y2,.slice z3 qb.head.length y3,.int .i64 qb.frm,.int .i64 qb.period,.slice z4 qb.cycle.length y4,.int .i64 st,.slice xa (a0_ (cycL qa st)).length xc,.slice ya (a0_ (cycL qb st)).length yc,.int .i64 g,.map (some mb)] 139∧Bxx W3 (w.heap.size+2) #[.slice none 0 0,.int .i64 0,.int .i64 0,.slice none 0 0] 39∧eu_ W3 w2.heap.size pb (.slice z1 qa.head.length y1) (.slice z2 qa.cycle.length y2) (.slice z3 qb.head.length y3) (.slice z4 qb.cycle.length y4) qa qb st (.slice xa (a0_ (cycL qa st)).length xc) (.slice ya (a0_ (cycL qb st)).length yc) mb∧Below w.heap.size w W3∧W3.heap.size=pb+1)
  ⟨Bxx.at hpbw.symm,hrx.alloc _,hP.below (Ea (Er _) _) oq_,by exact xE,by simp [hpbw]⟩ ?_
 clear hP hrx hb1 hb2 hb3 hx1 hf1 hx2 hf2 hA hB A0 A1 A2 A3 B0 B1 B2 B3 hvb1 hvb2 hz1 hpbw;rintro W3 ⟨hpb,hrb,hP,hE3,hz3⟩;have c0:W3.cell? ⟨pb,0,none⟩=some (.slice z1 qa.head.length y1):=(hpb.cells 0).1;have c1:W3.cell? ⟨pb,1,none⟩=some (.int .i64 qa.frm):=(hpb.cells 1).1;have c2:W3.cell? ⟨pb,2,none⟩=some (.int .i64 qa.period):=(hpb.cells 2).1;have c3:W3.cell? ⟨pb,3,none⟩=some (.slice z2 qa.cycle.length y2):=(hpb.cells 3).1;have c4:W3.cell? ⟨pb,4,none⟩=some (.slice z3 qb.head.length y3):=(hpb.cells 4).1;have c5:W3.cell? ⟨pb,5,none⟩=some (.int .i64 qb.frm):=(hpb.cells 5).1;have c6:W3.cell? ⟨pb,6,none⟩=some (.int .i64 qb.period):=(hpb.cells 6).1;have c7:W3.cell? ⟨pb,7,none⟩=some (.slice z4 qb.cycle.length y4):=(hpb.cells 7).1;have c8:W3.cell? ⟨pb,8,none⟩=some (.int .i64 st):=(hpb.cells 8).1;have c9:W3.cell? ⟨pb,9,none⟩=some (.slice xa (a0_ (cycL qa st)).length xc):=(hpb.cells 9).1;have c10:W3.cell? ⟨pb,10,none⟩=some (.slice ya (a0_ (cycL qb st)).length yc):=(hpb.cells 10).1;have c11:W3.cell? ⟨pb,11,none⟩=some (.int .i64 g):=(hpb.cells 11).1;have c12:W3.cell? ⟨pb,12,none⟩=some (.map (some mb)):=(hpb.cells 12).1;have hL0:=c7_ za1 zb1;have HLV:Hid (lcmV qa.period qb.period=.tuple #[.int .i64 (lcmI qa.period qb.period),.int .i64 0]):=hq_ (by unfold lcmV;rw [if_pos hL]);generalize hLL:lcmI qa.period qb.period=L at *;have HLL:=hq_ hLL;have HFA:=hq_ (vv_ HQA.out HQB.out hs1 hs2 hLL.symm HG.out.symm);have hPA:=hP.at;rw [HG.out] at hPA;have HPA:=hq_ hPA;have HP:=hq_ hP;have HPB:=hq_ hpb;have HRB:=hq_ hrb;have HZ3:=hq_ hz3;have hcl:(sel (fun n=>qa.mem n∧qb.mem n) 0 st).length≤1099511627776:=by
  have:=(ad_ (S:=fun n=>qa.mem n∧qb.mem n) (lo:=0) (hi:=st) (Int.le_refl _)).length_le oq_;omega
 have hcc:comN (a0_ (cycL qa st)) (a0_ (cycL qb st)) g≤2199023255552:=by
  have h1:=HFA.out.n;have h2:=fj_ (fun n=>p1.mem n∧p2.mem n) (st+L).toNat;omega
 clear hLL hPA hP hpb hrb hz3;obtain ⟨HL,hHL⟩:∃ HL,HL=sel (fun n=>qa.mem n∧qb.mem n) 0 st:=⟨_,rfl⟩;have HHL:=hq_ hHL;rw [<- hHL] at hcl;obtain ⟨cn,hcn9⟩:∃ cn,cn=comN (a0_ (cycL qa st)) (a0_ (cycL qb st)) g:=⟨_,rfl⟩;have HCN:=hq_ hcn9;rw [<- hcn9] at hcc;clear hHL hcn9;go_upto_region 9 with ((first|(go_at_call 29;refine (q1_ _ _ _ za1 oq_ zb1 oq_).mono ?_;rintro e w4 ⟨he,nq,rfl⟩;rw [HLV.out] at he;subst he)|(go_at_call 148;refine (tx_ _ _ _ _ qa qb st _ _ g mb _ (HPA.out.ext xE) HQA.out.wf HQB.out.wf (by have:=HSTT.out;omega) oq_ oq_ oq_ oq_).mono ?_;rintro e w5 ⟨hv,rfl,hown5,hb5⟩;rw [<- HHL.out] at hown5;obtain ⟨hva,hvc,rfl⟩:=hown5.form;obtain ⟨hc5,hf5⟩:=au_ hb5;(try simp only [World.size_alloc,World.size_drew,af_,World.size_setCell] at hc5 hf5);have hz5:=HZ3.out;have hz5b:=hb5.size;(try simp only [af_] at hz5b);have hz5c:pb<w5.heap.size:=oq_)|(go_at_call 149;refine (qf_ _ _ _ _ qa qb st _ _ g mb _ (HPA.out.ext xE) oq_ oq_ (fun x hx=>by have:=HFA.out.hx.2 x hx;omega) (by rw [<- HCN.out];omega)).mono ?_;rintro e w6 ⟨he,hb6⟩;rw [<- HCN.out] at he;subst he)))
 have hE6:Below W3.heap.size W3 w6:=by exact xE
 have hown6:=hown5.ext hb6;have hsz6:=hE6.size;have HE6:=hq_ hE6;have HOWN6:=hq_ hown6;have hpb6:=HPB.out.below hE6;have d0:w6.cell? ⟨pb,0,none⟩=some (.slice z1 qa.head.length y1):=(hpb6.cells 0).1;have d1:w6.cell? ⟨pb,1,none⟩=some (.int .i64 qa.frm):=(hpb6.cells 1).1;have d2:w6.cell? ⟨pb,2,none⟩=some (.int .i64 qa.period):=(hpb6.cells 2).1;have d3:w6.cell? ⟨pb,3,none⟩=some (.slice z2 qa.cycle.length y2):=(hpb6.cells 3).1;have d4:w6.cell? ⟨pb,4,none⟩=some (.slice z3 qb.head.length y3):=(hpb6.cells 4).1;have d5:w6.cell? ⟨pb,5,none⟩=some (.int .i64 qb.frm):=(hpb6.cells 5).1;have d6:w6.cell? ⟨pb,6,none⟩=some (.int .i64 qb.period):=(hpb6.cells 6).1;have d7:w6.cell? ⟨pb,7,none⟩=some (.slice z4 qb.cycle.length y4):=(hpb6.cells 7).1;have d8:w6.cell? ⟨pb,8,none⟩=some (.int .i64 st):=(hpb6.cells 8).1;have d9:w6.cell? ⟨pb,9,none⟩=some (.slice xa (a0_ (cycL qa st)).length xc):=(hpb6.cells 9).1;have d10:w6.cell? ⟨pb,10,none⟩=some (.slice ya (a0_ (cycL qb st)).length yc):=(hpb6.cells 10).1;have d11:w6.cell? ⟨pb,11,none⟩=some (.int .i64 g):=(hpb6.cells 11).1;have d12:w6.cell? ⟨pb,12,none⟩=some (.map (some mb)):=(hpb6.cells 12).1;have HPB6:=hq_ hpb6;have hba:=es_ HQA.out.wf (show 0≤st by omega);have hbb:=es_ HQB.out.wf (show 0≤st by omega);obtain ⟨bA,hbA⟩:∃ bA,bA=ay_ qa st:=⟨_,rfl⟩;obtain ⟨bB,hbB⟩:∃ bB,bB=ay_ qb st:=⟨_,rfl⟩;obtain ⟨RA,hRA⟩:∃ RA,RA=L / qa.period:=⟨_,rfl⟩;obtain ⟨RB,hRB⟩:∃ RB,RB=L / qb.period:=⟨_,rfl⟩;obtain ⟨PA,hPA9⟩:∃ PA,PA=((a0_ (cycL qa st)).length:Int)*RA:=⟨_,rfl⟩;obtain ⟨PB,hPB9⟩:∃ PB,PB=((a0_ (cycL qb st)).length:Int)*RB:=⟨_,rfl⟩;have hIA:bA+PA=cnt p1.mem (st+L).toNat:=by rw [hbA,hPA9,hRA];exact HFA.out.inA
 have hIB:bB+PB=cnt p2.mem (st+L).toNat:=by rw [hbB,hPB9,hRB];exact HFA.out.inB
 have hIA1:=fj_ p1.mem (st+L).toNat;have hIB1:=fj_ p2.mem (st+L).toNat;rw [<- hbA] at hba;rw [<- hbB] at hbb;have hRA0:0≤RA:=by rw [hRA];exact Int.ediv_nonneg oq_ oq_
 have hRB0:0≤RB:=by rw [hRB];exact Int.ediv_nonneg oq_ oq_
 have hRA1:RA≤L:=by rw [hRA];exact Int.ediv_le_self _ oq_
 have hRB1:RB≤L:=by rw [hRB];exact Int.ediv_le_self _ oq_
 have hPA0:0≤PA:=by rw [hPA9];exact Int.mul_nonneg oq_ hRA0
 have hPB0:0≤PB:=by rw [hPB9];exact Int.mul_nonneg oq_ hRB0
 have hPA1:PA≤2199023255552:=oq_;have hPB1:PB≤2199023255552:=oq_;have hmA:IntKind.i64.wrap (((a0_ (cycL qa st)).length:Int)*RA)=PA:=by rw [<- hPA9];exact f5_ ⟨oq_,oq_⟩
 have hmB:IntKind.i64.wrap (((a0_ (cycL qb st)).length:Int)*RB)=PB:=by rw [<- hPB9];exact f5_ ⟨oq_,oq_⟩
 have hsA0:0≤bA+PA:=oq_;have hsA1:bA+PA≤2199023255552:=oq_;have hsB0:0≤bB+PB:=oq_;have hsB1:bB+PB≤2199023255552:=oq_;have hxl9:(a0_ (cycL qa st)).length≤17592186044416:=hxl;have hyl9:(a0_ (cycL qb st)).length≤17592186044416:=hyl;have HIA:=hq_ hIA;have HIB:=hq_ hIB;have HBA:=hq_ hbA;have HBB:=hq_ hbB;have HRA:=hq_ hRA;have HRB9:=hq_ hRB;have HB5:=hq_ hb5;clear c0 c1 c2 c3 c4 c5 c6 c7 c8 c9 c10 c11 c12 hE6 hown6 hown5 hpb6 hIA hIB hIA1 hIB1 hbA hbB hRA hRB hPA9 hPB9 hb6 hb5 hc5 hf5;refine ai_ (w0:=w6) [0,1,2,3,4,5,6,7,8,9,10,11,12,13,14,15] [] (fun v=>⟨#[perV (.slice a1 p1.head.length m1) (.slice a2 p1.cycle.length m2) p1.frm p1.period,perV (.slice a3 p2.head.length m3) (.slice a4 p2.cycle.length m4) p2.frm p2.period,.int .i64 kd,.pointer (some ⟨w.heap.size,0,none⟩),.pointer (some ⟨w.heap.size+1,0,none⟩),undef,.pointer (some ⟨w.heap.size+1+1,0,none⟩),.int .i64 0,.pointer (some ⟨pb,0,none⟩),.int .i64 L,.int .i64 0,.slice hva HL.length hvc,.int .i64 (↑HL.length+↑cn),v 15,undef,undef,undef,undef,undef,undef,undef,undef,.agg #[.slice a1 p1.head.length m1,.int .i64 p1.frm,.int .i64 p1.period,.slice a2 p1.cycle.length m2],.bool true,.bool false,.bool false,.agg #[.slice a3 p2.head.length m3,.int .i64 p2.frm,.int .i64 p2.period,.slice a4 p2.cycle.length m4],.bool true,.bool false,.bool false,undef,.agg #[.slice a1 p1.head.length m1,.int .i64 p1.frm,.int .i64 p1.period,.slice a2 p1.cycle.length m2],.agg #[.slice a3 p2.head.length m3,.int .i64 p2.frm,.int .i64 p2.period,.slice a4 p2.cycle.length m4],em_ (.slice z1 qa.head.length y1) (.slice z2 qa.cycle.length y2) (.slice z3 qb.head.length y3) (.slice z4 qb.cycle.length y4) qa qb st (.slice xa (a0_ (cycL qa st)).length xc) (.slice ya (a0_ (cycL qb st)).length yc) g mb,.tuple #[.int .i64 L,.int .i64 0],.pointer (some ⟨pb,0,none⟩),.pointer (some ⟨pb,2,none⟩),.int .i64 qa.period,.pointer (some ⟨pb,4,none⟩),.pointer (some ⟨pb,6,none⟩),.int .i64 qb.period,.tuple #[.int .i64 L,.int .i64 0],.int .i64 L,.int .i64 0,.int .i64 0,.bool false,undef,.agg #[.slice z1 qa.head.length y1,.int .i64 qa.frm,.int .i64 qa.period,.slice z2 qa.cycle.length y2,.slice z3 qb.head.length y3,.int .i64 qb.frm,.int .i64 qb.period,.slice z4 qb.cycle.length y4,.int .i64 st,.slice xa (a0_ (cycL qa st)).length xc,.slice ya (a0_ (cycL qb st)).length yc,.int .i64 g,.map (some mb)],.slice hva HL.length hvc,.slice hva HL.length hvc,.int .i64 ↑HL.length,.agg #[.slice z1 qa.head.length y1,.int .i64 qa.frm,.int .i64 qa.period,.slice z2 qa.cycle.length y2,.slice z3 qb.head.length y3,.int .i64 qb.frm,.int .i64 qb.period,.slice z4 qb.cycle.length y4,.int .i64 st,.slice xa (a0_ (cycL qa st)).length xc,.slice ya (a0_ (cycL qb st)).length yc,.int .i64 g,.map (some mb)],.int .i64 ↑cn,.int .i64 (↑HL.length+↑cn),v 0,v 1,v 2,v 3,v 4,v 5,v 6,v 7,v 8,v 9,v 10,v 11,v 12,v 13,v 14,undef,undef,undef,undef,undef,undef,undef,undef,undef,undef,undef,undef,undef,undef,undef,undef,undef,undef,undef,undef,undef,undef,undef,undef,undef,undef,undef,undef,undef,undef,undef,undef,undef,undef,undef,undef,undef,undef,undef,undef,undef,undef,undef,undef,undef,undef,undef,undef,undef,undef,undef,undef,undef,undef,undef,undef,undef,undef,undef,undef,undef,undef,undef,undef,undef,undef,undef,undef,undef,undef,undef,undef,undef,undef,undef,undef,undef,undef,undef,undef,undef,undef,undef,undef,undef,undef,undef,undef,undef,undef,undef,undef,undef,undef,undef,undef,undef,undef],[]⟩) [.pointer (some ⟨pb,0,none⟩),perV (.slice z1 qa.head.length y1) (.slice z2 qa.cycle.length y2) qa.frm qa.period,.pointer (some ⟨pb,8,none⟩),.int .i64 st,.int .i64 bA,.pointer (some ⟨pb,9,none⟩),.slice xa (a0_ (cycL qa st)).length xc,.int .i64 (a0_ (cycL qa st)).length,.int .i64 L,.pointer (some ⟨pb,0,none⟩),.pointer (some ⟨pb,2,none⟩),.int .i64 qa.period,.int .i64 RA,.int .i64 PA,.int .i64 (bA+PA),.int .i64 (bA+PA)] [] (fun _ _ _ _ _=>True) (fun W=>W.cell? ⟨pb,0,none⟩=some (.slice z1 qa.head.length y1)∧W.cell? ⟨pb,1,none⟩=some (.int .i64 qa.frm)∧W.cell? ⟨pb,2,none⟩=some (.int .i64 qa.period)∧W.cell? ⟨pb,3,none⟩=some (.slice z2 qa.cycle.length y2)∧W.cell? ⟨pb,8,none⟩=some (.int .i64 st)∧W.cell? ⟨pb,9,none⟩=some (.slice xa (a0_ (cycL qa st)).length xc)) (fun W hb=>⟨cux d0 hb,cux d1 hb,cux d2 hb,cux d3 hb,cux d8 hb,cux d9 hb⟩) trivial trivial ?steps ?fin
 case steps=>
  refine .c [] [] rfl ?_ (.c [0] [] rfl ?_ (.c [] [] rfl ?_ (.c [2] [] rfl ?_ (.c [1,3] [] rfl ?_ (.c [] [] rfl ?_ (.c [5] [] rfl ?_ (.c [6] [] rfl ?_ (.c [] [] rfl ?_ (.c [] [] rfl ?_ (.c [9] [] rfl ?_ (.c [10] [] rfl ?_ (.c [8,11] [] rfl ?_ (.c [7,12] [] rfl ?_ (.c [4,13] [] rfl ?_ (.c [0,1,2,3,4,5,6,7,8,9,10,11,12,13,14] [] rfl ?_ (.n))))))))))))))))
  all_goals try exact stw
  ·rintro v lo hi W hb ⟨g0,g1,g2,g3,g8,g9⟩ _;refine .inl ⟨rfl,fun K hK=>?_⟩;simp only [ov,vat,Nat.reduceBEq,cond_true,cond_false];go_wp2_with (go_at_call 85;refine (iu_ _ _ qa st _ (HPA.out.a.ext (Et HE6.out hb)) HQA.out.wf oq_ oq_ oq_ oq_).mono ?_;rintro e w7 ⟨he,hb7⟩;rw [<- HBA.out] at he;subst he)
   exact acx (hK w7 hb7) (by simp [ov,vat,upd])
  ·rintro v lo hi W hb ⟨g0,g1,g2,g3,g8,g9⟩ _;refine .inl ⟨rfl,fun K hK=>?_⟩;simp only [ov,vat,Nat.reduceBEq,cond_true,cond_false];go_wp2_with fail
   exact acx (hK W (Below.refl _ _)) (by simp [ov,vat,upd,HRA.out])
 case fin=>
  rintro v lo hi W7 hb7 _ hf _;show wpList _ _ _ [] _ _;have f13:v 15=.int .i64 (bA+PA):=(hf 15 rfl).2.2.2;clear hf;dsimp only;rw [f13];clear f13;generalize v 0=u54,v 1=u55,v 2=u56,v 3=u57,v 4=u58,v 5=u59,v 6=u60,v 7=u61,v 8=u62,v 9=u63,v 10=u64,v 11=u65,v 12=u66,v 13=u67,v 14=u68;clear v;have hE8:Below W3.heap.size W3 W7:=Et HE6.out hb7;have hown8:=HOWN6.out.ext hb7;have hpb8:=HPB.out.below hE8;have hsz8:=hE8.size;clear d0 d1 d2 d3 d4 d5 d6 d7 d8 d9 d10 d11 d12 hb7;obtain ⟨w8,rfl⟩:∃ w8,w8=W7:=⟨_,rfl⟩;have d0:w8.cell? ⟨pb,0,none⟩=some (.slice z1 qa.head.length y1):=(hpb8.cells 0).1;have d1:w8.cell? ⟨pb,1,none⟩=some (.int .i64 qa.frm):=(hpb8.cells 1).1;have d2:w8.cell? ⟨pb,2,none⟩=some (.int .i64 qa.period):=(hpb8.cells 2).1;have d3:w8.cell? ⟨pb,3,none⟩=some (.slice z2 qa.cycle.length y2):=(hpb8.cells 3).1;have d4:w8.cell? ⟨pb,4,none⟩=some (.slice z3 qb.head.length y3):=(hpb8.cells 4).1;have d5:w8.cell? ⟨pb,5,none⟩=some (.int .i64 qb.frm):=(hpb8.cells 5).1;have d6:w8.cell? ⟨pb,6,none⟩=some (.int .i64 qb.period):=(hpb8.cells 6).1;have d7:w8.cell? ⟨pb,7,none⟩=some (.slice z4 qb.cycle.length y4):=(hpb8.cells 7).1;have d8:w8.cell? ⟨pb,8,none⟩=some (.int .i64 st):=(hpb8.cells 8).1;have d9:w8.cell? ⟨pb,9,none⟩=some (.slice xa (a0_ (cycL qa st)).length xc):=(hpb8.cells 9).1;have d10:w8.cell? ⟨pb,10,none⟩=some (.slice ya (a0_ (cycL qb st)).length yc):=(hpb8.cells 10).1;have d11:w8.cell? ⟨pb,11,none⟩=some (.int .i64 g):=(hpb8.cells 11).1;have d12:w8.cell? ⟨pb,12,none⟩=some (.map (some mb)):=(hpb8.cells 12).1;have HPB8:=hq_ hpb8;have HOWN8:=hq_ hown8;have HE8:=hq_ hE8;clear hpb8 hown8 hE8 HPB6;go_wp2_with fail
  refine ai_ (w0:=w8) [0,1,2,3,4,5,6,7,8,9,10,11,12,13,14,15] [] (fun v=>⟨#[perV (.slice a1 p1.head.length m1) (.slice a2 p1.cycle.length m2) p1.frm p1.period,perV (.slice a3 p2.head.length m3) (.slice a4 p2.cycle.length m4) p2.frm p2.period,.int .i64 kd,.pointer (some ⟨w.heap.size,0,none⟩),.pointer (some ⟨w.heap.size+1,0,none⟩),undef,.pointer (some ⟨w.heap.size+1+1,0,none⟩),.int .i64 0,.pointer (some ⟨pb,0,none⟩),.int .i64 L,.int .i64 0,.slice hva HL.length hvc,.int .i64 (↑HL.length+↑cn),.int .i64 (bA+PA),v 15,undef,undef,undef,undef,undef,undef,undef,.agg #[.slice a1 p1.head.length m1,.int .i64 p1.frm,.int .i64 p1.period,.slice a2 p1.cycle.length m2],.bool true,.bool false,.bool false,.agg #[.slice a3 p2.head.length m3,.int .i64 p2.frm,.int .i64 p2.period,.slice a4 p2.cycle.length m4],.bool true,.bool false,.bool false,undef,.agg #[.slice a1 p1.head.length m1,.int .i64 p1.frm,.int .i64 p1.period,.slice a2 p1.cycle.length m2],.agg #[.slice a3 p2.head.length m3,.int .i64 p2.frm,.int .i64 p2.period,.slice a4 p2.cycle.length m4],em_ (.slice z1 qa.head.length y1) (.slice z2 qa.cycle.length y2) (.slice z3 qb.head.length y3) (.slice z4 qb.cycle.length y4) qa qb st (.slice xa (a0_ (cycL qa st)).length xc) (.slice ya (a0_ (cycL qb st)).length yc) g mb,.tuple #[.int .i64 L,.int .i64 0],.pointer (some ⟨pb,0,none⟩),.pointer (some ⟨pb,2,none⟩),.int .i64 qa.period,.pointer (some ⟨pb,4,none⟩),.pointer (some ⟨pb,6,none⟩),.int .i64 qb.period,.tuple #[.int .i64 L,.int .i64 0],.int .i64 L,.int .i64 0,.int .i64 0,.bool false,undef,.agg #[.slice z1 qa.head.length y1,.int .i64 qa.frm,.int .i64 qa.period,.slice z2 qa.cycle.length y2,.slice z3 qb.head.length y3,.int .i64 qb.frm,.int .i64 qb.period,.slice z4 qb.cycle.length y4,.int .i64 st,.slice xa (a0_ (cycL qa st)).length xc,.slice ya (a0_ (cycL qb st)).length yc,.int .i64 g,.map (some mb)],.slice hva HL.length hvc,.slice hva HL.length hvc,.int .i64 ↑HL.length,.agg #[.slice z1 qa.head.length y1,.int .i64 qa.frm,.int .i64 qa.period,.slice z2 qa.cycle.length y2,.slice z3 qb.head.length y3,.int .i64 qb.frm,.int .i64 qb.period,.slice z4 qb.cycle.length y4,.int .i64 st,.slice xa (a0_ (cycL qa st)).length xc,.slice ya (a0_ (cycL qb st)).length yc,.int .i64 g,.map (some mb)],.int .i64 ↑cn,.int .i64 (↑HL.length+↑cn),u54,u55,u56,u57,u58,u59,u60,u61,u62,u63,u64,u65,u66,u67,u68,v 0,v 1,v 2,v 3,v 4,v 5,v 6,v 7,v 8,v 9,v 10,v 11,v 12,v 13,v 14,undef,undef,undef,undef,undef,undef,undef,undef,undef,undef,undef,undef,undef,undef,undef,undef,undef,undef,undef,undef,undef,undef,undef,undef,undef,undef,undef,undef,undef,undef,undef,undef,undef,undef,undef,undef,undef,undef,undef,undef,undef,undef,undef,undef,undef,undef,undef,undef,undef,undef,undef,undef,undef,undef,undef,undef,undef,undef,undef,undef,undef,undef,undef,undef,undef,undef,undef,undef,undef,undef,undef,undef,undef,undef,undef,undef,undef,undef,undef,undef,undef,undef,undef],[]⟩) [.pointer (some ⟨pb,4,none⟩),perV (.slice z3 qb.head.length y3) (.slice z4 qb.cycle.length y4) qb.frm qb.period,.pointer (some ⟨pb,8,none⟩),.int .i64 st,.int .i64 bB,.pointer (some ⟨pb,10,none⟩),.slice ya (a0_ (cycL qb st)).length yc,.int .i64 (a0_ (cycL qb st)).length,.int .i64 L,.pointer (some ⟨pb,4,none⟩),.pointer (some ⟨pb,6,none⟩),.int .i64 qb.period,.int .i64 RB,.int .i64 PB,.int .i64 (bB+PB),.int .i64 (bB+PB)] [] (fun _ _ _ _ _=>True) (fun W=>W.cell? ⟨pb,4,none⟩=some (.slice z3 qb.head.length y3)∧W.cell? ⟨pb,5,none⟩=some (.int .i64 qb.frm)∧W.cell? ⟨pb,6,none⟩=some (.int .i64 qb.period)∧W.cell? ⟨pb,7,none⟩=some (.slice z4 qb.cycle.length y4)∧W.cell? ⟨pb,8,none⟩=some (.int .i64 st)∧W.cell? ⟨pb,10,none⟩=some (.slice ya (a0_ (cycL qb st)).length yc)) (fun W hb=>⟨cux d4 hb,cux d5 hb,cux d6 hb,cux d7 hb,cux d8 hb,cux d10 hb⟩) trivial trivial ?steps ?fin
  case steps=>
   refine .c [] [] rfl ?_ (.c [0] [] rfl ?_ (.c [] [] rfl ?_ (.c [2] [] rfl ?_ (.c [1,3] [] rfl ?_ (.c [] [] rfl ?_ (.c [5] [] rfl ?_ (.c [6] [] rfl ?_ (.c [] [] rfl ?_ (.c [] [] rfl ?_ (.c [9] [] rfl ?_ (.c [10] [] rfl ?_ (.c [8,11] [] rfl ?_ (.c [7,12] [] rfl ?_ (.c [4,13] [] rfl ?_ (.c [0,1,2,3,4,5,6,7,8,9,10,11,12,13,14] [] rfl ?_ (.n))))))))))))))))
   all_goals try exact stw
   ·rintro v lo hi W hb ⟨g4,g5,g6,g7,g8,g10⟩ _;refine .inl ⟨rfl,fun K hK=>?_⟩;simp only [ov,vat,Nat.reduceBEq,cond_true,cond_false];go_wp2_with (go_at_call 85;refine (iu_ _ _ qb st _ (HPA.out.b.ext (Et HE8.out hb)) HQB.out.wf oq_ oq_ oq_ oq_).mono ?_;rintro e w7 ⟨he,hb7⟩;rw [<- HBB.out] at he;subst he)
    exact acx (hK w7 hb7) (by simp [ov,vat,upd])
   ·rintro v lo hi W hb ⟨g4,g5,g6,g7,g8,g10⟩ _;refine .inl ⟨rfl,fun K hK=>?_⟩;simp only [ov,vat,Nat.reduceBEq,cond_true,cond_false];go_wp2_with fail
    exact acx (hK W (Below.refl _ _)) (by simp [ov,vat,upd,HRB9.out])
  case fin=>
   rintro v lo hi W10 hb10 _ hf _;show wpList _ _ _ [] _ _;have f13:v 15=.int .i64 (bB+PB):=(hf 15 rfl).2.2.2;clear hf;dsimp only;rw [f13];clear f13;generalize v 0=t54,v 1=t55,v 2=t56,v 3=t57,v 4=t58,v 5=t59,v 6=t60,v 7=t61,v 8=t62,v 9=t63,v 10=t64,v 11=t65,v 12=t66,v 13=t67,v 14=t68;clear v;have hE10:Below W3.heap.size W3 W10:=Et HE8.out hb10;have hown10:=HOWN8.out.ext hb10;have hpb10:=HPB.out.below hE10;have hsz10:=hE10.size;clear d0 d1 d2 d3 d4 d5 d6 d7 d8 d9 d10 d11 d12 hb10;obtain ⟨w10,rfl⟩:∃ w10,w10=W10:=⟨_,rfl⟩;have HOWN10:=hq_ hown10;have HE10:=hq_ hE10;have d0:w10.cell? ⟨pb,0,none⟩=some (.slice z1 qa.head.length y1):=(hpb10.cells 0).1;have d1:w10.cell? ⟨pb,1,none⟩=some (.int .i64 qa.frm):=(hpb10.cells 1).1;have d2:w10.cell? ⟨pb,2,none⟩=some (.int .i64 qa.period):=(hpb10.cells 2).1;have d3:w10.cell? ⟨pb,3,none⟩=some (.slice z2 qa.cycle.length y2):=(hpb10.cells 3).1;have d4:w10.cell? ⟨pb,4,none⟩=some (.slice z3 qb.head.length y3):=(hpb10.cells 4).1;have d5:w10.cell? ⟨pb,5,none⟩=some (.int .i64 qb.frm):=(hpb10.cells 5).1;have d6:w10.cell? ⟨pb,6,none⟩=some (.int .i64 qb.period):=(hpb10.cells 6).1;have d7:w10.cell? ⟨pb,7,none⟩=some (.slice z4 qb.cycle.length y4):=(hpb10.cells 7).1;have d8:w10.cell? ⟨pb,8,none⟩=some (.int .i64 st):=(hpb10.cells 8).1;have d9:w10.cell? ⟨pb,9,none⟩=some (.slice xa (a0_ (cycL qa st)).length xc):=(hpb10.cells 9).1;have d10:w10.cell? ⟨pb,10,none⟩=some (.slice ya (a0_ (cycL qb st)).length yc):=(hpb10.cells 10).1;have d11:w10.cell? ⟨pb,11,none⟩=some (.int .i64 g):=(hpb10.cells 11).1;have d12:w10.cell? ⟨pb,12,none⟩=some (.map (some mb)):=(hpb10.cells 12).1;have HPB10:=hq_ hpb10;have hpl10:pb<w10.heap.size:=by have:=HZ3.out;omega
   clear hpb10 hown10 hE10 HPB8;have hcn:=HCNT.out;have hmx:max qa.frm qb.frm=st:=by have:=HSTT.out;omega
   rw [hmx] at hcn;have HCNS:=hq_ hcn;clear hmx hcn;have hsn:=HFA.out.n;rw [<- HHL.out,<- HCN.out] at hsn;have hb1:=fj_ (fun n=>p1.mem n∧p2.mem n) (st+L).toNat;have hn1:(HL.length:Int)+cn≤2199023255552:=oq_;have HSN:=hq_ hsn;clear hsn hb1;go_upto_region 12 with (fail)
   refine al_ (F:=fun U=>Bxx U w10.heap.size #[.int .i64 (↑HL.length+↑cn),.int .i64 (bA+PA+(bB+PB)-(↑HL.length+↑cn)),.int .i64 (bA+PA-(↑HL.length+↑cn))] 143∧Below w10.heap.size w10 U) ⟨xB,xE⟩ ?_;rintro W11 ⟨hbx,hE11⟩;have x0:=(hbx.cells 0).1;have x1:=(hbx.cells 1).1;have x2:=(hbx.cells 2).1;have hE11':=Et HE10.out hE11;have hpb11:=HPB.out.below hE11';have hsz11:=hE11'.size;have HOWN11:=hq_ (HOWN10.out.ext hE11);have HE11:=hq_ hE11';clear hbx hE11 hE11' d0 d1 d2 d3 d4 d5 d6 d7 d8 d9 d10 d11 d12 HOWN10;have d0:W11.cell? ⟨pb,0,none⟩=some (.slice z1 qa.head.length y1):=(hpb11.cells 0).1;have d1:W11.cell? ⟨pb,1,none⟩=some (.int .i64 qa.frm):=(hpb11.cells 1).1;have d2:W11.cell? ⟨pb,2,none⟩=some (.int .i64 qa.period):=(hpb11.cells 2).1;have d3:W11.cell? ⟨pb,3,none⟩=some (.slice z2 qa.cycle.length y2):=(hpb11.cells 3).1;have d4:W11.cell? ⟨pb,4,none⟩=some (.slice z3 qb.head.length y3):=(hpb11.cells 4).1;have d5:W11.cell? ⟨pb,5,none⟩=some (.int .i64 qb.frm):=(hpb11.cells 5).1;have d6:W11.cell? ⟨pb,6,none⟩=some (.int .i64 qb.period):=(hpb11.cells 6).1;have d7:W11.cell? ⟨pb,7,none⟩=some (.slice z4 qb.cycle.length y4):=(hpb11.cells 7).1;have d8:W11.cell? ⟨pb,8,none⟩=some (.int .i64 st):=(hpb11.cells 8).1;have d9:W11.cell? ⟨pb,9,none⟩=some (.slice xa (a0_ (cycL qa st)).length xc):=(hpb11.cells 9).1;have d10:W11.cell? ⟨pb,10,none⟩=some (.slice ya (a0_ (cycL qb st)).length yc):=(hpb11.cells 10).1;have d11:W11.cell? ⟨pb,11,none⟩=some (.int .i64 g):=(hpb11.cells 11).1;have d12:W11.cell? ⟨pb,12,none⟩=some (.map (some mb)):=(hpb11.cells 12).1;clear hpb11
   go_cut [97] (fun s wx=>s=.bool false∧wx=W11)
   case first=>
    have hcn:=HCNS.out;have h1:=HSN.out;have h2:=HIA.out;have h4:=HIB.out;rcases HKD.out with rfl|rfl|rfl
    ·rw [dr_] at hcn;have hnb:decide ((1048576:Int)<(HL.length:Int)+(cn:Int))=false:=by rw [decide_eq_false_iff_not];omega
     clear h1 h2 h4 hcn;go_wp2_with fail
     go_meet
     exact ⟨rfl,rfl⟩
    ·rw [fl_] at hcn;have h3:=rk_ p1.mem p2.mem (st+L).toNat;have hnb:decide ((1048576:Int)<bA+PA+(bB+PB)-((HL.length:Int)+(cn:Int)))=false:=by rw [decide_eq_false_iff_not];omega
     clear h1 h2 h4 h3 hcn;go_wp2_with fail
     go_meet
     exact ⟨rfl,rfl⟩
    ·rw [d5_] at hcn;have h3:=s6_ p1.mem p2.mem (st+L).toNat;have hnb:decide ((1048576:Int)<bA+PA-((HL.length:Int)+(cn:Int)))=false:=by rw [decide_eq_false_iff_not];omega
     clear h1 h2 h4 h3 hcn;go_wp2_with fail
     go_meet
     exact ⟨rfl,rfl⟩
   case rest=>
    obtain ⟨rfl,rfl⟩:=hcut
    go_upto_block 0 with (fail)
    go_cut [16] (fun s wx=>∃ (va:Option Addr) (vc:Nat) (LL:List Int),s=.slice va LL.length vc∧Hid (OwnI wx W3.heap.size (.slice va LL.length vc) LL)∧Hid (Below W3.heap.size W3 wx)∧Hid (∀ x,x∈LL↔x∈sel (opS kd p1.mem p2.mem) 0 (st+L)))
    case first=>
     rcases HKD.out with rfl|rfl|rfl
     ·have hcn:=HCNS.out;have hsn:=HSN.out;rw [dr_] at hcn;have hn2:HL.length+cn≤1048576:=oq_;obtain ⟨hpa,hpb⟩:=HPP.out rfl;have hpbm:=HP.out.pairB (base:=W3.heap.size) (by have:=HZ3.out;omega);rw [HG.out] at hpbm;have HPBM:=hq_ hpbm;have HLM:Hid (HL.length+(c1_ (a0_ (cycL qa st)) (a0_ (cycL qb st)) qa.period qb.period st).length≤4398046511104):=hq_ (by rw [<- HFA.out.com,<- HCN.out];omega);have HLB:Hid (lcmI qa.period qb.period≤1099511627776):=hq_ (by rw [HLL.out];exact hL);clear hpbm hcn hsn;go_wp2_with (go_at_call 150;refine (v2_ _ _ _ _ qa qb st _ _ g mb W3.heap.size _ HL _ (HPBM.out.below HE11.out) HG.out.symm za1 hpa zb1 hpb HLB.out oq_ oq_ HFA.out.hx HFA.out.hy HOWN11.out oq_ HLM.out).mono ?_;rintro e w11 ⟨v11,rfl,hown11,hb11⟩;obtain ⟨LL,hLL9⟩:∃ LL,LL=HL ++ c1_ (a0_ (cycL qa st)) (a0_ (cycL qb st)) qa.period qb.period st:=⟨_,rfl⟩;rw [<- hLL9] at hown11;have HLLQ:=hq_ hLL9;have HOW:=hq_ hown11;have HB11:=hq_ hb11;clear hown11 hb11 hLL9;obtain ⟨va,vc,rfl⟩:=HOW.out.form)
      go_meet
      refine ⟨va,vc,LL,rfl,HOW,hq_ (HE11.out.trans HB11.out),hq_ fun x=>?_⟩;rw [dr_,HLLQ.out,List.mem_append,HHL.out,HFA.out.headsEq,HFA.out.meet,ae_ (Int.le_refl _),ae_ (Int.le_refl _)];constructor
      ·rintro (⟨h1,h2,h3⟩|⟨h1,h2,h3⟩)
       ·exact ⟨h1,oq_,h3⟩
       ·exact ⟨oq_,h2,h3⟩
      ·rintro ⟨h1,h2,h3⟩
       by_cases hx:x<st
       ·exact .inl ⟨h1,hx,h3⟩
       ·exact .inr ⟨oq_,h2,h3⟩
     ·have hla:=(ad_ (S:=qa.mem) (lo:=0) (hi:=st+L) (Int.le_refl _)).length_le oq_;have hlb:=(ad_ (S:=qb.mem) (lo:=0) (hi:=st+L) (Int.le_refl _)).length_le oq_;obtain ⟨lA,hlA⟩:∃ lA,lA=sel qa.mem 0 (st+L):=⟨_,rfl⟩;obtain ⟨lB,hlB⟩:∃ lB,lB=sel qb.mem 0 (st+L):=⟨_,rfl⟩;rw [<- hlA] at hla;rw [<- hlB] at hlb;have HLA:=hq_ hlA;have HLB9:=hq_ hlB;clear hlA hlB;go_upto_region 19 with (fail)
      have HE12:=HE11;refine ai_ (w0:=wc) [0,1,2,3,4,5,6,7,8,9,10,11,12,13,14,15,16] [] (fun v=>⟨#[perV (.slice a1 p1.head.length m1) (.slice a2 p1.cycle.length m2) p1.frm p1.period,perV (.slice a3 p2.head.length m3) (.slice a4 p2.cycle.length m4) p2.frm p2.period,.int .i64 1,.pointer (some ⟨w.heap.size,0,none⟩),.pointer (some ⟨w.heap.size+1,0,none⟩),undef,.pointer (some ⟨w.heap.size+1+1,0,none⟩),.int .i64 0,.pointer (some ⟨pb,0,none⟩),.int .i64 L,.int .i64 0,.slice hva HL.length hvc,.int .i64 (↑HL.length+↑cn),.int .i64 (bA+PA),.int .i64 (bB+PB),.pointer (some ⟨w10.heap.size,0,none⟩),v 16,undef,undef,undef,undef,undef,u22,u23,u24,u25,u26,u27,u28,u29,u30,u31,u32,u33,u34,u35,u36,u37,u38,u39,u40,u41,u42,u43,u44,u45,u46,u47,u48,u49,u50,u51,u52,u53,u54,u55,u56,u57,u58,u59,u60,u61,u62,u63,u64,u65,u66,u67,u68,u69,u70,u71,u72,u73,u74,u75,u76,u77,u78,u79,u80,u81,u82,u83,u84,u85,u86,u87,u88,u89,u90,u91,u92,u93,u94,u95,u96,.bool false,u98,.int .i64 1,.bool false,.bool false,u102,u103,u104,.bool true,.bool true,v 0,v 1,v 2,v 3,v 4,v 5,v 6,v 7,v 8,v 9,v 10,v 11,v 12,v 13,v 14,v 15,undef,u124,u125,u126,u127,u128,u129,u130,u131,u132,u133,u134,u135,u136,u137,u138,u139,u140,u141,u142,u143,u144,u145,u146,u147,u148,undef,undef,undef,u152,u153,u154,u155,u156,u157,u158,u159,u160,u161,u162,u163,u164,u165,u166],[]⟩) [.pointer (some ⟨pb,0,none⟩),perV (.slice z1 qa.head.length y1) (.slice z2 qa.cycle.length y2) qa.frm qa.period,.pointer (some ⟨pb,8,none⟩),.int .i64 st,.int .i64 L,.int .i64 (st+L),undef,.pointer (some ⟨pb,4,none⟩),perV (.slice z3 qb.head.length y3) (.slice z4 qb.cycle.length y4) qb.frm qb.period,.pointer (some ⟨pb,8,none⟩),.int .i64 st,.int .i64 L,.int .i64 (st+L),undef,undef,undef,undef] [6,13,14,15,16] (fun i v lo hi W=>match i with|6=>(∃ a c,v 6=.slice a lA.length c)∧g2_ W (lo 6) (hi 6) (v 6) lA|13=>(∃ a c,v 13=.slice a lB.length c)∧g2_ W (lo 13) (hi 13) (v 13) lB|14=>v 14=.slice (some ⟨lo 14,0,none⟩) 2 2∧lo 14<hi 14∧Bxx W (lo 14) #[v 6,v 13] 37∧Ints W (v 6) lA∧Ints W (v 13) lB|15=>(∃ a c,v 15=.slice a (lA ++ lB).length c)∧g2_ W (lo 15) (hi 15) (v 15) (lA ++ lB)|16=>(∃ a c,v 16=.slice a (lA ++ lB).length c)∧g2_ W (lo 15) (hi 15) (v 16) (lA ++ lB)|_=>True) (fun W=>W.cell? ⟨pb,0,none⟩=some (.slice z1 qa.head.length y1)∧W.cell? ⟨pb,1,none⟩=some (.int .i64 qa.frm)∧W.cell? ⟨pb,2,none⟩=some (.int .i64 qa.period)∧W.cell? ⟨pb,3,none⟩=some (.slice z2 qa.cycle.length y2)∧W.cell? ⟨pb,4,none⟩=some (.slice z3 qb.head.length y3)∧W.cell? ⟨pb,5,none⟩=some (.int .i64 qb.frm)∧W.cell? ⟨pb,6,none⟩=some (.int .i64 qb.period)∧W.cell? ⟨pb,7,none⟩=some (.slice z4 qb.cycle.length y4)∧W.cell? ⟨pb,8,none⟩=some (.int .i64 st)) (fun W hb=>⟨cux d0 hb,cux d1 hb,cux d2 hb,cux d3 hb,cux d4 hb,cux d5 hb,cux d6 hb,cux d7 hb,cux d8 hb⟩) ?stab ?loc ?steps ?fin (fun j=>match j with|0=>u107|1=>u108|2=>u109|3=>u110|4=>u111|5=>u112|6=>u113|7=>u114|8=>u115|9=>u116|10=>u117|11=>u118|12=>u119|13=>u120|14=>u121|15=>u122|16=>.slice none 0 0|_=>undef)
      case stab=>
       refine ⟨?_,?_,?_,?_,?_,trivial⟩
       ·intro v lo hi W W' h hb;exact ⟨h.1,h.2.below hb⟩
       ·intro v lo hi W W' h hb;exact ⟨h.1,h.2.below hb⟩
       ·intro v lo hi W W' h hb;exact ⟨h.1,h.2.1,h.2.2.1.below hb,h.2.2.2.1.ext hb,h.2.2.2.2.ext hb⟩
       ·intro v lo hi W W' h hb;exact ⟨h.1,h.2.below hb⟩
       ·intro v lo hi W W' h hb;exact ⟨h.1,h.2.below hb⟩
      case loc=>
       refine ⟨?_,?_,?_,?_,?_,trivial⟩
       ·intro v v' lo lo' hi hi' W hag h;have q:=hag 6 (.inl rfl)
        (try dsimp only at h ⊢)
        simp only [q.1,q.2.1,q.2.2] at h;exact h
       ·intro v v' lo lo' hi hi' W hag h;have q:=hag 13 (.inl rfl)
        (try dsimp only at h ⊢)
        simp only [q.1,q.2.1,q.2.2] at h;exact h
       ·intro v v' lo lo' hi hi' W hag h;have q:=hag 14 (.inl rfl);have q6:=hag 6 (.inr (Rdp (by kernel_rfl)));have q13:=hag 13 (.inr (Rdp (by kernel_rfl)))
        (try dsimp only at h ⊢)
        simp only [q.1,q.2.1,q.2.2,q6.1,q6.2.1,q6.2.2,q13.1,q13.2.1,q13.2.2] at h;exact h
       ·intro v v' lo lo' hi hi' W hag h;have q:=hag 15 (.inl rfl)
        (try dsimp only at h ⊢)
        simp only [q.1,q.2.1,q.2.2] at h;exact h
       ·intro v v' lo lo' hi hi' W hag h;have q:=hag 16 (.inl rfl);have q15:=hag 15 (.inr (Rdp (by kernel_rfl)))
        (try dsimp only at h ⊢)
        simp only [q.1,q.2.1,q.2.2,q15.1,q15.2.1,q15.2.2] at h;exact h
      case steps=>
       refine .c [] [] rfl ?_ (.c [0] [] rfl ?_ (.c [] [] rfl ?_ (.c [2] [] rfl ?_ (.c [] [] rfl ?_ (.c [3,4] [] rfl ?_ (.c [1,5] [] rfl ?_ (.c [] [] rfl ?_ (.c [7] [] rfl ?_ (.c [] [] rfl ?_ (.c [9] [] rfl ?_ (.c [] [] rfl ?_ (.c [10,11] [] rfl ?_ (.c [8,12] [] rfl ?_ (.c [] [6,13] rfl ?_ (.c [] [14] rfl ?_ (.c [] [15] rfl ?_ (.n)))))))))))))))))
       all_goals try exact stw
       ·rintro v lo hi W hb ⟨g0,g1,g2,g3,g4,g5,g6,g7,g8⟩ _;refine .inl ⟨rfl,fun K hK=>?_⟩;simp only [ov,vat,Nat.reduceBEq,cond_true,cond_false];go_wp2_with (go_at_call 152;refine (l4_ _ _ qa 0 (st+L) _ (HPA.out.a.ext (Et HE12.out hb)) HQA.out.wf oq_ oq_ oq_ oq_ oq_ oq_).mono ?_;rintro e w7 ⟨x,rfl,ho7,hb7⟩;rw [<- HLA.out] at ho7)
        exact acx (hK x w7 hb7 ⟨ho7.form,ho7.at⟩) (by simp [ov,vat,upd])
       ·rintro v lo hi W hb ⟨g0,g1,g2,g3,g4,g5,g6,g7,g8⟩ _;refine .inl ⟨rfl,fun K hK=>?_⟩;simp only [ov,vat,Nat.reduceBEq,cond_true,cond_false];go_wp2_with (go_at_call 152;refine (l4_ _ _ qb 0 (st+L) _ (HPA.out.b.ext (Et HE12.out hb)) HQB.out.wf oq_ oq_ oq_ oq_ oq_ oq_).mono ?_;rintro e w7 ⟨x,rfl,ho7,hb7⟩;rw [<- HLB9.out] at ho7)
        exact acx (hK x w7 hb7 ⟨ho7.form,ho7.at⟩) (by simp [ov,vat,upd])
       ·rintro v lo hi W hb ⟨g0,g1,g2,g3,g4,g5,g6,g7,g8⟩ ⟨⟨la6,lb6,D6⟩,⟨la13,lb13,D13⟩,_⟩;refine .inl ⟨rfl,fun K hK=>?_⟩;simp only [ov,vat,Nat.reduceBEq,cond_true,cond_false]
        (try dsimp only at D6 D13)
        obtain ⟨⟨a6,c6,e6⟩,o6⟩:=D6;obtain ⟨⟨a13,c13,e13⟩,o13⟩:=D13;have i6:=o6.inn.own.ints;have i13:=o13.inn.own.ints
        (try simp only [e6,e13])
        go_wp2_with fail
        exact acx (hK (.slice (some ⟨W.heap.size,0,none⟩) 2 2) _ (Ea (Er _) _) ⟨rfl,sq_,by (try simp only [e6,e13]);exact Bxx.new _ _ _,i6.ext (Ea (Er _) _),i13.ext (Ea (Er _) _)⟩) (by simp [ov,vat,upd,e6,e13])
       ·rintro v lo hi W hb ⟨g0,g1,g2,g3,g4,g5,g6,g7,g8⟩ ⟨⟨la14,lb14,D14⟩,_⟩;refine .inl ⟨rfl,fun K hK=>?_⟩;simp only [ov,vat,Nat.reduceBEq,cond_true,cond_false]
        (try dsimp only at D14)
        obtain ⟨e14,h14a,h14b,h14c,h14d⟩:=D14
        (try simp only [e14])
        go_wp2_with (go_at_call 151;refine (rl_ (lo 14) 2 (v 6) (v 13) lA lB _ (fun i=>(h14b.cells i).1) h14c h14d oq_ oq_ oq_).mono ?_;rintro e w7 ⟨x,rfl,ho7,hb7⟩)
        exact acx (hK x w7 hb7 ⟨ho7.form,ho7.at⟩) (by simp [ov,vat,upd,e14])
       ·rintro v lo hi W hb ⟨g0,g1,g2,g3,g4,g5,g6,g7,g8⟩ ⟨⟨la15,lb15,D15⟩,_⟩;refine .inl ⟨rfl,fun K hK=>?_⟩;simp only [ov,vat,Nat.reduceBEq,cond_true,cond_false]
        (try dsimp only at D15)
        obtain ⟨⟨a15,c15,e15⟩,o15⟩:=D15
        (try simp only [e15])
        go_wp2_with fail
        exact acx (hK (v 15) W (Below.refl _ _) ⟨⟨a15,c15,e15⟩,o15⟩) (by simp [ov,vat,upd,e15])
      case fin=>
       rintro v lo hi W13 hb13 _ hf _;show wpList _ _ _ [] _ _;obtain ⟨_,_,k16,⟨ca,cc,e16⟩,o16⟩:=hf 16 rfl;have k15:=(hf 15 rfl).1;clear hf;have hown11:=o16.inn.own.mono (base':=W3.heap.size) oq_;rw [e16] at hown11;clear o16;dsimp only;rw [e16];clear e16;obtain ⟨LL,hLL9⟩:∃ LL,LL=lA ++ lB:=⟨_,rfl⟩;rw [<- hLL9];rw [<- hLL9] at hown11;have HLLQ:=hq_ hLL9;have HOW:=hq_ hown11;clear hown11 k15 k16 hLL9;go_wp2_with fail
       go_meet
       refine ⟨ca,cc,LL,rfl,HOW,hq_ (Et HE12.out hb13),hq_ fun x=>?_⟩;rw [fl_,HLLQ.out,List.mem_append,HLA.out,HLB9.out,ae_ (Int.le_refl _),ae_ (Int.le_refl _),ae_ (Int.le_refl _),HQA.out.mem,HQB.out.mem];constructor
       ·rintro (⟨h1,h2,h3⟩|⟨h1,h2,h3⟩)
        ·exact ⟨h1,h2,.inl h3⟩
        ·exact ⟨h1,h2,.inr h3⟩
       ·rintro ⟨h1,h2,h3|h3⟩
        ·exact .inl ⟨h1,h2,h3⟩
        ·exact .inr ⟨h1,h2,h3⟩
     ·have HLR:Hid (L=(RA.toNat:Int)*qa.period):=hq_ (by
       rw [Int.toNat_of_nonneg hRA0,HRA.out,Int.ediv_mul_cancel (by rw [<- HLL.out];exact cr_)])
      go_wp2_with (go_at_call 153;refine (pk_ _ _ _ _ qa qb st _ _ g mb L _ (HPA.out.ext HE11.out) HQA.out.wf HQB.out.wf hs1 oq_ RA.toNat HLR.out oq_ HFA.out.hx oq_ oq_ oq_ oq_ oq_).mono ?_;rintro e w11 ⟨v11,rfl,hown11,hb11⟩;have HOW:=hq_ (hown11.mono (base':=W3.heap.size) oq_);have HB11:=hq_ hb11;clear hown11 hb11;obtain ⟨va,vc,rfl⟩:=HOW.out.form)
      go_meet
      refine ⟨va,vc,_,rfl,HOW,hq_ (Et HE11.out HB11.out),hq_ fun x=>?_⟩;rw [sb_ HQA.out.wf HQB.out.wf hs1 hs2 HG.out.symm HLR.out,d5_];rw [eb_ (T:=fun n=>p1.mem n∧¬ p2.mem n) (Int.le_refl _) (fun n=>by rw [HQA.out.mem,HQB.out.mem])]
    case rest=>
     obtain ⟨va,vc,LL,rfl,HOW11,HEB,HMEM⟩:=hcut;have hown11:=HOW11.out;have hsz11:W3.heap.size≤wc.heap.size:=HEB.out.size;have HUP:Hid (am_ (opS kd p1.mem p2.mem) st L):=hq_ (mk_ ((HQA.out.pfrom.mono hs1).of_dvd za1 hL0 (by rw [<- HLL.out];exact cr_)) ((HQB.out.pfrom.mono hs2).of_dvd zb1 hL0 (by rw [<- HLL.out];exact cz_)));clear HOW11;generalize wc=w11 at *;go_upto_region 24 with ((first|(go_at_call 132;refine (jt_ _ LL W3.heap.size _ hown11).mono ?_;rintro e w12 ⟨rfl,hown12,hg12⟩;have hb12:=hown11.below_grown (W0:=w11) (.inr trivial) oq_ hg12;have hsz12:=hg12.size)|(go_at_call 154;refine (p6_ _ (a0_ LL) W3.heap.size _ hown12).mono ?_;rintro e w13 ⟨v13,rfl,hown13,hg13,_⟩;have hb13:=hown12.below_grown (W0:=w12) (.inr trivial) oq_ hg13;have hsz13:=hg13.size;rw [mr_ (ad_ (Int.le_refl 0)).1 HMEM.out] at hown13;obtain ⟨SL,hSL⟩:∃ SL,SL=sel (opS kd p1.mem p2.mem) 0 (st+L):=⟨_,rfl⟩;rw [<- hSL] at hown13;have HSL:=hq_ hSL;clear hSL;obtain ⟨va3,vc3,rfl⟩:=hown13.form)))
     have hL9:1≤L:=hL0;have hcp:=ql_ (U:=opS kd p1.mem p2.mem) (show 0≤st by omega) (show st≤st+L by omega);rw [<- HSL.out] at hcp;obtain ⟨i0,hi0⟩:∃ i0,i0=(sel (opS kd p1.mem p2.mem) 0 st).length:=⟨_,rfl⟩;rw [<- hi0] at hcp;have HI0:=hq_ hi0;have HCP:=hq_ hcp;have hSLs:SL.Pairwise (· < ·):=by rw [HSL.out];exact (ad_ (Int.le_refl 0)).1
     have HSLS:=hq_ hSLs;have hi0l:i0≤SL.length:=by have:=HCP.out.2.1;have h2:=congrArg List.length this;rw [List.length_take,<- HI0.out] at h2;omega
     have hsll:(SL.length:Int)≤st+L:=by have:=(ad_ (S:=opS kd p1.mem p2.mem) (lo:=0) (hi:=st+L) (Int.le_refl 0)).length_le oq_;rw [<- HSL.out] at this;omega
     have hints13:=hown13.ints;have HIN13:=hq_ hints13;obtain ⟨b3',hb3',hcap3⟩:∃ c',vc3=c'∧SL.length≤c':=by
      obtain ⟨⟨a,c,e,h1,h2,_⟩,_,_⟩:=hints13;injection e with _ _ e3
      exact ⟨c,e3,h1⟩
     rw [<- hb3'] at hcap3;obtain ⟨ha',hrun',hint'⟩:=qu_ (a:=va3) (c:=vc3) SL hi0l hcap3;obtain ⟨da',drun',dint',_⟩:=g0_ (a:=va3) (c:=vc3) SL hi0l;have HINT':=hq_ hint';have HDINT':=hq_ dint';have hbB:Below W3.heap.size W3 w13:=(HEB.out).trans (hb12.trans hb13);have HBB13:=hq_ hbB;have HOWN13:=hq_ hown13;have hpb13:=HPB.out.below hbB;have m8:w13.cell? ⟨pb,8,none⟩=some (.int .i64 st):=(hpb13.cells 8).1;have hinn13:=hown13.inn;have HINN13:=hq_ hinn13;clear hi0 hcp hSLs hints13 hb3' hint' dint' hbB hown13 hown12 hg12 hg13 hpb13 hinn13;clear d0 d1 d2 d3 d4 d5 d6 d7 d8 d9 d10 d11 d12;go_upto_region 25 with (go_at_call 128;refine (c9_ _ SL st _ HIN13.out HSLS.out).mono ?_;rintro e w14 ⟨he,nq14,rfl⟩;rw [HCP.out.1] at he;generalize decide (st∈SL)=dB at he;subst he)
     obtain ⟨w14,hw14⟩:∃ w14,w14=w13.drewN nq14:=⟨_,rfl⟩;rw [<- hw14];have hE14:Below W3.heap.size W3 w14:=by rw [hw14];exact HBB13.out.trans (Below.drewN (Below.refl _ _) _)
     have hin14:IntsIn w14 W3.heap.size w13.heap.size (.slice va3 SL.length vc3) SL:=by rw [hw14];exact HINN13.out.drewN _
     have m8:w14.cell? ⟨pb,8,none⟩=some (.int .i64 st):=by rw [hw14];exact m8
     have hsz14:w13.heap.size≤w14.heap.size:=by rw [hw14,af_];exact Nat.le_refl _
     have HE14:=hq_ hE14;have HIN14:=hq_ hin14;clear hw14 hE14 hin14;refine ai_ (w0:=w14) [0,1,2,3,4,5,6,7,8] [9] (fun v=>⟨#[perV (.slice a1 p1.head.length m1) (.slice a2 p1.cycle.length m2) p1.frm p1.period,perV (.slice a3 p2.head.length m3) (.slice a4 p2.cycle.length m4) p2.frm p2.period,.int .i64 kd,.pointer (some ⟨w.heap.size,0,none⟩),.pointer (some ⟨w.heap.size+1,0,none⟩),undef,.pointer (some ⟨w.heap.size+1+1,0,none⟩),.int .i64 0,.pointer (some ⟨pb,0,none⟩),.int .i64 L,.int .i64 0,.slice hva HL.length hvc,.int .i64 (↑HL.length+↑cn),.int .i64 (bA+PA),.int .i64 (bB+PB),.pointer (some ⟨w10.heap.size,0,none⟩),.slice va3 SL.length vc3,.int .i64 ↑i0,.bool dB,v 8,undef,undef,u22,u23,u24,u25,u26,u27,u28,u29,u30,u31,u32,u33,u34,u35,u36,u37,u38,u39,u40,u41,u42,u43,u44,u45,u46,u47,u48,u49,u50,u51,u52,u53,u54,u55,u56,u57,u58,u59,u60,u61,u62,u63,u64,u65,u66,u67,u68,u69,u70,u71,u72,u73,u74,u75,u76,u77,u78,u79,u80,u81,u82,u83,u84,u85,u86,u87,u88,u89,u90,u91,u92,u93,u94,u95,u96,u97,u98,.int .i64 kd,u100,u101,u102,u103,u104,u105,u106,u107,u108,u109,u110,u111,u112,u113,u114,u115,u116,u117,u118,u119,u120,u121,u122,u123,u124,u125,u126,u127,.slice va LL.length vc,.tuple #[],.slice va LL.length vc,.slice va3 SL.length vc3,.tuple #[.int .i64 ↑i0,.bool dB],.slice va3 SL.length vc3,.pointer (some ⟨pb,8,none⟩),.int .i64 st,.tuple #[.int .i64 ↑i0,.bool dB],.int .i64 ↑i0,.bool dB,v 0,v 1,v 2,v 3,v 4,v 5,v 6,v 7,u147,u148,undef,undef,undef,u152,u153,u154,u155,u156,u157,u158,u159,u160,u161,u162,u163,u164,u165,u166],[]⟩) [.slice va3 SL.length vc3,.int .i64 i0,.int .i64 i0,.slice ha' i0 i0,.pointer (some ⟨pb,8,none⟩),.int .i64 st,.int .i64 L,.agg #[.slice ha' i0 i0,.int .i64 st,.int .i64 L,.slice none 0 0],undef] [8] (fun i v lo hi W=>match i with|8=>v 8=.pointer (some ⟨lo 8,0,none⟩)∧lo 8<hi 8∧Bxx W (lo 8) #[.slice none 0 0,.int .i64 0,.int .i64 0,.slice none 0 0] 39|_=>True) (fun W=>W.cell? ⟨pb,8,none⟩=some (.int .i64 st)) (fun W hb=>cux m8 hb) ?stab ?loc ?steps ?fin (fun j=>match j with|0=>u139|1=>u140|2=>u141|3=>u142|4=>u143|5=>u144|6=>u145|7=>u146|8=>undef|_=>undef)
     case stab=>
      refine ⟨?_,trivial⟩
      ·intro v lo hi W W' h hb;exact ⟨h.1,h.2.1,h.2.2.below hb⟩
     case loc=>
      refine ⟨?_,trivial⟩
      ·intro v v' lo lo' hi hi' W hag h;have q:=hag 8 (.inl rfl)
       (try dsimp only at h ⊢)
       simp only [q.1,q.2.1,q.2.2] at h;exact h
     case steps=>
      refine .c [] [] rfl ?_ (.c [] [] rfl ?_ (.c [] [] rfl ?_ (.c [0,1,2] [] rfl ?_ (.c [] [] rfl ?_ (.c [4] [] rfl ?_ (.c [] [] rfl ?_ (.c [3,5,6] [] rfl ?_ (.c [] [] rfl ?_ (.n)))))))))
      all_goals try exact stw
      ·rintro v lo hi W hb g8 _;refine .inl ⟨rfl,fun K hK=>?_⟩;simp only [ov,vat,Nat.reduceBEq,cond_true,cond_false];go_wp2_with fail
       exact hK (.pointer (some ⟨W.heap.size,0,none⟩)) _ (Ea (Er _) _) ⟨rfl,sq_,Bxx.new _ _ _⟩
     case fin=>
      rintro v lo hi W15 hb15 _ hf _;show wpList _ _ _ [_] _ _;have e7:v 7=.agg #[.slice ha' i0 i0,.int .i64 st,.int .i64 L,.slice none 0 0]:=(hf 7 rfl).2.2.2;obtain ⟨l8,_,k8,e8,lt8,hob⟩:=hf 8 rfl;clear hf;generalize lo 8=ob at *;generalize hi 8=hi8 at *;dsimp only;rw [e7,e8];clear e7 e8;generalize v 0=o0,v 1=o1,v 2=o2,v 3=o3,v 4=o4,v 5=o5,v 6=o6;clear v;have k0:=hob.cells 0;have k1:=hob.cells 1;have k2:=hob.cells 2;have k3:=hob.cells 3;have hob':w13.heap.size≤ob:=oq_;have hpb3:=HZ3.out;go_upto_region 26 with (fail)
      refine al_ (F:=fun W16=>Bxx W16 ob #[.slice ha' i0 i0,.int .i64 st,.int .i64 L,.slice none 0 0] 39∧IntsIn W16 W3.heap.size w13.heap.size (.slice va3 SL.length vc3) SL∧Below W3.heap.size W3 W16)
       ⟨Bxx.set4 hob,(((((HIN14.out.below hb15 hsz14).set _ oq_).set _ oq_).set _ oq_).set _ oq_),((((HE14.out.trans (hb15.mono oq_)).setCell (p:=⟨ob,0,none⟩) tq_ _).setCell (p:=⟨ob,1,none⟩) tq_ _).setCell (p:=⟨ob,2,none⟩) tq_ _).setCell (p:=⟨ob,3,none⟩) tq_ _⟩ ?_
      clear hob k0 k1 k2 k3 m8 hb15;rintro W16 ⟨hob,hin16,hE16⟩;have hsz16:=hE16.size;have hobl:=hob.lt;have HOB:=hq_ hob;have HIN16:=hq_ hin16;have HE16:=hq_ hE16;clear hob hin16 hE16;obtain ⟨DR,hDR⟩:∃ DR,DR=SL.drop i0:=⟨_,rfl⟩;have HDR:=hq_ hDR;have hdl:DR.length=SL.length-i0:=by rw [hDR];simp
      have hdm:∀ y∈DR,st≤y∧y<st+L:=fun y hy=>by
       rw [hDR,HCP.out.2.2] at hy;have:=(ae_ (show 0≤st by omega) y).1 hy;omega
      have HDM:=hq_ hdm;have HDL:=hq_ hdl;clear hDR hdl hdm;go_wp2_with fail
      go_loopw [151] (fun i wr=>∃ (k:Nat) (cv:Value),k≤SL.length-i0∧i=.int .i64 k∧Bxx wr ob #[.slice ha' i0 i0,.int .i64 st,.int .i64 L,cv] 39∧OwnI wr W16.heap.size cv ((DR.take k).map (· - st))∧W16.grownBy wr (some ob)) (fun i _=>SL.length-i0-(intOf i).toNat)
      case atStart=>exact ⟨0,.slice none 0 0,oq_,rfl,HOB.out,OwnI.nil _ _,World.grownBy.refl _ _⟩
      case round=>
       obtain ⟨k,cv,hk,rfl,hob,hown,hgr⟩:=hrel;have hszr:=hgr.size;obtain ⟨ca,cc,rfl⟩:=hown.form;have hinr:=HIN16.out.of_blocks (w':=wr) fun j h1 h2=>hgr.block j oq_ tq_
       by_cases hlt:k<SL.length-i0
       ·obtain ⟨⟨a8,c8,he8,_,_,h38⟩,_,hrng⟩:=HDINT'.out wr hinr.ints;rw [<- HDR.out] at he8 h38 hrng;have hltD:k<DR.length:=by rw [HDL.out];exact hlt
        rcases h38 with h38|⟨b8,f8,hb8,hcell⟩
        ·rw [h38] at hltD;simp at hltD
        injection he8 with he1 he2 he3
        rw [hb8] at he1;subst he1;have hcl:=hcell k hltD;have hyb:=HDM.out _ (ah_ hltD);have hkI:(k:Int)<((SL.length-i0:Nat):Int):=oq_;have hts:(DR.take (k+1)).map (· - st)=(DR.take k).map (· - st) ++ [DR.getD k 0-st]:=by
         rw [List.take_succ_eq_append_getElem hltD,List.map_append];simp [hltD]
        obtain ⟨y,hy⟩:∃ y,y=DR.getD k 0:=⟨_,rfl⟩;rw [<- hy] at hcl hyb hts;obtain ⟨CL,hCL⟩:∃ CL,CL=(DR.take k).map (· - st):=⟨_,rfl⟩;have hcll:CL.length≤k:=by rw [hCL];simp;omega
        rw [<- hCL] at hown hob hts;have q3:wr.cell? ⟨ob,3,none⟩=some (.slice ca CL.length cc):=(hob.cells 3).1;have hpbr:Bxx wr pb #[.slice z1 qa.head.length y1,.int .i64 qa.frm,.int .i64 qa.period,.slice z2 qa.cycle.length y2,.slice z3 qb.head.length y3,.int .i64 qb.frm,.int .i64 qb.period,.slice z4 qb.cycle.length y4,.int .i64 st,.slice xa (a0_ (cycL qa st)).length xc,.slice ya (a0_ (cycL qb st)).length yc,.int .i64 g,.map (some mb)] 139:=(hgr.block pb oq_ tq_).trans (HPB.out.below HE16.out);have q8:wr.cell? ⟨pb,8,none⟩=some (.int .i64 st):=(hpbr.cells 8).1;have HTS:=hq_ hts;have HOBr:=hq_ hob;have HOWNr:=hq_ hown;have HGR:=hq_ hgr;clear hob hown hgr hinr hts hy hCL hcell hpbr hb8 he2 he3 hrng;go_wp2_with (at_builtin;refine aj_ rq_ _ _ rq_ W16.heap.size (.slice ca CL.length cc) CL (y-st) rq_ (HOWNr.out.ext (Ea (Er _) _)) _ _ rq_ sq_ ⟨oq_,oq_⟩ oq_ tq_ ?_;intro gg cap w17 hown17 hgrow17 hbel17;have hob17:=(HOBr.out.alloc (.cells #[.int .i64 (y-st)] 3)).upto hbel17 hobl;have r1:=(hob17.cells 3).1;have r2:=(hob17.cells 3).2)
        go_roundw
        case rel=>
         refine ⟨k+1,.slice (some ⟨gg,0,none⟩) (CL.length+1) cap,oq_,by go_num,a4_ 3 _ hob17,?_,u3_ HGR.out (((Below.refl _ wr).alloc hszr _).trans hbel17)⟩;rw [HTS.out];exact hown17.above ((a7_.refl _ w17).setCell tq_ _)
        case measure=>simp [intOf];omega
       ·obtain rfl:k=SL.length-i0:=oq_;have hall:DR.take (SL.length-i0)=DR:=by rw [<- HDL.out];exact List.take_length
        rw [hall] at hown;have hset:=xa_ (U:=opS kd p1.mem p2.mem) (st:=st) (L:=L) oq_ hL9 (fun n h=>s3_ h) HUP.out;obtain ⟨CL,hCL⟩:∃ CL,CL=DR.map (· - st):=⟨_,rfl⟩;rw [hall,<- hCL] at hob;rw [<- hCL] at hown;have hPIS:a8_ wr (.slice ha' i0 i0) (.slice ca CL.length cc) (Per.mk (sel (opS kd p1.mem p2.mem) 0 st) st L ((sel (opS kd p1.mem p2.mem) st (st+L)).map (· - st))):=by
         refine ⟨?_,?_⟩
         ·have:=HINT'.out wr hinr.ints;rw [HCP.out.2.1] at this;exact this
         ·have:=hown.ints;rw [hCL,HDR.out,HCP.out.2.2] at this;rw [hCL,HDR.out,HCP.out.2.2];exact this
        have hEr:Below w.heap.size w wr:=⟨hgr.os.trans (HE16.out.os.trans hE3.os),hgr.tape.trans (HE16.out.tape.trans hE3.tape),hgr.output.trans (HE16.out.output.trans hE3.output),by have:=hE3.size;omega,fun j hj=>(hgr.block j (by have:=hE3.size;omega) tq_).trans ((HE16.out.block j (by have:=hE3.size;omega)).trans (hE3.block j hj))⟩;have hrbr:Bxx wr (w.heap.size+2) #[.slice none 0 0,.int .i64 0,.int .i64 0,.slice none 0 0] 39:=(hgr.block _ oq_ tq_).trans (HRB.out.below HE16.out);have q0:wr.cell? ⟨ob,0,none⟩=some (.slice ha' i0 i0):=(hob.cells 0).1;have q1:wr.cell? ⟨ob,1,none⟩=some (.int .i64 st):=(hob.cells 1).1;have q2:wr.cell? ⟨ob,2,none⟩=some (.int .i64 L):=(hob.cells 2).1;have q3:wr.cell? ⟨ob,3,none⟩=some (.slice ca CL.length cc):=(hob.cells 3).1;have HSET:=hq_ hset;have HPIS:=hq_ hPIS;have HER:=hq_ hEr;have HRBR:=hq_ hrbr;have HQ:Hid (a6_ q (Per.mk (sel (opS kd p1.mem p2.mem) 0 st) st L ((sel (opS kd p1.mem p2.mem) st (st+L)).map (· - st))).mem):=hq_ (hq.congr fun n=>(hset.2 n).symm);clear hset hPIS hEr hrbr hob hown hgr hinr hall hCL;go_wp2_with (go_at_call 88;refine (fm_ _ _ (Per.mk (sel (opS kd p1.mem p2.mem) 0 st) st L ((sel (opS kd p1.mem p2.mem) st (st+L)).map (· - st))) q _ HPIS.out HSET.out.1 (by show st≤_;omega) (by show L≤_;omega) HQ.out).mono ?_;rintro e w18 ⟨r1,r2,rfl,ho18,hb18⟩;obtain ⟨n1,j1,n2,j2,rfl,rfl⟩:=ho18.form;have hrb18:=HRBR.out.below hb18;have g0:=hrb18.cells 0;have g1:=hrb18.cells 1;have g2:=hrb18.cells 2;have g3:=hrb18.cells 3;have hsz18:=hb18.size)
        have hEr:=HER.out;exact bodyPost_ret (v:=.tuple #[perV (.slice n1 q.head.length j1) (.slice n2 q.cycle.length j2) q.frm q.period,.int .i64 0]) (by simp [results,Tryz.results119,go_sem, *]) rfl ⟨_,_,rfl,(ho18.above (by (repeat' (with_reducible first|exact a7_.refl _ _|refine a7_.alloc ?_ _|refine a7_.drew ?_|refine a7_.drewN ?_ _|refine a7_.setCell ?_ (by first|(simp;done)|(simp;omega)|omega) _)))).mono oq_,xE⟩
theorem pp_ (h1 c1 h2 c2:Value) (p1 p2 qa qb q:Per) (w:World) (hp1:a8_ w h1 c1 p1) (hp2:a8_ w h2 c2 p2) (hv1:Valid p1) (hv2:Valid p2) (hqa:a6_ qa p1.mem) (hqb:a6_ qb p2.mem)
  (hL:lcmI qa.period qb.period≤1099511627776) (hpa:qa.period≤4294967295) (hpb:qb.period≤4294967295)
  (hq:a6_ q (fun n=>p1.mem n∧p2.mem n)) (hcn:cnt (fun n=>p1.mem n∧p2.mem n) (max qa.frm qb.frm+lcmI qa.period qb.period).toNat≤1048576) :
  Calls Tryz.prog 119 #[perV h1 c1 p1.frm p1.period,perV h2 c2 p2.frm p2.period,.int .i64 0] w (b6_ q w):=
 hs_ 0 (.inl rfl) h1 c1 h2 c2 p1 p2 qa qb q w hp1 hp2 hv1 hv2 hqa hqb hL (fun _=>⟨hpa,hpb⟩) (dr_ _ _ ▸ hq) (dr_ _ _ ▸ hcn)
theorem r3_ (h1 c1 h2 c2:Value) (p1 p2 qa qb q:Per) (w:World) (hp1:a8_ w h1 c1 p1) (hp2:a8_ w h2 c2 p2) (hv1:Valid p1) (hv2:Valid p2) (hqa:a6_ qa p1.mem) (hqb:a6_ qb p2.mem)
  (hL:lcmI qa.period qb.period≤1099511627776)
  (hq:a6_ q (fun n=>p1.mem n∨p2.mem n)) (hcn:cnt (fun n=>p1.mem n∨p2.mem n) (max qa.frm qb.frm+lcmI qa.period qb.period).toNat≤1048576) :
  Calls Tryz.prog 119 #[perV h1 c1 p1.frm p1.period,perV h2 c2 p2.frm p2.period,.int .i64 1] w (b6_ q w):=
 hs_ 1 (.inr (.inl rfl)) h1 c1 h2 c2 p1 p2 qa qb q w hp1 hp2 hv1 hv2 hqa hqb hL (fun h=>oq_) (fl_ _ _ ▸ hq) (fl_ _ _ ▸ hcn)
theorem mq_ (h1 c1 h2 c2:Value) (p1 p2 qa qb q:Per) (w:World) (hp1:a8_ w h1 c1 p1) (hp2:a8_ w h2 c2 p2) (hv1:Valid p1) (hv2:Valid p2) (hqa:a6_ qa p1.mem) (hqb:a6_ qb p2.mem)
  (hL:lcmI qa.period qb.period≤1099511627776)
  (hq:a6_ q (fun n=>p1.mem n∧¬ p2.mem n)) (hcn:cnt (fun n=>p1.mem n∧¬ p2.mem n) (max qa.frm qb.frm+lcmI qa.period qb.period).toNat≤1048576) :
  Calls Tryz.prog 119 #[perV h1 c1 p1.frm p1.period,perV h2 c2 p2.frm p2.period,.int .i64 2] w (b6_ q w):=
 hs_ 2 (.inr (.inr rfl)) h1 c1 h2 c2 p1 p2 qa qb q w hp1 hp2 hv1 hv2 hqa hqb hL (fun h=>oq_) (d5_ _ _ ▸ hq) (d5_ _ _ ▸ hcn)
theorem s7_ {l1 l2:List Int} (hl:l1.length=l2.length) (hk:k<l1.length) (h:l1.take k=l2.take k) (he:l1.getD k 0=l2.getD k 0):l1.take (k+1)=l2.take (k+1):=by
 rw [List.take_add_one,List.take_add_one,h];have h2:k<l2.length:=oq_;rw [List.getD_eq_getElem?_getD,List.getD_eq_getElem?_getD,List.getElem?_eq_getElem hk,List.getElem?_eq_getElem h2] at he;rw [List.getElem?_eq_getElem hk,List.getElem?_eq_getElem h2];simp at he;simp [he]
theorem r9_ (p q:Per):p=q↔p.frm=q.frm∧p.period=q.period∧p.head=q.head∧p.cycle=q.cycle:=by
 constructor
 ·rintro rfl;simp
 ·rintro ⟨h1,h2,h3,h4⟩;cases p;cases q;simp_all
instance:DecidableEq Per:=fun p q=>decidable_of_iff _ (r9_ p q).symm
theorem wy_ (h1 c1 h2 c2:Value) (p1 p2 qa qb q:Per) (w:World) (hp1:a8_ w h1 c1 p1) (hp2:a8_ w h2 c2 p2) (hv1:Valid p1) (hv2:Valid p2) (hqa:a6_ qa p1.mem) (hqb:a6_ qb p2.mem)
  (hL:lcmI qa.period qb.period≤1099511627776) (hpa:qa.period≤4294967295) (hpb:qb.period≤4294967295)
  (hq:a6_ q (fun n=>p1.mem n∧p2.mem n)) (hcn:cnt (fun n=>p1.mem n∧p2.mem n) (max qa.frm qb.frm+lcmI qa.period qb.period).toNat≤1048576) :
  Calls Tryz.prog 72 #[perV h1 c1 p1.frm p1.period,perV h2 c2 p2.frm p2.period] w (b6_ q w):=by
 have HOP:∀ W,Below w.heap.size w W->Calls Tryz.prog 119 #[perV h1 c1 p1.frm p1.period,perV h2 c2 p2.frm p2.period,.int .i64 0] W (b6_ q W):=fun W hb=>pp_ h1 c1 h2 c2 p1 p2 qa qb q W (hp1.ext hb) (hp2.ext hb) hv1 hv2 hqa hqb hL hpa hpb hq hcn;clear hp1 hp2 hv1 hv2 hqa hqb hL hpa hpb hq hcn
 go_enter Tryz.func72,Tryz.ntmps72
 go_wp2_with (go_at_call 119;refine (HOP _ xE).mono ?_;rintro e w2 ⟨h',c',rfl,hp2,hb2⟩;obtain ⟨a1,c1,a2,c2,rfl,rfl⟩:=hp2.form;obtain ⟨hc2,hf2⟩:=au_ hb2;have HP2:=hq_ hp2;clear hp2)
 exact bodyPost_ret (v:=.tuple #[perV (.slice a1 q.head.length c1) (.slice a2 q.cycle.length c2) q.frm q.period,.int .i64 0]) (by simp [results,Tryz.results72,go_sem, *]) rfl ⟨_,_,rfl,(HP2.out.above (by (repeat' (with_reducible first|exact a7_.refl _ _|refine a7_.alloc ?_ _|refine a7_.drew ?_|refine a7_.drewN ?_ _|refine a7_.setCell ?_ (by first|(simp;done)|(simp;omega)|omega) _)))).mono tq_,xE⟩
theorem xb_ (h1 c1 h2 c2:Value) (p1 p2 qa qb q:Per) (w:World) (hp1:a8_ w h1 c1 p1) (hp2:a8_ w h2 c2 p2) (hv1:Valid p1) (hv2:Valid p2) (hqa:a6_ qa p1.mem) (hqb:a6_ qb p2.mem)
  (hL:lcmI qa.period qb.period≤1099511627776)
  (hq:a6_ q (fun n=>p1.mem n∨p2.mem n)) (hcn:cnt (fun n=>p1.mem n∨p2.mem n) (max qa.frm qb.frm+lcmI qa.period qb.period).toNat≤1048576) :
  Calls Tryz.prog 73 #[perV h1 c1 p1.frm p1.period,perV h2 c2 p2.frm p2.period] w (b6_ q w):=by
 have HOP:∀ W,Below w.heap.size w W->Calls Tryz.prog 119 #[perV h1 c1 p1.frm p1.period,perV h2 c2 p2.frm p2.period,.int .i64 1] W (b6_ q W):=fun W hb=>r3_ h1 c1 h2 c2 p1 p2 qa qb q W (hp1.ext hb) (hp2.ext hb) hv1 hv2 hqa hqb hL hq hcn;clear hp1 hp2 hv1 hv2 hqa hqb hL hq hcn
 go_enter Tryz.func73,Tryz.ntmps73
 go_wp2_with (go_at_call 119;refine (HOP _ xE).mono ?_;rintro e w2 ⟨h',c',rfl,hp2,hb2⟩;obtain ⟨a1,c1,a2,c2,rfl,rfl⟩:=hp2.form;obtain ⟨hc2,hf2⟩:=au_ hb2;have HP2:=hq_ hp2;clear hp2)
 exact bodyPost_ret (v:=.tuple #[perV (.slice a1 q.head.length c1) (.slice a2 q.cycle.length c2) q.frm q.period,.int .i64 0]) (by simp [results,Tryz.results73,go_sem, *]) rfl ⟨_,_,rfl,(HP2.out.above (by (repeat' (with_reducible first|exact a7_.refl _ _|refine a7_.alloc ?_ _|refine a7_.drew ?_|refine a7_.drewN ?_ _|refine a7_.setCell ?_ (by first|(simp;done)|(simp;omega)|omega) _)))).mono tq_,xE⟩
theorem uq_ (h1 c1 h2 c2:Value) (p1 p2 qa qb q:Per) (w:World) (hp1:a8_ w h1 c1 p1) (hp2:a8_ w h2 c2 p2) (hv1:Valid p1) (hv2:Valid p2) (hqa:a6_ qa p1.mem) (hqb:a6_ qb p2.mem)
  (hL:lcmI qa.period qb.period≤1099511627776)
  (hq:a6_ q (fun n=>p1.mem n∧¬ p2.mem n)) (hcn:cnt (fun n=>p1.mem n∧¬ p2.mem n) (max qa.frm qb.frm+lcmI qa.period qb.period).toNat≤1048576) :
  Calls Tryz.prog 117 #[perV h1 c1 p1.frm p1.period,perV h2 c2 p2.frm p2.period] w (b6_ q w):=by
 have HOP:∀ W,Below w.heap.size w W->Calls Tryz.prog 119 #[perV h1 c1 p1.frm p1.period,perV h2 c2 p2.frm p2.period,.int .i64 2] W (b6_ q W):=fun W hb=>mq_ h1 c1 h2 c2 p1 p2 qa qb q W (hp1.ext hb) (hp2.ext hb) hv1 hv2 hqa hqb hL hq hcn;clear hp1 hp2 hv1 hv2 hqa hqb hL hq hcn
 go_enter Tryz.func117,Tryz.ntmps117
 go_wp2_with (go_at_call 119;refine (HOP _ xE).mono ?_;rintro e w2 ⟨h',c',rfl,hp2,hb2⟩;obtain ⟨a1,c1,a2,c2,rfl,rfl⟩:=hp2.form;obtain ⟨hc2,hf2⟩:=au_ hb2;have HP2:=hq_ hp2;clear hp2)
 exact bodyPost_ret (v:=.tuple #[perV (.slice a1 q.head.length c1) (.slice a2 q.cycle.length c2) q.frm q.period,.int .i64 0]) (by simp [results,Tryz.results117,go_sem, *]) rfl ⟨_,_,rfl,(HP2.out.above (by (repeat' (with_reducible first|exact a7_.refl _ _|refine a7_.alloc ?_ _|refine a7_.drew ?_|refine a7_.drewN ?_ _|refine a7_.setCell ?_ (by first|(simp;done)|(simp;omega)|omega) _)))).mono tq_,xE⟩
theorem Ints.lit {b:Nat} {t:TypeId} (h:Bxx w b (l.map (Value.int .i64)).toArray t) (hl:l.length≤17592186044416) (hr:∀ x∈l,InI x):Ints w (.slice (some ⟨b,0,none⟩) l.length l.length) l:=by
 refine ⟨⟨_,_,rfl,Nat.le_refl _,oq_,.inr ⟨b,0,rfl,fun i hi=>?_⟩⟩,hl,hr⟩;rw [Nat.zero_add,(h.cells i).1];rw [List.getElem?_toArray,List.getElem?_map,List.getElem?_eq_getElem hi,List.getD_eq_getElem?_getD,List.getElem?_eq_getElem hi];rfl
structure fu_ (w:World) (v:Value) (l:List Int):Prop where
 is:∃ a c,v=.slice a l.length c∧(l=[]∨∃ b o,a=some ⟨b,o,none⟩∧∀ i,i<l.length->w.cell? ⟨b,o+i,none⟩=some (.int .u8 (l.getD i 0)))
 len:l.length≤9223372036854775807
 rng:∀ x∈l,0≤x∧x≤255
theorem fu_.ext (h:fu_ w v l) (hb:Below w.heap.size w W):fu_ W v l:=by
 obtain ⟨⟨a,c,rfl,h3⟩,h4,h5⟩:=h;refine ⟨⟨a,c,rfl,h3.imp id ?_⟩,h4,h5⟩;rintro ⟨b,o,rfl,hc⟩;exact ⟨b,o,rfl,fun i hi=>Ext.cell hb (hc i hi)⟩
end Go.Proofs.YthjnojbeimchdaaGreat
namespace Go.Proofs.YthjnojbeimchdaaGreat
open Kal
end Go.Proofs.YthjnojbeimchdaaGreat
namespace Go.Proofs.YthjnojbeimchdaaGreat
open Go.RowKit Go.Maps Kal
end Go.Proofs.YthjnojbeimchdaaGreat
end
namespace Go.Proofs.YthjnojbeimchdaaGreat
open Go.ChangeShapes Go.WideShapes Go.ChangeAt Go.RowKit Go.Joins Kal
theorem wt_:ownKnob Tryz.prog.godebug=none:=by kernel_rfl
theorem o4_:laidOutB Tryz.prog=true:=by kernel_rfl
section
variable {H:Type} {enc:TypeId × Value->H} {w:World} {base:Nat} {spare:Nat->Bool} {held:Bool}
theorem vh_ {n:Nat} {v:Value} {y:DataW H × List MemPlace} (h:DataW.trod enc Tryz.prog w base spare held n 68 [v]=some y):∃ l,fu_ w v l:=by
 rcases open_ints Tryz.underlying68 Tryz.underlying5 (by kernel_rfl) h with ⟨hcs,_⟩|⟨a,len,cap,zs,hcs,_,hl,hm,hz,_,hcell,hwz⟩
 ·simp at hcs;subst hcs;exact ⟨[],⟨none,0,rfl,.inl rfl⟩,sq_,sq_⟩
 ·simp at hcs;subst hcs;have hlz:len≤zs.length:=by rw [hz];split <;> omega
  have hlen:(zs.take len).length=len:=by rw [List.length_take];omega
  refine ⟨zs.take len,⟨some a,cap,by rw [hlen],?_⟩,?_,?_⟩
  ·by_cases h0:len=0
   ·exact .inl (by rw [h0];rfl)
   ·refine .inr ?_;obtain ⟨b,off,spot⟩:=a;have hc:=hcell 0 oq_;have hspot:spot=none:=by simpa [Addr.add] using World.cell?_spot hc
    subst hspot;refine ⟨b,off,rfl,fun i hi=>?_⟩;rw [hlen] at hi;have h9:=hcell i oq_;have e:(zs.take len).getD i 0=zs.getD i 0:=by
     rw [List.getD_eq_getElem?_getD,List.getD_eq_getElem?_getD,List.getElem?_take_of_lt hi]
    rw [e];have e2:(⟨b,off,none⟩:Addr).add i=⟨b,off+i,none⟩:=by
     rcases Nat.eq_zero_or_pos i with h|h
     ·subst h;simp [Addr.add]
     ·simp [Addr.add];omega
    rwa [e2] at h9
  ·rw [hlen];unfold maxLen at hm;omega
  ·intro x hx;exact bounds_u8 (hwz x (List.mem_of_mem_take hx))
end
end Go.Proofs.YthjnojbeimchdaaGreat
section
variable {ops:Array Go.Oper}{b:Bool}{F P a at_ d f n r s st step x y:Int}{m out:List (List Kal.Per)}{l:List Int}{rest:List Go.Oper}{t u:List Kal.Per}{cs xs:List Go.Value}{B R base c cap g i j k mb ob:Nat}{o:Go.Oper}{row:Option Nat}{p q qa qb:Kal.Per}{c1 c2 h h1 h2 v xv yv:Go.Value}{A W W' w w':Go.World}
namespace Go.Proofs.YthjnojbeimchdaaGreat
open Go.RowKit Kal
structure PV where
 h:Value
 c:Value
 p:Per
instance:Inhabited PV:=⟨⟨.slice none 0 0,.slice none 0 0,⟨[],0,0,[]⟩⟩⟩
def PV.enc (x:PV):List Value:=[x.h,.int .i64 x.p.frm,.int .i64 x.p.period,x.c]
abbrev PV.val (x:PV):Value:=perV x.h x.c x.p.frm x.p.period
theorem PV.enc_len (x:PV):x.enc.length=4:=rfl
structure PVok (W:World) (F:Nat->Prop) (x:PV):Prop where
 is:a8_ W x.h x.c x.p
 fr:InI x.p.frm
 pe:InI x.p.period
 bh:x.p.head≠[]->∀ k,x.h.ownBlock=some k->F k
 bc:x.p.cycle≠[]->∀ k,x.c.ownBlock=some k->F k
def a5_ (F:Nat->Prop) (W W':World):Prop:=∀ b,F b->b<W.heap.size->W'.heap[b]? = W.heap[b]?
theorem a5_.trans {F:Nat->Prop} {B C:World} (h:a5_ F A B) (g:a5_ F B C) (hs:A.heap.size≤B.heap.size):a5_ F A C:=fun b hb hl=>(g b hb oq_).trans (h b hb hl)
theorem a5_.below {F:Nat->Prop} (h:Below W.heap.size W W'):a5_ F W W':=fun b _ hl=>h.block b hl
theorem Ints.keep {F:Nat->Prop} (h:Ints W v l) (hb:l≠[]->∀ k,v.ownBlock=some k->F k) (hk:a5_ F W W'):Ints W' v l:=by
 obtain ⟨⟨a,c,rfl,h1,h2,h3⟩,h4,h5⟩:=h;refine ⟨⟨a,c,rfl,h1,h2,?_⟩,h4,h5⟩
 by_cases hl:l=[]
 ·exact .inl hl
 ·rcases h3 with h3|⟨b,o,rfl,hc⟩
  ·exact .inl h3
  ·have h0:=hc 0 (List.length_pos_iff.2 hl);exact .inr ⟨b,o,rfl,fun i hi=>(World.cell?_of_block (hk b (hb hl b rfl) (World.block_lt_of_cell? W _ h0))).trans (hc i hi)⟩
theorem PVok.keep {F:Nat->Prop} {x:PV} (h:PVok W F x) (hk:a5_ F W W'):PVok W' F x:=⟨⟨h.is.hd.keep h.bh hk,h.is.cy.keep h.bc hk⟩,h.fr,h.pe,h.bh,h.bc⟩
theorem PVok.mono {F G:Nat->Prop} {x:PV} (h:PVok W F x) (hF:∀ b,F b->G b):PVok W G x:=⟨h.is,h.fr,h.pe,fun a k e=>hF k (h.bh a k e),fun a k e=>hF k (h.bc a k e)⟩
structure RowR (W:World) (F:Nat->Prop) (v:Value) (n:Nat) (cs:List Value):Prop where
 is:∃ a c,v=.slice a n c∧n≤c∧c≤9223372036854775807∧(n=0∨∃ b o,a=some ⟨b,o,none⟩∧F b∧b<W.heap.size∧∀ i u,cs[i]? = some u->W.cell? ⟨b,o+i,none⟩=some u)
theorem RowR.keep {F:Nat->Prop} {n:Nat} (h:RowR W F v n cs) (hk:a5_ F W W') (hs:W.heap.size≤W'.heap.size):RowR W' F v n cs:=by
 obtain ⟨a,c,rfl,h1,h2,h3⟩:=h;refine ⟨a,c,rfl,h1,h2,h3.imp id ?_⟩;rintro ⟨b,o,rfl,hF,hl,hc⟩;exact ⟨b,o,rfl,hF,oq_,fun i u hi=>(World.cell?_of_block (hk b hF hl)).trans (hc i u hi)⟩
theorem RowR.mono {F G:Nat->Prop} {n:Nat} (h:RowR W F v n cs) (hF:∀ b,F b->G b):RowR W G v n cs:=by
 obtain ⟨a,c,rfl,h1,h2,h3⟩:=h;refine ⟨a,c,rfl,h1,h2,h3.imp id ?_⟩;rintro ⟨b,o,rfl,hb,hl,hc⟩;exact ⟨b,o,rfl,hF b hb,hl,hc⟩
structure be_ (W:World) (F:Nat->Prop) (v:Value) (L:List PV):Prop where
 row:RowR W F v L.length (L.flatMap PV.enc)
 len:L.length≤17592186044416
 all:∀ x∈L,PVok W F x
def ab_ (W:World) (F:Nat->Prop) (v:Value) (t:List Per):Prop:=∃ L:List PV,L.map PV.p=t∧be_ W F v L
theorem be_.keep {F:Nat->Prop} {L:List PV} (h:be_ W F v L) (hk:a5_ F W W') (hs:W.heap.size≤W'.heap.size):be_ W' F v L:=⟨h.row.keep hk hs,h.len,fun x hx=>(h.all x hx).keep hk⟩
theorem be_.mono {F G:Nat->Prop} {L:List PV} (h:be_ W F v L) (hF:∀ b,F b->G b):be_ W G v L:=⟨h.row.mono hF,h.len,fun x hx=>(h.all x hx).mono hF⟩
theorem ab_.keep {F:Nat->Prop} (h:ab_ W F v t) (hk:a5_ F W W') (hs:W.heap.size≤W'.heap.size):ab_ W' F v t:=by
 obtain ⟨L,e,g⟩:=h;exact ⟨L,e,g.keep hk hs⟩
theorem ab_.mono {F G:Nat->Prop} (h:ab_ W F v t) (hF:∀ b,F b->G b):ab_ W G v t:=by
 obtain ⟨L,e,g⟩:=h;exact ⟨L,e,g.mono hF⟩
theorem ab_.ext {F:Nat->Prop} (h:ab_ W F v t) (hb:Below W.heap.size W W'):ab_ W' F v t:=h.keep (a5_.below hb) hb.size
structure MixL (W:World) (F:Nat->Prop) (v:Value) (L:List (Value × List Per)):Prop where
 row:RowR W F v L.length (L.map Prod.fst)
 len:L.length≤17592186044416
 all:∀ x∈L,ab_ W F x.1 x.2
def MixR (W:World) (F:Nat->Prop) (v:Value) (m:List (List Per)):Prop:=∃ L:List (Value × List Per),L.map Prod.snd=m∧MixL W F v L
theorem MixL.keep {F:Nat->Prop} {L:List (Value × List Per)} (h:MixL W F v L) (hk:a5_ F W W') (hs:W.heap.size≤W'.heap.size):MixL W' F v L:=⟨h.row.keep hk hs,h.len,fun x hx=>(h.all x hx).keep hk hs⟩
theorem MixL.mono {F G:Nat->Prop} {L:List (Value × List Per)} (h:MixL W F v L) (hF:∀ b,F b->G b):MixL W G v L:=⟨h.row.mono hF,h.len,fun x hx=>(h.all x hx).mono hF⟩
theorem MixR.keep {F:Nat->Prop} (h:MixR W F v m) (hk:a5_ F W W') (hs:W.heap.size≤W'.heap.size):MixR W' F v m:=by
 obtain ⟨L,e,g⟩:=h;exact ⟨L,e,g.keep hk hs⟩
theorem MixR.mono {F G:Nat->Prop} (h:MixR W F v m) (hF:∀ b,F b->G b):MixR W G v m:=by
 obtain ⟨L,e,g⟩:=h;exact ⟨L,e,g.mono hF⟩
theorem MixR.ext {F:Nat->Prop} (h:MixR W F v m) (hb:Below W.heap.size W W'):MixR W' F v m:=h.keep (a5_.below hb) hb.size
theorem av_ {L:List PV}:∀ {j i:Nat} {u:Value},j<L.length->(L.getD j default).enc[i]? = some u->(L.flatMap PV.enc)[j*4+i]? = some u:=by
 induction L with
 | nil=>intro j i u h;simp at h
 | cons x L ih=>
  intro j i u hj hi;rw [List.flatMap_cons];cases j with
  | zero=>
   have h4:i<x.enc.length:=(List.getElem?_eq_some_iff.1 hi).1;rw [List.getElem?_append_left (by simpa using h4)];simpa using hi
  | succ j=>
   rw [List.getElem?_append_right (by rw [PV.enc_len];omega),PV.enc_len,show (j+1)*4+i-4=j*4+i by omega];exact ih (by simpa using hj) (by simpa using hi)
end Go.Proofs.YthjnojbeimchdaaGreat
namespace Go.Proofs.YthjnojbeimchdaaGreat
open Go.RowKit Go.Maps Kal
theorem aa_ {α:Type} {l:List α} {d:α} (h:i<l.length):l.getD i d∈l:=by
 rw [List.getD_eq_getElem?_getD,List.getElem?_eq_getElem h];exact List.getElem_mem h
theorem ne_ {α:Type} {l:List α} {d:α} {p:α->Bool} (h:k<l.length):(l.take (k+1)).any p=((l.take k).any p || p (l.getD k d)):=by
 rw [List.take_succ_eq_append_getElem h,List.any_append,List.getD_eq_getElem?_getD,List.getElem?_eq_getElem h];simp
def mw_ (g:Nat) (lb:Array Value) (L:List PV) (p:PV->Bool) (w:World):Prop:=
 ∀ (W:World) (x:PV),Below w.heap.size w W->x∈L->Calls Tryz.prog g (#[x.val] ++ lb) W fun e w'=>e=.returned (.bool (p x))∧Below w.heap.size w w'
theorem rj_ (F:Nat->Prop) (v:Value) (L:List PV) (p:PV->Bool) (g:Nat) (lb:Array Value) (eg:∀ args w,(callFunc g args).run Tryz.prog w=.ok (.enter g args) w) (w:World) (hv:RowR w F v L.length (L.flatMap PV.enc)) (hlen:L.length≤17592186044416) (hp:mw_ g lb L p w) :
  Calls Tryz.prog 105 #[v,.func (.func g) #[] lb] w fun e w'=>∃ i:Int,e=.returned (.int .i64 i)∧decide (0≤i)=L.any p∧Below w.heap.size w w':=by
 have HPP:=hq_ hp;obtain ⟨a1,c1,rfl,_,_,h3⟩:=hv;have HC:=hq_ h3;clear hp h3
 go_enter Tryz.func105,Tryz.ntmps105
 go_wp2_with fail
 go_loopw [5,8] (fun _ i wr=>∃ k:Nat,k≤L.length∧i=.int .i64 k∧(L.take k).any p=false∧Below w.heap.size w wr) (fun _ i _=>L.length-(intOf i).toNat)
 case atStart=>exact ⟨0,oq_,rfl,rfl,Below.refl _ _⟩
 case round=>
  obtain ⟨k,hk,rfl,hpre,hb⟩:=hrel;have HB:=hq_ hb;have HPRE:=hq_ hpre;clear hpre
  by_cases hlt:k<L.length
  ·have hlI:(k:Int)<L.length:=oq_;rcases HC.out with h0|⟨b8,f8,rfl,hF,hb8,hcell⟩
   ·omega
   have e0:wr.cell? ⟨b8,f8+k*4,none⟩=some (L.getD k default).h:=Below.cell' hb (hcell (k*4+0) _ (av_ hlt rfl)) hb8;have e1:wr.cell? ⟨b8,f8+k*4+1,none⟩=some (.int .i64 (L.getD k default).p.frm):=Below.cell' hb (hcell (k*4+1) _ (av_ hlt rfl)) hb8;have e2:wr.cell? ⟨b8,f8+k*4+2,none⟩=some (.int .i64 (L.getD k default).p.period):=Below.cell' hb (hcell (k*4+2) _ (av_ hlt rfl)) hb8;have e3:wr.cell? ⟨b8,f8+k*4+3,none⟩=some (L.getD k default).c:=Below.cell' hb (hcell (k*4+3) _ (av_ hlt rfl)) hb8;have hcall:=HPP.out wr (L.getD k default) hb (aa_ hlt);have HSU:Hid ((L.take (k+1)).any p=((L.take k).any p || p (L.getD k default))):=hq_ (ne_ hlt);have HMEM:=hq_ (aa_ (d:=default) hlt);generalize L.getD k default=y at *;clear hcell hb;cases hq:p y with
   | true=>
    rw [hq] at hcall;have HQ:=hq_ hq;clear hq;go_wp2_with (go_at_fn g;refine hcall.mono ?_;rintro e w' ⟨rfl,hb'⟩)
    go_ret;refine ⟨_,rfl,?_,hb'⟩;rw [decide_eq_true oq_];exact (List.any_eq_true.2 ⟨y,HMEM.out,HQ.out⟩).symm
   | false=>
    rw [hq] at hcall;have HQ:=hq_ hq;clear hq;go_wp2_with (go_at_fn g;refine hcall.mono ?_;rintro e w' ⟨rfl,hb'⟩)
    go_roundw
    case rel=>exact ⟨k+1,oq_,by go_num,by rw [HSU.out,HPRE.out,HQ.out];rfl,hb'⟩
    case measure=>simp [intOf];omega
  ·obtain rfl:k=L.length:=oq_;go_wp2_with fail
   go_ret;refine ⟨_,rfl,?_,HB.out⟩;have:=HPRE.out;rw [List.take_length] at this;rw [this];rfl
def vl_ (g:Nat) (lb:Array Value) (L:List (Value × List Per)) (p:(Value × List Per)->Bool) (w:World):Prop:=
 ∀ (W:World) (x:(Value × List Per)),Below w.heap.size w W->x∈L->Calls Tryz.prog g (#[x.1] ++ lb) W fun e w'=>e=.returned (.bool (p x))∧Below w.heap.size w w'
theorem rd_ (F:Nat->Prop) (v:Value) (L:List (Value × List Per)) (p:(Value × List Per)->Bool) (g:Nat) (lb:Array Value) (eg:∀ args w,(callFunc g args).run Tryz.prog w=.ok (.enter g args) w) (w:World) (hv:RowR w F v L.length (L.map Prod.fst)) (hlen:L.length≤17592186044416) (hp:vl_ g lb L p w) :
  Calls Tryz.prog 99 #[v,.func (.func g) #[] lb] w fun e w'=>∃ i:Int,e=.returned (.int .i64 i)∧decide (0≤i)=L.any p∧Below w.heap.size w w':=by
 have HPP:=hq_ hp;obtain ⟨a1,c1,rfl,_,_,h3⟩:=hv;have HC:=hq_ h3;clear hp h3
 go_enter Tryz.func99,Tryz.ntmps99
 go_wp2_with fail
 go_loopw [5,8] (fun _ i wr=>∃ k:Nat,k≤L.length∧i=.int .i64 k∧(L.take k).any p=false∧Below w.heap.size w wr) (fun _ i _=>L.length-(intOf i).toNat)
 case atStart=>exact ⟨0,oq_,rfl,rfl,Below.refl _ _⟩
 case round=>
  obtain ⟨k,hk,rfl,hpre,hb⟩:=hrel;have HB:=hq_ hb;have HPRE:=hq_ hpre;clear hpre
  by_cases hlt:k<L.length
  ·have hlI:(k:Int)<L.length:=oq_;rcases HC.out with h0|⟨b8,f8,rfl,hF,hb8,hcell⟩
   ·omega
   have e0:wr.cell? ⟨b8,f8+k,none⟩=some (L.getD k (.slice none 0 0,[])).1:=Below.cell' hb (hcell k _ (by rw [List.getElem?_map,List.getD_eq_getElem?_getD,List.getElem?_eq_getElem hlt];rfl)) hb8;have hcall:=HPP.out wr (L.getD k (.slice none 0 0,[])) hb (aa_ hlt);have HSU:Hid ((L.take (k+1)).any p=((L.take k).any p || p (L.getD k (.slice none 0 0,[])))):=hq_ (ne_ hlt);have HMEM:=hq_ (aa_ (d:=(.slice none 0 0,[])) hlt);generalize L.getD k (.slice none 0 0,[])=y at *;clear hcell hb;cases hq:p y with
   | true=>
    rw [hq] at hcall;have HQ:=hq_ hq;clear hq;go_wp2_with (go_at_fn g;refine hcall.mono ?_;rintro e w' ⟨rfl,hb'⟩)
    go_ret;refine ⟨_,rfl,?_,hb'⟩;rw [decide_eq_true oq_];exact (List.any_eq_true.2 ⟨y,HMEM.out,HQ.out⟩).symm
   | false=>
    rw [hq] at hcall;have HQ:=hq_ hq;clear hq;go_wp2_with (go_at_fn g;refine hcall.mono ?_;rintro e w' ⟨rfl,hb'⟩)
    go_roundw
    case rel=>exact ⟨k+1,oq_,by go_num,by rw [HSU.out,HPRE.out,HQ.out];rfl,hb'⟩
    case measure=>simp [intOf];omega
  ·obtain rfl:k=L.length:=oq_;go_wp2_with fail
   go_ret;refine ⟨_,rfl,?_,HB.out⟩;have:=HPRE.out;rw [List.take_length] at this;rw [this];rfl
theorem i3_ (F:Nat->Prop) (v:Value) (L:List PV) (p:PV->Bool) (g:Nat) (lb:Array Value) (eg:∀ args w,(callFunc g args).run Tryz.prog w=.ok (.enter g args) w) (w:World) (hv:RowR w F v L.length (L.flatMap PV.enc)) (hlen:L.length≤17592186044416) (hp:mw_ g lb L p w) :
  Calls Tryz.prog 63 #[v,.func (.func g) #[] lb] w fun e w'=>e=.returned (.bool (L.any p))∧Below w.heap.size w w':=by
 have HV:=hq_ hv;have HPP:=hq_ hp;clear hp hv
 go_enter Tryz.func63,Tryz.ntmps63
 go_wp2_with (go_at_call 105;refine (rj_ F v L p g lb eg _ HV.out hlen HPP.out).mono ?_;rintro e w1 ⟨i,rfl,hi,hb1⟩;have HI:=hq_ hi;clear hi)
 go_ret;exact ⟨ac_ HI.out,hb1⟩
theorem fo_ (F:Nat->Prop) (v:Value) (L:List (Value × List Per)) (p:(Value × List Per)->Bool) (g:Nat) (lb:Array Value) (eg:∀ args w,(callFunc g args).run Tryz.prog w=.ok (.enter g args) w) (w:World) (hv:RowR w F v L.length (L.map Prod.fst)) (hlen:L.length≤17592186044416) (hp:vl_ g lb L p w) :
  Calls Tryz.prog 57 #[v,.func (.func g) #[] lb] w fun e w'=>e=.returned (.bool (L.any p))∧Below w.heap.size w w':=by
 have HV:=hq_ hv;have HPP:=hq_ hp;clear hp hv
 go_enter Tryz.func57,Tryz.ntmps57
 go_wp2_with (go_at_call 99;refine (rd_ F v L p g lb eg _ HV.out hlen HPP.out).mono ?_;rintro e w1 ⟨i,rfl,hi,hb1⟩;have HI:=hq_ hi;clear hi)
 go_ret;exact ⟨ac_ HI.out,hb1⟩
theorem t5_ (v:Value) (l:List Int) (i:Nat) (k:Int) (hk:k=i) (w:World) (h:fu_ w v l) (hi:i≤100) :
  Calls Tryz.prog 56 #[v,.int .i64 k] w fun e w'=>e=.returned (.int .i64 (l.getD i 0))∧Below w.heap.size w w':=by
 subst hk;obtain ⟨⟨a1,c1,rfl,h3⟩,g2,g3⟩:=h
 by_cases hl:i<l.length
 ·rcases h3 with h3|⟨b,o,rfl,hc⟩
  ·rw [h3] at hl;simp at hl
  have hci:=hc i hl;have hr:=g3 _ (aa_ (d:=0) hl);have hiI:(i:Int)<l.length:=oq_;generalize l.getD i 0=x at *;clear hc g3
  go_enter Tryz.func56,Tryz.ntmps56
  go_wp2_with fail
  go_ret;exact ⟨rfl,xE⟩
 ·have hx:l.getD i 0=0:=by rw [List.getD_eq_getElem?_getD,List.getElem?_eq_none oq_];rfl
  have hiI:¬ (i:Int)<l.length:=oq_;rw [hx];clear h3 g3
  go_enter Tryz.func56,Tryz.ntmps56
  go_wp2_with fail
  go_ret;exact ⟨rfl,xE⟩
theorem fu_.rng0 (h:fu_ w v l) (i:Nat):0≤l.getD i 0∧l.getD i 0≤255:=by
 by_cases hl:i<l.length
 ·exact h.rng _ (aa_ (d:=0) hl)
 ·rw [List.getD_eq_getElem?_getD,List.getElem?_eq_none oq_];decide
theorem OwnI.kept_far (h:OwnI w base v l) (hg:w.grownBy w' row) (h1:∀ q,v.ownBlock=some q->q<B) (h2:∀ q,row=some q->B≤q):OwnI w' base v l:=h.kept hg (by
 by_cases hn:v.ownBlock=none
 ·exact .inl hn
 ·refine .inr fun e=>?_;obtain ⟨q,hq⟩:=Option.ne_none_iff_exists'.1 hn;have:=h1 q hq;have:=h2 q (e.symm.trans hq);omega)
theorem lb_ (v:Value) (l:List Int) (w:World) (h1:fu_ w v l) :
  Calls Tryz.prog 55 #[v] w fun e w'=>∃ (h c:Value) (p:Per),e=.returned (perV h c p.frm p.period)∧POx w' w.heap.size h c p∧p.WF∧p.frm≤8∧p.period≤12∧Below w.heap.size w w':=by
 have HAT:=fun W (i:Nat) (k:Int) (hk:k=i) (hi:i≤100) (hb:Below w.heap.size w W)=>t5_ v l i k hk W (h1.ext hb) hi;have r0:=h1.rng0 0;have r1:=h1.rng0 1;have r2:=h1.rng0 2;have r3:=h1.rng0 3;have r4:=h1.rng0 4;obtain ⟨⟨a1,c1,rfl,_⟩,g2,_⟩:=h1;have HA0:=fun W hb=>HAT W 0 0 rfl oq_ hb;have HA1:=fun W hb=>HAT W 1 1 rfl oq_ hb;have HA2:=fun W hb=>HAT W 2 2 rfl oq_ hb;have HA3:=fun W hb=>HAT W 3 3 rfl oq_ hb;have HA4:=fun W hb=>HAT W 4 4 rfl oq_ hb;generalize l.getD 0 0=x0 at *;generalize l.getD 1 0=x1 at *;generalize l.getD 2 0=x2 at *;generalize l.getD 3 0=x3 at *;generalize l.getD 4 0=x4 at *;clear HAT;have hA0:=Int.emod_nonneg x1 (show (9:Int)≠0 by omega);have hA1:=Int.emod_lt_of_pos x1 (show (0:Int)<9 by omega);have hT0:=Int.emod_nonneg x0 (show (12:Int)≠0 by omega);have hT1:=Int.emod_lt_of_pos x0 (show (0:Int)<12 by omega)
 go_enter Tryz.func55,Tryz.ntmps55
 go_wp2_with (go_at_call 56;first
  | ((with_reducible refine (HA1 _ xE).mono ?_);rintro e w1 ⟨rfl,hb1⟩;have hW1:Below w.heap.size w w1:=by exact xE)
  | ((with_reducible refine (HA0 _ xE).mono ?_);rintro e w2 ⟨rfl,hb2⟩;have hW2:Below w.heap.size w w2:=by exact xE)
  | ((with_reducible refine (HA2 _ xE).mono ?_);rintro e w3 ⟨rfl,hb3⟩;have hW3:Below w.heap.size w w3:=by exact xE)
  | ((with_reducible refine (HA3 _ xE).mono ?_);rintro e w4 ⟨rfl,hb4⟩;have hW4:Below w.heap.size w w4:=by exact xE))
 obtain ⟨b3,hb3e⟩:∃ b3,b3=w2.heap.size:=⟨_,rfl⟩;rw [<- hb3e];have hz2:=hb2.size;have hz3:=hb3.size;have hz4:=hb4.size;simp only [World.size_alloc] at hz2 hz3 hz4;have hz1:=hb1.size;simp only [World.size_alloc] at hz1;have hbx:Bxx w4 b3 #[.slice none 0 0,.int .i64 (x1 % 9),.int .i64 (1+x0 % 12),.slice none 0 0] 39:=((Bxx.at hb3e).below hb3).below hb4;have hrb:Bxx w4 w.heap.size #[.slice none 0 0,.int .i64 0,.int .i64 0,.slice none 0 0] 39:=((((Bxx.at (w:=w) rfl).below hb1).below hb2 |>.alloc _).below hb3).below hb4;have hb3l:w.heap.size<b3:=oq_;have hb3z:b3<w4.heap.size:=oq_;generalize x1 % 9=A at *;generalize x0 % 12=T0 at *;obtain ⟨N,hN⟩:∃ N:Nat,A=N:=⟨A.toNat,oq_⟩;subst hN;obtain ⟨T,hT⟩:∃ T:Nat,1+T0=T:=⟨(1+T0).toNat,oq_⟩;rw [hT] at hbx ⊢;have hTl:1≤T∧T≤12:=oq_;have hx23:0≤x2+256*x3∧x2+256*x3≤65535:=oq_;generalize x2+256*x3=bits at *;clear hT HA0 HA1 HA2 HA3 hb1 hb2 hb3 hb4 hW1 hW2 hW3 hb3e hz1 hz2 hz3 hz4;have HW4:=hq_ hW4;clear hW4
 go_loopw [5] (fun kv wr=>∃ (k:Nat) (cl:List Int) (a:Option Addr) (c:Nat),k≤T∧kv=.int .i64 k∧Hid (Rise 0 k cl)∧Hid (OwnI wr w4.heap.size (.slice a cl.length c) cl)∧Hid (Bxx wr b3 #[.slice none 0 0,.int .i64 N,.int .i64 T,.slice a cl.length c] 39)∧Hid (Bxx wr w.heap.size #[.slice none 0 0,.int .i64 0,.int .i64 0,.slice none 0 0] 39)∧Hid (Below w.heap.size w wr)∧w4.heap.size≤wr.heap.size) (fun kv _=>T-(intOf kv).toNat)
 case atStart=>exact ⟨0,[],none,0,oq_,rfl,hq_ Rise.nil,hq_ (OwnI.nil _ _),hq_ hbx,hq_ hrb,HW4,Nat.le_refl _⟩
 case round=>
  obtain ⟨k,cl,a,c,hk,rfl,HR,HO,HBX,HRB,HB,hz⟩:=hrel;obtain ⟨wo,hwo⟩:∃ wo,wo=wr:=⟨_,rfl⟩;subst hwo;have m0:=(HBX.out.cells 2).1;have m1:=(HBX.out.cells 3).1;have hlen:cl.length≤12:=by have:=HR.out.length_le oq_;omega
  by_cases hlt:k<T
  ·have hkI:(k:Int)<T:=oq_;go_wp2_with (at_builtin;(refine aj_ rq_ _ _ rq_ w4.heap.size (.slice a cl.length c) cl k rq_ (HO.out.ext (Ea (Er _) _)) _ _ rq_ sq_ ⟨oq_,oq_⟩ oq_ tq_ ?_;intro g cap w5 hown5 hgrow5 hbel5;have hbx5:=(HBX.out.alloc (.cells #[.int .i64 k] 3)).grown hgrow5 (fun e=>by have h7:=(HO.out.lt _ e.symm).1;omega);have hrb5:=(HRB.out.alloc (.cells #[.int .i64 k] 3)).grown hgrow5 (fun e=>by have h7:=(HO.out.lt _ e.symm).1;omega);have g0:=hbx5.cells 3;have hz5:=hgrow5.size;rw [World.size_alloc] at hz5;have HO5:=hq_ hown5;have HBX5:=hq_ hbx5;have HRB5:=hq_ hrb5;have HBE:=hq_ hbel5;clear hown5 hbx5 hrb5 hgrow5 hbel5))
   ·go_roundw
    case rel=>
     have e:(cl ++ [(k:Int)]).length=cl.length+1:=by simp
     refine ⟨k+1,cl ++ [(k:Int)],some ⟨g,0,none⟩,cap,oq_,by go_num,hq_ ⟨List.pairwise_append.2 ⟨HR.out.1,sq_,fun x hx y hy=>?_⟩,fun x hx=>?_⟩,hq_ ?_,hq_ ?_,hq_ ?_,hq_ ?_,?_⟩
     ·have h7:=HR.out.2 x hx;simp at hy;omega
     ·rcases List.mem_append.1 hx with h7|h7
      ·have:=HR.out.2 x h7;omega
      ·simp at h7;omega
     ·rw [e];exact HO5.out.kept_lt (fun q hq=>⟨Below.heap_setCell _ _ _ q (by have:=(HO5.out.lt q hq).1;show q≠b3;omega),sq_⟩)
     ·rw [e];exact a4_ 3 _ HBX5.out
     ·exact HRB5.out.setNe _ oq_
     ·exact ((HB.out.trans (((Ea (Er wo) _).mono HB.out.size))).trans (HBE.out.mono oq_)).setCell (p:=⟨b3,3,none⟩) (by show w.heap.size≤b3;omega) _
     ·simp;omega
    case measure=>simp [intOf];omega
   ·go_roundw
    case rel=>exact ⟨k+1,cl,a,c,oq_,by go_num,hq_ ⟨HR.out.1,fun x hx=>by have:=HR.out.2 x hx;omega⟩,HO,HBX,HRB,HB,hz⟩
    case measure=>simp [intOf];omega
  ·obtain rfl:k=T:=oq_;obtain ⟨W1,hW1⟩:∃ W1,W1=wo:=⟨_,rfl⟩;have hcl:=HO.out.lt;have HCO:Hid (OwnI wo w4.heap.size (.slice a cl.length c) cl):=HO;clear m1;go_wp2_with fail
   clear m0
   go_loopw [6] (fun kv wr=>∃ (j:Nat) (hl:List Int) (a':Option Addr) (c':Nat),j≤N∧kv=.int .i64 j∧Hid (Rise 0 j hl)∧Hid (OwnI wr wo.heap.size (.slice a' hl.length c') hl)∧Hid (OwnI wr w4.heap.size (.slice a cl.length c) cl)∧Hid (Bxx wr b3 #[.slice a' hl.length c',.int .i64 N,.int .i64 k,.slice a cl.length c] 39)∧Hid (Bxx wr w.heap.size #[.slice none 0 0,.int .i64 0,.int .i64 0,.slice none 0 0] 39)∧Hid (Below w.heap.size w wr)∧wo.heap.size≤wr.heap.size) (fun kv _=>N-(intOf kv).toNat)
   case atStart=>exact ⟨0,[],none,0,oq_,rfl,hq_ Rise.nil,hq_ (OwnI.nil _ _),HO,HBX,HRB,HB,Nat.le_refl _⟩
   case round=>
    obtain ⟨j,hl,a',c',hj,rfl,HR2,HO2,HCO2,HBX2,HRB2,HB2,hz2⟩:=hrel;obtain ⟨w7,hw7⟩:∃ w7,w7=wr:=⟨_,rfl⟩;subst hw7;have m0:=(HBX2.out.cells 1).1;have hlen2:hl.length≤12:=by have:=HR2.out.length_le oq_;omega
    by_cases hlt2:j<N
    ·have hjI:(j:Int)<N:=oq_;go_wp2_with (first|(go_at_call 56;(with_reducible refine (HA4 _ HB2.out).mono ?_);rintro e w8 ⟨rfl,hb8⟩;have hbx8:=HBX2.out.below hb8;have g1:=hbx8.cells 0;have hz8:=hb8.size;have HBX8:=hq_ hbx8;have HB8:=hq_ hb8;clear hbx8 hb8)|(at_builtin;(refine aj_ rq_ _ _ rq_ wo.heap.size (.slice a' hl.length c') hl j rq_ ((HO2.out.ext HB8.out).ext (Ea (Er _) _)) _ _ rq_ sq_ ⟨oq_,oq_⟩ oq_ tq_ ?_;intro g cap w5 hown5 hgrow5 hbel5;have hne:∀ q,(Value.slice a' hl.length c').ownBlock=some q->wo.heap.size≤q:=fun q e=>(HO2.out.lt _ e).1;have hbx5:=(HBX8.out.alloc (.cells #[.int .i64 j] 3)).grown hgrow5 (fun e=>by have h7:=hne _ e.symm;omega);have hrb5:=((HRB2.out.below HB8.out).alloc (.cells #[.int .i64 j] 3)).grown hgrow5 (fun e=>by have h7:=hne _ e.symm;omega);have hco5:=((HCO2.out.ext HB8.out).ext (Ea (Er _) (.cells #[.int .i64 j] 3))).kept_far hgrow5 (fun q hq=>(hcl q hq).2) hne;have g0:=hbx5.cells 0;have hz5:=hgrow5.size;rw [World.size_alloc] at hz5;have HO5:=hq_ hown5;have HCO5:=hq_ hco5;have HBX5:=hq_ hbx5;have HRB5:=hq_ hrb5;have HBE:=hq_ hbel5;clear hown5 hbx5 hrb5 hgrow5 hbel5 hco5)))
     ·go_roundw
      case rel=>
       have e:(hl ++ [(j:Int)]).length=hl.length+1:=by simp
       refine ⟨j+1,hl ++ [(j:Int)],some ⟨g,0,none⟩,cap,oq_,by go_num,hq_ ⟨List.pairwise_append.2 ⟨HR2.out.1,sq_,fun x hx y hy=>?_⟩,fun x hx=>?_⟩,hq_ ?_,hq_ ?_,hq_ ?_,hq_ ?_,hq_ ?_,?_⟩
       ·have h7:=HR2.out.2 x hx;simp at hy;omega
       ·rcases List.mem_append.1 hx with h7|h7
        ·have:=HR2.out.2 x h7;omega
        ·simp at h7;omega
       ·rw [e];exact HO5.out.kept_lt (fun q hq=>⟨Below.heap_setCell _ _ _ q (by have:=(HO5.out.lt q hq).1;show q≠b3;omega),sq_⟩)
       ·exact HCO5.out.kept_lt (fun q hq=>⟨Below.heap_setCell _ _ _ q (by have:=(HCO5.out.lt q hq).1;show q≠b3;omega),sq_⟩)
       ·rw [e];exact a4_ 0 _ HBX5.out
       ·exact HRB5.out.setNe _ oq_
       ·exact (((HB2.out.trans (HB8.out.mono HB2.out.size)).trans (((Ea (Er w8) _).mono (by have:=HB2.out.size;omega)))).trans (HBE.out.mono oq_)).setCell (p:=⟨b3,0,none⟩) (by show w.heap.size≤b3;omega) _
       ·simp;omega
      case measure=>simp [intOf];omega
     ·go_roundw
      case rel=>exact ⟨j+1,hl,a',c',oq_,by go_num,hq_ ⟨HR2.out.1,fun x hx=>by have:=HR2.out.2 x hx;omega⟩,hq_ (HO2.out.ext HB8.out),hq_ (HCO2.out.ext HB8.out),HBX8,hq_ (HRB2.out.below HB8.out),hq_ (HB2.out.trans (HB8.out.mono HB2.out.size)),oq_⟩
      case measure=>simp [intOf];omega
    ·obtain rfl:j=N:=oq_;have g0:=HBX2.out.cells 0;have g1:=HBX2.out.cells 1;have g2:=HBX2.out.cells 2;have g3:=HBX2.out.cells 3;have q0:=HRB2.out.cells 0;have q1:=HRB2.out.cells 1;have q2:=HRB2.out.cells 2;have q3:=HRB2.out.cells 3;go_wp2_with fail
     exact bodyPost_ret (v:=perV (.slice a' hl.length c') (.slice a cl.length c) j k) (by simp [results,Tryz.results55,go_sem, *]) rfl ⟨_,_,⟨hl,j,k,cl⟩,rfl,⟨(HO2.out.above (by (repeat' (with_reducible first|exact a7_.refl _ _|refine a7_.alloc ?_ _|refine a7_.drew ?_|refine a7_.drewN ?_ _|refine a7_.setCell ?_ (by first|(simp;done)|(simp;omega)|omega) _)))).mono oq_,(HCO2.out.above (by (repeat' (with_reducible first|exact a7_.refl _ _|refine a7_.alloc ?_ _|refine a7_.drew ?_|refine a7_.drewN ?_ _|refine a7_.setCell ?_ (by first|(simp;done)|(simp;omega)|omega) _)))).mono oq_⟩,⟨by show (0:Int)≤j;omega,by show (1:Int)≤k;omega,HR2.out,HR.out⟩,by show (j:Int)≤8;omega,by show (k:Int)≤12;omega,by have:=HB2.out;exact xE⟩
def hasB (p:Per) (n:Int):Bool:=validB p && decide (0≤n) && memB p n
def inB (t:List Per) (n:Int):Bool:=t.all fun p=>hasB p n
def br_ (t:List Per):Bool:=decide (1≤t.length) && decide (t.length≤4) && t.all validB
def bj_ (m:List (List Per)):Bool:=decide (m.length≤64) && m.all br_
theorem px_ {α:Type} (l:List α) (p:α->Bool):(!l.any fun x=>!p x)=l.all p:=by
 induction l with
 | nil=>rfl
 | cons a l ih=>simp only [List.any_cons,List.all_cons,<- ih];cases p a <;> simp
theorem wr_ (F:Nat->Prop) (x:PV) (n:Int) (db:Nat) (w:World) (hx:PVok w F x) (hc:w.cell? ⟨db,0,none⟩=some (.int .i64 n)) (hn:InI n) :
  Calls Tryz.prog 100 #[x.val,.pointer (some ⟨db,0,none⟩)] w fun e w'=>e=.returned (.bool (!hasB x.p n))∧Below w.heap.size w w':=by
 have H:=fun W (h:Below w.heap.size w W)=>vx_ x.h x.c x.p n W (hx.is.ext h) hn;have hlt:=World.block_lt_of_cell? w _ hc;have e0:∀ o,(w.alloc o).cell? ⟨db,0,none⟩=some (.int .i64 n):=fun o=>ag_ hc o;change ∀ W,_->Calls _ _ _ _ fun e w'=>e=.returned (.bool (hasB x.p n))∧_ at H;clear hc hx;generalize hasB x.p n=b at H ⊢
 go_enter Tryz.func100,Tryz.ntmps100
 go_wp2_with (go_at_call 43;refine (H _ xE).mono ?_;rintro e w1 ⟨rfl,hb1⟩)
 go_ret;exact ⟨rfl,xE⟩
theorem uv_ (F:Nat->Prop) (L:List PV) (n:Int) (db:Nat) (w:World) (hL:∀ x∈L,PVok w F x) (hc:w.cell? ⟨db,0,none⟩=some (.int .i64 n)) (hn:InI n) :
  mw_ 100 #[.pointer (some ⟨db,0,none⟩)] L (fun x=>!hasB x.p n) w:=fun W x hW hx=>by
 have h:=wr_ F x n db W ((hL x hx).keep (a5_.below hW)) (Ext.cell hW hc) hn;have e:(#[x.val] ++ #[Value.pointer (some ⟨db,0,none⟩)])=#[x.val,.pointer (some ⟨db,0,none⟩)]:=by simp
 rw [e];exact h.mono fun e w' ⟨h1,h2⟩=>⟨h1,hW.trans (h2.mono hW.size)⟩
theorem x7_ (F:Nat->Prop) (v:Value) (t:List Per) (n:Int) (w:World) (ht:ab_ w F v t) (hn:InI n) :
  Calls Tryz.prog 59 #[v,.int .i64 n] w fun e w'=>e=.returned (.bool (inB t n))∧Below w.heap.size w w':=by
 obtain ⟨L,rfl,hL⟩:=ht;have hb0:Below w.heap.size w (w.alloc (.cells #[.int .i64 n] 3)):=by exact xE
 have h0:=i3_ F v L (fun x=>!hasB x.p n) 100 #[.pointer (some ⟨w.heap.size,0,none⟩)] (enters_of Tryz.func100 (by kernel_rfl) rfl) (w.alloc (.cells #[.int .i64 n] 3)) (hL.row.keep (a5_.below hb0) hb0.size) hL.len
  (uv_ F L n w.heap.size _ (fun x hx=>(hL.all x hx).keep (a5_.below hb0)) sq_ hn)
 have he:inB (L.map PV.p) n=!(L.any fun x=>!hasB x.p n):=by rw [px_];unfold inB;rw [List.all_map];rfl
 rw [he];clear hL he hb0;generalize (L.any fun x=>!hasB x.p n)=b at h0 ⊢
 go_enter Tryz.func59,Tryz.ntmps59
 go_wp2_with (go_at_call 63;refine h0.mono ?_;rintro e w1 ⟨rfl,hb1⟩)
 go_ret;exact ⟨rfl,xE⟩
theorem rz_ (F:Nat->Prop) (x:PV) (w:World) (hx:PVok w F x) :
  Calls Tryz.prog 64 #[x.val] w fun e w'=>e=.returned (.bool (!validB x.p))∧Below w.heap.size w w':=by
 have H:=fun W (h:Below w.heap.size w W)=>cd_ x.h x.c x.p W (hx.is.ext h);clear hx;generalize validB x.p=b at H ⊢
 go_enter Tryz.func64,Tryz.ntmps64
 go_wp2_with (go_at_call 65;refine (H _ xE).mono ?_;rintro e w1 ⟨rfl,hb1⟩)
 go_ret;exact ⟨rfl,xE⟩
theorem pm_ (F:Nat->Prop) (L:List PV) (w:World) (hL:∀ x∈L,PVok w F x):mw_ 64 #[] L (fun x=>!validB x.p) w:=fun W x hW hx=>by
 have h:=rz_ F x W ((hL x hx).keep (a5_.below hW));have e:(#[x.val] ++ (#[]:Array Value))=#[x.val]:=by simp
 rw [e];exact h.mono fun e w' ⟨h1,h2⟩=>⟨h1,hW.trans (h2.mono hW.size)⟩
theorem um_ (F:Nat->Prop) (v:Value) (t:List Per) (w:World) (ht:ab_ w F v t) :
  Calls Tryz.prog 63 #[v,.func (.func 64) #[] #[]] w fun e w'=>e=.returned (.bool (!t.all validB))∧Below w.heap.size w w':=by
 obtain ⟨L,rfl,hL⟩:=ht;have h:=i3_ F v L (fun x=>!validB x.p) 64 #[] (enters_of Tryz.func64 (by kernel_rfl) rfl) w hL.row hL.len (pm_ F L w hL.all);have he:(!(L.map PV.p).all validB)=L.any fun x=>!validB x.p:=by
  rw [List.all_map,<- Bool.not_not (L.any _),px_];rfl
 rw [he];exact h
theorem hc_ {α:Type} {l:List α} {d:α} {p:α->Bool} (h:k<l.length):(l.take (k+1)).all p=((l.take k).all p && p (l.getD k d)):=by
 rw [List.take_succ_eq_append_getElem h,List.all_append,List.getD_eq_getElem?_getD,List.getElem?_eq_getElem h];simp
theorem all_false {α:Type} {l:List α} {d:α} {p:α->Bool} (h:k<l.length) (hp:p (l.getD k d)=false):l.all p=false:=by
 rw [List.all_eq_false];exact ⟨_,aa_ (d:=d) h,by rw [hp];decide⟩
theorem ab_.form {F:Nat->Prop} (h:ab_ W F v t):∃ a c,v=.slice a t.length c∧t.length≤17592186044416:=by
 obtain ⟨L,rfl,hL⟩:=h;obtain ⟨a,c,rfl,_⟩:=hL.row;exact ⟨a,c,by rw [List.length_map],by rw [List.length_map];exact hL.len⟩
theorem MixL.get {F:Nat->Prop} {a:Option Addr} {n:Nat} {L:List (Value × List Per)} (h:MixL w F (.slice a n c) L) (hk:k<L.length) :
  ∃ b o tv,a=some ⟨b,o,none⟩∧w.cell? ⟨b,o+k,none⟩=some tv∧ab_ w F tv ((L.map Prod.snd).getD k []):=by
 obtain ⟨a',c',he,h1,h2,h3⟩:=h.row;injection he with e1 _ e2
 subst e1;subst e2;rcases h3 with h3|⟨b,o,rfl,hF,hl,hc⟩
 ·omega
 ·refine ⟨b,o,(L.getD k default).1,rfl,hc k _ ?_,?_⟩
  ·rw [List.getElem?_map,List.getD_eq_getElem?_getD,List.getElem?_eq_getElem hk];rfl
  ·have:=h.all _ (aa_ (d:=default) hk);rw [show (L.map Prod.snd).getD k []=(L.getD k default).2 by simp [List.getD_eq_getElem?_getD,hk]];exact this
theorem bh_ (F:Nat->Prop) (v:Value) (m:List (List Per)) (w:World) (hm:MixR w F v m) :
  Calls Tryz.prog 18 #[.agg #[v]] w fun e w'=>e=.returned (.bool (bj_ m))∧Below w.heap.size w w':=by
 obtain ⟨L,hLm,hL⟩:=hm;obtain ⟨a,c,rfl,_⟩:=hL.row;have HL:=hq_ hL;have hlen:=hL.len;have hml:m.length=L.length:=by rw [<- hLm];exact List.length_map _
 have HLM:=hq_ hLm;have HM:=hq_ hml;clear hL hLm hml
 go_enter Tryz.func18,Tryz.ntmps18
 go_wp2_with fail
 ·rename_i hgt;go_ret;refine ⟨ac_ ?_,xE⟩;have:=HM.out;unfold bj_;rw [decide_eq_false oq_];rfl
 ·rename_i hgt
  go_loopw [4,12] (fun _ i wr=>∃ k:Nat,k≤L.length∧i=.int .i64 k∧(m.take k).all br_=true∧Below w.heap.size w wr) (fun _ i _=>L.length-(intOf i).toNat)
  case atStart=>exact ⟨0,oq_,rfl,rfl,xE⟩
  case round=>
   obtain ⟨k,hk,rfl,hpre,hb⟩:=hrel;have HB:=hq_ hb;have HPRE:=hq_ hpre;clear hpre
   by_cases hlt:k<L.length
   ·have hlI:(k:Int)<L.length:=oq_;obtain ⟨b8,f8,tv,rfl,hcell,hT⟩:=(HL.out.keep (a5_.below hb) hb.size).get hlt;rw [HLM.out] at hT;have HT:=hq_ hT;have HSU:Hid ((m.take (k+1)).all br_=((m.take k).all br_ && br_ (m.getD k []))):=hq_ (hc_ (by have:=HM.out;omega));have HF:Hid (br_ (m.getD k [])=false->bj_ m=false):=hq_ fun h=>by unfold bj_;rw [all_false (d:=[]) (by have:=HM.out;omega) h,Bool.and_false]
    generalize m.getD k []=t at *;obtain ⟨a2,c2,rfl,ht44⟩:=hT.form;have HBT:=fun W h=>um_ F _ t W (HT.out.ext h);clear hT
    by_cases h1:t.length<1
    ·have h1I:(t.length:Int)<1:=oq_;go_wp2_with fail
     go_ret;refine ⟨ac_ (HF.out ?_).symm,HB.out⟩;unfold br_;rw [decide_eq_false oq_];rfl
    ·by_cases h2:4<t.length
     ·have h2I:4<(t.length:Int):=oq_;go_wp2_with fail
      go_ret;refine ⟨ac_ (HF.out ?_).symm,HB.out⟩;unfold br_;rw [decide_eq_false (p:=t.length≤4) oq_,Bool.and_false];rfl
     ·have h1I:¬ (t.length:Int)<1:=oq_;have h2I:¬ 4<(t.length:Int):=oq_;cases hq:t.all validB with
      | false=>
       rw [hq] at HBT;have HQ:=hq_ hq;clear hq;go_wp2_with (go_at_call 63;refine (HBT _ xE).mono ?_;rintro e w1 ⟨rfl,hb1⟩)
       go_ret;refine ⟨ac_ (HF.out ?_).symm,xE⟩;unfold br_;rw [HQ.out,Bool.and_false]
      | true=>
       rw [hq] at HBT;have HQ:=hq_ hq;clear hq;go_wp2_with (go_at_call 63;refine (HBT _ xE).mono ?_;rintro e w1 ⟨rfl,hb1⟩)
       go_roundw
       case rel=>
        refine ⟨k+1,oq_,by go_num,?_,xE⟩;rw [HSU.out,HPRE.out];unfold br_;rw [HQ.out,decide_eq_true oq_,decide_eq_true oq_];rfl
       case measure=>simp [intOf];omega
   ·obtain rfl:k=L.length:=oq_;go_wp2_with fail
    go_ret;refine ⟨ac_ ?_,HB.out⟩;have:=HPRE.out;rw [<- HM.out,List.take_length] at this;unfold bj_;rw [this,decide_eq_true (by have:=HM.out;omega)];rfl
end Go.Proofs.YthjnojbeimchdaaGreat
namespace Kal
theorem p1_ {a b d:Nat} (hd0:0<d) (hd:d∣Nat.lcm a b):d∣Nat.lcm (Nat.gcd d a) (Nat.gcd d b):=by
 have hg:0<Nat.gcd (Nat.gcd d a) (Nat.gcd d b):=Nat.gcd_pos_of_pos_left _ (Nat.gcd_pos_of_pos_left _ hd0);have e1:Nat.gcd (Nat.gcd d a) (Nat.gcd d b)*Nat.lcm (Nat.gcd d a) (Nat.gcd d b)=Nat.gcd d a*Nat.gcd d b:=Nat.gcd_mul_lcm _ _;refine Nat.dvd_of_mul_dvd_mul_left hg ?_;rw [e1];have g1:Nat.gcd (Nat.gcd d a) (Nat.gcd d b)∣d:=Nat.dvd_trans (Nat.gcd_dvd_left _ _) (Nat.gcd_dvd_left _ _);have g2:Nat.gcd (Nat.gcd d a) (Nat.gcd d b)∣a:=Nat.dvd_trans (Nat.gcd_dvd_left _ _) (Nat.gcd_dvd_right _ _);have g3:Nat.gcd (Nat.gcd d a) (Nat.gcd d b)∣b:=Nat.dvd_trans (Nat.gcd_dvd_right _ _) (Nat.gcd_dvd_right _ _);generalize Nat.gcd (Nat.gcd d a) (Nat.gcd d b)=g at *;rw [<- Nat.gcd_mul_left];refine Nat.dvd_gcd ?_ ?_
 ·rw [Nat.mul_comm (Nat.gcd d a),Nat.mul_comm g];exact Nat.mul_dvd_mul_left _ (Nat.dvd_gcd g1 g2)
 ·rw [<- Nat.gcd_mul_right];refine Nat.dvd_gcd ?_ ?_
  ·rw [Nat.mul_comm g];exact Nat.mul_dvd_mul_left _ g3
  ·have h:=Nat.mul_dvd_mul (Nat.dvd_gcd g2 g3) hd;rwa [Nat.gcd_mul_lcm] at h
def lcmL (l:List Nat):Nat:=l.foldr Nat.lcm 1
theorem k3_:∀ {l:List Nat},(∀ a∈l,0<a)->0<lcmL l
 | [],_=>by decide
 | a :: l,h=>Nat.lcm_pos (h a sq_) (k3_ fun b hb=>h b (by simp [hb]))
theorem k2_:∀ {l:List Nat} {a:Nat},a∈l->a∣lcmL l
 | b :: l,a,h=>by
  rcases List.mem_cons.1 h with rfl|h
  ·exact Nat.dvd_lcm_left _ _
  ·exact Nat.dvd_trans (k2_ h) (Nat.dvd_lcm_right _ _)
theorem ix_ {m z:Nat} (hm:0<m):∀ {l:List Nat},(∀ a∈l,Nat.gcd m a∣z)->Nat.gcd m (lcmL l)∣z
 | [],_=>by simp [lcmL]
 | a :: l,h=>by
  have ih:=ix_ hm (l:=l) fun b hb=>h b (by simp [hb]);have ha:=h a sq_;have hd0:0<Nat.gcd m (lcmL (a :: l)):=Nat.gcd_pos_of_pos_left _ hm;have hd:Nat.gcd m (lcmL (a :: l))∣Nat.lcm a (lcmL l):=Nat.gcd_dvd_right _ _;have hdm:Nat.gcd m (lcmL (a :: l))∣m:=Nat.gcd_dvd_left _ _;generalize Nat.gcd m (lcmL (a :: l))=d at *;refine Nat.dvd_trans (p1_ hd0 hd) (Nat.lcm_dvd (Nat.dvd_trans ?_ ha) (Nat.dvd_trans ?_ ih))
  ·exact Nat.dvd_gcd (Nat.dvd_trans (Nat.gcd_dvd_left _ _) hdm) (Nat.gcd_dvd_right _ _)
  ·exact Nat.dvd_gcd (Nat.dvd_trans (Nat.gcd_dvd_left _ _) hdm) (Nat.gcd_dvd_right _ _)
theorem bq_ {m:Int} (h:x % m=y % m):m∣x-y:=Int.dvd_of_emod_eq_zero (Int.emod_eq_emod_iff_emod_sub_eq_zero.1 h)
theorem bp_ {m:Int} (h:m∣x-y):x % m=y % m:=Int.emod_eq_emod_iff_emod_sub_eq_zero.2 (Int.emod_eq_zero_of_dvd h)
theorem oo_:∀ (l:List (Int × Int)),(∀ x∈l,1≤x.1)->l.Pairwise (fun x y=>((Int.gcd x.1 y.1:Nat):Int)∣x.2-y.2)->∃ n:Int,∀ x∈l,n % x.1=x.2 % x.1
 | [],_,_=>⟨0,sq_⟩
 | (m,r) :: l,h,hp=>by
  obtain ⟨n,hn⟩:=oo_ l (fun x hx=>h x (by simp [hx])) (List.pairwise_cons.1 hp).2;have hm:1≤m:=h (m,r) sq_;have hL:0<lcmL (l.map fun x=>x.1.natAbs):=k3_ fun a ha=>by
   obtain ⟨x,hx,rfl⟩:=List.mem_map.1 ha;have:=h x (by simp [hx]);omega
  have key:Nat.gcd m.natAbs (lcmL (l.map fun x=>x.1.natAbs))∣(r-n).natAbs:=ix_ oq_ fun a ha=>by
   obtain ⟨x,hx,rfl⟩:=List.mem_map.1 ha;have h1:((Int.gcd m x.1:Nat):Int)∣r-x.2:=(List.pairwise_cons.1 hp).1 x hx;have h2:x.1∣n-x.2:=bq_ (hn x hx);have h3:((Int.gcd m x.1:Nat):Int)∣n-x.2:=Int.dvd_trans (Int.gcd_dvd_right _ _) h2;have h4:((Int.gcd m x.1:Nat):Int)∣r-n:=by
    have:=Int.dvd_sub h1 h3;rwa [show r-x.2-(n-x.2)=r-n from by omega] at this
   exact Int.natCast_dvd_natCast.1 (Int.dvd_natAbs.2 h4)
  have key2:r % (Int.gcd m (lcmL (l.map fun x=>x.1.natAbs)):Nat)=n % (Int.gcd m (lcmL (l.map fun x=>x.1.natAbs)):Nat):=bp_ (Int.dvd_natAbs.1 (Int.natCast_dvd_natCast.2 (by simpa [Int.gcd] using key)));obtain ⟨v,hv⟩:∃ v,fw_ r m n (lcmL (l.map fun x=>x.1.natAbs)) v:=⟨_,eg_ hm oq_ key2⟩;refine ⟨v,fun x hx=>?_⟩;rcases List.mem_cons.1 hx with rfl|hx
  ·exact hv.2.2.1
  ·rw [<- hn x hx];have h5:((lcmL (l.map fun x=>x.1.natAbs):Nat):Int)∣v-n:=bq_ hv.2.2.2;have h6:x.1∣((lcmL (l.map fun x=>x.1.natAbs):Nat):Int):=by
    have h7:x.1.natAbs∣lcmL (l.map fun x=>x.1.natAbs):=k2_ (List.mem_map.2 ⟨x,hx,rfl⟩);exact Int.natAbs_dvd.1 (Int.natCast_dvd_natCast.2 h7)
   exact bp_ (Int.dvd_trans h6 h5)
def tmem (t:List Per) (n:Int):Prop:=∀ p∈t,p.mem n
def mmem (m:List (List Per)) (n:Int):Prop:=∃ t∈m,tmem t n
def c6_ (a:Int) (t:List Per):Int:=t.foldl (fun a p=>max a p.frm) a
def ba_ (t:List Per):Int:=c6_ 0 t
theorem lx_:∀ (t:List Per) (a:Int),a≤c6_ a t∧∀ p∈t,p.frm≤c6_ a t
 | [],a=>⟨Int.le_refl _,sq_⟩
 | q :: t,a=>by
  obtain ⟨h1,h2⟩:=lx_ t (max a q.frm);refine ⟨by show a≤c6_ (max a q.frm) t;omega,fun p hp=>?_⟩;show p.frm≤c6_ (max a q.frm) t;rcases List.mem_cons.1 hp with rfl|hp
  ·omega
  ·exact h2 p hp
theorem is_:∀ (t:List Per) (a:Int),c6_ a t=a∨∃ p∈t,c6_ a t=p.frm
 | [],a=>.inl rfl
 | q :: t,a=>by
  rcases is_ t (max a q.frm) with h|⟨p,hp,h⟩
  ·by_cases hq:q.frm≤a
   ·left;show c6_ (max a q.frm) t=a;omega
   ·right;exact ⟨q,sq_,by show c6_ (max a q.frm) t=q.frm;omega⟩
  ·exact .inr ⟨p,by simp [hp],h⟩
theorem fg_:0≤ba_ t∧∀ p∈t,p.frm≤ba_ t:=lx_ t 0
theorem lv_ {b:Int} (h0:a≤b) (h:∀ p∈t,p.frm≤b):c6_ a t≤b:=by
 rcases is_ t a with h1|⟨p,hp,h1⟩
 ·omega
 ·have:=h p hp;omega
def resP (p:Per) (c:Int):Int:=(p.frm % p.period+c) % p.period
theorem ht_ (h:p.WF) (hn:p.frm≤n):p.mem n↔∃ c∈p.cycle,n % p.period=resP p c:=by
 have h0:=h.frm;have h1:=h.per;rw [Per.mem_hi oq_ hn];constructor
 ·intro hm;refine ⟨_,hm,?_⟩;unfold resP;rw [<- Int.add_emod,show p.frm+(n-p.frm)=n from by omega]
 ·rintro ⟨c,hc,he⟩;have hb:=h.cyc.2 c hc;unfold resP at he;rw [show (p.frm % p.period+c) % p.period=(p.frm+c) % p.period from by rw [Int.add_emod,Int.emod_emod,<- Int.add_emod]] at he;have hd:(n-p.frm) % p.period=c:=by
   have h2:p.period∣n-(p.frm+c):=bq_ he;have h3:(n-p.frm) % p.period=c % p.period:=bp_ (by rw [show n-p.frm-c=n-(p.frm+c) from by omega];exact h2);rw [h3,Int.emod_eq_of_lt hb.1 hb.2]
  rw [hd];exact hc
theorem h2_ (h:p.WF) (c:Int):0≤resP p c∧resP p c<p.period:=
 ⟨Int.emod_nonneg _ (by have:=h.per;omega),Int.emod_lt_of_pos _ (by have:=h.per;omega)⟩
def fr_ (done:List (Int × Int)) (P r:Int):Prop:=∀ x∈done,(r-x.2) % ((Int.gcd P x.1:Nat):Int)=0
def Ext:List (Int × Int)->List Per->Prop
 | _,[]=>True
 | done,p :: t=>∃ c∈p.cycle,fr_ done p.period (resP p c)∧Ext (done ++ [(p.period,resP p c)]) t
theorem su_:∀ (t:List Per) (done:List (Int × Int)),(∀ x∈done,x.2=n % x.1)->(∀ p∈t,p.WF∧p.frm≤n∧p.mem n)->Ext done t
 | [],_,_,_=>trivial
 | p :: t,done,hd,ht=>by
  obtain ⟨hw,hf,hm⟩:=ht p sq_;obtain ⟨c,hc,he⟩:=(ht_ hw hf).1 hm;refine ⟨c,hc,fun x hx=>?_,su_ t _ (fun x hx=>?_) (fun q hq=>ht q (by simp [hq]))⟩
  ·rw [hd x hx,<- he];have h1:((Int.gcd p.period x.1:Nat):Int)∣n % p.period-n:=by
    have:=Int.emod_add_mul_ediv n p.period;refine Int.dvd_trans (Int.gcd_dvd_left _ _) ⟨-(n / p.period),?_⟩;rw [Int.mul_neg];omega
   have h2:((Int.gcd p.period x.1:Nat):Int)∣n % x.1-n:=by
    have:=Int.emod_add_mul_ediv n x.1;refine Int.dvd_trans (Int.gcd_dvd_right _ _) ⟨-(n / x.1),?_⟩;rw [Int.mul_neg];omega
   have:=Int.dvd_sub h1 h2;exact Int.emod_eq_zero_of_dvd (by rwa [show n % p.period-n-(n % x.1-n)=n % p.period-n % x.1 from by omega] at this)
  ·rcases List.mem_append.1 hx with hx|hx
   ·exact hd x hx
   ·obtain rfl:x=(p.period,resP p c):=by simpa using hx
    exact he.symm
theorem sp_:∀ (t:List Per) (done:List (Int × Int)),Ext done t->done.Pairwise (fun x y=>((Int.gcd x.1 y.1:Nat):Int)∣x.2-y.2)->(∀ x∈done,1≤x.1)->(∀ p∈t,1≤p.period)->
  ∃ L:List (Int × Int),L.Pairwise (fun x y=>((Int.gcd x.1 y.1:Nat):Int)∣x.2-y.2)∧(∀ x∈L,1≤x.1)∧(∀ x∈done,x∈L)∧∀ p∈t,∃ c∈p.cycle,(p.period,resP p c)∈L
 | [],done,_,hp,h1,_=>⟨done,hp,h1,fun x hx=>hx,sq_⟩
 | p :: t,done,⟨c,hc,ha,he⟩,hp,h1,h2=>by
  obtain ⟨L,l1,l2,l3,l4⟩:=sp_ t _ he (List.pairwise_append.2 ⟨hp,List.pairwise_singleton _ _,fun x hx y hy=>by
   obtain rfl:y=(p.period,resP p c):=by simpa using hy
   have h3:=Int.dvd_of_emod_eq_zero (ha x hx);rw [Int.gcd_comm];have h4:=Int.dvd_neg.2 h3;rwa [show -(resP p c-x.2)=x.2-resP p c from by omega] at h4⟩) (fun x hx=>by
   rcases List.mem_append.1 hx with hx|hx
   ·exact h1 x hx
   ·obtain rfl:x=(p.period,resP p c):=by simpa using hx
    exact h2 p sq_) (fun q hq=>h2 q (by simp [hq]))
  refine ⟨L,l1,l2,fun x hx=>l3 x (by simp [hx]),fun q hq=>?_⟩;rcases List.mem_cons.1 hq with rfl|hq
  ·exact ⟨c,hc,l3 _ sq_⟩
  ·exact l4 q hq
def recT (t:List Per):Prop:=∃ n,ba_ t≤n∧tmem t n
theorem ls_ (hw:∀ p∈t,p.WF):Ext [] t↔recT t:=by
 constructor
 ·intro h;obtain ⟨L,l1,l2,_,l4⟩:=sp_ t [] h List.Pairwise.nil sq_ (fun p hp=>(hw p hp).per);obtain ⟨n,hn⟩:=oo_ L l2 l1;have hL:0<lcmL (L.map fun x=>x.1.natAbs):=k3_ fun a ha=>by
   obtain ⟨x,hx,rfl⟩:=List.mem_map.1 ha;have:=l2 x hx;omega
  obtain ⟨k,hk,_⟩:=fq_ (lcmL (L.map fun x=>x.1.natAbs)) (ba_ t-n) oq_;refine ⟨n+k*(lcmL (L.map fun x=>x.1.natAbs):Nat),oq_,fun p hp=>?_⟩;have hs:=(fg_ (t:=t)).2 p hp;obtain ⟨c,hc,hm⟩:=l4 p hp;refine (ht_ (hw p hp) oq_).2 ⟨c,hc,?_⟩;have h1:=hn _ hm;have h2:p.period∣((lcmL (L.map fun x=>x.1.natAbs):Nat):Int):=by
   have h7:p.period.natAbs∣lcmL (L.map fun x=>x.1.natAbs):=k2_ (List.mem_map.2 ⟨_,hm,rfl⟩);exact Int.natAbs_dvd.1 (Int.natCast_dvd_natCast.2 h7)
  have h3:=h2_ (hw p hp) c;rw [Int.emod_eq_of_lt h3.1 h3.2] at h1;rw [<- h1];exact bp_ (by rw [show n+(k:Int)*(lcmL (L.map fun x=>x.1.natAbs):Nat)-n=k*(lcmL (L.map fun x=>x.1.natAbs):Nat) from by omega];exact Int.dvd_trans h2 (Int.dvd_mul_left _ _))
 ·rintro ⟨n,h1,h2⟩;exact su_ t [] sq_ fun p hp=>⟨hw p hp,by have:=(fg_ (t:=t)).2 p hp;omega,h2 p hp⟩
theorem jb_ (hne:t≠[]) (h:tmem t n):0≤n:=by
 cases t with
 | nil=>exact absurd rfl hne
 | cons p t=>exact (h p sq_).1
theorem qv_ (hne:t≠[]) (h:tmem t n) (hn:n<ba_ t):∃ p∈t,n∈p.head:=by
 have h0:=jb_ hne h;rcases is_ t 0 with h1|⟨p,hp,h1⟩
 ·have:ba_ t=0:=h1;omega
 ·have h2:ba_ t=p.frm:=h1;exact ⟨p,hp,(Per.mem_lo h0 oq_).1 (h p hp)⟩
theorem ry_ (hw:∀ p∈t,p.WF) (hp:p∈t) (h:n∈p.head):n<ba_ t:=by
 have h1:=(hw p hp).head.2 n h;have h2:=(fg_ (t:=t)).2 p hp;omega
def bt_ (t:List Per):Prop:=∀ n,¬ tmem t n
theorem rh_:bt_ t↔(∀ n,n<ba_ t->¬ tmem t n)∧¬ recT t:=by
 constructor
 ·exact fun h=>⟨fun n _=>h n,fun ⟨n,_,hn⟩=>h n hn⟩
 ·rintro ⟨h1,h2⟩ n hn
  by_cases h:n<ba_ t
  ·exact h1 n h hn
  ·exact h2 ⟨n,oq_,hn⟩
instance:Inhabited Per:=⟨⟨[],0,0,[]⟩⟩
noncomputable def canonC (S:Int->Prop):Per:=Classical.epsilon fun c=>a6_ c S
theorem gv_ {S:Int->Prop} (h:∃ c,a6_ c S):a6_ (canonC S) S:=Classical.epsilon_spec h
theorem d7_ {S:Int->Prop} {c:Per} (h:a6_ c S):canonC S=c:=(gv_ ⟨c,h⟩).unique h
theorem h3_ {S:Int->Prop} (hf:0≤f) (hd:1≤d) (hS0:∀ n,S n->0≤n) (hp:am_ S f d):∃ c,a6_ c S:=by
 have h:=f4_ (S:=S) (f:=f) (d:=d) (hl:=sel S 0 f) (cl:=sel (fun n=>S (f+n)) 0 d) hf hd hS0 hp (ad_ (Int.le_refl _)) (ad_ (Int.le_refl _))
  (fun n h1 h2=>by rw [ae_ (Int.le_refl _)];exact ⟨fun h=>h.2.2,fun h=>⟨h1,h2,h⟩⟩) (fun n h1 h2=>by rw [ae_ (Int.le_refl _)];exact ⟨fun h=>h.2.2,fun h=>⟨h1,h2,h⟩⟩)
 obtain ⟨q,hq⟩:=if_ h.1;exact ⟨q,hq.congr h.2⟩
structure Fac (s:Int) (p:Per):Prop where
 wf:p.WF
 low:∀ n,p.mem n->s≤n
 frm:p.frm≤s+9
 dvd:p.period∣27720
theorem Fac.per (h:Fac s p):p.period≤27720:=Int.le_of_dvd dq_ h.dvd
theorem ie_ {S:Int->Prop} {c:Per} (h:a6_ c S) (hlow:∀ n,S n->s≤n) (hf:0≤f) (hfs:f≤s+9) (hd:1≤d) (hdv:d∣27720) (hp:am_ S f d):Fac s c:=
 ⟨h.wf,fun n hn=>hlow n ((h.mem n).1 hn),Int.le_trans (h.frm_le hf hd hp) hfs,Int.dvd_trans (h.dvd hd hp.ev) hdv⟩
theorem Fac.canon (h:Fac s p):a6_ (canonC p.mem) p.mem∧Fac s (canonC p.mem):=by
 have h1:=gv_ (if_ h.wf);exact ⟨h1,ie_ h1 h.low h.wf.frm h.frm h.wf.per h.dvd h.wf.pfrom⟩
theorem Fac.op (hp:Fac s p) (hq:Fac s q) {U:Int->Prop} (g:Prop->Prop->Prop) (hU:∀ n,U n↔g (p.mem n) (q.mem n)) (hlow:∀ n,U n->s≤n) (h0:∀ n,U n->0≤n):a6_ (canonC U) U∧Fac s (canonC U)∧am_ U (max p.frm q.frm) (lcmI p.period q.period)∧lcmI p.period q.period∣27720:=by
 have a1:=hp.wf.per;have b1:=hq.wf.per;have f1:=hp.wf.frm;have hl:=c7_ a1 b1;have hdv:lcmI p.period q.period∣27720:=by
  rw [q7_ a1 b1];have h1:p.period.natAbs∣27720:=Int.natAbs_dvd_natAbs.2 hp.dvd;have h2:q.period.natAbs∣27720:=Int.natAbs_dvd_natAbs.2 hq.dvd;exact Int.natCast_dvd_natCast.2 (Nat.lcm_dvd h1 h2)
 have hpf:am_ U (max p.frm q.frm) (lcmI p.period q.period):=((hp.wf.pfrom.mono (show p.frm≤max p.frm q.frm by omega)).of_dvd a1 hl cr_).op ((hq.wf.pfrom.mono (show q.frm≤max p.frm q.frm by omega)).of_dvd b1 hl cz_) g (fun n _=>hU n) oq_;have hc:=gv_ (h3_ (show 0≤max p.frm q.frm by omega) hl h0 hpf);exact ⟨hc,ie_ hc hlow oq_ (by have:=hp.frm;have:=hq.frm;omega) hl hdv hpf,hpf,hdv⟩
noncomputable def andP (p q:Per):Per:=canonC fun n=>p.mem n∧q.mem n
noncomputable def orP (p q:Per):Per:=canonC fun n=>p.mem n∨q.mem n
noncomputable def bu_ (p q:Per):Per:=canonC fun n=>p.mem n∧¬ q.mem n
theorem Fac.and (hp:Fac s p) (hq:Fac s q):a6_ (andP p q) (fun n=>p.mem n∧q.mem n)∧Fac s (andP p q):=by
 have h:=hp.op hq And (fun n=>Iff.rfl) (fun n h=>hp.low n h.1) (fun n h=>h.1.1);exact ⟨h.1,h.2.1⟩
structure cf_ (P:Nat->Nat->Prop) (n i j:Nat):Prop where
 lt:i<j
 lim:j<n
 is:P i j
 rows:∀ i' j',i'<i->i'<j'->j'<n->¬ P i' j'
 row:∀ j',i<j'->j'<j->¬ P i j'
def cj_ (P:Nat->Nat->Prop) (n:Nat):Prop:=∀ i j,i<j->j<n->¬ P i j
theorem cf_.unique {P:Nat->Nat->Prop} {n i' j':Nat} (h:cf_ P n i j) (g:cf_ P n i' j'):i=i'∧j=j':=by
 have hi:i=i':=by
  rcases Nat.lt_trichotomy i i' with h1|h1|h1
  ·exact absurd h.is (g.rows i j h1 h.lt h.lim)
  ·exact h1
  ·exact absurd g.is (h.rows i' j' h1 g.lt g.lim)
 subst hi;refine ⟨rfl,?_⟩;rcases Nat.lt_trichotomy j j' with h1|h1|h1
 ·exact absurd h.is (g.row j h.lt h1)
 ·exact h1
 ·exact absurd g.is (h.row j' g.lt h1)
theorem cf_.no {P:Nat->Nat->Prop} {n:Nat} (h:cf_ P n i j) (g:cj_ P n):False:=g i j h.lt h.lim h.is
def divB (p q:Per):Bool:=p.period % q.period == 0 || q.period % p.period == 0
def ch_ (t:List Per) (i j:Nat):Prop:=divB (t.getD i default) (t.getD j default)=true
noncomputable def ci_ (t:List Per) (i j:Nat):List Per:=(t.set i (andP (t.getD i default) (t.getD j default))).eraseIdx j
inductive c4_:List Per->List Per->Prop
 | done {t:List Per} (h:cj_ (ch_ t) t.length):c4_ t t
 | step {t u:List Per} {i j:Nat} (h:cf_ (ch_ t) t.length i j) (hu:c4_ (ci_ t i j) u):c4_ t u
theorem c4_.unique {v:List Per} (h:c4_ t u) (g:c4_ t v):u=v:=by
 induction h generalizing v with
 | done h=>
  cases g with
  | done _=>rfl
  | step g _=>exact (g.no h).elim
 | step h _ ih=>
  cases g with
  | done g=>exact (h.no g).elim
  | step g gu=>
   obtain ⟨rfl,rfl⟩:=h.unique g;exact ih gu
structure CFac (s:Int) (p:Per):Prop where
 fac:Fac s p
 can:a6_ p p.mem
theorem CFac.canonC (h:CFac s p):Kal.canonC p.mem=p:=d7_ h.can
theorem Fac.ccanon (h:Fac s p):CFac s (Kal.canonC p.mem):=⟨h.canon.2,h.canon.1.congr fun n=>(h.canon.1.mem n).symm⟩
theorem Fac.cand (hp:Fac s p) (hq:Fac s q):CFac s (andP p q):=⟨(hp.and hq).2,(hp.and hq).1.congr fun n=>((hp.and hq).1.mem n).symm⟩
theorem e6_ {α:Type} {l:List α} {d:α} (h:i<l.length):l.getD i d∈l:=by
 rw [List.getD_eq_getElem?_getD,List.getElem?_eq_getElem h];exact List.getElem_mem h
theorem i5_ {α:Type} {l:List α} {v x:α} (h:x∈(l.set i v).eraseIdx j):x=v∨x∈l:=by
 have h1:=List.mem_of_mem_eraseIdx h;rcases List.mem_or_eq_of_mem_set h1 with h2|h2
 ·exact .inr h2
 ·exact .inl h2
theorem gy_ {α:Type} {l:List α} {d:α} (hij:i<j) (hj:j<l.length) (v:α) (x:α):x∈(l.set i v).eraseIdx j↔x=v∨∃ k,k<l.length∧k≠i∧k≠j∧x=l.getD k d:=by
 rw [List.mem_eraseIdx_iff_getElem];constructor
 ·rintro ⟨k,hk,hkj,rfl⟩;rw [List.length_set] at hk
  by_cases e:k=i
  ·subst e;left;rw [List.getElem_set_self]
  ·right;exact ⟨k,hk,e,hkj,by rw [List.getElem_set_ne (fun h=>e h.symm),List.getD_eq_getElem?_getD,List.getElem?_eq_getElem hk];rfl⟩
 ·rintro (rfl|⟨k,hk,h1,h2,rfl⟩)
  ·exact ⟨i,by rw [List.length_set];omega,oq_,by rw [List.getElem_set_self]⟩
  ·exact ⟨k,by rw [List.length_set];exact hk,h2,by rw [List.getElem_set_ne (fun h=>h1 h.symm),List.getD_eq_getElem?_getD,List.getElem?_eq_getElem hk];rfl⟩
theorem o8_ {α:Type} {l:List α} {d x:α}:x∈l↔∃ k,k<l.length∧x=l.getD k d:=by
 rw [List.mem_iff_getElem];constructor
 ·rintro ⟨k,hk,rfl⟩;exact ⟨k,hk,by rw [List.getD_eq_getElem?_getD,List.getElem?_eq_getElem hk];rfl⟩
 ·rintro ⟨k,hk,rfl⟩;exact ⟨k,hk,by rw [List.getD_eq_getElem?_getD,List.getElem?_eq_getElem hk];rfl⟩
theorem lr_ (h:j<t.length):(ci_ t i j).length=t.length-1:=by
 unfold ci_;rw [List.length_eraseIdx,List.length_set,if_pos h]
theorem pn_ (hij:i<j) (hj:j<t.length) (hf:∀ p∈t,Fac s p) (n:Int):tmem (ci_ t i j) n↔tmem t n:=by
 have fi:=hf _ (e6_ (d:=default) (show i<t.length by omega));have fj:=hf _ (e6_ (d:=default) hj);have hc:=(fi.and fj).1;unfold tmem ci_;constructor
 ·intro h p hp;obtain ⟨k,hk,rfl⟩:=(o8_ (d:=default)).1 hp;have h1:=(hc.mem n).1 (h _ ((gy_ (d:=default) hij hj _ _).2 (.inl rfl)))
  by_cases e1:k=i
  ·subst e1;exact h1.1
  ·by_cases e2:k=j
   ·subst e2;exact h1.2
   ·exact h _ ((gy_ (d:=default) hij hj _ _).2 (.inr ⟨k,hk,e1,e2,rfl⟩))
 ·intro h p hp;rcases (gy_ (d:=default) hij hj _ _).1 hp with rfl|⟨k,hk,_,_,rfl⟩
  ·exact (hc.mem n).2 ⟨h _ (e6_ oq_),h _ (e6_ hj)⟩
  ·exact h _ (e6_ hk)
theorem ow_ (hij:i<j) (hj:j<t.length) (hf:∀ p∈t,CFac s p):∀ p∈ci_ t i j,CFac s p:=fun p hp=>by
 rcases i5_ hp with rfl|hp
 ·exact (hf _ (e6_ oq_)).fac.cand (hf _ (e6_ hj)).fac
 ·exact hf p hp
theorem c4_.ok (h:c4_ t u) (hf:∀ p∈t,CFac s p):(∀ p∈u,CFac s p)∧(∀ n,tmem u n↔tmem t n)∧u.length≤t.length∧(t≠[]->u≠[]):=by
 induction h with
 | done h=>exact ⟨hf,fun n=>Iff.rfl,Nat.le_refl _,id⟩
 | @step t u i j h _ ih=>
  have h1:=ow_ h.lt h.lim hf;obtain ⟨a,b,c,d⟩:=ih h1;have hl:=lr_ (t:=t) (i:=i) h.lim;refine ⟨a,fun n=>(b n).trans (pn_ h.lt h.lim (fun p hp=>(hf p hp).fac) n),oq_,fun _=>d fun e=>?_⟩;rw [e] at hl;have:=h.lt;have:=h.lim;simp at hl;omega
def xc_ (s:Int) (t:List Per):Prop:=t≠[]∧∀ p∈t,CFac s p
def vn_ (s:Int) (t:List Per):Prop:=t≠[]∧∀ p∈t,Fac s p
def b8_ (t u:List Per):Prop:=c4_ (t.map fun p=>canonC p.mem) u
theorem b8_.unique {v:List Per} (h:b8_ t u) (g:b8_ t v):u=v:=c4_.unique h g
theorem b8_.ok (h:b8_ t u) (hf:vn_ s t):xc_ s u∧(∀ n,tmem u n↔tmem t n)∧u.length≤t.length:=by
 obtain ⟨h1,h2,h3,h4⟩:=c4_.ok h (s:=s) fun p hp=>by
  obtain ⟨q,hq,rfl⟩:=List.mem_map.1 hp;exact (hf.2 q hq).ccanon
 refine ⟨⟨h4 fun e=>hf.1 (List.map_eq_nil_iff.1 e),h1⟩,fun n=>(h2 n).trans ?_,by simpa using h3⟩;unfold tmem;constructor
 ·intro h p hp;exact ((hf.2 p hp).canon.1.mem n).1 (h _ (List.mem_map.2 ⟨p,hp,rfl⟩))
 ·intro h p hp;obtain ⟨q,hq,rfl⟩:=List.mem_map.1 hp;exact ((hf.2 q hq).canon.1.mem n).2 (h q hq)
inductive b0_:List (List Per)->List (List Per)->Prop
 | nil:b0_ [] []
 | skip {t u:List Per} {L l:List (List Per)} (h:b8_ t u) (hb:bt_ u) (hl:b0_ L l):b0_ (t :: L) l
 | keep {t u:List Per} {L l:List (List Per)} (h:b8_ t u) (hb:¬ bt_ u) (hl:b0_ L l):b0_ (t :: L) (u :: l)
theorem b0_.app {L l L' l':List (List Per)} (h:b0_ L l) (g:b0_ L' l'):b0_ (L ++ L') (l ++ l'):=by
 induction h with
 | nil=>exact g
 | skip h hb _ ih=>exact .skip h hb ih
 | keep h hb _ ih=>exact .keep h hb ih
theorem b0_.skip1 {L l:List (List Per)} (h:b0_ L l) (g:b8_ t u) (hb:bt_ u):b0_ (L ++ [t]) l:=by
 have:=h.app (.skip g hb .nil);rwa [List.append_nil] at this
theorem b0_.keep1 {L l:List (List Per)} (h:b0_ L l) (g:b8_ t u) (hb:¬ bt_ u):b0_ (L ++ [t]) (l ++ [u]):=h.app (.keep g hb .nil)
theorem b0_.unique {L l:List (List Per)} (h:b0_ L l) (g:b0_ L m):l=m:=by
 induction h generalizing m with
 | nil=>cases g;rfl
 | skip h hb _ ih=>
  cases g with
  | skip g gb gl=>exact ih gl
  | keep g gb gl=>rw [h.unique g] at hb;exact absurd hb gb
 | keep h hb _ ih=>
  cases g with
  | skip g gb gl=>rw [h.unique g] at hb;exact absurd gb hb
  | keep g gb gl=>rw [h.unique g,ih gl]
theorem lu_ {L:List (List Per)}:mmem (t :: L) n↔tmem t n∨mmem L n:=by
 unfold mmem;simp
theorem k7_:¬ mmem [] n:=by unfold mmem;simp
theorem p5_ {L M:List (List Per)}:mmem (L ++ M) n↔mmem L n∨mmem M n:=by
 unfold mmem;constructor
 ·rintro ⟨t,ht,h⟩;rcases List.mem_append.1 ht with ht|ht
  ·exact .inl ⟨t,ht,h⟩
  ·exact .inr ⟨t,ht,h⟩
 ·rintro (⟨t,ht,h⟩|⟨t,ht,h⟩)
  ·exact ⟨t,List.mem_append_left _ ht,h⟩
  ·exact ⟨t,List.mem_append_right _ ht,h⟩
def az_ (l:List (List Per)) (i j:Nat):Prop:=(l.getD i []).length=1∧(l.getD j []).length=1∧divB ((l.getD i []).getD 0 default) ((l.getD j []).getD 0 default)=true
noncomputable def ct_ (l:List (List Per)) (i j:Nat):List (List Per):=(l.set i [orP ((l.getD i []).getD 0 default) ((l.getD j []).getD 0 default)]).eraseIdx j
inductive ck_:List (List Per)->List (List Per)->Prop
 | done {l:List (List Per)} (h:cj_ (az_ l) l.length):ck_ l l
 | step {l m:List (List Per)} {i j:Nat} (h:cf_ (az_ l) l.length i j) (hm:ck_ (ct_ l i j) m):ck_ l m
theorem ck_.unique {t u v:List (List Per)} (h:ck_ t u) (g:ck_ t v):u=v:=by
 induction h generalizing v with
 | done h=>
  cases g with
  | done _=>rfl
  | step g _=>exact (g.no h).elim
 | step h _ ih=>
  cases g with
  | done g=>exact (h.no g).elim
  | step g gu=>
   obtain ⟨rfl,rfl⟩:=h.unique g;exact ih gu
theorem g9_:tmem [p] n↔p.mem n:=by unfold tmem;simp
theorem hn_ {l:List (List Per)} {K:Nat} (hK:1≤K) (h:∀ t∈l,t.length≤K):∀ t∈ct_ l i j,t.length≤K:=fun t ht=>by
 rcases i5_ ht with rfl|ht
 ·simpa using hK
 ·exact h t ht
open Classical in
noncomputable def dd1 (out:List (List Per)) (t:List Per):List (List Per):=if t∈out then out else out ++ [t]
noncomputable def ddL (out l:List (List Per)):List (List Per):=l.foldl dd1 out
theorem oc_ {l:List (List Per)}:ddL out (l ++ [t])=dd1 (ddL out l) t:=by unfold ddL;rw [List.foldl_append];rfl
theorem nv_ (h:t∈out):dd1 out t=out:=if_pos h
theorem g5_ (h:t ∉ out):dd1 out t=out ++ [t]:=if_neg h
theorem w5_ {x:List Per}:x∈dd1 out t↔x∈out∨x=t:=by
 by_cases h:t∈out
 ·rw [nv_ h];exact ⟨.inl,fun g=>g.elim id fun e=>e ▸ h⟩
 ·rw [g5_ h];simp
theorem lc_:∀ {l out:List (List Per)} {x:List Per},x∈ddL out l↔x∈out∨x∈l
 | [],out,x=>by simp [ddL]
 | t :: l,out,x=>by
  show x∈ddL (dd1 out t) l↔_;rw [lc_,w5_,List.mem_cons,or_assoc]
def bf_ (L m:List (List Per)):Prop:=∃ l k,b0_ L l∧ck_ l k∧m=ddL [] k
theorem bf_.unique {L m':List (List Per)} (h:bf_ L m) (g:bf_ L m'):m=m':=by
 obtain ⟨l,k,h1,h2,rfl⟩:=h;obtain ⟨l',k',g1,g2,rfl⟩:=g;obtain rfl:=h1.unique g1;rw [h2.unique g2]
def cv_ (m:List (List Per)):Prop:=m.length≤64∧∀ t∈m,t.length≤4
def ax_ (F:Int) (S:Int->Prop) (f n:Int) (b:Bool):Prop:=(b=true∧f≤n∧n≤F∧S n∧∀ x,f≤x->x<n->¬ S x)∨(b=false∧n=0∧∀ x,f≤x->x≤F->¬ S x)
theorem ax_.unique {m:Int} {S:Int->Prop} {c:Bool} (h:ax_ F S f n b) (g:ax_ F S f m c):n=m∧b=c:=by
 rcases h with ⟨rfl,h1,h2,h3,h4⟩|⟨rfl,rfl,h1⟩ <;> rcases g with ⟨rfl,g1,g2,g3,g4⟩|⟨rfl,rfl,g1⟩
 ·refine ⟨?_,rfl⟩;rcases Int.lt_trichotomy n m with h|h|h
  ·exact absurd h3 (g4 n h1 h)
  ·exact h
  ·exact absurd g3 (h4 m g1 h)
 ·exact absurd h3 (g1 n h1 h2)
 ·exact absurd g3 (h1 m g1 g2)
 ·exact ⟨rfl,rfl⟩
theorem ax_.congr {S T:Int->Prop} (h:ax_ F S f n b) (hs:∀ x,f≤x->x≤F->(T x↔S x)):ax_ F T f n b:=by
 rcases h with ⟨rfl,h1,h2,h3,h4⟩|⟨rfl,rfl,h1⟩
 ·exact .inl ⟨rfl,h1,h2,(hs n h1 h2).2 h3,fun x a c=>by rw [hs x a oq_];exact h4 x a c⟩
 ·exact .inr ⟨rfl,rfl,fun x a c=>by rw [hs x a c];exact h1 x a c⟩
def bs_ (S:Int->Prop) (f n:Int) (b:Bool):Prop:=(b=true∧f≤n∧S n∧∀ x,f≤x->x<n->¬ S x)∨(b=false∧n=0∧∀ x,f≤x->¬ S x)
theorem bs_.start:bs_ (fun _=>False) f 0 false:=.inr ⟨rfl,rfl,fun _ _ h=>h⟩
theorem bs_.congr {S T:Int->Prop} (h:bs_ S f n b) (hs:∀ x,f≤x->(T x↔S x)):bs_ T f n b:=by
 rcases h with ⟨rfl,h1,h3,h4⟩|⟨rfl,rfl,h1⟩
 ·exact .inl ⟨rfl,h1,(hs n h1).2 h3,fun x a c=>by rw [hs x a];exact h4 x a c⟩
 ·exact .inr ⟨rfl,rfl,fun x a=>by rw [hs x a];exact h1 x a⟩
theorem bs_.take {S:Int->Prop} (h:bs_ S f n b) (h1:f≤d) (h2:b=false∨d<n):bs_ (fun x=>S x∨x=d) f d true:=by
 refine .inl ⟨rfl,h1,.inr rfl,fun x a c e=>?_⟩;rcases e with e|rfl
 ·rcases h with ⟨rfl,g1,g2,g3⟩|⟨rfl,rfl,g1⟩
  ·rcases h2 with h2|h2
   ·cases h2
   ·exact g3 x a oq_ e
  ·exact g1 x a e
 ·omega
theorem bs_.pass {S:Int->Prop} (h:bs_ S f n b) (h1:¬ (f≤d∧(b=false∨d<n))):bs_ (fun x=>S x∨x=d) f n b:=by
 rcases h with ⟨rfl,g1,g2,g3⟩|⟨rfl,rfl,g1⟩
 ·refine .inl ⟨rfl,g1,.inl g2,fun x a c e=>?_⟩;rcases e with e|rfl
  ·exact g3 x a c e
  ·exact h1 ⟨a,.inr c⟩
 ·refine .inr ⟨rfl,rfl,fun x a e=>?_⟩;rcases e with e|rfl
  ·exact g1 x a e
  ·exact h1 ⟨a,.inl rfl⟩
def cq_ (t:List Per) (i k:Nat) (x:Int):Prop:=tmem t x∧((∃ p∈t.take i,x∈p.head)∨x∈((t.getD i default).head.take k))
theorem kp_:cq_ t 0 0 x↔False:=by simp [cq_]
theorem mf_ (hi:i<t.length):cq_ t (i+1) 0 x↔cq_ t i (t.getD i default).head.length x:=by
 unfold cq_;have e:t.getD i default=t[i]:=by rw [List.getD_eq_getElem?_getD,List.getElem?_eq_getElem hi];rfl
 rw [List.take_succ_eq_append_getElem hi,List.take_length,e];constructor
 ·rintro ⟨h1,⟨p,hp,hx⟩|hx⟩
  ·rcases List.mem_append.1 hp with hp|hp
   ·exact ⟨h1,.inl ⟨p,hp,hx⟩⟩
   ·obtain rfl:p=t[i]:=by simpa using hp
    exact ⟨h1,.inr hx⟩
  ·simp at hx
 ·rintro ⟨h1,⟨p,hp,hx⟩|hx⟩
  ·exact ⟨h1,.inl ⟨p,List.mem_append_left _ hp,hx⟩⟩
  ·exact ⟨h1,.inl ⟨t[i],List.mem_append_right _ sq_,hx⟩⟩
theorem l8_ (hk:k<(t.getD i default).head.length):cq_ t i (k+1) x↔cq_ t i k x∨(x=(t.getD i default).head.getD k 0∧tmem t x):=by
 unfold cq_;rw [List.take_succ_eq_append_getElem hk,List.mem_append];have e:(t.getD i default).head.getD k 0=(t.getD i default).head[k]:=by rw [List.getD_eq_getElem?_getD,List.getElem?_eq_getElem hk];rfl
 rw [e];simp only [List.mem_singleton];constructor
 ·rintro ⟨h1,h2|h2|h2⟩
  ·exact .inl ⟨h1,.inl h2⟩
  ·exact .inl ⟨h1,.inr h2⟩
  ·exact .inr ⟨h2,h1⟩
 ·rintro (⟨h1,h2|h2⟩|⟨h1,h2⟩)
  ·exact ⟨h1,.inl h2⟩
  ·exact ⟨h1,.inr (.inl h2)⟩
  ·exact ⟨h2,.inr (.inr h1)⟩
theorem mi_ (hne:t≠[]) (hw:∀ p∈t,p.WF):cq_ t t.length 0 x↔tmem t x∧x<ba_ t:=by
 unfold cq_;rw [List.take_length];constructor
 ·rintro ⟨h1,⟨p,hp,hx⟩|h2⟩
  ·exact ⟨h1,ry_ hw hp hx⟩
  ·simp at h2
 ·rintro ⟨h1,h2⟩;exact ⟨h1,.inl (qv_ hne h1 h2)⟩
def q6_ (t:List Per) (f n:Int) (b:Bool):Prop:=bs_ (fun x=>tmem t x∧x<ba_ t) f n b
def ClsS (t:List Per) (at_ step x:Int):Prop:=x % step=at_∧∀ p∈t,∃ c∈p.cycle,x % p.period=resP p c
def cn_ (F:Int) (S:Int->Prop) (f n:Int) (b:Bool):Prop:=(b=true∧f≤n∧n≤F∧S n∧∀ x,f≤x->x<n->¬ S x)∨(b=false∧n=F∧∀ x,f≤x->x≤F->¬ S x)
theorem cn_.start:cn_ F (fun _=>False) f F false:=.inr ⟨rfl,rfl,fun _ _ _ h=>h⟩
theorem cn_.le {S:Int->Prop} (h:cn_ F S f n b):n≤F:=by
 rcases h with ⟨_,_,h,_⟩|⟨_,h,_⟩ <;> omega
theorem cn_.congr {S T:Int->Prop} (h:cn_ F S f n b) (hs:∀ x,f≤x->(T x↔S x)):cn_ F T f n b:=by
 rcases h with ⟨rfl,h1,h2,h3,h4⟩|⟨rfl,rfl,h1⟩
 ·exact .inl ⟨rfl,h1,h2,(hs n h1).2 h3,fun x a c=>by rw [hs x a];exact h4 x a c⟩
 ·exact .inr ⟨rfl,rfl,fun x a c=>by rw [hs x a];exact h1 x a c⟩
theorem cn_.next {S:Int->Prop} (h:cn_ F S f n b):ax_ F S f (if b=true then n else 0) b:=by
 rcases h with ⟨rfl,h1,h2,h3,h4⟩|⟨rfl,rfl,h1⟩
 ·exact .inl ⟨rfl,h1,h2,h3,h4⟩
 ·exact .inr ⟨rfl,rfl,h1⟩
def upTo (f at_ step:Int):Int:=if at_<f then at_+(f-at_+step-1) / step*step else at_
theorem wf_ (hs:1≤step) (h0:0≤at_) (h1:at_<step) (hf:0≤f):f≤upTo f at_ step∧upTo f at_ step<f+step∧upTo f at_ step % step=at_∧(∀ x,f≤x->x % step=at_->upTo f at_ step≤x):=by
 have key:f≤upTo f at_ step∧upTo f at_ step<f+step∧upTo f at_ step % step=at_:=by
  unfold upTo
  split
  ·rename_i h;have e:=Int.emod_add_mul_ediv (f-at_+step-1) step;have e0:=Int.emod_nonneg (f-at_+step-1) (show step≠0 by omega);have e1:=Int.emod_lt_of_pos (f-at_+step-1) (show 0<step by omega);rw [Int.mul_comm step] at e;refine ⟨oq_,oq_,?_⟩;rw [Int.add_mul_emod_self_right,Int.emod_eq_of_lt h0 h1]
  ·exact ⟨oq_,oq_,Int.emod_eq_of_lt h0 h1⟩
 refine ⟨key.1,key.2.1,key.2.2,fun x hx he=>?_⟩;obtain ⟨k1,k2,k3⟩:=key;generalize upTo f at_ step=u at *;rcases Int.lt_or_le x u with h|h
 ·have hd:step∣u-x:=bq_ (k3.trans he.symm);have:=Int.le_of_dvd oq_ hd;omega
 ·exact h
theorem cn_.leaf {S:Int->Prop} (h:cn_ F S f n b) (hs:1≤step) (h0:0≤at_) (h1:at_<step) (hf:0≤f) :
  (upTo f at_ step≤n->cn_ F (fun x=>S x∨x % step=at_) f (upTo f at_ step) true)∧(n<upTo f at_ step->cn_ F (fun x=>S x∨x % step=at_) f n b):=by
 obtain ⟨k1,k2,k3,k4⟩:=wf_ hs h0 h1 hf;have hle:=h.le;generalize upTo f at_ step=u at *;constructor
 ·intro hu;refine .inl ⟨rfl,k1,oq_,.inr k3,fun x a c e=>?_⟩;rcases e with e|e
  ·rcases h with ⟨_,g1,g2,g3,g4⟩|⟨_,rfl,g1⟩
   ·exact g4 x a oq_ e
   ·exact g1 x a oq_ e
  ·have:=k4 x a e;omega
 ·intro hu;rcases h with ⟨rfl,g1,g2,g3,g4⟩|⟨rfl,rfl,g1⟩
  ·refine .inl ⟨rfl,g1,g2,.inl g3,fun x a c e=>?_⟩;rcases e with e|e
   ·exact g4 x a c e
   ·have:=k4 x a e;omega
  ·refine .inr ⟨rfl,rfl,fun x a c e=>?_⟩;rcases e with e|e
   ·exact g1 x a c e
   ·have:=k4 x a e;omega
def cp_ (at_ step r P:Int) (a2 s2:Int) (b:Bool):Prop:=(b=true∧s2=lcmI step P∧fw_ at_ step r P a2)∨(b=false∧a2=0∧s2=0∧∀ x,¬ (x % step=at_ % step∧x % P=r % P))
theorem t0_:ClsS (p :: t) at_ step x↔∃ c∈p.cycle,x % p.period=resP p c∧ClsS t at_ step x:=by
 unfold ClsS;constructor
 ·rintro ⟨h1,h2⟩;obtain ⟨c,hc,he⟩:=h2 p sq_;exact ⟨c,hc,he,h1,fun q hq=>h2 q (by simp [hq])⟩
 ·rintro ⟨c,hc,he,h1,h2⟩;refine ⟨h1,fun q hq=>?_⟩;rcases List.mem_cons.1 hq with rfl|hq
  ·exact ⟨c,hc,he⟩
  ·exact h2 q hq
theorem cp_.cls (hw:p.WF) {a2 s2 c:Int} (hs:1≤step) (h0:0≤at_) (h1:at_<step) (h:cp_ at_ step (resP p c) p.period a2 s2 b) (x:Int) :
  (x % p.period=resP p c∧ClsS t at_ step x)↔b=true∧ClsS t a2 s2 x:=by
 have hr:=h2_ hw c;have er:=Int.emod_eq_of_lt hr.1 hr.2;have ea:=Int.emod_eq_of_lt h0 h1;have hP:=hw.per;rcases h with ⟨rfl,rfl,hsol⟩|⟨rfl,rfl,rfl,hno⟩
 ·have hc:=jg_ (x:=x) hs hP hsol;rw [er,ea] at hc;unfold ClsS;constructor
  ·rintro ⟨g1,g2,g3⟩;exact ⟨rfl,hc.1 ⟨g2,g1⟩,g3⟩
  ·rintro ⟨_,g2,g3⟩;obtain ⟨k1,k2⟩:=hc.2 g2;exact ⟨k2,k1,g3⟩
 ·refine ⟨fun ⟨g1,g2,_⟩=>absurd ?_ (hno x),fun h=>by cases h.1⟩;rw [er,ea];exact ⟨g2,g1⟩
theorem ri_ (hw:∀ p∈t,p.WF) (hx:ba_ t≤x):ClsS t 0 1 x↔tmem t x:=by
 unfold ClsS tmem;have hs:=(fg_ (t:=t)).2;constructor
 ·rintro ⟨_,h⟩ p hp;exact (ht_ (hw p hp) (by have:=hs p hp;omega)).2 (h p hp)
 ·intro h;exact ⟨oq_,fun p hp=>(ht_ (hw p hp) (by have:=hs p hp;omega)).1 (h p hp)⟩
theorem sg_ (hne:t≠[]) (hw:∀ p∈t,p.WF) (hF:ba_ t≤F) (h:q6_ t f n b) :
  (b=true->ax_ F (tmem t) f n true)∧(b=false->(F<f∨¬ recT t)->ax_ F (tmem t) f 0 false)∧(b=false->∀ m c,ax_ F (tmem t) (max f (ba_ t)) m c->ax_ F (tmem t) f m c):=by
 refine ⟨fun hb=>?_,fun hb hno=>?_,fun hb m c hm=>?_⟩
 ·subst hb;rcases h with ⟨_,h1,h2,h3⟩|⟨h,_⟩
  ·exact .inl ⟨rfl,h1,oq_,h2.1,fun x a c e=>h3 x a c ⟨e,oq_⟩⟩
  ·cases h
 ·subst hb;rcases h with ⟨h,_⟩|⟨_,_,h1⟩
  ·cases h
  ·refine .inr ⟨rfl,rfl,fun x a c e=>?_⟩
   by_cases hx:x<ba_ t
   ·exact h1 x a ⟨e,hx⟩
   ·rcases hno with h2|h2
    ·omega
    ·exact h2 ⟨x,oq_,e⟩
 ·subst hb;rcases h with ⟨h,_⟩|⟨_,_,h1⟩
  ·cases h
  ·have low:∀ x,f≤x->x<max f (ba_ t)->¬ tmem t x:=fun x a c e=>h1 x a ⟨e,oq_⟩;rcases hm with ⟨rfl,g1,g2,g3,g4⟩|⟨rfl,rfl,g1⟩
   ·refine .inl ⟨rfl,oq_,g2,g3,fun x a c=>?_⟩
    by_cases hx:x<max f (ba_ t)
    ·exact low x a hx
    ·exact g4 x oq_ c
   ·refine .inr ⟨rfl,rfl,fun x a c=>?_⟩
    by_cases hx:x<max f (ba_ t)
    ·exact low x a hx
    ·exact g1 x oq_ c
theorem l6_ {m:Int} {S T:Int->Prop} {c:Bool} (h:ax_ F S f n b) (g:ax_ F T f m c) :
  ax_ F (fun x=>S x∨T x) f (if c=true∧(b=false∨m<n) then m else n) (b || c):=by
 rcases h with ⟨rfl,h1,h2,h3,h4⟩|⟨rfl,rfl,h1⟩ <;> rcases g with ⟨rfl,g1,g2,g3,g4⟩|⟨rfl,rfl,g1⟩
 ·by_cases hm:m<n
  ·rw [if_pos ⟨rfl,.inr hm⟩];exact .inl ⟨rfl,g1,g2,.inr g3,fun x a c e=>e.elim (h4 x a oq_) (g4 x a c)⟩
  ·rw [if_neg (fun e=>by rcases e.2 with e|e;cases e;exact hm e)];exact .inl ⟨rfl,h1,h2,.inl h3,fun x a c e=>e.elim (h4 x a c) (g4 x a oq_)⟩
 ·rw [if_neg (fun e=>by cases e.1)];exact .inl ⟨rfl,h1,h2,.inl h3,fun x a c e=>e.elim (h4 x a c) (g1 x a oq_)⟩
 ·rw [if_pos ⟨rfl,.inl rfl⟩];exact .inl ⟨rfl,g1,g2,.inr g3,fun x a c e=>e.elim (h1 x a oq_) (g4 x a c)⟩
 ·rw [if_neg (fun e=>by cases e.1)];exact .inr ⟨rfl,rfl,fun x a c e=>e.elim (h1 x a c) (g1 x a c)⟩
def ao_ (a b:List (List Per)):List (List Per):=a.flatMap fun s=>b.map fun t=>s ++ t
theorem hi_ {a b:List (List Per)}:u∈ao_ a b↔∃ s∈a,∃ t∈b,u=s ++ t:=by
 unfold ao_;rw [List.mem_flatMap];constructor
 ·rintro ⟨s,hs,h⟩;obtain ⟨t,ht,rfl⟩:=List.mem_map.1 h;exact ⟨s,hs,t,ht,rfl⟩
 ·rintro ⟨s,hs,t,ht,rfl⟩;exact ⟨s,hs,List.mem_map.2 ⟨t,ht,rfl⟩⟩
noncomputable def wiP (s:List Per) (f:Per):List Per:=match s with|[]=>[]|p :: r=>bu_ p f :: r
noncomputable def minL (m:List (List Per)) (t:List Per):List (List Per):=m.flatMap fun s=>t.map fun f=>wiP s f
theorem k1_:u∈minL m t↔∃ s∈m,∃ f∈t,u=wiP s f:=by
 unfold minL;rw [List.mem_flatMap];constructor
 ·rintro ⟨s,hs,h⟩;obtain ⟨f,hf,rfl⟩:=List.mem_map.1 h;exact ⟨s,hs,f,hf,rfl⟩
 ·rintro ⟨s,hs,f,hf,rfl⟩;exact ⟨s,hs,List.mem_map.2 ⟨f,hf,rfl⟩⟩
inductive fy_:List (List Per)->List (List Per)->Option (List (List Per))->Prop
 | nil {m:List (List Per)}:fy_ m [] (some m)
 | big {m m' b:List (List Per)} {t:List Per} (h:bf_ (minL m t) m') (hb:¬ cv_ m'):fy_ m (t :: b) none
 | step {m m' b:List (List Per)} {t:List Per} {r:Option (List (List Per))} (h:bf_ (minL m t) m') (hb:cv_ m') (hr:fy_ m' b r):fy_ m (t :: b) r
theorem fy_.unique {b:List (List Per)} {r r':Option (List (List Per))} (h:fy_ m b r) (g:fy_ m b r'):r=r':=by
 induction h generalizing r' with
 | nil=>cases g;rfl
 | big h hb=>
  cases g with
  | big _ _=>rfl
  | step g gb _=>rw [h.unique g] at hb;exact absurd gb hb
 | step h hb _ ih=>
  cases g with
  | big g gb=>rw [h.unique g] at hb;exact absurd hb gb
  | step g gb gr=>obtain rfl:=h.unique g;exact ih gr
def b4_ (a b:List (List Per)) (r:Option (List (List Per))):Prop:=∃ m,bf_ a m∧((cv_ m∧fy_ m b r)∨(¬ cv_ m∧r=none))
theorem b4_.unique {a b:List (List Per)} {r r':Option (List (List Per))} (h:b4_ a b r) (g:b4_ a b r'):r=r':=by
 obtain ⟨m,h1,h2⟩:=h;obtain ⟨m',g1,g2⟩:=g;obtain rfl:=h1.unique g1;rcases h2 with ⟨h2,h3⟩|⟨h2,rfl⟩ <;> rcases g2 with ⟨g2,g3⟩|⟨g2,rfl⟩
 ·exact h3.unique g3
 ·exact absurd h2 g2
 ·exact absurd g2 h2
 ·rfl
noncomputable def andL (p:Per) (t:List Per):Per:=t.foldl andP p
noncomputable def f6_ (t:List Per):Per:=match t with|[]=>default|p :: r=>andL p r
noncomputable def aq_ (all:Per) (m:List (List Per)):Per:=m.foldl (fun a t=>orP a (f6_ t)) all
end Kal
namespace Go.Proofs.YthjnojbeimchdaaGreat
open Go.RowKit Go.Maps Kal
theorem je_ (x y:PV) (w:World) (hx:1≤x.p.period) (hx1:x.p.period≤1099511627776) (hy:1≤y.p.period) (hy1:y.p.period≤1099511627776) :
  Calls Tryz.prog 109 #[x.val,y.val] w fun e w'=>e=.returned (.bool (divB x.p y.p))∧Below w.heap.size w w':=by
 have n1:x.p.period≠0:=oq_;have n2:y.p.period≠0:=oq_;have b1:=Int.emod_nonneg x.p.period n2;have b2:=Int.emod_lt_of_pos x.p.period (show 0<y.p.period by omega);have b3:=Int.emod_nonneg y.p.period n1;have b4:=Int.emod_lt_of_pos y.p.period (show 0<x.p.period by omega)
 go_enter Tryz.func109,Tryz.ntmps109
 go_wp2_with fail
 all_goals
  go_ret;refine ⟨ac_ ?_,xE⟩;unfold divB
  first|rfl|(simp_all;done)
theorem qz_ (F G:Nat->Prop) (x y:PV) (w:World) (hx:PVok w F x) (hy:PVok w G y) :
  Calls Tryz.prog 113 #[x.val,y.val] w fun e w'=>e=.returned (.bool (bi_ x.p y.p))∧Below w.heap.size w w':=by
 have H1:=fun W (h:Below w.heap.size w W)=>mh_ x.h y.h x.p.head y.p.head W (hx.is.hd.ext h) (hy.is.hd.ext h);have H2:=fun W (h:Below w.heap.size w W)=>mh_ x.c y.c x.p.cycle y.p.cycle W (hx.is.cy.ext h) (hy.is.cy.ext h);clear hx hy;obtain ⟨xh,xc,xp⟩:=x;obtain ⟨yh,yc,yp⟩:=y;change Calls _ _ #[perV xh xc xp.frm xp.period,perV yh yc yp.frm yp.period] _ fun e w'=>e=.returned (.bool (bi_ xp yp))∧_;change ∀ W,_->Calls _ _ #[xh,yh] W fun e w'=>e=.returned (.bool (decide (xp.head=yp.head)))∧_ at H1;change ∀ W,_->Calls _ _ #[xc,yc] W fun e w'=>e=.returned (.bool (decide (xp.cycle=yp.cycle)))∧_ at H2
 by_cases h1:xp.frm=yp.frm
 ·by_cases h2:xp.period=yp.period
  ·by_cases h3:xp.head=yp.head
   ·rw [decide_eq_true h3] at H1;have e:bi_ xp yp=decide (xp.cycle=yp.cycle):=by unfold bi_;simp [h1,h2,h3]
    rw [e];clear e h3;generalize decide (xp.cycle=yp.cycle)=b at *
    go_enter Tryz.func113,Tryz.ntmps113
    go_wp2_with (go_at_call 89;first|((with_reducible refine (H1 _ xE).mono ?_);rintro e w1 ⟨rfl,n1,rfl⟩)|((with_reducible refine (H2 _ xE).mono ?_);rintro e w1 ⟨rfl,n1,rfl⟩))
    go_ret;exact ⟨rfl,xE⟩
   ·rw [decide_eq_false h3] at H1;have e:bi_ xp yp=false:=by unfold bi_;simp [h3]
    rw [e];clear e h3
    go_enter Tryz.func113,Tryz.ntmps113
    go_wp2_with (go_at_call 89;first|((with_reducible refine (H1 _ xE).mono ?_);rintro e w1 ⟨rfl,n1,rfl⟩)|((with_reducible refine (H2 _ xE).mono ?_);rintro e w1 ⟨rfl,n1,rfl⟩))
    go_ret;exact ⟨rfl,xE⟩
  ·have e:bi_ xp yp=false:=by unfold bi_;simp [h2]
   rw [e];clear e
   go_enter Tryz.func113,Tryz.ntmps113
   go_wp2_with fail
   go_ret;exact ⟨rfl,xE⟩
 ·have e:bi_ xp yp=false:=by unfold bi_;simp [h1]
  rw [e];clear e
  go_enter Tryz.func113,Tryz.ntmps113
  go_wp2_with fail
  go_ret;exact ⟨rfl,xE⟩
open Classical in
noncomputable def cm_ (t u:List Per):Bool:=decide (t=u)
theorem eq_ (h:t=u):cm_ t u=true:=by unfold cm_;simp [h]
theorem cy_ (h:t≠u):cm_ t u=false:=by unfold cm_;simp [h]
theorem PVok.form {F:Nat->Prop} {c:Value} (hx:PVok w F ⟨h,c,p⟩):∃ a1 n1 c1 a2 n2 c2,h=.slice a1 n1 c1∧c=.slice a2 n2 c2:=by
 obtain ⟨⟨⟨⟨a1,c1,h1,_⟩,_,_⟩,⟨a2,c2,h2,_⟩,_,_⟩,_,_,_,_⟩:=hx;exact ⟨a1,_,c1,a2,_,c2,h1,h2⟩
theorem be_.get {F:Nat->Prop} {a:Option Addr} {n:Nat} {L:List PV} (h:be_ w F (.slice a n c) L) (hk:k<L.length) :
  ∃ b o x,a=some ⟨b,o,none⟩∧PVok w F x∧x.p=(L.map PV.p).getD k default∧b<w.heap.size∧w.cell? ⟨b,o+k*4,none⟩=some x.h∧w.cell? ⟨b,o+k*4+1,none⟩=some (.int .i64 x.p.frm)∧
   w.cell? ⟨b,o+k*4+2,none⟩=some (.int .i64 x.p.period)∧w.cell? ⟨b,o+k*4+3,none⟩=some x.c:=by
 obtain ⟨a',c',he,h1,h2,h3⟩:=h.row;injection he with e1 _ e2
 subst e1;subst e2;rcases h3 with h3|⟨b,o,rfl,hF,hl,hc⟩
 ·omega
 ·exact ⟨b,o,L.getD k default,rfl,h.all _ (aa_ hk),by simp [List.getD_eq_getElem?_getD,hk],hl,hc (k*4+0) _ (av_ hk rfl),hc (k*4+1) _ (av_ hk rfl),hc (k*4+2) _ (av_ hk rfl),hc (k*4+3) _ (av_ hk rfl)⟩
theorem mv_ (F G:Nat->Prop) (v1 v2:Value) (t u:List Per) (w:World) (h1:ab_ w F v1 t) (h2:ab_ w G v2 u) :
  Calls Tryz.prog 112 #[v1,v2,.func (.func 113) #[] #[]] w fun e w'=>e=.returned (.bool (cm_ t u))∧Below w.heap.size w w':=by
 obtain ⟨L,hLt,hL⟩:=h1;obtain ⟨M,hMu,hM⟩:=h2;obtain ⟨a1,c1,rfl,_⟩:=hL.row;obtain ⟨a2,c2,rfl,_⟩:=hM.row;have HL:=hq_ hL;have HM:=hq_ hM;have hl1:=hL.len;have hl2:=hM.len;have ht:t.length=L.length:=by rw [<- hLt,List.length_map]
 have hu:u.length=M.length:=by rw [<- hMu,List.length_map]
 have HT:=hq_ ht;have HU:=hq_ hu;have HLT:=hq_ hLt;have HMU:=hq_ hMu;clear hL hM ht hu hLt hMu;have eg:∀ args w,(callFunc 113 args).run Tryz.prog w=.ok (.enter 113 args) w:=enters_of Tryz.func113 (by kernel_rfl) rfl
 by_cases hne:L.length=M.length
 ·have HNE:=hq_ hne;rw [<- hne];clear hne hl2
  go_enter Tryz.func112,Tryz.ntmps112
  go_wp2_with fail
  go_loopw [6,7,8,9,17] (fun _ _ _ _ i wr=>∃ k:Nat,k≤L.length∧i=.int .i64 k∧(∀ j,j<k->t.getD j default=u.getD j default)∧Below w.heap.size w wr) (fun _ _ _ _ i _=>L.length-(intOf i).toNat)
  case atStart=>exact ⟨0,oq_,rfl,by intro j hj;omega,xE⟩
  case round=>
   obtain ⟨k,hk,rfl,hpre,hb⟩:=hrel;have HPRE:=hq_ hpre;clear hpre
   by_cases hlt:k<L.length
   ·have hlI:(k:Int)<L.length:=oq_;obtain ⟨b1,o1,x,rfl,hx,hxp,hb1,e0,e1,e2,e3⟩:=(HL.out.keep (a5_.below hb) hb.size).get hlt;obtain ⟨b2,o2,y,rfl,hy,hyp,hb2,g0,g1,g2,g3⟩:=(HM.out.keep (a5_.below hb) hb.size).get (show k<M.length by have:=HNE.out;omega);rw [HLT.out] at hxp;rw [HMU.out] at hyp;have HE:=fun W (h:Below wr.heap.size wr W)=>qz_ F G x y W (hx.keep (a5_.below h)) (hy.keep (a5_.below h));have HXP:=hq_ hxp;have HYP:=hq_ hyp;obtain ⟨xh,xc,xp⟩:=x;obtain ⟨yh,yc,yp⟩:=y;obtain ⟨ax1,nx1,cx1,ax2,nx2,cx2,rfl,rfl⟩:=hx.form;obtain ⟨ay1,ny1,cy1,ay2,ny2,cy2,rfl,rfl⟩:=hy.form;clear hxp hyp hx hy;change ∀ W,_->Calls _ _ #[perV (.slice ax1 nx1 cx1) (.slice ax2 nx2 cx2) xp.frm xp.period,perV (.slice ay1 ny1 cy1) (.slice ay2 ny2 cy2) yp.frm yp.period] W fun e w'=>e=.returned (.bool (bi_ xp yp))∧_ at HE;change Hid (xp=_) at HXP;change Hid (yp=_) at HYP;dsimp only at e0 e1 e2 e3 g0 g1 g2 g3;cases hq:bi_ xp yp with
    | true=>
     rw [hq] at HE;have HQ:=hq_ hq;clear hq;go_wp2_with (go_at_fn 113;refine (HE _ xE).mono ?_;rintro e w1 ⟨rfl,hb3⟩)
     go_roundw
     case rel=>
      refine ⟨k+1,oq_,by go_num,?_,xE⟩;intro j hj
      by_cases h:j<k
      ·exact HPRE.out j h
      ·obtain rfl:j=k:=oq_;rw [<- HXP.out,<- HYP.out];exact (gr_ _ _).1 HQ.out
     case measure=>simp [intOf];omega
    | false=>
     rw [hq] at HE;have HQ:=hq_ hq;clear hq;go_wp2_with (go_at_fn 113;refine (HE _ xE).mono ?_;rintro e w1 ⟨rfl,hb3⟩)
     go_ret;refine ⟨ac_ (cy_ ?_).symm,xE⟩;rintro rfl;have:=HQ.out;rw [(gr_ _ _).2 (HXP.out.trans HYP.out.symm)] at this;exact absurd this dq_
   ·obtain rfl:k=L.length:=oq_;go_wp2_with fail
    go_ret;refine ⟨ac_ (eq_ ?_).symm,xE⟩;refine List.ext_getElem (by have:=HT.out;have:=HU.out;have:=HNE.out;omega) fun j h1 h2=>?_;have:=HPRE.out j (by have:=HT.out;omega);rw [List.getD_eq_getElem?_getD,List.getD_eq_getElem?_getD,List.getElem?_eq_getElem h1,List.getElem?_eq_getElem h2] at this;exact this
 ·have hneI:¬ (L.length:Int)=M.length:=oq_
  go_enter Tryz.func112,Tryz.ntmps112
  go_wp2_with fail
  go_ret;refine ⟨ac_ (cy_ ?_).symm,xE⟩;rintro rfl;have:=HT.out;have:=HU.out;omega
theorem oy_ (a:Int) (t:List Per) (p:Per):c6_ a (t ++ [p])=max (c6_ a t) p.frm:=by unfold c6_;rw [List.foldl_append];rfl
theorem sz_ (F:Nat->Prop) (v:Value) (t:List Per) (w:World) (ht:ab_ w F v t) :
  Calls Tryz.prog 141 #[v] w fun e w'=>e=.returned (.int .i64 (ba_ t))∧Below w.heap.size w w':=by
 obtain ⟨L,hLt,hL⟩:=ht;obtain ⟨a1,c1,rfl,_⟩:=hL.row;have HL:=hq_ hL;have hl1:=hL.len;have htl:t.length=L.length:=by rw [<- hLt,List.length_map]
 have HT:=hq_ htl;have HLT:=hq_ hLt;clear hL htl hLt
 go_enter Tryz.func141,Tryz.ntmps141
 go_wp2_with fail
 go_loopw [3,5,8] (fun m _ i wr=>∃ k:Nat,k≤L.length∧i=.int .i64 k∧m=.int .i64 (c6_ 0 (t.take k))∧Below w.heap.size w wr) (fun _ _ i _=>L.length-(intOf i).toNat)
 case atStart=>exact ⟨0,oq_,rfl,by simp [c6_],xE⟩
 case round=>
  obtain ⟨k,hk,rfl,rfl,hb⟩:=hrel
  by_cases hlt:k<L.length
  ·have hlI:(k:Int)<L.length:=oq_;obtain ⟨b1,o1,x,rfl,hx,hxp,hb1,e0,e1,e2,e3⟩:=(HL.out.keep (a5_.below hb) hb.size).get hlt;rw [HLT.out] at hxp;have hS:c6_ 0 (t.take (k+1))=max (c6_ 0 (t.take k)) x.p.frm:=by
    have htk:k<t.length:=by have:=HT.out;omega
    rw [List.take_succ_eq_append_getElem htk,oy_,hxp,List.getD_eq_getElem?_getD,List.getElem?_eq_getElem htk];rfl
   have HS:=hq_ hS;have hfr:=hx.fr;obtain ⟨xh,xc,xp⟩:=x;obtain ⟨ax1,nx1,cx1,ax2,nx2,cx2,rfl,rfl⟩:=hx.form;dsimp only at e0 e1 e2 e3 hfr HS;clear hxp hx hS;generalize c6_ 0 (t.take k)=s0 at *;go_wp2_with fail
   all_goals
    go_roundw
    case rel=>exact ⟨k+1,oq_,by go_num,by rw [HS.out],xE⟩
    case measure=>simp [intOf];omega
  ·obtain rfl:k=L.length:=oq_;go_wp2_with fail
   go_ret;refine ⟨?_,xE⟩;have:=HT.out;rw [List.take_of_length_le oq_];rfl
theorem ia_ (h c:Value) (p:Per) (n:Int) (w:World) (hf:0≤p.frm) (hf1:p.frm≤1125899906842624) (hp:1≤p.period) (hp1:p.period≤1125899906842624) (hn:0≤n) (hn1:n≤1125899906842624) :
  Calls Tryz.prog 121 #[perV h c p.frm p.period,.int .i64 n] w fun e w'=>e=.returned (.int .i64 (resP p n))∧Below w.heap.size w w':=by
 have n1:p.period≠0:=oq_;have b1:=Int.emod_nonneg p.frm n1;have b2:=Int.emod_lt_of_pos p.frm (show 0<p.period by omega);have q1:p.frm.tmod p.period=p.frm % p.period:=Int.tmod_eq_emod_of_nonneg hf;have q2:(p.frm % p.period+n).tmod p.period=(p.frm % p.period+n) % p.period:=Int.tmod_eq_emod_of_nonneg oq_;unfold resP;generalize p.frm % p.period=r at *;have HR:Hid (0≤(r+n) % p.period∧(r+n) % p.period<p.period):=hq_ ⟨Int.emod_nonneg _ n1,Int.emod_lt_of_pos _ oq_⟩
 go_enter Tryz.func121,Tryz.ntmps121
 go_wp2_with fail
 go_region
 go_wp2_with fail
 go_ret;exact ⟨rfl,xE⟩
def TV (t:List Per):Prop:=∀ p∈t,validB p=true
theorem n8_ (h:validB p=true):hasB p n=true↔p.mem n:=by
 unfold hasB;rw [h,Bool.true_and,Bool.and_eq_true,decide_eq_true_iff];exact ⟨fun ⟨h0,h1⟩=>(gh_ h0).1 h1,fun h1=>⟨h1.1,(gh_ h1.1).2 h1⟩⟩
theorem ea_ (h:TV t):inB t n=true↔tmem t n:=by
 unfold inB tmem;rw [List.all_eq_true];exact ⟨fun g p hp=>(n8_ (h p hp)).1 (g p hp),fun g p hp=>(n8_ (h p hp)).2 (g p hp)⟩
theorem go_ {S T:Int->Prop} (h:bs_ S f n b) (hs:∀ x,T x↔S x∨(x=d∧tmem t x)) (h1:f≤d) (h2:b=false∨d<n) (h3:tmem t d):bs_ T f d true:=
 (h.take h1 h2).congr fun x _=>by rw [hs];exact or_congr Iff.rfl ⟨fun g=>g.1,fun g=>⟨g,g ▸ h3⟩⟩
theorem d6_ {S T:Int->Prop} (h:bs_ S f n b) (hs:∀ x,T x↔S x∨(x=d∧tmem t x)) (h1:¬ (f≤d∧(b=false∨d<n)∧tmem t d)):bs_ T f n b:=by
 by_cases h3:tmem t d
 ·exact (h.pass fun g=>h1 ⟨g.1,g.2,h3⟩).congr fun x _=>by rw [hs];exact or_congr Iff.rfl ⟨fun g=>g.1,fun g=>⟨g,g ▸ h3⟩⟩
 ·exact h.congr fun x _=>by rw [hs];exact ⟨fun g=>g.elim id fun g=>absurd (g.1 ▸ g.2) h3,.inl⟩
theorem mb_ (F:Nat->Prop) (v:Value) (t:List Per) (f:Int) (w:World) (ht:ab_ w F v t) (hv:TV t) (hf:InI f) :
  Calls Tryz.prog 101 #[v,.int .i64 f] w fun e w'=>∃ (n:Int) (b:Bool),e=.returned (.tuple #[.int .i64 n,.bool b])∧bs_ (cq_ t t.length 0) f n b∧Below w.heap.size w w':=by
 have HIN:=fun W d (h:Below w.heap.size w W) (hd:InI d)=>x7_ F v t d W (ht.ext h) hd;obtain ⟨L,hLt,hL⟩:=ht;obtain ⟨a1,c1,rfl,_⟩:=hL.row;have HL:=hq_ hL;have hl1:=hL.len;have htl:t.length=L.length:=by rw [<- hLt,List.length_map]
 have HT:=hq_ htl;have HLT:=hq_ hLt;have HV:=hq_ hv;clear hL htl hLt hv
 go_enter Tryz.func101,Tryz.ntmps101
 go_wp2_with fail
 go_loopw [6,7,9,11,14] (fun nv bv _ _ i wr=>∃ (k:Nat) (n:Int) (b:Bool),k≤L.length∧i=.int .i64 k∧nv=.int .i64 n∧bv=.bool b∧Hid (bs_ (cq_ t k 0) f n b)∧Below w.heap.size w wr) (fun _ _ _ _ i _=>L.length-(intOf i).toNat)
 case atStart=>exact ⟨0,0,false,oq_,rfl,rfl,rfl,hq_ (bs_.start.congr fun x _=>kp_),xE⟩
 case round=>
  obtain ⟨k,n,b,hk,rfl,rfl,rfl,HBE,hb⟩:=hrel
  by_cases hlt:k<L.length
  ·have hlI:(k:Int)<L.length:=oq_;obtain ⟨b1,o1,x,rfl,hx,hxp,hb1,e0,e1,e2,e3⟩:=(HL.out.keep (a5_.below hb) hb.size).get hlt;rw [HLT.out] at hxp;have hkt:k<t.length:=by have:=HT.out;omega
   have HXP:=hq_ hxp;have hxi:=hx.is.hd;obtain ⟨xh,xc,xp⟩:=x;obtain ⟨ax1,nx1,cx1,ax2,nx2,cx2,rfl,rfl⟩:=hx.form;dsimp only at e0 e1 e2 e3 hxi;change Hid (xp=_) at HXP;obtain ⟨⟨ah,ch,he,_,_,hcl⟩,hln,hrg⟩:=hxi;injection he with he1 he2 he3
   subst he1;subst he2;subst he3;have HCL:=hq_ hcl;have HRG:=hq_ hrg;have HB:=hq_ hb;clear hcl hrg hxp hx;go_wp2_with fail
   go_loopw [6,7,11,21] (fun nv bv _ i wq=>∃ (j:Nat) (n:Int) (b:Bool),j≤xp.head.length∧i=.int .i64 j∧nv=.int .i64 n∧bv=.bool b∧Hid (bs_ (cq_ t k j) f n b)∧Below wr.heap.size wr wq) (fun _ _ _ i _=>xp.head.length-(intOf i).toNat)
   case atStart=>exact ⟨0,n,b,oq_,rfl,rfl,rfl,HBE,xE⟩
   case round=>
    obtain ⟨j,n,b,hj,rfl,rfl,rfl,HBE2,hb2⟩:=hrel
    by_cases hjl:j<xp.head.length
    ·have hjI:(j:Int)<xp.head.length:=oq_;rcases HCL.out with h0|⟨b4,o4,rfl,hc4⟩
     ·rw [h0] at hjl;simp at hjl
     have c0:=Ext.cell hb2 (hc4 j hjl);have hd:=HRG.out _ (aa_ (d:=0) hjl);have HS:=fun x=>l8_ (t:=t) (i:=k) (k:=j) (x:=x) (by rw [<- HXP.out];exact hjl);rw [<- HXP.out] at HS;have HS:=hq_ HS;generalize xp.head.getD j 0=d at *
     by_cases h1:f≤d
     ·cases b with
      | false=>
       cases hq:inB t d with
       | true=>
        have HI:=fun W h=>HIN W d h hd;rw [hq] at HI;have HTM:=hq_ ((ea_ HV.out).1 hq);clear hq;go_wp2_with (go_at_call 59;refine (HI _ xE).mono ?_;rintro e w1 ⟨rfl,hb3⟩)
        go_roundw
        case rel=>exact ⟨j+1,d,true,oq_,by go_num,rfl,rfl,hq_ (go_ HBE2.out HS.out h1 (by first|exact .inl rfl|exact .inr (by assumption)) HTM.out),xE⟩
        case measure=>simp [intOf];omega
       | false=>
        have HI:=fun W h=>HIN W d h hd;rw [hq] at HI;have HTM:Hid (¬ tmem t d):=hq_ fun g=>by rw [(ea_ HV.out).2 g] at hq;exact absurd hq dq_
        clear hq;go_wp2_with (go_at_call 59;refine (HI _ xE).mono ?_;rintro e w1 ⟨rfl,hb3⟩)
        go_roundw
        case rel=>exact ⟨j+1,n,_,oq_,by go_num,rfl,rfl,hq_ (d6_ HBE2.out HS.out fun g=>HTM.out g.2.2),xE⟩
        case measure=>simp [intOf];omega
      | true=>
       by_cases h2:d<n
       ·
        cases hq:inB t d with
        | true=>
         have HI:=fun W h=>HIN W d h hd;rw [hq] at HI;have HTM:=hq_ ((ea_ HV.out).1 hq);clear hq;go_wp2_with (go_at_call 59;refine (HI _ xE).mono ?_;rintro e w1 ⟨rfl,hb3⟩)
         go_roundw
         case rel=>exact ⟨j+1,d,true,oq_,by go_num,rfl,rfl,hq_ (go_ HBE2.out HS.out h1 (by first|exact .inl rfl|exact .inr (by assumption)) HTM.out),xE⟩
         case measure=>simp [intOf];omega
        | false=>
         have HI:=fun W h=>HIN W d h hd;rw [hq] at HI;have HTM:Hid (¬ tmem t d):=hq_ fun g=>by rw [(ea_ HV.out).2 g] at hq;exact absurd hq dq_
         clear hq;go_wp2_with (go_at_call 59;refine (HI _ xE).mono ?_;rintro e w1 ⟨rfl,hb3⟩)
         go_roundw
         case rel=>exact ⟨j+1,n,_,oq_,by go_num,rfl,rfl,hq_ (d6_ HBE2.out HS.out fun g=>HTM.out g.2.2),xE⟩
         case measure=>simp [intOf];omega
       ·go_wp2_with fail
        go_roundw
        case rel=>exact ⟨j+1,n,true,oq_,by go_num,rfl,rfl,hq_ (d6_ HBE2.out HS.out fun g=>g.2.1.elim (fun g=>absurd g dq_) h2),xE⟩
        case measure=>simp [intOf];omega
     ·go_wp2_with fail
      go_roundw
      case rel=>exact ⟨j+1,n,b,oq_,by go_num,rfl,rfl,hq_ (d6_ HBE2.out HS.out fun g=>h1 g.1),xE⟩
      case measure=>simp [intOf];omega
    ·obtain rfl:j=xp.head.length:=oq_;go_wp2_with fail
     go_roundw
     case rel=>exact ⟨k+1,n,b,oq_,by go_num,rfl,rfl,hq_ (HBE2.out.congr fun x _=>by rw [mf_ hkt,<- HXP.out]),xE⟩
     case measure=>simp [intOf];omega
  ·obtain rfl:k=L.length:=oq_;go_wp2_with fail
   go_ret2;exact ⟨n,b,rfl,by rw [HT.out];exact HBE.out,xE⟩
theorem a5_.grown {F:Nat->Prop} (h:W.grownBy W' (some g)) (hF:¬ F g):a5_ F W W':=fun b hb hl=>h.block b hl (by rintro ⟨⟩;exact hF hb)
theorem World.grownBy.trans' {B C:World} {r:Option Nat} (h:A.grownBy B r) (k:B.grownBy C r):A.grownBy C r:=
 ⟨k.os.trans h.os,k.tape.trans h.tape,k.output.trans h.output,Nat.le_trans h.size k.size,fun b hb hn=>(k.block b (Nat.lt_of_lt_of_le hb h.size) hn).trans (h.block b hb hn)⟩
theorem World.grownBy.set' {B:World} (h:A.grownBy B (some g)) (v:Value):A.grownBy (B.setCell ⟨g,i,none⟩ v) (some g):=
 ⟨h.os,h.tape,h.output,by rw [World.size_setCell];exact h.size,fun b hb hn=>(Below.heap_setCell B ⟨g,i,none⟩ v b (by rintro rfl;exact hn rfl)).trans (h.block b hb hn)⟩
theorem World.grownBy.below' {B:World} {B0:Nat} (h:A.grownBy B (some g)) (hg:B0≤g) (hB:B0≤A.heap.size):Below B0 A B:=
 ⟨h.os,h.tape,h.output,h.size,fun b hb=>h.block b oq_ (by rintro ⟨⟩;omega)⟩
def Fits (xs:List Value) (done:List (Int × Int)):Prop:=∀ k,k<done.length->xs[k]? = some (.int .i64 (done.getD k (0,0)).2)
theorem Fits.snoc {done:List (Int × Int)} {a:Int × Int} (h:Fits xs done) (hl:done.length<xs.length):Fits (xs.set done.length (.int .i64 a.2)) (done ++ [a]):=by
 intro k hk;rw [List.length_append] at hk;simp only [List.length_singleton] at hk
 by_cases hk2:k<done.length
 ·rw [List.getElem?_set_ne oq_,h k hk2,List.getD_eq_getElem?_getD,List.getD_eq_getElem?_getD,List.getElem?_append_left hk2]
 ·obtain rfl:k=done.length:=oq_;rw [List.getElem?_set_self hl,List.getD_eq_getElem?_getD,List.getElem?_append_right oq_];simp
theorem Fits.pre {done:List (Int × Int)} {a:Int × Int} (h:Fits xs (done ++ [a])):Fits xs done:=fun k hk=>by
 have:=h k tq_;rwa [List.getD_eq_getElem?_getD,List.getElem?_append_left hk,<- List.getD_eq_getElem?_getD] at this
def el_ (done:List (Int × Int)) (p:Per) (t:List Per) (c:Int):Prop:=fr_ done p.period (resP p c)∧Ext (done ++ [(p.period,resP p c)]) t
theorem jy_ {done:List (Int × Int)} (h:i<t.length):Ext done (t.drop i)↔∃ c∈(t.getD i default).cycle,el_ done (t.getD i default) (t.drop (i+1)) c:=by
 rw [List.drop_eq_getElem_cons h,List.getD_eq_getElem?_getD,List.getElem?_eq_getElem h];rfl
def ff_ (done:List (Int × Int)) (P r:Int) (k:Nat):Prop:=∀ j,j<k->(r-(done.getD j (0,0)).2) % ((Int.gcd P (done.getD j (0,0)).1:Nat):Int)=0
theorem j3_ {done:List (Int × Int)}:fr_ done P r↔ff_ done P r done.length:=by
 constructor
 ·exact fun h j hj=>h _ (aa_ hj)
 ·intro h x hx;obtain ⟨j,hj,rfl⟩:=List.mem_iff_getElem.1 hx;have:=h j hj;rwa [List.getD_eq_getElem?_getD,List.getElem?_eq_getElem hj] at this
theorem ff_.succ {done:List (Int × Int)} (h:ff_ done P r k) (h1:(r-(done.getD k (0,0)).2) % ((Int.gcd P (done.getD k (0,0)).1:Nat):Int)=0):ff_ done P r (k+1):=fun j hj=>by
 by_cases hj2:j<k
 ·exact h j hj2
 ·obtain rfl:j=k:=oq_;exact h1
structure Cho (g:Nat) (F:Nat->Prop) (v:Value) (L:List PV) (b1 b2 b3:Nat) (done:List (Int × Int)) (w:World) (xs:List Value):Prop where
 term:be_ w F v L
 c1:w.cell? ⟨b1,0,none⟩=some v
 c2:w.cell? ⟨b2,0,none⟩=some (.slice (some ⟨g,0,none⟩) L.length L.length)
 c3:w.cell? ⟨b3,0,none⟩=some (.func (.func 120) #[] #[.pointer (some ⟨b1,0,none⟩),.pointer (some ⟨b2,0,none⟩),.pointer (some ⟨b3,0,none⟩)])
 row:w.ownsRow g 3 1 (.slice (some ⟨g,0,none⟩) L.length L.length) L.length xs
 fits:Fits xs done
theorem Cho.grow {F:Nat->Prop} {L:List PV} {b1 b2 b3:Nat} {done done':List (Int × Int)} {xs':List Value} (h:Cho g F v L b1 b2 b3 done w xs) (hg:w.grownBy W (some g)) (hF:¬ F g) (h1:b1≠g) (h2:b2≠g) (h3:b3≠g)
  (hr:W.ownsRow g 3 1 (.slice (some ⟨g,0,none⟩) L.length L.length) L.length xs') (hf:Fits xs' done'):Cho g F v L b1 b2 b3 done' W xs':=
 ⟨h.term.keep (a5_.grown hg hF) hg.size,hg.cell h.c1 (by rintro ⟨⟩;exact h1 rfl),hg.cell h.c2 (by rintro ⟨⟩;exact h2 rfl),hg.cell h.c3 (by rintro ⟨⟩;exact h3 rfl),hr,hf⟩
theorem Cho.below {F:Nat->Prop} {L:List PV} {b1 b2 b3:Nat} {done:List (Int × Int)} (h:Cho g F v L b1 b2 b3 done w xs) (hb:Below w.heap.size w W):Cho g F v L b1 b2 b3 done W xs:=
 ⟨h.term.keep (a5_.below hb) hb.size,Ext.cell hb h.c1,Ext.cell hb h.c2,Ext.cell hb h.c3,h.row.kept (row:=none) ⟨hb.os,hb.tape,hb.output,hb.size,fun b hl _=>hb.block b hl⟩ (by right;simp [Value.ownBlock]),h.fits⟩
def xe_ (g:Nat) (F:Nat->Prop) (v:Value) (L:List PV) (b1 b2 b3:Nat) (done:List (Int × Int)) (i:Nat) (w:World) (e:Ending) (w':World):Prop:=
 ∃ b xs',e=.returned (.bool b)∧(b=true↔Ext done ((L.map PV.p).drop i))∧Cho g F v L b1 b2 b3 done w' xs'∧w.grownBy w' (some g)
theorem qj_ (g:Nat) (F:Nat->Prop) (v:Value) (L:List PV) (b1 b2 b3:Nat) (hF:¬ F g) (h1:b1≠g) (h2:b2≠g) (h3:b3≠g) (hv:TV (L.map PV.p)) :
  ∀ (n i:Nat) (done:List (Int × Int)) (xs:List Value) (w:World),i+n=L.length->done.length=i->(∀ k,k<i->(done.getD k (0,0)).1=((L.map PV.p).getD k default).period∧0≤(done.getD k (0,0)).2∧(done.getD k (0,0)).2≤1099511627776)->
   Cho g F v L b1 b2 b3 done w xs->
   Calls Tryz.prog 120 #[.int .i64 i,.pointer (some ⟨b1,0,none⟩),.pointer (some ⟨b2,0,none⟩),.pointer (some ⟨b3,0,none⟩)] w (xe_ g F v L b1 b2 b3 done i w):=by
 intro n
 induction n with
 | zero=>
  intro i done xs w hi hd hpr hc;have hl1:=hc.term.len;obtain rfl:i=L.length:=oq_;obtain ⟨a1,c1,rfl,hx1,hx2,_⟩:=hc.term.row.is;have k1:=hc.c1;have HC:=hq_ hc;clear hc hpr hd
  go_enter Tryz.func120,Tryz.ntmps120
  go_wp2_with fail
  go_step3
  go_wp2_with fail
  try rw [Exit.noGoto_ret]
  go_ret;exact ⟨true,xs,rfl,by rw [List.drop_of_length_le sq_];exact ⟨fun _=>trivial,fun _=>rfl⟩,HC.out,⟨rfl,rfl,rfl,Nat.le_refl _,fun _ _ _=>rfl⟩⟩
 | succ n ih=>
  intro i done xs w hi hd hpr hc;have IH:=hq_ ih;clear ih;have hl1:=hc.term.len;have hli:i<L.length:=oq_;have hiI:(i:Int)<L.length:=oq_;obtain ⟨a1,cc1,rfl,hx1,hx2,_⟩:=hc.term.row.is;have k1:=hc.c1;obtain ⟨tb,o1,x,ha,hx,hxp,hb1,e0,e1,e2,e3⟩:=hc.term.get hli;subst ha;have HXP:=hq_ hxp;have hvx:validB x.p=true:=hv _ (by rw [hxp];exact aa_ (by simpa using hli));have hvv:=(as_ x.p).1 hvx;have hxi:=hx.is.cy;obtain ⟨xh,xc,xp⟩:=x;obtain ⟨ax1,nx1,cx1,ax2,nx2,cx2,rfl,rfl⟩:=hx.form;dsimp only at e0 e1 e2 e3 hxi hvv;change Hid (xp=_) at HXP;obtain ⟨⟨ah,ch,he,_,_,hcl⟩,hln,hrg⟩:=hxi;injection he with he1 he2 he3
  subst he1;subst he2;subst he3;have f0:=hvv.wf.frm;have f1:xp.frm≤1099511627776:=hvv.frm;have p0:=hvv.wf.per;have p1:xp.period≤1099511627776:=hvv.per;have HCY:=hq_ hvv.wf.cyc;have HCL:=hq_ hcl;have HC:=hq_ hc;have HPR:=hq_ hpr;have HX:=hq_ hx;have HD:=hq_ hd;have HI:=hq_ hi;have HV:=hq_ hv;clear hcl hc hpr hx hvv hvx hrg hxp hd hv hi
  go_enter Tryz.func120,Tryz.ntmps120
  go_wp2_with fail
  go_step3
  go_wp2_with fail
  go_step3
  go_wp2_with fail
  generalize ((i:Int) == (L.length:Int))=q13
  go_loopw [5,7,8,9,20] (fun _ _ _ _ idx wr=>∃ (j:Nat) (ys:List Value),j≤xp.cycle.length∧idx=.int .i64 j∧Hid (∀ q,q<j->¬ el_ done xp ((L.map PV.p).drop (i+1)) (xp.cycle.getD q 0))∧Hid (Cho g F (.slice (some ⟨tb,o1,none⟩) L.length cc1) L b1 b2 b3 done wr ys)∧Hid (w.grownBy wr (some g))) (fun _ _ _ _ idx _=>xp.cycle.length-(intOf idx).toNat)
  case atStart=>exact ⟨0,xs,oq_,rfl,hq_ (fun q hq=>oq_),HC,hq_ ⟨rfl,rfl,rfl,Nat.le_refl _,fun _ _ _=>rfl⟩⟩
  case round=>
   obtain ⟨j,ys,hj,rfl,HNO,HCH,HG⟩:=hrel
   by_cases hjl:j<xp.cycle.length
   ·have hjI:(j:Int)<xp.cycle.length:=oq_;have q1:=HCH.out.c1;obtain ⟨_,_,y,hay,hy,hyp,hyb,g0,g1,g2,g3⟩:=HCH.out.term.get hli;cases hay;obtain ⟨yh,yc,yp⟩:=y;obtain ⟨ay1,ny1,cy1,ay2,ny2,cy2,rfl,rfl⟩:=hy.form;obtain rfl:yp=xp:=hyp.trans HXP.out.symm;dsimp only at g0 g1 g2 g3;have hcyr:=(HX.out.keep (a5_.grown HG.out hF)).is.cy;obtain ⟨⟨ah,ch,he,_,_,hcl⟩,_,_⟩:=hcyr;injection he with he1 he2 he3
    subst he1;subst he3;rcases hcl with h0|⟨b4,o4,rfl,hc4⟩
    ·rw [h0] at hjl;simp at hjl
    have c0:=hc4 j hjl;have hcb:=HCY.out.2 _ (aa_ (d:=0) hjl);have HJ:Hid (yp.cycle.getD j 0∈yp.cycle):=hq_ (aa_ hjl);generalize hcc:yp.cycle.getD j 0=c at *;have HCC:=hq_ hcc;have hr:=h2_ ((as_ yp).1 (HV.out _ (by rw [HXP.out];exact aa_ (by simpa using hli)))).wf c;have HRES:=fun W=>ia_ (.slice ay1 ny1 cy1) (.slice ay2 ny2 cy2) yp c W f0 oq_ p0 oq_ hcb.1 oq_;generalize hrr:resP yp c=r at *;have HRR:=hq_ hrr;have HYP:=hq_ hyp;clear hc4 hcc hrr hy hyp;go_wp2_with (go_at_call 121;refine (HRES _).mono ?_;rintro e w1 ⟨rfl,hbr⟩)
    have HC1:=hq_ (HCH.out.below hbr);have HB1:=hq_ hbr
    go_loopw [9,31] (fun _ idx wq=>∃ k:Nat,k≤i∧idx=.int .i64 k∧Hid (ff_ done yp.period r k)∧Hid (Below w1.heap.size w1 wq)) (fun _ idx _=>i-(intOf idx).toNat)
    case atStart=>exact ⟨0,oq_,rfl,hq_ (fun _ h=>absurd h oq_),hq_ (Below.refl _ _)⟩
    case round=>
     obtain ⟨k,hk,rfl,HAG,HB⟩:=hrel;have HCQ:=hq_ (HC1.out.below HB.out);have q1:=HCQ.out.c1;have q2:=HCQ.out.c2
     by_cases hkl:k<i
     ·have hkI:(k:Int)<i:=oq_;have q4:=(HCQ.out.row.cellAt k oq_).trans (HCQ.out.fits k (by have:=HD.out;omega));obtain ⟨hd1,hd2,hd3⟩:=HPR.out k hkl;obtain ⟨_,_,y,hay,hy,hyp,hyb,g0,g1,g2,g3⟩:=HCQ.out.term.get hli;cases hay;obtain ⟨yh,yc,yp'⟩:=y;obtain ⟨ay1,ny1,cy1,ay2,ny2,cy2,rfl,rfl⟩:=hy.form;obtain rfl:yp'=yp:=hyp.trans HXP.out.symm;obtain ⟨_,_,z,hay,hz,hzp,hzb,z0,z1,z2,z3⟩:=HCQ.out.term.get (show k<L.length by omega);cases hay;obtain ⟨zh,zc,zp⟩:=z;obtain ⟨az1,nz1,dz1,az2,nz2,dz2,rfl,rfl⟩:=hz.form;dsimp only at g0 g1 g2 g3 z0 z1 z2 z3;change zp=_ at hzp;rw [<- hzp] at hd1;have hzv:=(as_ zp).1 (HV.out _ (by rw [hzp];exact aa_ tq_));have z5:=hzv.wf.per;have z6:zp.period≤1099511627776:=hzv.per;have hgb:=bn_ (a:=yp'.period) (b:=zp.period) p0;have HGC:=fun W=>g6_ yp'.period zp.period W oq_ oq_ oq_ oq_;have HSUC:Hid ((r-(done.getD k (0,0)).2) % ((Int.gcd yp'.period (done.getD k (0,0)).1:Nat):Int)=0->ff_ done yp'.period r (k+1)):=hq_ HAG.out.succ;have HFAI:Hid (fr_ done yp'.period r->(r-(done.getD k (0,0)).2) % ((Int.gcd yp'.period (done.getD k (0,0)).1:Nat):Int)=0):=hq_ fun h=>j3_.1 h k (by have:=HD.out;omega);rw [hd1] at HSUC HFAI;generalize ((Int.gcd yp'.period zp.period:Nat):Int)=G at *;generalize (done.getD k (0,0)).2=d2 at *;have htm:(r-d2).tmod G=0↔(r-d2) % G=0:=by
       constructor
       ·exact fun h=>Int.emod_eq_zero_of_dvd (Int.dvd_of_tmod_eq_zero h)
       ·exact fun h=>Int.tmod_eq_zero_of_dvd (Int.dvd_of_emod_eq_zero h)
      by_cases ha:(r-d2) % G=0
      ·have hT:=htm.2 ha;have HN:=hq_ (HSUC.out ha);clear htm ha hy hz hd1 hzv hyp hzp;go_wp2_with fail
       go_quiet ((go_at_call 77;(first|exact Calls.quiet_of (HGC _)|exact d9_ (HGC _))))
       go_wp2_with fail
       go_roundw
       case rel=>exact ⟨k+1,oq_,by go_num,HN,hq_ (Below.drewN HB.out _)⟩
       case measure=>simp [intOf];omega
      ·have hT:(r-d2).tmod G≠0:=fun h=>ha (htm.1 h);have HNT:Hid (¬ el_ done yp' ((L.map PV.p).drop (i+1)) c):=hq_ fun h=>ha (HFAI.out (by have:=h.1;rwa [HRR.out] at this));clear htm ha hy hz hd1 hzv hyp hzp;go_wp2_with fail
       go_quiet ((go_at_call 77;(first|exact Calls.quiet_of (HGC _)|exact d9_ (HGC _))))
       go_wp2_with fail
       go_roundw
       case rel=>exact ⟨j+1,ys,oq_,by go_num,hq_ (fun q hq=>by
        by_cases hqj:q<j
        ·exact HNO.out q hqj
        ·obtain rfl:q=j:=oq_;rw [HCC.out];exact HNT.out),hq_ (HCQ.out.below (Below.drewN (Below.refl _ _) _)),hq_ (World.grownBy.trans' HG.out (World.grownBy.of_below ((HB1.out.trans ((Below.drewN HB.out _).mono HB1.out.size))) _))⟩
       case measure=>simp [intOf];omega
     ·obtain rfl:k=i:=oq_;have q5:=(HCQ.out.row.cellAt k oq_);have hyl:ys.length=L.length:=by have:=HCQ.out.row.1;omega
      rw [List.getElem?_eq_getElem oq_] at q5;have q6:=HCQ.out.row.frozenAt k;have hgr:wr.grownBy (wr.setCell ⟨g,k,none⟩ (.int .i64 r)) (some g):=World.grownBy.set' ⟨rfl,rfl,rfl,Nat.le_refl _,fun _ _ _=>rfl⟩ _;have HFD:Hid (Fits (ys.set k (.int .i64 r)) (done ++ [(yp.period,r)])):=hq_ (by have h:=HCQ.out.fits.snoc (a:=(yp.period,r)) (by rw [HD.out];omega);rwa [HD.out] at h);have HST:=hq_ (HCQ.out.grow hgr hF h1 h2 h3 (HCQ.out.row.stored k (.int .i64 r)).1 HFD.out);have HREC:=IH.out (k+1) (done ++ [(yp.period,r)]) _ _ (by have:=HI.out;omega) (by simp [HD.out]) (fun q hq=>by
       by_cases hqk:q<k
       ·have h:=HPR.out q hqk;have e:(done ++ [(yp.period,r)]).getD q (0,0)=done.getD q (0,0):=by rw [List.getD_eq_getElem?_getD,List.getElem?_append_left (by have:=HD.out;omega),<- List.getD_eq_getElem?_getD]
        rw [e];exact h
       ·obtain rfl:q=k:=oq_;have e:(done ++ [(yp.period,r)]).getD q (0,0)=(yp.period,r):=by rw [List.getD_eq_getElem?_getD,List.getElem?_append_right (by have:=HD.out;omega),HD.out];simp
        rw [e];exact ⟨by rw [<- HXP.out],oq_,oq_⟩) HST.out
      rw [show ((k+1:Nat):Int)=(k:Int)+1 from by omega] at HREC;have HAG2:Hid (fr_ done yp.period r):=hq_ (j3_.2 (by rw [HD.out];exact HAG.out));have HGW:=hq_ (World.grownBy.trans' HG.out (World.grownBy.of_below (HB1.out.trans (HB.out.mono HB1.out.size)) _));have q7:=HST.out.c3;have q8:=HST.out.c1;clear hgr;go_wp2_with (go_at_call 120;refine HREC.mono ?_;rintro e w2 ⟨bb,zs,rfl,hiff,hch2,hg2⟩;have HIF:=hq_ hiff;have HC2:=hq_ hch2;have HG2:=hq_ hg2;clear hiff hch2 hg2;cases bb)
      ·
       go_roundw
       case rel=>exact ⟨j+1,zs,oq_,by go_num,hq_ (fun q hq=>by
        by_cases hqj:q<j
        ·exact HNO.out q hqj
        ·obtain rfl:q=j:=oq_;rw [HCC.out];rintro ⟨h7,h8⟩;rw [HRR.out] at h8;exact absurd h8 (by simpa using HIF.out)),hq_ ⟨HC2.out.term,HC2.out.c1,HC2.out.c2,HC2.out.c3,HC2.out.row,HC2.out.fits.pre⟩,hq_ (World.grownBy.trans' (World.grownBy.set' HGW.out _) HG2.out)⟩
       case measure=>simp [intOf];omega
      ·
       try rw [Exit.noGoto_ret]
       go_ret;refine ⟨true,zs,rfl,?_,⟨HC2.out.term,HC2.out.c1,HC2.out.c2,HC2.out.c3,HC2.out.row,HC2.out.fits.pre⟩,World.grownBy.trans' (World.grownBy.set' HGW.out _) HG2.out⟩;refine ⟨fun _=>(jy_ tq_).2 ⟨c,?_,?_⟩,fun _=>rfl⟩
       ·rw [<- HXP.out];exact HJ.out
       ·rw [<- HXP.out];exact ⟨by rw [HRR.out];exact HAG2.out,by rw [HRR.out];exact HIF.out.1 (by first|rfl|trivial|simp)⟩
   ·obtain rfl:j=xp.cycle.length:=oq_;go_wp2_with fail
    try rw [Exit.noGoto_ret]
    go_ret;refine ⟨false,ys,rfl,⟨fun h=>absurd h dq_,fun h=>?_⟩,HCH.out,HG.out⟩;obtain ⟨c,hc1,hc2⟩:=(jy_ tq_).1 h;rw [<- HXP.out] at hc1 hc2;obtain ⟨q,hq,rfl⟩:=List.mem_iff_getElem.1 hc1;exact absurd (by rw [List.getD_eq_getElem?_getD,List.getElem?_eq_getElem hq];exact hc2) (HNO.out q hq)
end Go.Proofs.YthjnojbeimchdaaGreat
end
