/- Contracts: Compact, Concat; what operate knows; sanity's small helpers. -/
import Derived.Test.YtjilkhhokkncoaaGreatMK4
import Derived.Test.YtjilkhhokkncoaaGreatMK1
import Derived.Lib.AppendZerosOnto
import Derived.Test.YtjilkhhokkncoaaGreatMK6
import Derived.Test.YtjilkhhokkncoaaGreatMK7
import Derived.Test.YtjilkhhokkncoaaGreatMK5
set_option linter.unusedVariables false
set_option linter.unusedSimpArgs false
/- Walks: slices.Compact, slices.Grow, slices.Concat. -/
namespace Go.Proofs.YtjilkhhokkncoaaGreat
open Go.RowKit Kal
open Go.Sort (Holds putRow)
theorem OwnI.cut {w:World} {base g cap n:Nat} {l:List Int} {k:Nat} (h:w.ownsRow base 3 1 (.slice (some ⟨g,0,none⟩) n cap) n (l.map (Value.int .i64))) (hk:k≤n) (hr:∀ x∈l.take k,InI x) (hln:l.length=n) (hb:n≤17592186044416):OwnI w base (.slice (some ⟨g,0,none⟩) k cap) (l.take k):=by
 obtain ⟨h1,h2⟩:=h
 rcases h2 with ⟨h2,_⟩|⟨g',cap',cur,hv,hg,hh,hn,hc,hs,ht⟩
 ·cases h2
 ·injection hv with e1 e2 e3
  injection e1 with e1;injection e1 with e1
  subst e1;subst e3
  have hlk:(l.take k).length=k:=by simp;omega
  refine ⟨?_,hr,by omega⟩
  rw [hlk]
  refine ⟨by simp;omega,.inr ⟨g,cap,cur,rfl,hg,hh,by omega,hc,hs,?_⟩⟩
  rw [Nat.mul_one] at ht ⊢
  rw [List.map_take,← ht,List.take_take,Nat.min_eq_left hk]
theorem grow0 (W:World):Go.Sort.grow W #[]=W:=by cases W;simp [Go.Sort.grow]
theorem compact_any (v:Value) (l:List Int) (base:Nat) (w:World) (hv:OwnI w base v l) :
  Calls Tryz.prog 88 #[v] w fun e w'=>∃ v',e=.returned v'∧OwnI w' base v' (Go.Lib.compact l)∧w.grownBy w' v.ownBlock∧v'.ownBlock=v.ownBlock:=by
 have hv0:=hv
 obtain ⟨⟨h1,h2⟩,h3,h4⟩:=hv
 rcases h2 with ⟨rfl,h0⟩|⟨g,cap,cur,rfl,hg,hh,hn,hc,hs,ht⟩
 ·have hl:l=[]:=List.eq_nil_of_length_eq_zero h0
  subst hl
  exact (Tryz.slices_Compact_int_empty none 0 w).mono fun e w' ⟨he,hw⟩=>⟨_,he,by rw [hw];exact OwnI.nil w base,by rw [hw];exact ⟨rfl,rfl,rfl,Nat.le_refl _,fun _ _ _=>rfl⟩,rfl⟩
 ·rw [Nat.mul_one] at ht
  have hlc:(Go.Lib.compact l).length≤l.length:=compact_length
  have hmem:∀ x∈Go.Lib.compact l,x∈l:=fun x hx=>by
   unfold Go.Lib.compact Go.Lib.compactUpTo at hx
   obtain ⟨j,hj,rfl⟩:=List.mem_map.1 hx
   have:=List.mem_range.1 (List.mem_filter.1 hj).1
   rw [getElem!_pos l.toArray j (by simpa using this)];simp
  refine (Tryz.slices_Compact_int g 0 cap l w (holds_of_blockI hh ht) (by omega) hn).mono fun e w' ⟨he,n,hw⟩=>⟨_,he,?_,?_,rfl⟩
  ·have hlen:(Go.Lib.compact l ++ List.replicate (l.length-(Go.Lib.compact l).length) 0).length=l.length:=by simp;omega
   have:=ownsRow_sortedI (n:=n) (os:=#[]) (ts:=Go.Lib.compact l ++ List.replicate (l.length-(Go.Lib.compact l).length) 0) hlen hg hh hn hc hs
   rw [grow0,← hw] at this
   have h9:=OwnI.cut (k:=(Go.Lib.compact l).length) this hlc (fun x hx=>h3 x (hmem x (by simpa using hx))) hlen h4
   simpa using h9
  ·have:=grownBy_sortedI (w:=w) (g:=g) (n:=n) (os:=#[]) (Go.Lib.compact l ++ List.replicate (l.length-(Go.Lib.compact l).length) 0).toArray
   rw [grow0,← hw] at this
   exact this
set_option maxRecDepth 100000 in
set_option maxHeartbeats 1000000 in
theorem grow_nil (n:Nat) (w:World) (hn:n≤8796093022208) :
  Calls Tryz.prog 103 #[.slice none 0 0,.int .i64 (n:Int)] w fun e w'=>∃ v,e=.returned v∧OwnI w' w.heap.size v []∧Below w.heap.size w w':=by
 obtain ⟨i0,hi0,hz0,hs0,hb0⟩:=intInfo
 by_cases hpos:0<n
 ·have hrz:∀ ty,(Builtin.append_ #[22,3] ty #[.slice none 0 0,.int .i64 (n:Int)]).run Tryz.prog w =
    .ok (.slice (some ⟨w.heap.size,0,none⟩) n (grownCap w n 0 3)) (w.drew.alloc (.cells (#[] ++ Builtin.zeroCells (Value.int .i64 0).cells n ++ Builtin.zeroCells (Value.int .i64 0).cells (grownCap w n 0 3-n)) 3)):=fun ty=>by
   have h:=Lib.run_append_grow_zeros w 22 3 ty 3 i0 (.int .i64 0) .i64 .i64 Tryz.underlying22 Tryz.underlying3 hi0 hz0 none 0 0 [] (run_firstCells_none w.drew i0.size 0 0 0) n hpos (by omega) (by omega) (by omega) (by rw [hb0];omega)
    (growslice_fits (by omega) (by rw [hb0];omega))
   simpa using h
  have hGn:n≤grownCap w n 0 3:=grownCap_ge w _ _ _
  have hGm:=grownCap_le_maxLen w n 0 3 (by unfold maxLen;omega)
  obtain ⟨G,hG⟩:∃ G,G=grownCap w n 0 3:=⟨_,rfl⟩
  rw [← hG] at hrz hGn hGm
  have hG63:G≤9223372036854775807:=by unfold maxLen at hGm;omega
  have HGM:=Lib.hid hGm
  clear hG hGm
  have hnI:(0:Int)<(n:Int):=by omega
  go_enter Tryz.func103,Tryz.ntmps103
  go_wp2_with (at_builtin;refine Lib.wpList_append_run _ rfl _ _ _ _ rfl _ _ rfl rfl _ _ (hrz _) ?_)
  go_ret
  refine ⟨_,rfl,⟨⟨rfl,.inr ⟨w.heap.size,G,_,rfl,Nat.le_refl _,World.alloc_heap_new w.drew _,by simp,HGM.out,?_,by simp⟩⟩,by simp,by simp⟩,?_⟩
  ·simp [Builtin.zeroCells,Value.cells];omega
  ·exact ((Below.refl _ _).drew).alloc (Nat.le_refl _) _
 ·obtain rfl:n=0:=by omega
  go_enter Tryz.func103,Tryz.ntmps103
  go_wp2_with fail
  go_ret
  exact ⟨_,rfl,OwnI.nil _ _,Below.refl _ _⟩
theorem append_ints {w:World} {ops:Array Oper} {rest:List Oper} {o:Oper} {a:Act} {Q:Exit→Act→World→Prop} (hgd:o.guard=none) (s x:Operand)
  (ho:o.op=.call { callee:=.builtin .append,args:=#[s,x],argTypes:=#[22,22] }) (base:Nat) (v xv:Value) (l ys:List Int) (hs:a.eval s=v) (hown:OwnI w base v l)
  (hx:a.eval x=xv) (hxs:Ints w xv ys) (hlen:l.length+ys.length≤17592186044416) (hbase:base≤w.heap.size)
  (h:∀ v' w',OwnI w' base v' (l ++ ys)→w.grownBy w' v.ownBlock→(v'.ownBlock=v.ownBlock∨v'.ownBlock=some w.heap.size)→wpList Tryz.prog ops Q rest (a.put o.dst v') w') :
  wpList Tryz.prog ops Q (o :: rest) a w:=by
 obtain ⟨i,hi,h1,h2,h3⟩:=intInfo
 obtain ⟨⟨xa,xc,rfl,g1,g2,g3⟩,g4,g5⟩:=hxs
 refine wpList_plain hgd fun K hK=>?_
 rcases g3 with rfl|⟨b,off,rfl,hcell⟩
 ·have hrun:(Builtin.append_ #[22,22] o.type #[v,.slice xa ([]:List Int).length xc]).run Tryz.prog w=.ok v w:=by
   obtain ⟨⟨r1,r2⟩,r3,r4⟩:=hown
   rcases r2 with ⟨rfl,r0⟩|⟨g,cap,cur,rfl,r5,r6,r7,r8,r9,r10⟩
   ·cases xa <;> simp [Builtin.append_,run_underlying Tryz.underlying22,sizeOf,typeInfo,hi,Builtin.lenOf,Builtin.firstCells,loadCells,loadCellsFrom,storeCells]
   ·cases xa <;> simp [Builtin.append_,run_underlying Tryz.underlying22,sizeOf,typeInfo,hi,Builtin.lenOf,Builtin.firstCells,r7,loadCells,loadCellsFrom,storeCells]
  unfold Oper.wp execOp
  simp only [ho,resolve,invoke,builtin,Sem.run_bind,Sem.run_pure,Result.andThen_ok,List.map_toArray,List.map_cons,List.map_nil,hs,hx,hrun]
  exact hK _ _ (h v w (by simpa using hown) (World.grownBy.refl w _) (.inl rfl))
 ·obtain ⟨v',w',hrun,k2,k3,_,k5⟩:=run_append_own_at (P:=Tryz.prog) w base 22 o.type 3 i (.int .i64 0) 1 8 Tryz.underlying22 hi h1 h2 h3 rfl (by omega) v l.length (l.map (Value.int .i64)) hown.row ⟨b,off,none⟩ ys.length xc (ys.map (Value.int .i64)) (by simp)
   (fun j u hu=>by
    rw [List.getElem?_map] at hu
    obtain ⟨y,hy,rfl⟩:=Option.map_eq_some_iff.1 hu
    obtain ⟨hj,hy'⟩:=List.getElem?_eq_some_iff.1 hy
    have:=hcell j hj
    rw [show ys.getD j 0=y from by simp [hj,hy']] at this
    rw [show (⟨b,off,none⟩:Addr).add j=⟨b,off+j,none⟩ from by simp [Addr.add]];exact this) (by simp [Value.oneCell']) (by unfold maxLen;omega) (by omega) hbase
  unfold Oper.wp execOp
  simp only [ho,resolve,invoke,builtin,Sem.run_bind,Sem.run_pure,Result.andThen_ok,List.map_toArray,List.map_cons,List.map_nil,hs,hx,hrun]
  refine hK _ _ (h v' w' ⟨?_,fun z hz=>?_,by simp;omega⟩ k3 k5)
  ·rw [List.length_append,List.map_append];exact k2
  ·rcases List.mem_append.1 hz with hz|hz
   ·exact hown.rng z hz
   ·exact g5 z hz
def Bxx' (w:World) (b:Nat) (c:Array Value):Prop:=∀ i,w.cell? ⟨b,i,none⟩=c[i]?
def ConcatRes (l:List Int) (w:World) (e:Ending) (w':World):Prop:=∃ v,e=.returned v∧OwnI w' w.heap.size v l∧Below w.heap.size w w'
set_option maxRecDepth 100000 in
set_option maxHeartbeats 1000000 in
theorem concat_any (b c:Nat) (v1 v2:Value) (l1 l2:List Int) (w:World) (hb:Bxx' w b #[v1,v2]) (h1:Ints w v1 l1) (h2:Ints w v2 l2) (hl:l1.length+l2.length≤8796093022208) (hc:2≤c) (hc1:c≤1000) :
  Calls Tryz.prog 86 #[.slice (some ⟨b,0,none⟩) 2 c] w (ConcatRes (l1 ++ l2) w):=by
 obtain ⟨a1,c1,rfl⟩:∃ a c,v1=.slice a l1.length c:=by obtain ⟨⟨a,c,e,_⟩,_⟩:=h1;exact ⟨a,c,e⟩
 obtain ⟨a2,c2,rfl⟩:∃ a c,v2=.slice a l2.length c:=by obtain ⟨⟨a,c,e,_⟩,_⟩:=h2;exact ⟨a,c,e⟩
 have q0:w.cell? ⟨b,0,none⟩=some (.slice a1 l1.length c1):=(hb 0)
 have q1:w.cell? ⟨b,1,none⟩=some (.slice a2 l2.length c2):=(hb 1)
 have H1:=Lib.hid h1
 have H2:=Lib.hid h2
 have HB:=Lib.hid hb
 clear h1 h2 hb
 go_enter Tryz.func86,Tryz.ntmps86
 go_wp2_with fail
 go_loop [11,3] (fun i n=>(i=.int .i64 0∧n=.int .i64 0)∨(i=.int .i64 1∧n=.int .i64 l1.length)∨(i=.int .i64 2∧n=.int .i64 (l1.length+l2.length))) (fun i _=>2-(intOf i).toNat)
 case atStart=>exact .inl ⟨rfl,rfl⟩
 case round=>
  rcases hrel with ⟨rfl,rfl⟩|⟨rfl,rfl⟩|⟨rfl,rfl⟩
  ·go_wp2_with fail
   go_round
   case rel=>exact .inr (.inl ⟨rfl,rfl⟩)
   case measure=>simp [intOf]
  ·go_wp2_with fail
   go_round
   case rel=>exact .inr (.inr ⟨rfl,rfl⟩)
   case measure=>simp [intOf]
  ·go_wp2_with (go_at_call 103;rw [show ((l1.length:Int)+(l2.length:Int))=((l1.length+l2.length:Nat):Int) from by push_cast;rfl];refine (grow_nil (l1.length+l2.length) _ hl).mono ?_;rintro e w2 ⟨v2,rfl,hown2,hb2⟩;obtain ⟨va,vc,rfl⟩:=hown2.form;obtain ⟨hc2,hf2⟩:=bcell hb2;(try simp only [World.size_alloc,World.size_drew,size_drewN,World.size_setCell] at hc2 hf2))
   have hE2:Below w.heap.size w w2:=hb2
   have HOWN2:=Lib.hid hown2
   clear hown2 hb2 hc2 hf2
   go_loopw [27,6] (fun i ns wr=>((i=.int .i64 0∧OwnI wr w.heap.size ns [])∨(i=.int .i64 1∧OwnI wr w.heap.size ns l1)∨(i=.int .i64 2∧OwnI wr w.heap.size ns (l1 ++ l2)))∧Below w.heap.size w wr) (fun i _ _=>2-(intOf i).toNat)
   case atStart=>exact ⟨.inl ⟨rfl,HOWN2.out⟩,hE2⟩
   case round=>
    obtain ⟨hrel,hEr⟩:=hrel
    have q0:=Ext.cell hEr q0
    have q1:=Ext.cell hEr q1
    have hszr:=hEr.size
    rcases hrel with ⟨rfl,hown⟩|⟨rfl,hown⟩|⟨rfl,hown⟩
    ·obtain ⟨na,nc,rfl⟩:=hown.form
     have HOWN:=Lib.hid hown
     clear hown
     go_wp2_with (at_builtin;refine append_ints (by rfl) _ _ (by rfl) w.heap.size (.slice na 0 nc) (.slice a1 l1.length c1) [] l1 (by rfl) HOWN.out (by rfl) (H1.out.ext hEr) (by simp;omega) (by omega) ?_;intro v5 w5 hown5 hgrow5 hloc5;obtain ⟨na5,nc5,rfl⟩:=hown5.form)
     go_roundw
     case rel=>exact ⟨.inr (.inl ⟨rfl,by simpa using hown5⟩),hEr.grown hgrow5 hEr.size (fun k e=>(HOWN.out.lt k e).1)⟩
     case measure=>simp [intOf]
    ·obtain ⟨na,nc,rfl⟩:=hown.form
     have HOWN:=Lib.hid hown
     clear hown
     go_wp2_with (at_builtin;refine append_ints (by rfl) _ _ (by rfl) w.heap.size (.slice na l1.length nc) (.slice a2 l2.length c2) l1 l2 (by rfl) HOWN.out (by rfl) (H2.out.ext hEr) (by omega) (by omega) ?_;intro v5 w5 hown5 hgrow5 hloc5;obtain ⟨na5,nc5,rfl⟩:=hown5.form)
     go_roundw
     case rel=>exact ⟨.inr (.inr ⟨rfl,by simpa using hown5⟩),hEr.grown hgrow5 hEr.size (fun k e=>(HOWN.out.lt k e).1)⟩
     case measure=>simp [intOf]
    ·obtain ⟨na,nc,rfl⟩:=hown.form
     have HOWN:=Lib.hid hown
     clear hown
     go_wp2_with fail
     go_ret
     exact ⟨_,rfl,HOWN.out,hEr⟩
end Go.Proofs.YtjilkhhokkncoaaGreat
/- Ground for the walks of operate (package periodic). -/
namespace Go.Proofs.YtjilkhhokkncoaaGreat
open Go.RowKit Go.Maps Kal
theorem PairIn.below {w w':World} {lo hi B:Nat} {h1 c1 h2 c2:Value} {qa qb:Per} {st:Int} {xv yv:Value} {mb:Nat} (h:PairIn w lo hi h1 c1 h2 c2 qa qb st xv yv mb) (hb:Below B w w') (hB:hi≤B):PairIn w' lo hi h1 c1 h2 c2 qa qb st xv yv mb:=
 ⟨h.a.below hb hB,h.b.below hb hB,h.x.below hb hB,h.y.below hb hB,h.m.of_blocks (fun k _ h2=>hb.block k (by omega)),h.lom⟩
theorem res_mem {q:Per} (h:q.WF) {st:Int} (hs:q.frm≤st) (y:Int):y∈isort (cycL q st)↔0≤y∧y<q.period∧q.mem (st+y):=(isort_mem _ y).trans (cycL_mem h hs y)
theorem res_rise {q:Per} (h:q.WF) {st:Int} (hs:q.frm≤st):Rise 0 q.period (isort (cycL q st)):=⟨isort_lt (cycL_nodup h st),fun x hx=>by have:=(res_mem h hs x).1 hx;exact ⟨this.1,this.2.1⟩⟩
theorem res_length {q:Per} (st:Int):(isort (cycL q st)).length=q.cycle.length:=by rw [isort_length];unfold cycL;simp
theorem comN_meet (xs ys:List Int) (a b st:Int):comN xs ys (Int.gcd a b:Nat)=(meetL xs ys a b st).length:=by
 unfold comN meetL grp
 rw [flatMap_length]
 congr 1
 refine List.map_congr_left fun x _=>?_
 simp
structure OpFacts (p1 p2 qa qb:Per) (st L g:Int):Prop where
 hx:Rise 0 qa.period (isort (cycL qa st))
 hy:Rise 0 qb.period (isort (cycL qb st))
 n:((sel (fun n=>qa.mem n∧qb.mem n) 0 st).length:Int)+comN (isort (cycL qa st)) (isort (cycL qb st)) g=cnt (fun n=>p1.mem n∧p2.mem n) (st+L).toNat
 inA:belowI qa st+(isort (cycL qa st)).length*(L / qa.period)=cnt p1.mem (st+L).toNat
 inB:belowI qb st+(isort (cycL qb st)).length*(L / qb.period)=cnt p2.mem (st+L).toNat
 meet:∀ n,n∈meetL (isort (cycL qa st)) (isort (cycL qb st)) qa.period qb.period st↔st≤n∧n<st+L∧p1.mem n∧p2.mem n
 headsEq:sel (fun n=>qa.mem n∧qb.mem n) 0 st=sel (fun n=>p1.mem n∧p2.mem n) 0 st
 com:comN (isort (cycL qa st)) (isort (cycL qb st)) g=(meetL (isort (cycL qa st)) (isort (cycL qb st)) qa.period qb.period st).length
theorem opFacts {p1 p2 qa qb:Per} (hqa:IsCanon qa p1.mem) (hqb:IsCanon qb p2.mem) {st L g:Int} (hs1:qa.frm≤st) (hs2:qb.frm≤st) (hL:L=lcmI qa.period qb.period) (hg:g=(Int.gcd qa.period qb.period:Nat)):OpFacts p1 p2 qa qb st L g:=by
 have hx:=res_rise hqa.wf hs1
 have hy:=res_rise hqb.wf hs2
 have h0:0≤st:=by have:=hqa.wf.frm;omega
 have hsel:sel (fun n=>qa.mem n∧qb.mem n) 0 st=sel (fun n=>p1.mem n∧p2.mem n) 0 st:=sel_congr (Int.le_refl _) fun n=>by rw [hqa.mem,hqb.mem]
 have hL1:1≤L:=by rw [hL];exact lcmI_pos hqa.wf.per hqb.wf.per
 refine ⟨hx,hy,?_,?_,?_,?_,hsel,by rw [hg];exact comN_meet _ _ _ _ _⟩
 ·rw [hsel,hg,comN_meet (st:=st),hL]
  exact meet_cnt hqa hqb hs1 hs2 hx hy (res_mem hqa.wf hs1) (res_mem hqb.wf hs2) h0
 ·rw [res_length];exact in_cnt hqa hs1 hL1 (hL ▸ lcmI_dvd_left)
 ·rw [res_length];exact in_cnt hqb hs2 hL1 (hL ▸ lcmI_dvd_right)
 ·rw [hL];exact meet_iff hqa hqb hs1 hs2 hx hy (res_mem hqa.wf hs1) (res_mem hqb.wf hs2)
theorem slice_head {a:Option Addr} {c i:Nat} (l:List Int) (hi:i≤l.length) (hc:l.length≤c) :
  ∃ a',(∀ W,(Instr.slice 22 (.slice a l.length c) none (some (.int .i64 (i:Int))) (some (.int .i64 (i:Int)))).run Tryz.prog W=.ok (.slice a' i i) W)∧
   (∀ w,Ints w (.slice a l.length c) l→Ints w (.slice a' i i) (l.take i)):=by
 refine ⟨if i=0 then a else a.map (·.add (0*1)),fun W=>?_,fun w h=>?_⟩
 ·rw [run_slice_hm W 22 _ _ _ (by kernel_rfl) .i64 .i64 _ _ (by omega) (by omega) (by omega)]
  have hz:(sizeOf (Tryz.prog.elem 22)).run Tryz.prog W=.ok 1 W:=by kernel_rfl
  rw [hz]
  simp only [Result.andThen,sliced,Int.toNat_natCast,Nat.sub_zero]
 ·obtain ⟨⟨a2,c2,he,h1,h2,h3⟩,h4,h5⟩:=h
  injection he with e1 e2 e3
  subst e1;subst e3
  have hl:(l.take i).length=i:=by simp;omega
  refine ⟨⟨_,i,by rw [hl],by rw [hl];exact Nat.le_refl _,by omega,?_⟩,by omega,fun x hx=>h5 x (List.mem_of_mem_take hx)⟩
  by_cases h0:i=0
  ·subst h0;exact .inl (by simp)
  ·rcases h3 with rfl|⟨b,o,rfl,hcell⟩
   ·simp at hi;omega
   ·refine .inr ⟨b,o,by rw [if_neg h0];simp [Addr.add],fun j hj=>?_⟩
    rw [hl] at hj
    rw [hcell j (by omega)]
    simp [List.getD_eq_getElem?_getD,List.getElem?_take_of_lt hj]
theorem grown_ob {A wr w17:World} {ob i:Nat} {v:Value} (h:A.grownBy wr (some ob)) (hb:Below A.heap.size wr w17):A.grownBy (w17.setCell ⟨ob,i,none⟩ v) (some ob):=
 ⟨(
  show (w17.setCell ⟨ob,i,none⟩ v).os=_ from hb.os).trans h.os,(show (w17.setCell ⟨ob,i,none⟩ v).tape=_ from hb.tape).trans h.tape,(show (w17.setCell ⟨ob,i,none⟩ v).output=_ from hb.output).trans h.output,by have:=h.size;have:=hb.size;simp [World.setCell];omega,
  fun k hk hne=>((Below.heap_setCell w17 ⟨ob,i,none⟩ v k (by intro e;exact hne (by rw [e]))).trans (hb.block k hk)).trans (h.block k hk hne)⟩
theorem compact_isort {LL SEL:List Int} (hs:SEL.Pairwise (· < ·)) (hm:∀ x,x∈LL↔x∈SEL):Go.Lib.compact (isort LL)=SEL:=by
 obtain ⟨h1,h2⟩:=compact_sorted (isort_le LL)
 exact sorted_ext h1 hs fun x=>by rw [h2,isort_mem,hm]
end Go.Proofs.YtjilkhhokkncoaaGreat
/- What the method without of a pair returns, as a set. -/
namespace Go.Proofs.YtjilkhhokkncoaaGreat
open Go.RowKit Go.Maps Kal
theorem full_iff {q:Per} (hq:q.WF) {st:Int} (hs:q.frm≤st) {g:Int} (hg:1≤g) (hgd:g∣q.period) {r:Int} (hf:fullB (isort (cycL q st)) g q.period r=true) {n:Int} (hn:st≤n) (hr:(n-st) % g=r % g):q.mem n:=by
 have hp:=hq.per
 have hr0:=Int.emod_nonneg r (show g≠0 by omega)
 have hr1:=Int.emod_lt_of_pos r (show 0<g by omega)
 have h1:=(class_full (ys:=isort (cycL q st)) hp hg hgd (res_rise hq hs) hr0 hr1).1 (of_decide_eq_true hf)
 refine (res_iff hq hs (res_mem hq hs) hn).1 (h1 _ (Int.emod_nonneg _ (by omega)) (Int.emod_lt_of_pos _ (by omega)) ?_)
 rw [Int.emod_emod_of_dvd _ hgd,hr]
theorem withW_mem {qa qb:Per} (ha:qa.WF) (hb:qb.WF) {st g L:Int} {R:Nat} (hs1:qa.frm≤st) (hs2:qb.frm≤st) (hg:g=(Int.gcd qa.period qb.period:Nat)) (hLR:L=R*qa.period) (x:Int) :
  x∈withW qa qb st g (isort (cycL qa st)) (isort (cycL qb st)) R (isort (cycL qa st)).length↔x∈sel (fun n=>qa.mem n∧¬ qb.mem n) 0 (st+L):=by
 have hf0:=ha.frm
 have hp:=ha.per
 have hg1:1≤g:=by rw [hg];exact (gcd_bound hp).1
 have hga:g∣qa.period:=by rw [hg];exact Int.gcd_dvd_left _ _
 have hgb:g∣qb.period:=by rw [hg];exact Int.gcd_dvd_right _ _
 have hL0:0≤L:=by rw [hLR];exact Int.mul_nonneg (by omega) (by omega)
 have key:∀ {r:Int} {j:Nat},r∈isort (cycL qa st)→j<R→qa.mem (st+(r+j*qa.period))∧0≤r+j*qa.period∧r+j*qa.period<L:=by
  intro r j hr hj
  have hr':=(res_mem ha hs1 r).1 hr
  have h3:=step_lt (a:=qa.period) (L:=L) (m:=j) (R:=R) hr'.1 hr'.2.1 hLR (by omega)
  have h4:=h3.1.2 hj
  refine ⟨(res_iff ha hs1 (res_mem ha hs1) (by omega)).1 ?_,by omega,h4⟩
  rw [show st+(r+j*qa.period)-st=r+j*qa.period from by omega,Int.add_mul_emod_self_right,Int.emod_eq_of_lt hr'.1 hr'.2.1];exact hr
 have nm:∀ {n:Int},0≤n→((!memB qb n)=true↔¬ qb.mem n):=fun {n} h=>by
  have:=memB_iff (p:=qb) h
  cases hm:memB qb n <;> simp [hm] at this ⊢ <;> assumption
 unfold withW
 rw [List.take_length,List.mem_append,List.mem_flatMap,sel_mem (Int.le_refl _)]
 constructor
 ·rintro (h|⟨r,hr,h⟩)
  ·unfold keepF at h
   rw [List.mem_filter,sel_mem (Int.le_refl _)] at h
   exact ⟨h.1.1,by omega,h.1.2.2,(nm h.1.1).1 h.2⟩
  ·split at h
   ·simp at h
   ·unfold partW keepF at h
    rw [List.mem_filter,List.mem_map] at h
    obtain ⟨⟨j,hj,rfl⟩,h2⟩:=h
    rw [upto_mem] at hj
    obtain ⟨m,rfl⟩:=Int.eq_ofNat_of_zero_le hj.1
    obtain ⟨k1,k2,k3⟩:=key hr (show m<R by omega)
    exact ⟨by omega,by omega,k1,(nm (by omega)).1 h2⟩
 ·rintro ⟨h0,h1,h2,h3⟩
  by_cases hx:x<st
  ·refine .inl ?_
   unfold keepF
   rw [List.mem_filter,sel_mem (Int.le_refl _)]
   exact ⟨⟨h0,hx,h2⟩,(nm h0).2 h3⟩
  ·have hr:=(res_iff ha hs1 (res_mem ha hs1) (show st≤x by omega)).2 h2
   refine .inr ⟨_,hr,?_⟩
   have hnf:¬ fullB (isort (cycL qb st)) g qb.period ((x-st) % qa.period)=true:=fun hf=>
    h3 (full_iff hb hs2 hg1 hgb hf (by omega) (by rw [Int.emod_emod_of_dvd _ hga]))
   rw [if_neg hnf]
   unfold partW keepF
   rw [List.mem_filter,List.mem_map]
   have e:=Int.emod_add_ediv_mul (x-st) qa.period
   have hd0:0≤(x-st) / qa.period:=Int.ediv_nonneg (by omega) (by omega)
   refine ⟨⟨(x-st) / qa.period,(upto_mem _ _).2 ⟨hd0,?_⟩,by omega⟩,(nm h0).2 h3⟩
   exact Int.ediv_lt_of_lt_mul (by omega) (by rw [← hLR];omega)
end Go.Proofs.YtjilkhhokkncoaaGreat
/- Walks: operate (package periodic): a common period that is too large, an invalid set. -/
namespace Go.Proofs.YtjilkhhokkncoaaGreat
open Go.RowKit Go.Maps Kal
set_option maxRecDepth 100000 in
set_option maxHeartbeats 4000000 in
theorem operate_big (h1 c1 h2 c2:Value) (p1 p2 qa qb:Per) (kd:Int) (w:World) (hp1:PerIs w h1 c1 p1) (hp2:PerIs w h2 c2 p2) (hv1:Valid p1) (hv2:Valid p2) (hqa:IsCanon qa p1.mem) (hqb:IsCanon qb p2.mem)
  (hL:¬ lcmI qa.period qb.period≤1099511627776) :
  Calls Tryz.prog 56 #[perV h1 c1 p1.frm p1.period,perV h2 c2 p2.frm p2.period,.int .i64 kd] w (PerErr 2 w):=by
 obtain ⟨a1,m1,a2,m2,rfl,rfl⟩:=hp1.inn.form
 obtain ⟨a3,m3,a4,m4,rfl,rfl⟩:=hp2.inn.form
 have hl1:∀ W,Below w.heap.size w W→PerIs W (.slice a1 p1.head.length m1) (.slice a2 p1.cycle.length m2) p1:=fun W hb=>hp1.ext hb
 have hl2:∀ W,Below w.heap.size w W→PerIs W (.slice a3 p2.head.length m3) (.slice a4 p2.cycle.length m4) p2:=fun W hb=>hp2.ext hb
 have hvb1:=(validB_iff p1).2 hv1
 have hvb2:=(validB_iff p2).2 hv2
 have HV1:=Lib.hid hv1
 have HV2:=Lib.hid hv2
 have HQA:=Lib.hid hqa
 have HQB:=Lib.hid hqb
 have HF1:Hid (p1.frm≤562949953421312∧p1.period≤562949953421312):=by have:=hv1.frm;have:=hv1.per;exact Lib.hid (by omega)
 have HF2:Hid (p2.frm≤562949953421312∧p2.period≤562949953421312):=by have:=hv2.frm;have:=hv2.per;exact Lib.hid (by omega)
 obtain ⟨b1,b2,_,b4,b5⟩:=hqa.smaller hv1.wf
 obtain ⟨d1,d2,_,d4,d5⟩:=hqb.smaller hv2.wf
 have za0:=hqa.wf.frm
 have zb0:=hqb.wf.frm
 have za1:=hqa.wf.per
 have zb1:=hqb.wf.per
 have e1:=hv1.frm
 have e2:=hv1.per
 have e3:=hv2.frm
 have e4:=hv2.per
 have hgl:=gcd_bound (b:=qb.period) za1
 have hgl2:=gcd_bound2 (a:=qa.period) zb1
 clear hp1 hp2 hv1 hv2 hqa hqb
 obtain ⟨st,hst⟩:∃ st,st=max (max qa.frm qb.frm) 0:=⟨_,rfl⟩
 have HSTT:=Lib.hid hst
 have hs1:qa.frm≤st:=by omega
 have hs2:qb.frm≤st:=by omega
 have hs3:st≤1099511627776:=by omega
 clear hst
 generalize hG:((Int.gcd qa.period qb.period:Nat):Int)=g at *
 have HG:=Lib.hid hG
 clear hG
 go_enter Tryz.func56,Tryz.ntmps56
 go_upto_region 4 with ((first|(go_at_call 15;first|((with_reducible refine (valid_any _ _ p1 _ (hl1 _ (by (repeat' (with_reducible first|assumption|apply Er|apply Ea|apply Ed|apply En|(refine Es ?_ (by first|(simp<;>omega)|omega) _)|refine Et ?_ (by assumption)))))).mono ?_);rintro e w1 ⟨rfl,hb1⟩;obtain ⟨hx1,hf1⟩:=bcell hb1;(try simp only [World.size_alloc,World.size_drew,size_drewN,World.size_setCell] at hx1 hf1);have hz1:w.heap.size+2<w1.heap.size:=(by have h7:=hb1.size;simp at h7;omega))|((with_reducible refine (valid_any _ _ p2 _ (hl2 _ (by (repeat' (with_reducible first|assumption|apply Er|apply Ea|apply Ed|apply En|(refine Es ?_ (by first|(simp<;>omega)|omega) _)|refine Et ?_ (by assumption)))))).mono ?_);rintro e w2 ⟨rfl,hb2⟩;obtain ⟨hx2,hf2⟩:=bcell hb2;(try simp only [World.size_alloc,World.size_drew,size_drewN,World.size_setCell] at hx2 hf2);have hz2:w.heap.size+2<w2.heap.size:=(by have h7:=hb2.size;omega);have hA:=(((((Bxx.new w #[.slice a1 p1.head.length m1,.int .i64 p1.frm,.int .i64 p1.period,.slice a2 p1.cycle.length m2] 24).alloc (.cells #[.slice a3 p2.head.length m3,.int .i64 p2.frm,.int .i64 p2.period,.slice a4 p2.cycle.length m4] 24)).alloc (.cells #[.slice none 0 0,.int .i64 0,.int .i64 0,.slice none 0 0] 24)).upto hb1 (by simp;omega)).upto hb2 (by omega));have hB:=((((Bxx.new (w.alloc (.cells #[.slice a1 p1.head.length m1,.int .i64 p1.frm,.int .i64 p1.period,.slice a2 p1.cycle.length m2] 24)) #[.slice a3 p2.head.length m3,.int .i64 p2.frm,.int .i64 p2.period,.slice a4 p2.cycle.length m4] 24).alloc (.cells #[.slice none 0 0,.int .i64 0,.int .i64 0,.slice none 0 0] 24)).upto hb1 (by simp)).upto hb2 (by simp;omega));simp only [World.size_alloc] at hB;have A0:=(hA.cells 0).1;have A1:=(hA.cells 1).1;have A2:=(hA.cells 2).1;have A3:=(hA.cells 3).1;have B0:=(hB.cells 0).1;have B1:=(hB.cells 1).1;have B2:=(hB.cells 2).1;have B3:=(hB.cells 3).1))|(go_at_call 58;refine (newPair_any _ _ _ _ p1 p2 qa qb 0 _ (hl1 _ (by (repeat' (with_reducible first|assumption|apply Er|apply Ea|apply Ed|apply En|(refine Es ?_ (by first|(simp<;>omega)|omega) _)|refine Et ?_ (by assumption))))) (hl2 _ (by (repeat' (with_reducible first|assumption|apply Er|apply Ea|apply Ed|apply En|(refine Es ?_ (by first|(simp<;>omega)|omega) _)|refine Et ?_ (by assumption))))) HV1.out.wf HV2.out.wf HF1.out.1 HF2.out.1 HF1.out.2 HF2.out.2 HQA.out HQB.out (by omega) (by omega)).mono ?_;rintro e w3 ⟨x1,x2,x3,x4,xv,yv,mb,he,hP,hb3⟩;rw [← HSTT.out,HG.out] at he;rw [← HSTT.out] at hP;subst he;obtain ⟨z1,y1,z2,y2,rfl,rfl⟩:=hP.a.form;obtain ⟨z3,y3,z4,y4,rfl,rfl⟩:=hP.b.form;obtain ⟨⟨⟨xa,xc,rfl,_⟩,hxl,_⟩,_⟩:=hP.x;obtain ⟨⟨⟨ya,yc,rfl,_⟩,hyl,_⟩,_⟩:=hP.y)))
 generalize hpbw:w3.heap.size=pb at *
 have hszb:w.heap.size+2<w2.heap.size:=hz2
 have hszc:w2.heap.size≤pb:=by have:=hb3.size;omega
 have hrx:Bxx w3 (w.heap.size+2) #[.slice none 0 0,.int .i64 0,.int .i64 0,.slice none 0 0] 24:=(((Bxx.at (by simp)).upto hb1 (by simp)).upto hb2 (by omega)).upto hb3 (by omega)
 refine wp_abs (F:=fun W3=>Bxx W3 pb #[.slice z1 qa.head.length y1,.int .i64 qa.frm,.int .i64 qa.period,.slice z2 qa.cycle.length y2,.slice z3 qb.head.length y3,.int .i64 qb.frm,.int .i64 qb.period,.slice z4 qb.cycle.length y4,.int .i64 st,.slice xa (isort (cycL qa st)).length xc,.slice ya (isort (cycL qb st)).length yc,.int .i64 g,.map (some mb)] 62∧Bxx W3 (w.heap.size+2) #[.slice none 0 0,.int .i64 0,.int .i64 0,.slice none 0 0] 24∧PairIn W3 w2.heap.size pb (.slice z1 qa.head.length y1) (.slice z2 qa.cycle.length y2) (.slice z3 qb.head.length y3) (.slice z4 qb.cycle.length y4) qa qb st (.slice xa (isort (cycL qa st)).length xc) (.slice ya (isort (cycL qb st)).length yc) mb∧Below w.heap.size w W3∧W3.heap.size=pb+1)
  ⟨Bxx.at hpbw.symm,hrx.alloc _,hP.below (Ea (Er _) _) (by omega),by (repeat' (with_reducible first|assumption|apply Er|apply Ea|apply Ed|apply En|(refine Es ?_ (by first|(simp<;>omega)|omega) _)|refine Et ?_ (by assumption))),by simp [hpbw]⟩ ?_
 clear hP hrx hb1 hb2 hb3 hx1 hf1 hx2 hf2 hA hB A0 A1 A2 A3 B0 B1 B2 B3 hvb1 hvb2 hz1 hpbw
 rintro W3 ⟨hpb,hrb,hP,hE3,hz3⟩
 have c0:W3.cell? ⟨pb,0,none⟩=some (.slice z1 qa.head.length y1):=(hpb.cells 0).1
 have c1:W3.cell? ⟨pb,1,none⟩=some (.int .i64 qa.frm):=(hpb.cells 1).1
 have c2:W3.cell? ⟨pb,2,none⟩=some (.int .i64 qa.period):=(hpb.cells 2).1
 have c3:W3.cell? ⟨pb,3,none⟩=some (.slice z2 qa.cycle.length y2):=(hpb.cells 3).1
 have c4:W3.cell? ⟨pb,4,none⟩=some (.slice z3 qb.head.length y3):=(hpb.cells 4).1
 have c5:W3.cell? ⟨pb,5,none⟩=some (.int .i64 qb.frm):=(hpb.cells 5).1
 have c6:W3.cell? ⟨pb,6,none⟩=some (.int .i64 qb.period):=(hpb.cells 6).1
 have c7:W3.cell? ⟨pb,7,none⟩=some (.slice z4 qb.cycle.length y4):=(hpb.cells 7).1
 have c8:W3.cell? ⟨pb,8,none⟩=some (.int .i64 st):=(hpb.cells 8).1
 have c9:W3.cell? ⟨pb,9,none⟩=some (.slice xa (isort (cycL qa st)).length xc):=(hpb.cells 9).1
 have c10:W3.cell? ⟨pb,10,none⟩=some (.slice ya (isort (cycL qb st)).length yc):=(hpb.cells 10).1
 have c11:W3.cell? ⟨pb,11,none⟩=some (.int .i64 g):=(hpb.cells 11).1
 have c12:W3.cell? ⟨pb,12,none⟩=some (.map (some mb)):=(hpb.cells 12).1
 have HLV:Hid (lcmV qa.period qb.period=.tuple #[.int .i64 0,.int .i64 2]):=Lib.hid (by unfold lcmV;rw [if_neg (by omega)])
 have g0:=hrb.cells 0
 have g1:=hrb.cells 1
 have g2:=hrb.cells 2
 have g3:=hrb.cells 3
 clear hL hP hpb hrb
 go_wp2_with (go_at_call 83;refine (lcm_any _ _ _ za1 (by omega) zb1 (by omega)).mono ?_;rintro e w4 ⟨he,nq,rfl⟩;rw [HLV.out] at he;subst he)
 exact bodyPost_ret (v:=.tuple #[perV (.slice none 0 0) (.slice none 0 0) 0 0,.int .i64 2]) (by simp [results,Tryz.results56,go_sem, *]) rfl ⟨rfl,by (repeat' (with_reducible first|assumption|apply Er|apply Ea|apply Ed|apply En|(refine Es ?_ (by first|(simp<;>omega)|omega) _)|refine Et ?_ (by assumption)))⟩
end Go.Proofs.YtjilkhhokkncoaaGreat
