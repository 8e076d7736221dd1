/- Part 3 of the proof of MixedDecisionsMatchReference_said. -/
import Derived.Test.YthjnojbeimchdaaGreatU2
import Derived.Test.YthjnojbeimchdaaGreatU1
import Derived.Maps.OwnIn
import Derived.OwnWalk
import Derived.Maps.OwnRows
import Derived.Maps.Views
import Derived.Laws.EntriesVeiled
set_option linter.unusedVariables false
set_option linter.unusedSimpArgs false
set_option maxRecDepth 100000
set_option maxHeartbeats 4000000
namespace Go.Proofs.YthjnojbeimchdaaGreat
open Go.RowKit Kal
theorem af_ {w:World} {n:Nat}:(w.drewN n).heap.size=w.heap.size:=rfl
structure IntsIn (w:World) (lo hi:Nat) (v:Value) (l:List Int):Prop where
 ints:Ints w v l
 blk:l≠[]->∀ k,v.ownBlock=some k->lo≤k∧k<hi
theorem IntsIn.mono {w:World} {lo hi lo' hi':Nat} {v:Value} {l:List Int} (h:IntsIn w lo hi v l) (h1:lo'≤lo) (h2:hi≤hi'):IntsIn w lo' hi' v l:=
 ⟨h.ints,fun hl k hk=>by have:=h.blk hl k hk;omega⟩
theorem IntsIn.of_blocks {w w':World} {lo hi:Nat} {v:Value} {l:List Int} (h:IntsIn w lo hi v l) (hb:∀ k,lo≤k->k<hi->w'.heap[k]? = w.heap[k]?):IntsIn w' lo hi v l:=by
 obtain ⟨⟨⟨a,c,rfl,h1,h2,h3⟩,h4,h5⟩,h6⟩:=h;refine ⟨⟨⟨a,c,rfl,h1,h2,?_⟩,h4,h5⟩,h6⟩;rcases h3 with h3|⟨b,o,rfl,hc⟩
 ·exact .inl h3
 ·by_cases hl:l=[]
  ·exact .inl hl
  ·obtain ⟨g1,g2⟩:=h6 hl b rfl;exact .inr ⟨b,o,rfl,fun i hi=>(World.cell?_of_block (hb b g1 g2)).trans (hc i hi)⟩
theorem IntsIn.set {w:World} {lo hi b i:Nat} {v:Value} {l:List Int} (h:IntsIn w lo hi v l) (u:Value) (hb:b<lo∨hi≤b):IntsIn (w.setCell ⟨b,i,none⟩ u) lo hi v l:=
 h.of_blocks fun k h1 h2=>Below.heap_setCell w ⟨b,i,none⟩ u k tq_
theorem IntsIn.drewN {w:World} {lo hi:Nat} {v:Value} {l:List Int} (h:IntsIn w lo hi v l) (n:Nat):IntsIn (w.drewN n) lo hi v l:=h.of_blocks fun _ _ _=>rfl
theorem IntsIn.below {w w':World} {lo hi B:Nat} {v:Value} {l:List Int} (h:IntsIn w lo hi v l) (hb:Below B w w') (hB:hi≤B):IntsIn w' lo hi v l:=h.of_blocks fun k _ h2=>hb.block k oq_
theorem IntsIn.alloc {w:World} {lo hi:Nat} {v:Value} {l:List Int} (h:IntsIn w lo hi v l) (o:Obj) (hw:hi≤w.heap.size):IntsIn (w.alloc o) lo hi v l:=
 h.of_blocks fun k _ h2=>Below.heap_alloc w o k oq_
theorem Ints.inn {w:World} {v:Value} {l:List Int} (h:Ints w v l):IntsIn w 0 w.heap.size v l:=by
 refine ⟨h,fun hl k hk=>⟨Nat.zero_le _,?_⟩⟩;obtain ⟨⟨a,c,rfl,h1,h2,h3⟩,h4,h5⟩:=h;rcases h3 with h3|⟨b,o,rfl,hc⟩
 ·exact absurd h3 hl
 ·obtain rfl:b=k:=by simpa [Value.ownBlock] using hk
  exact World.block_lt_of_cell? w _ (hc 0 (List.length_pos_iff.2 hl))
theorem OwnI.inn {w:World} {base:Nat} {v:Value} {l:List Int} (h:OwnI w base v l):IntsIn w base w.heap.size v l:=
 ⟨h.ints,fun _ k hk=>h.lt k hk⟩
structure ar_ (w:World) (lo hi:Nat) (h c:Value) (p:Per):Prop where
 hd:IntsIn w lo hi h p.head
 cy:IntsIn w lo hi c p.cycle
section
variable {w w':World} {lo hi B b i:Nat} {h c:Value} {p:Per}
theorem ar_.is (hp:ar_ w lo hi h c p):a8_ w h c p:=⟨hp.hd.ints,hp.cy.ints⟩
theorem ar_.mono {lo' hi':Nat} (hp:ar_ w lo hi h c p) (h1:lo'≤lo) (h2:hi≤hi'):ar_ w lo' hi' h c p:=⟨hp.hd.mono h1 h2,hp.cy.mono h1 h2⟩
theorem ar_.of_blocks (hp:ar_ w lo hi h c p) (hb:∀ k,lo≤k->k<hi->w'.heap[k]? = w.heap[k]?):ar_ w' lo hi h c p:=⟨hp.hd.of_blocks hb,hp.cy.of_blocks hb⟩
theorem ar_.set (hp:ar_ w lo hi h c p) (u:Value) (hb:b<lo∨hi≤b):ar_ (w.setCell ⟨b,i,none⟩ u) lo hi h c p:=⟨hp.hd.set u hb,hp.cy.set u hb⟩
theorem ar_.drewN (hp:ar_ w lo hi h c p) (n:Nat):ar_ (w.drewN n) lo hi h c p:=⟨hp.hd.drewN n,hp.cy.drewN n⟩
theorem ar_.below (hp:ar_ w lo hi h c p) (hb:Below B w w') (hB:hi≤B):ar_ w' lo hi h c p:=⟨hp.hd.below hb hB,hp.cy.below hb hB⟩
theorem a8_.inn (hp:a8_ w h c p):ar_ w 0 w.heap.size h c p:=⟨hp.hd.inn,hp.cy.inn⟩
theorem POx.inn {base:Nat} (hp:POx w base h c p):ar_ w base w.heap.size h c p:=⟨hp.hd.inn,hp.cy.inn⟩
theorem ar_.form (hp:ar_ w lo hi h c p):∃ a1 c1 a2 c2,h=.slice a1 p.head.length c1∧c=.slice a2 p.cycle.length c2:=by
 obtain ⟨⟨⟨⟨a1,c1,h1,_⟩,_,_⟩,_⟩,⟨⟨a2,c2,h2,_⟩,_,_⟩,_⟩:=hp;exact ⟨a1,c1,a2,c2,h1,h2⟩
end
theorem cux {w w':World} {a:Addr} {v:Value} (h:w.cell? a=some v) (hb:Below w.heap.size w w'):w'.cell? a=some v:=Ext.cell hb h
theorem g0_ {a:Option Addr} {c i:Nat} (l:List Int) (hi:i≤l.length) :
  ∃ a',(∀ W,(Instr.slice 37 (.slice a l.length c) (some (.int .i64 (i:Int))) none none).run Tryz.prog W=.ok (.slice a' (l.length-i) (c-i)) W)∧
   (∀ w,Ints w (.slice a l.length c) l->Ints w (.slice a' (l.length-i) (c-i)) (l.drop i))∧
   (i<l.length->l.length≤c->∀ b o,a=some ⟨b,o,none⟩->a'=some ⟨b,o+i,none⟩):=by
 refine ⟨if c=i then a else a.map (·.add (i*1)),fun W=>?_,fun w h=>?_,fun h1 h2 b o hb=>?_⟩
 ·rw [run_slice_l W 37 _ _ _ (by kernel_rfl) .i64 _ oq_ oq_];have hz:(sizeOf (Tryz.prog.elem 37)).run Tryz.prog W=.ok 1 W:=by kernel_rfl
  rw [hz];simp only [Result.andThen,sliced]
  congr 2
 ·obtain ⟨⟨a2,c2,he,h1,h2,h3⟩,h4,h5⟩:=h;injection he with e1 e2 e3
  subst e1;subst e3;refine ⟨⟨_,c-i,by rw [List.length_drop],by rw [List.length_drop];omega,oq_,?_⟩,by rw [List.length_drop];omega,fun x hx=>h5 x (List.mem_of_mem_drop hx)⟩
  by_cases hl:l.drop i=[]
  ·exact .inl hl
  ·have hlt:i<l.length:=by
    rcases Nat.lt_or_ge i l.length with h|h
    ·exact h
    ·exact absurd (List.drop_of_length_le h) hl
   rcases h3 with rfl|⟨b,o,rfl,hc⟩
   ·simp at hlt
   ·refine .inr ⟨b,o+i,by rw [if_neg oq_];simp [Addr.add],fun j hj=>?_⟩;rw [List.length_drop] at hj;rw [Nat.add_assoc,hc (i+j) oq_];simp
 ·rw [if_neg oq_,hb];simp [Addr.add]
structure bo_ (w:World) (lo hi:Nat) (v:Value) (l:List Int):Prop where
 own:OwnI w lo v l
 lt:∀ k,v.ownBlock=some k->k<hi
theorem OwnI.oin {w:World} {base:Nat} {v:Value} {l:List Int} (h:OwnI w base v l):bo_ w base w.heap.size v l:=⟨h,fun k hk=>(h.lt k hk).2⟩
theorem bo_.of_blocks {w w':World} {lo hi:Nat} {v:Value} {l:List Int} (h:bo_ w lo hi v l) (hb:∀ k,lo≤k->k<hi->w'.heap[k]? = w.heap[k]?):bo_ w' lo hi v l:=by
 obtain ⟨⟨⟨h1,h2⟩,h3,h4⟩,h5⟩:=h;refine ⟨⟨⟨h1,?_⟩,h3,h4⟩,h5⟩;rcases h2 with h2|⟨g,cap,cur,hv,hg,hh,hr⟩
 ·exact .inl h2
 ·exact .inr ⟨g,cap,cur,hv,hg,(hb g hg (h5 g (by rw [hv];rfl))).trans hh,hr⟩
theorem bo_.set {w:World} {lo hi b i:Nat} {v:Value} {l:List Int} (h:bo_ w lo hi v l) (u:Value) (hb:b<lo∨hi≤b):bo_ (w.setCell ⟨b,i,none⟩ u) lo hi v l:=
 h.of_blocks fun k h1 h2=>Below.heap_setCell w ⟨b,i,none⟩ u k tq_
theorem bo_.below {w w':World} {lo hi B:Nat} {v:Value} {l:List Int} (h:bo_ w lo hi v l) (hb:Below B w w') (hB:hi≤B):bo_ w' lo hi v l:=h.of_blocks fun k _ h2=>hb.block k oq_
structure e4_ (w:World) (lo hi:Nat) (h c:Value) (p:Per):Prop where
 inn:ar_ w lo hi h c p
 le:hi≤w.heap.size
theorem e4_.below {w w':World} {lo hi:Nat} {h c:Value} {p:Per} (hp:e4_ w lo hi h c p) (hb:Below w.heap.size w w'):e4_ w' lo hi h c p:=⟨hp.inn.below hb hp.le,Nat.le_trans hp.le hb.size⟩
theorem POx.at {w:World} {base:Nat} {h c:Value} {p:Per} (hp:POx w base h c p):e4_ w base w.heap.size h c p:=⟨hp.inn,Nat.le_refl _⟩
structure g2_ (w:World) (lo hi:Nat) (v:Value) (l:List Int):Prop where
 inn:bo_ w lo hi v l
 le:hi≤w.heap.size
theorem g2_.below {w w':World} {lo hi:Nat} {v:Value} {l:List Int} (hp:g2_ w lo hi v l) (hb:Below w.heap.size w w'):g2_ w' lo hi v l:=⟨hp.inn.below hb hp.le,Nat.le_trans hp.le hb.size⟩
theorem OwnI.at {w:World} {base:Nat} {v:Value} {l:List Int} (h:OwnI w base v l):g2_ w base w.heap.size v l:=⟨h.oin,Nat.le_refl _⟩
def Bxx (w:World) (b:Nat) (c:Array Value) (t:TypeId):Prop:=w.heap[b]? = some (.cells c t (0,0))
theorem Bxx.lt {w:World} {b:Nat} {c:Array Value} {t:TypeId} (h:Bxx w b c t):b<w.heap.size:=(Array.getElem?_eq_some_iff.1 h).1
theorem Bxx.below {w w':World} {b:Nat} {c:Array Value} {t:TypeId} (h:Bxx w b c t) (hb:Below w.heap.size w w'):Bxx w' b c t:=(hb.block b h.lt).trans h
theorem Bxx.cells {w:World} {b:Nat} {c:Array Value} {t:TypeId} (h:Bxx w b c t) (i:Nat):w.cell? ⟨b,i,none⟩=c[i]?∧w.frozen? ⟨b,i,none⟩=false:=bb_ h i
theorem Bxx.alloc {w:World} {b:Nat} {c:Array Value} {t:TypeId} (h:Bxx w b c t) (o:Obj):Bxx (w.alloc o) b c t:=(Below.heap_alloc _ _ _ h.lt).trans h
theorem Bxx.at {w:World} {b:Nat} {c:Array Value} {t:TypeId} (h:b=w.heap.size):Bxx (w.alloc (.cells c t)) b c t:=by subst h;exact World.alloc_heap_new _ _
theorem xB {w:World} {b:Nat} {c:Array Value} {t:TypeId} (h:Bxx w b c t:=by (repeat' (first|(refine Bxx.at ?_;simp;done)|apply Bxx.alloc))):Bxx w b c t:=h
theorem Bxx.new (w:World) (c:Array Value) (t:TypeId):Bxx (w.alloc (.cells c t)) w.heap.size c t:=World.alloc_heap_new _ _
theorem mh_ (v1 v2:Value) (l1 l2:List Int) (w:World) (h1:Ints w v1 l1) (h2:Ints w v2 l2) :
  Calls Tryz.prog 89 #[v1,v2] w fun e w'=>e=.returned (.bool (decide (l1=l2)))∧∃ n,w'=w.drewN n:=by
 obtain ⟨⟨a1,c1,rfl,g1,g2,g3⟩,g4,g5⟩:=h1;obtain ⟨⟨a2,c2,rfl,k1,k2,k3⟩,k4,k5⟩:=h2
 by_cases hl:l1.length=l2.length
 ·rcases g3 with rfl|⟨b1,o1,rfl,hc1⟩
  ·refine (Tryz.slices_Equal_int_empty a1 a2 c1 l2.length c2 w oq_).mono fun e w' ⟨he,hw⟩=>⟨?_,0,hw⟩;rw [he];cases l2 with
   | nil=>simp
   | cons x l=>simp at hl
  ·rcases k3 with rfl|⟨b2,o2,rfl,hc2⟩
   ·have:l1=[]:=List.eq_nil_of_length_eq_zero (by simpa using hl);subst this;exact (Tryz.slices_Equal_int_empty _ a2 c1 0 c2 w oq_).mono fun e w' ⟨he,hw⟩=>⟨by rw [he];simp,0,hw⟩
   ·refine (Tryz.slices_Equal_int b1 o1 l1.length c1 b2 o2 l2.length c2 l1 l2 w (Nat.le_refl _) (Nat.le_refl _) oq_ oq_ hc1 hc2).mono fun e w' ⟨he,hw⟩=>⟨?_,hw⟩;rw [he,List.take_length,List.take_length]
    congr 2
    by_cases e:l1=l2 <;> simp [e]
 ·refine (Tryz.slices_Equal_int_lens a1 a2 l1.length c1 l2.length c2 w hl).mono fun e w' ⟨he,hw⟩=>⟨?_,0,hw⟩;rw [he];have:l1≠l2:=fun e=>hl (by rw [e]);simp [this]
def bi_ (p q:Per):Bool:=decide (p.frm=q.frm) && decide (p.period=q.period) && decide (p.head=q.head) && decide (p.cycle=q.cycle)
theorem gr_ (p q:Per):bi_ p q=true↔p=q:=by
 unfold bi_;simp only [Bool.and_eq_true,decide_eq_true_eq];exact ⟨fun ⟨⟨⟨h1,h2⟩,h3⟩,h4⟩=>Per.ext' h3 h1 h2 h4,fun h=>by subst h;simp⟩
def a9_ (p:Per) (day:Int):Per:=⟨p.head.drop (p.head.countP fun y=>decide (y<day)),max p.frm day,p.period,a0_ (cycL p (max p.frm day))⟩
theorem ec_ {p:Per} (h:p.WF) {day:Int} (h0:0≤day):(a9_ p day).WF∧∀ n,(a9_ p day).mem n↔p.mem n∧day≤n:=
 uz_ h h0 (ga_ (l0_ h _)) fun y=>dj_ _ y
def x4_ (c:Per) (w:World) (e:Ending) (w':World):Prop:=
 ∃ (h' c':Value),e=.returned (perV h' c' c.frm c.period)∧POx w' w.heap.size h' c' c∧Below w.heap.size w w'∧∀ g,h'.ownBlock=some g->c'.ownBlock≠some g
structure LI (w:World) (ob:Nat) (p:Per) (hp cp:Value) (f:Int) (l4 h4:Nat) (hv:Value) (hl:List Int) (base:Nat) (cyv:Value) (l:List Int) (W:World):Prop where
 below:Below w.heap.size w W
 pb:Bxx W w.heap.size #[hp,.int .i64 p.frm,.int .i64 p.period,cp] 39
 rb:Bxx W (w.heap.size+1) #[.slice none 0 0,.int .i64 0,.int .i64 0,.slice none 0 0] 39
 obx:Bxx W ob #[hv,.int .i64 f,.int .i64 p.period,cyv] 39
 own:OwnI W base cyv l
 hd:bo_ W l4 h4 hv hl
 o1:w.heap.size+1<ob
 o2:ob<base
 o3:base≤W.heap.size
 o4:ob<l4∨h4≤ob
 o5:h4≤base
 o6:w.heap.size+1<l4
theorem Bxx.setNe {W:World} {b k i:Nat} {c:Array Value} {t:TypeId} (h:Bxx W b c t) (v:Value) (hne:b≠k):Bxx (W.setCell ⟨k,i,none⟩ v) b c t:=(Below.heap_setCell W ⟨k,i,none⟩ v b hne).trans h
theorem Bxx.upto {W W':World} {B b:Nat} {c:Array Value} {t:TypeId} (h:Bxx W b c t) (hb:Below B W W') (hlt:b<B):Bxx W' b c t:=(hb.block b hlt).trans h
theorem LI.step {w:World} {ob:Nat} {p:Per} {hp cp:Value} {f:Int} {l4 h4:Nat} {hv:Value} {hl:List Int} {base:Nat} {cyv:Value} {l:List Int} {W:World} (h:LI w ob p hp cp f l4 h4 hv hl base cyv l W)
  {W1:World} {v':Value} {l':List Int} (hb:Below base W W1) (ho:OwnI W1 base v' l'):LI w ob p hp cp f l4 h4 hv hl base v' l' (W1.setCell ⟨ob,3,none⟩ v'):=by
 have o1:=h.o1;have o2:=h.o2;have o3:=h.o3;have o4:=h.o4;have o5:=h.o5;have hz:=hb.size;exact ⟨(h.below.trans (hb.mono oq_)).setCell (p:=⟨ob,3,none⟩) tq_ _,(h.pb.upto hb oq_).setNe _ oq_,(h.rb.upto hb oq_).setNe _ oq_,set4 (h.obx.upto hb oq_),
  ho.above ((a7_.refl base W1).setCell tq_ _),(h.hd.below hb oq_).set _ o4,o1,o2,tq_,o4,o5,h.o6⟩
theorem ip_ (h c:Value) (p:Per) (day:Int) (w:World) (hp:a8_ w h c p) (hw:p.WF) (h1:p.frm≤1125899906842624) (h2:p.period≤1125899906842624) (h0:0≤day) (hd:day≤1125899906842624) :
  Calls Tryz.prog 136 #[perV h c p.frm p.period,.int .i64 day] w (x4_ (a9_ p day) w):=by
 have f0:=hw.frm;have hs1:=hw.head.1;have hl:∀ W,Below w.heap.size w W->Ints W h p.head:=fun W hb=>hp.hd.ext hb;have hcx:∀ W,Below w.heap.size w W->Ints W c p.cycle:=fun W hb=>hp.cy.ext hb;obtain ⟨⟨⟨ha,hcap,rfl,hlc,hcc,hcells⟩,hlen,_⟩,⟨ca,ccap,rfl,_,_,_⟩,hclen,_⟩:=hp;have hk2:p.head.countP (fun y=>decide (y<day))≤p.head.length:=List.countP_le_length;obtain ⟨i0,hi0⟩:∃ i0,i0=p.head.countP fun y=>decide (y<day):=⟨_,rfl⟩;rw [<- hi0] at hk2;obtain ⟨a',hrun,hdr,_⟩:=g0_ (a:=ha) (c:=hcap) p.head hk2;have HI:=hq_ hi0;have HW:=hq_ hw;clear hcells hi0 hw
 go_enter Tryz.func136,Tryz.ntmps136
 go_wp2_with (go_at_call 128;(refine (c9_ _ p.head day _ (hl _ xE) hs1).mono ?_);rintro e w' ⟨he,nq,rfl⟩;rw [<- HI.out] at he;subst he)
 generalize hW0:World.drewN _ nq=W0;have hE:Below w.heap.size w W0:=by rw [<- hW0];exact xE
 have hpb:Bxx W0 w.heap.size #[.slice ha p.head.length hcap,.int .i64 p.frm,.int .i64 p.period,.slice ca p.cycle.length ccap] 39:=by rw [<- hW0];exact (Below.heap_alloc _ _ _ sq_).trans (World.alloc_heap_new _ _)
 have hrb:Bxx W0 (w.heap.size+1) #[.slice none 0 0,.int .i64 0,.int .i64 0,.slice none 0 0] 39:=by
  rw [<- hW0];have:=World.alloc_heap_new (w.alloc (.cells #[.slice ha p.head.length hcap,.int .i64 p.frm,.int .i64 p.period,.slice ca p.cycle.length ccap] 39)) (.cells #[.slice none 0 0,.int .i64 0,.int .i64 0,.slice none 0 0] 39);rwa [World.size_alloc] at this
 clear hW0;have hA0:W0.cell? ⟨w.heap.size,0,none⟩=some (.slice ha p.head.length hcap):=(hpb.cells 0).1;have hA1:W0.cell? ⟨w.heap.size,1,none⟩=some (.int .i64 p.frm):=(hpb.cells 1).1;have hA2:W0.cell? ⟨w.heap.size,2,none⟩=some (.int .i64 p.period):=(hpb.cells 2).1;have hz0:=hrb.lt;refine ai_ (w0:=W0) [0,1,2,3,4,5,6,7,8,9,10,11,12] [13] (fun v=>⟨#[perV (.slice ha p.head.length hcap) (.slice ca p.cycle.length ccap) p.frm p.period,.int .i64 day,.pointer (some ⟨w.heap.size,0,none⟩),undef,.pointer (some ⟨w.heap.size+1,0,none⟩),.int .i64 ↑i0,.bool (decide (day∈p.head)),v 12,undef,undef,.tuple #[.int .i64 ↑i0,.bool (decide (day∈p.head))],.pointer (some ⟨w.heap.size,0,none⟩),.slice ha p.head.length hcap,.int .i64 day,.tuple #[.int .i64 ↑i0,.bool (decide (day∈p.head))],.int .i64 ↑i0,.bool (decide (day∈p.head)),v 0,v 1,v 2,v 3,v 4,v 5,v 6,v 7,v 8,v 9,v 10,v 11,undef,undef,undef,undef,undef,undef,undef,undef,undef,undef,undef,undef,undef,undef,undef,undef,undef,undef,undef,undef,undef,undef,undef,undef,undef,undef,undef],[]⟩) [.pointer (some ⟨w.heap.size,0,none⟩),.slice ha p.head.length hcap,.int .i64 i0,.slice a' (p.head.length-i0) (hcap-i0),undef,.pointer (some ⟨w.heap.size,1,none⟩),.int .i64 p.frm,.int .i64 day,.int .i64 (max p.frm day),.pointer (some ⟨w.heap.size,2,none⟩),.int .i64 p.period,undef,undef] [4,11,12] (fun i v lo hi W=>match i with|4=>(∃ a c,v 4=.slice a (p.head.drop i0).length c)∧g2_ W (lo 4) (hi 4) (v 4) (p.head.drop i0)|11=>v 11=.agg #[v 4,.int .i64 (max p.frm day),.int .i64 p.period,.slice none 0 0]|12=>v 12=.pointer (some ⟨lo 12,0,none⟩)∧lo 12<hi 12∧Bxx W (lo 12) #[.slice none 0 0,.int .i64 0,.int .i64 0,.slice none 0 0] 39|_=>True) (fun W=>Below w.heap.size w W∧W.cell? ⟨w.heap.size,0,none⟩=some (.slice ha p.head.length hcap)∧W.cell? ⟨w.heap.size,1,none⟩=some (.int .i64 p.frm)∧W.cell? ⟨w.heap.size,2,none⟩=some (.int .i64 p.period)) (fun W hb=>⟨by exact xE,Below.cell' hb hA0 oq_,Below.cell' hb hA1 oq_,Below.cell' hb hA2 oq_⟩) ?stab ?loc ?steps ?fin
 case stab=>
  refine ⟨?_,?_,?_,trivial⟩
  ·intro v lo hi W W' h hb;exact ⟨h.1,h.2.below hb⟩
  ·intro v lo hi W W' h hb;exact h
  ·intro v lo hi W W' h hb;exact ⟨h.1,h.2.1,h.2.2.below hb⟩
 case loc=>
  refine ⟨?_,?_,?_,trivial⟩
  ·intro v v' lo lo' hi hi' W hag h;have q:=hag 4 (.inl rfl)
   (try dsimp only at h ⊢)
   simp only [q.1,q.2.1,q.2.2] at h;exact h
  ·intro v v' lo lo' hi hi' W hag h;have q:=hag 11 (.inl rfl);have q4:=hag 4 (.inr (Rdp (by kernel_rfl)))
   (try dsimp only at h ⊢)
   simp only [q.1,q.2.1,q.2.2,q4.1,q4.2.1,q4.2.2] at h;exact h
  ·intro v v' lo lo' hi hi' W hag h;have q:=hag 12 (.inl rfl)
   (try dsimp only at h ⊢)
   simp only [q.1,q.2.1,q.2.2] at h;exact h
 case steps=>
  clear hA0 hA1 hA2;refine .c [] [] rfl ?_ (.c [0] [] rfl ?_ (.c [] [] rfl ?_ (.c [1,2] [] rfl ?_ (.c [3] [] rfl ?_ (.c [] [] rfl ?_ (.c [5] [] rfl ?_ (.c [] [] rfl ?_ (.c [6,7] [] rfl ?_ (.c [] [] rfl ?_ (.c [9] [] rfl ?_ (.c [8,10] [4] rfl ?_ (.c [] [] rfl ?_ (.n)))))))))))))
  all_goals try exact stw
  ·rintro v lo hi W hb ⟨hE1,g0,g1,g2⟩ _;refine .inl ⟨rfl,fun K hK=>?_⟩;simp only [ov,vat,Nat.reduceBEq,cond_true,cond_false];go_wp2_with (go_at_call 129;refine (gn_ _ (p.head.drop i0) _ (hdr _ (hl _ xE))).mono ?_;rintro e w3 ⟨x,rfl,ho3,hb3⟩)
   exact acx (hK x w3 hb3 ⟨ho3.form,ho3.at⟩) (by simp [ov,vat,upd])
  ·rintro v lo hi W hb ⟨hE1,g0,g1,g2⟩ ⟨⟨la4,lb4,D4⟩,_⟩;refine .inl ⟨rfl,fun K hK=>?_⟩;simp only [ov,vat,Nat.reduceBEq,cond_true,cond_false]
   (try dsimp only at D4)
   obtain ⟨⟨a9,c9,e4⟩,_⟩:=D4
   (try simp only [e4])
   go_wp2_with fail
   exact acx (hK (.agg #[v 4,.int .i64 (max p.frm day),.int .i64 p.period,.slice none 0 0]) W (Below.refl _ _) rfl) (by simp [ov,vat,upd,e4])
  ·rintro v lo hi W hb ⟨hE1,g0,g1,g2⟩ _;refine .inl ⟨rfl,fun K hK=>?_⟩;simp only [ov,vat,Nat.reduceBEq,cond_true,cond_false];go_wp2_with fail
   exact hK (.pointer (some ⟨W.heap.size,0,none⟩)) _ (Ea (Er _) _) ⟨rfl,sq_,Bxx.new _ _ _⟩
 case fin=>
  rintro v lo hi W hb ⟨hE1,_⟩ hf hap;show wpList _ _ _ [_] _ _;obtain ⟨l4a,m4,n4,⟨a9,c9,e4⟩,hO4,_⟩:=hf 4 rfl;obtain ⟨l12,m12,n12,e12,lt12,hb12⟩:=hf 12 rfl;have e11:v 11=.agg #[v 4,.int .i64 (max p.frm day),.int .i64 p.period,.slice none 0 0]:=(hf 11 rfl).2.2.2;have d:=hap 4 12 rfl rfl oq_;have hpb1:=hpb.below hb;have hrb1:=hrb.below hb;clear hf hap hA0 hA1 hA2 hpb hrb;rw [e4] at hO4 e11;generalize lo 4=l4 at *;generalize hi 4=h4 at *;generalize lo 12=ob at *;generalize hi 12=h12 at *;have q0:=hb12.cells 0;have q1:=hb12.cells 1;have q2:=hb12.cells 2;have q3:=hb12.cells 3;have q4:=hpb1.cells 3;dsimp only;rw [e11,e12];generalize hfm:max p.frm day=f at *;have HF:=hq_ hfm.symm;have hfs:p.frm≤f:=oq_;have hfd:f≤1125899906842624:=oq_;clear hfm;generalize v 0=v0,v 1=v1,v 2=v2,v 3=v3,v 4=v4,v 5=v5,v 6=v6,v 7=v7,v 8=v8,v 9=v9,v 10=v10;obtain ⟨hl,hhl⟩:∃ hl,hl=p.head.drop i0:=⟨_,rfl⟩;rw [<- hhl] at hO4 ⊢;have HHL:=hq_ hhl;clear hhl;have hst:=LI.mk (w:=w) (ob:=ob) (p:=p) (f:=f) (base:=W.heap.size) (cyv:=.slice none 0 0) (l:=[]) (W:=((((W.setCell ⟨ob,0,none⟩ (.slice a9 hl.length c9)).setCell ⟨ob,1,none⟩ (.int .i64 f)).setCell ⟨ob,2,none⟩ (.int .i64 p.period)).setCell ⟨ob,3,none⟩ (.slice none 0 0)))
   xE ((((hpb1.setNe _ oq_).setNe _ oq_).setNe _ oq_).setNe _ oq_) ((((hrb1.setNe _ oq_).setNe _ oq_).setNe _ oq_).setNe _ oq_) (dg_ hb12) (OwnI.nil _ _)
   ((((hO4.set _ oq_).set _ oq_).set _ oq_).set _ oq_) oq_ oq_ sq_ oq_ oq_ oq_
  have HST:=hq_ hst;clear hst hpb1 hrb1 hb12 e11 e12 e4;go_wp2_with fail
  have hp0:=(HW.out).per
  go_loopw [32] (fun i wr=>∃ (k:Nat) (cyv:Value),k≤p.cycle.length∧i=.int .i64 k∧LI w ob p (.slice ha p.head.length hcap) (.slice ca p.cycle.length ccap) f l4 h4 (.slice a9 hl.length c9) hl W.heap.size cyv ((p.cycle.take k).map fun c=>(p.frm+c-f) % p.period) wr) (fun i _=>p.cycle.length-(intOf i).toNat)
  case atStart=>exact ⟨0,_,oq_,rfl,HST.out⟩
  case round=>
   obtain ⟨k,cyv,hk,rfl,hTw⟩:=hrel;have hq1:wr.cell? ⟨w.heap.size,1,none⟩=some (.int .i64 p.frm):=(hTw.pb.cells 1).1;have hq2:wr.cell? ⟨w.heap.size,2,none⟩=some (.int .i64 p.period):=(hTw.pb.cells 2).1;have hq3:wr.cell? ⟨ob,1,none⟩=some (.int .i64 f):=(hTw.obx.cells 1).1;have hq4:wr.cell? ⟨ob,3,none⟩=some cyv:=(hTw.obx.cells 3).1;have hqf:wr.frozen? ⟨ob,3,none⟩=false:=(hTw.obx.cells 3).2;have o2:=hTw.o2;have o3:=hTw.o3;have hown:=hTw.own;have HTW:=hq_ hTw;have hBw:=hcx wr hTw.below;clear hTw
   by_cases hlt:k<p.cycle.length
   ·obtain ⟨⟨a8,c8,he8,_,_,h38⟩,_,_⟩:=hBw;injection he8 with he1 he2 he3
    subst he1;subst he3;rcases h38 with h38|⟨b8,f8,rfl,hcell⟩
    ·rw [h38] at hlt;simp at hlt
    have hcl:=hcell k hlt;clear hcell;have hkI:(k:Int)<p.cycle.length:=oq_;obtain ⟨y,hy⟩:∃ y,y=p.cycle.getD k 0:=⟨_,rfl⟩;have hr1:=(HW.out).cyc.2 (p.cycle.getD k 0) (ah_ hlt);rw [<- hy] at hcl hr1;have HY:=hq_ hy;clear hy;have hw1:IntKind.i64.wrap (p.frm+y)=p.frm+y:=f5_ ⟨oq_,oq_⟩;have hw2:IntKind.i64.wrap (p.frm+y-f)=p.frm+y-f:=f5_ ⟨oq_,oq_⟩;have hm1:=Int.emod_nonneg (p.frm+y-f) (show p.period≠0 by omega);have hm2:=Int.emod_lt_of_pos (p.frm+y-f) (show 0<p.period by omega);obtain ⟨z,hz⟩:∃ z,z=(p.frm+y-f) % p.period:=⟨_,rfl⟩;rw [<- hz] at hm1 hm2;have HZ:=hq_ hz;clear hz;go_wp2_with fail
    refine ai_ (w0:=wr) [0,1,2,3,4,5,6,7,8,9,10,11,12] [13,14,15] (fun v=>⟨#[perV (.slice ha p.head.length hcap) (.slice (some ⟨b8,f8,none⟩) p.cycle.length ccap) p.frm p.period,.int .i64 day,.pointer (some ⟨w.heap.size,0,none⟩),undef,.pointer (some ⟨w.heap.size+1,0,none⟩),.int .i64 ↑i0,.bool (decide (day∈p.head)),.pointer (some ⟨ob,0,none⟩),undef,.int .i64 y,.tuple #[.int .i64 ↑i0,.bool (decide (day∈p.head))],.pointer (some ⟨w.heap.size,0,none⟩),.slice ha p.head.length hcap,.int .i64 day,.tuple #[.int .i64 ↑i0,.bool (decide (day∈p.head))],.int .i64 ↑i0,.bool (decide (day∈p.head)),v0,v1,v2,v3,v4,v5,v6,v7,v8,v9,v10,.agg #[.slice a9 hl.length c9,.int .i64 f,.int .i64 p.period,.slice none 0 0],.pointer (some ⟨w.heap.size,3,none⟩),.slice (some ⟨b8,f8,none⟩) p.cycle.length ccap,.int .i64 ↑p.cycle.length,.int .i64 ↑k,.bool true,.pointer (some ⟨b8,f8+k,none⟩),.int .i64 y,v 0,v 1,v 2,v 3,v 4,v 5,v 6,v 7,v 8,v 9,v 10,v 11,v 12,u49,u50,u51,undef,undef,undef,undef],[]⟩) [.pointer (some ⟨ob,3,none⟩),cyv,.pointer (some ⟨w.heap.size,1,none⟩),.int .i64 p.frm,.int .i64 y,.int .i64 (p.frm+y),.pointer (some ⟨ob,1,none⟩),.int .i64 f,.int .i64 (p.frm+y-f),.pointer (some ⟨w.heap.size,2,none⟩),.int .i64 p.period,.int .i64 z,undef] [12] (fun i v lo hi W=>match i with|12=>v 12=.slice (some ⟨lo 12,0,none⟩) 1 1∧lo 12<hi 12∧Bxx W (lo 12) #[.int .i64 z] 3|_=>True) (fun W=>W.cell? ⟨w.heap.size,1,none⟩=some (.int .i64 p.frm)∧W.cell? ⟨w.heap.size,2,none⟩=some (.int .i64 p.period)∧W.cell? ⟨ob,1,none⟩=some (.int .i64 f)∧W.cell? ⟨ob,3,none⟩=some cyv) (fun W9 hb=>⟨cux hq1 hb,cux hq2 hb,cux hq3 hb,cux hq4 hb⟩) ?stab ?loc ?steps ?fin (fun j=>match j with|0=>u36|1=>u37|2=>u38|3=>u39|4=>u40|5=>u41|6=>u42|7=>u43|8=>u44|9=>u45|10=>u46|11=>u47|12=>u48|_=>undef)
    case stab=>
     refine ⟨?_,trivial⟩
     ·intro v lo hi W W' h hb;exact ⟨h.1,h.2.1,h.2.2.below hb⟩
    case loc=>
     refine ⟨?_,trivial⟩
     ·intro v v' lo lo' hi hi' W hag h;have q:=hag 12 (.inl rfl)
      (try dsimp only at h ⊢)
      simp only [q.1,q.2.1,q.2.2] at h;exact h
    case steps=>
     refine .c [] [] rfl ?_ (.c [0] [] rfl ?_ (.c [] [] rfl ?_ (.c [2] [] rfl ?_ (.c [] [] rfl ?_ (.c [3,4] [] rfl ?_ (.c [] [] rfl ?_ (.c [6] [] rfl ?_ (.c [5,7] [] rfl ?_ (.c [] [] rfl ?_ (.c [9] [] rfl ?_ (.c [8,10] [] rfl ?_ (.c [11] [] rfl ?_ (.n)))))))))))))
     all_goals try exact stw
     ·rintro v lo hi W hb ⟨g0,g1,g2,g3⟩ _;refine .inl ⟨rfl,fun K hK=>?_⟩;simp only [ov,vat,Nat.reduceBEq,cond_true,cond_false];go_wp2_with (go_at_call 167;refine (p4_ _ _ _ oq_ oq_).mono ?_;rintro e w' ⟨he,rfl⟩;rw [<- HZ.out] at he;subst he)
      exact acx (hK _ (Below.refl _ _)) (by simp [ov,vat,upd])
     ·rintro v lo hi W hb ⟨g0,g1,g2,g3⟩ _;refine .inl ⟨rfl,fun K hK=>?_⟩;simp only [ov,vat,Nat.reduceBEq,cond_true,cond_false];go_wp2_with fail
      exact acx (hK (.slice (some ⟨W.heap.size,0,none⟩) 1 1) _ (Ea (Er _) _) ⟨rfl,sq_,Bxx.new _ _ _⟩) (by simp [ov,vat,upd])
    case fin=>
     rintro v lo hi W1 hb ⟨g0,g1,g2,g3⟩ hf hap;show wpList _ _ _ [_,_,_] _ _;have e1:v 1=cyv:=(hf 1 rfl).2.2.2;obtain ⟨l12,m12,n12,e12,lt12,hb12⟩:=hf 12 rfl;have hqf1:=(Below.frozen hb (p:=⟨ob,3,none⟩) tq_).trans hqf;have hown1:=hown.ext hb;have hz1:=hb.size;have hnew:W1.cell? ⟨lo 12,0,none⟩=some (.int .i64 z):=(hb12.cells 0).1;clear hf hap g0 g1 g2;dsimp only;rw [e1,e12];generalize lo 12=bn at *;refine aj_ rq_ _ _ rq_ W.heap.size cyv _ z rq_ hown1 _ _ rq_ hnew ⟨oq_,oq_⟩ tq_ oq_ ?_;intro g cap W2 hown2 hgrow hbel;have hbel':Below W.heap.size wr W2:=(hb.mono o3).trans hbel;have hqf2:W2.frozen? ⟨ob,3,none⟩=false:=(Below.frozen hbel' (p:=⟨ob,3,none⟩) o2).trans hqf;have hqc2:W2.cell? ⟨ob,3,none⟩=some cyv:=Below.cell' hbel' hq4 o2;go_wp2_with fail
     go_roundw
     case rel=>
      have hlen:((p.cycle.take k).map fun c=>(p.frm+c-f) % p.period).length=k:=by simp;omega
      have htk:((p.cycle.take (k+1)).map fun c=>(p.frm+c-f) % p.period)=((p.cycle.take k).map fun c=>(p.frm+c-f) % p.period) ++ [z]:=by
       rw [List.take_succ_eq_append_getElem hlt,List.map_append,HZ.out,HY.out,List.getD_eq_getElem?_getD,List.getElem?_eq_getElem hlt];rfl
      rw [hlen] at hown2;refine ⟨k+1,.slice (some ⟨g,0,none⟩) (k+1) cap,oq_,by go_num,?_⟩;rw [htk];exact HTW.out.step hbel' hown2
     case measure=>simp [intOf];omega
   ·obtain rfl:k=p.cycle.length:=oq_;obtain ⟨cl,hcl⟩:∃ cl,cl=((p.cycle.take p.cycle.length).map fun c=>(p.frm+c-f) % p.period):=⟨_,rfl⟩;have hTc:=HTW.out;rw [<- hcl] at hown hTc;have HTC:=hq_ hTc;have HCL:=hq_ hcl;clear hTc hcl HTW;go_wp2_with fail
    go_at_call 132
    refine (jt_ _ _ W.heap.size _ hown).mono ?_;rintro e W2 ⟨rfl,hown2,hgrow⟩;have hbel:=hown.below_grown (W0:=wr) (.inr trivial) o3 hgrow;obtain ⟨ya,yc,rfl⟩:=hown.form;have o1:=HTC.out.o1;have o4:=HTC.out.o4;have o5:=HTC.out.o5;have o6:=HTC.out.o6;have hob2:=HTC.out.obx.upto hbel o2;have hrb2:=HTC.out.rb.upto hbel oq_;have hk0:W2.cell? ⟨ob,0,none⟩=some (.slice a9 hl.length c9):=(hob2.cells 0).1;have hk1:W2.cell? ⟨ob,1,none⟩=some (.int .i64 f):=(hob2.cells 1).1;have hk2:W2.cell? ⟨ob,2,none⟩=some (.int .i64 p.period):=(hob2.cells 2).1;have hk3:W2.cell? ⟨ob,3,none⟩=some (.slice ya cl.length yc):=(hob2.cells 3).1;have hj0:=hrb2.cells 0;have hj1:=hrb2.cells 1;have hj2:=hrb2.cells 2;have hj3:=hrb2.cells 3;have hdd:=HTC.out.hd.below hbel o5;have HRB:=hq_ hrb2;have hz2:=hbel.size;have hbW:Below w.heap.size w W2:=HTC.out.below.trans (hbel.mono oq_);have HAP:Hid (∀ g,(Value.slice a9 hl.length c9).ownBlock=some g->(Value.slice ya cl.length yc).ownBlock≠some g):=hq_ (fun g h1 h2=>by have:=hdd.lt g h1;have:=(hown2.lt g h2).1;omega);have HCY:=hq_ (hown2.mono (base':=w.heap.size+1+1) oq_).oin;clear hob2 hrb2 hown2 hgrow hbel hown;go_wp2_with fail
    refine bodyPost_ret (v:=perV (.slice a9 hl.length c9) (.slice ya cl.length yc) f p.period) (by simp [results,Tryz.results136,go_sem, *]) rfl ⟨.slice a9 hl.length c9,.slice ya cl.length yc,?_,⟨?_,?_⟩,by exact xE,HAP.out⟩
    ·simp only [a9_,HF.out]
    ·have h1:bo_ _ _ _ (.slice a9 hl.length c9) hl:=(((hdd.set (b:=w.heap.size+1) (i:=0) (.slice a9 hl.length c9) oq_).set (b:=w.heap.size+1) (i:=1) (.int .i64 f) oq_).set (b:=w.heap.size+1) (i:=2) (.int .i64 p.period) oq_).set (b:=w.heap.size+1) (i:=3) (.slice ya cl.length yc) oq_;have h2:=h1.own.mono (base':=w.heap.size) oq_;show OwnI _ _ _ (a9_ p day).head;rw [show (a9_ p day).head=hl from by rw [HHL.out,HI.out];rfl];exact h2
    ·have h1:bo_ _ _ _ (.slice ya cl.length yc) (a0_ cl):=(((HCY.out.set (b:=w.heap.size+1) (i:=0) (.slice a9 hl.length c9) oq_).set (b:=w.heap.size+1) (i:=1) (.int .i64 f) oq_).set (b:=w.heap.size+1) (i:=2) (.int .i64 p.period) oq_).set (b:=w.heap.size+1) (i:=3) (.slice ya cl.length yc) oq_;have h2:=h1.own.mono (base':=w.heap.size) oq_;show OwnI _ _ _ (a9_ p day).cycle;rw [show (a9_ p day).cycle=a0_ cl from by rw [HCL.out,List.take_length,HF.out];rfl];exact h2
end Go.Proofs.YthjnojbeimchdaaGreat
namespace Go.Proofs.YthjnojbeimchdaaGreat
open Go.RowKit Go.Shelf Kal
attribute [local go_sem] Oper.semAt_some
theorem o9_ (h c:Value) (p:Per) (lo:Int) (w:World) (hp:∃ a1 n1 c1 a2 n2 c2,h=.slice a1 n1 c1∧c=.slice a2 n2 c2) :
  Calls Tryz.prog 84 #[perV h c p.frm p.period,.int .i64 lo] w fun e w'=>e=.returned (.func (.func 127) #[] #[.pointer (some ⟨w.heap.size,0,none⟩),.pointer (some ⟨w.heap.size+1,0,none⟩)])∧
   (w.alloc (.cells #[h,.int .i64 p.frm,.int .i64 p.period,c] 39)).alloc (.cells #[.int .i64 lo] 3)=w':=by
 obtain ⟨a1,n1,c1,a2,n2,c2,rfl,rfl⟩:=hp
 go_enter Tryz.func84,Tryz.ntmps84
 go_wp2
 go_ret;exact ⟨rfl,rfl⟩
theorem Ints.kp {pb:Nat->Prop} {A B:World} {v:Value} {l:List Int} (h:Ints A v l) (hk:KpB pb A B) (hp:l≠[]->∀ b o n c,v=.slice (some ⟨b,o,none⟩) n c->pb b):Ints B v l:=by
 obtain ⟨⟨a,c,rfl,h1,h2,h3⟩,h4,h5⟩:=h;refine ⟨⟨a,c,rfl,h1,h2,?_⟩,h4,h5⟩
 by_cases hl:l=[]
 ·exact .inl hl
 ·refine h3.imp id ?_;rintro ⟨b,o,rfl,hc⟩;exact ⟨b,o,rfl,fun i hi=>hk.cell (hp hl b o _ _ rfl) (hc i hi)⟩
theorem od_ (h c:Value) (p:Per) (lo:Int) (pbx lbx:Nat) (w:World) (pb:Nat->Prop) (hp:a8_ w h c p) (hw:p.WF) (h1:p.frm≤1125899906842624) (h2:p.period≤1125899906842624) (h0:0≤lo) (h3:lo≤1125899906842624)
  (hpb:Bxx w pbx #[h,.int .i64 p.frm,.int .i64 p.period,c] 39) (hlb:Bxx w lbx #[.int .i64 lo] 3) (g1:pb pbx) (g2:pb lbx)
  (g3:p.head≠[]->∀ b o n c',h=.slice (some ⟨b,o,none⟩) n c'->pb b) (g4:p.cycle≠[]->∀ b o n c',c=.slice (some ⟨b,o,none⟩) n c'->pb b∧b≠lbx) (g5:pbx≠lbx) :
  SeqX Tryz.prog 127 #[.pointer (some ⟨pbx,0,none⟩),.pointer (some ⟨lbx,0,none⟩)] (fun y:Int=>#[.int .i64 y]) (KpB pb) (some lbx) (EnS p.mem lo) (FinS p.mem lo) BdS w:=by
 intro l' J Jx W hW hJ hJx hN hY hJ0;have hs1:=hw.head.1;have hs2:=hw.cyc.1;have f0:=hw.frm;have p0:=hw.per;have hpW:=hp.ext hW;have hbW:Bxx W pbx _ _:=hpb.below hW;have hlW:Bxx W lbx _ _:=hlb.below hW;clear hp hpb hlb hW;obtain ⟨⟨⟨ha,hcap,rfl,hlc,hcc,hcells⟩,hlen,_⟩,⟨ca,ccap,rfl,hclc,_,hccells⟩,hclen,_⟩:=id hpW;clear hcells hccells;have hk2:p.head.countP (fun y=>decide (y<lo))≤p.head.length:=List.countP_le_length;have hHS:=HdAt.start hw h0;obtain ⟨i0,hi0⟩:∃ i0,i0=p.head.countP fun y=>decide (y<lo):=⟨_,rfl⟩;rw [<- hi0] at hk2 hHS;obtain ⟨a',hrun,hdr,_⟩:=g0_ (a:=ha) (c:=hcap) p.head hk2;have HI:=hq_ hi0;have HHS:=hq_ hHS;have HW:=hq_ hw;have HPW:=hq_ hpW;clear hi0 hHS hw;have grN:∀ (X:World) n,X.grownBy (X.drewN n) none:=fun X n=>⟨rfl,rfl,rfl,Nat.le_refl _,fun _ _ _=>rfl⟩;have hJN:∀ (pre:List Int) (X:World) n,J pre X->J pre (X.drewN n):=fun pre X n h=>hJ pre X _ none h (grN X n) (fun r e=>by cases e);have HJN:=hq_ hJN;have HJ:=hq_ hJ;have HY:=hq_ hY;have HN:=hq_ hN;clear hJN grN hY hN hJ;refine callsIn_of_wp Tryz.func127 rfl trivial ?_ rfl;simp only [Tryz.ntmps127,List.size_toArray,List.length_cons,List.length_nil,Nat.reduceAdd,Nat.reduceSub,Array.replicate_succ,Array.replicate_zero,List.push_toArray,List.append_toArray,List.nil_append,List.cons_append];have hb0:=(hbW.cells 0).1;have hl0:=(hlW.cells 0).1
 gi_wp2_with (refine ⟨trivial,rfl,?_⟩;gi_at_call 128;refine (callsIn_wide.2 (c9_ _ p.head lo _ (hpW.hd.ext xE) hs1)).mono ?_;rintro e w' ⟨he,nq,rfl⟩;rw [<- HI.out] at he;subst he)
 clear hrun
 gi_loopw [23] (fun i wr=>∃ (k:Nat) (u:Int) (pre:List Int),k≤p.head.length-i0∧i=.int .i64 k∧HdAt p lo (i0+k) u pre∧J pre wr∧KpB pb W wr) (fun i _=>(p.head.length-i0)-(intOf i).toNat)
 case atStart=>exact ⟨0,lo,[],oq_,rfl,HHS.out,HJN.out _ _ _ hJ0,fun _ _=>rfl⟩
 case round=>
  obtain ⟨k,u,pre,hk,rfl,hA,hJw,hK⟩:=hrel;have HA:=hq_ hA;have HK:=hq_ hK;have HJW:=hq_ hJw;have hIw:Ints wr (.slice a' (p.head.length-i0) (hcap-i0)) (p.head.drop i0):=hdr wr (hpW.hd.kp hK g3);clear hA hK hJw
  by_cases hlt:k<p.head.length-i0
  ·obtain ⟨⟨a9,c9,he9,_,_,h39⟩,_,_⟩:=hIw;injection he9 with he1 he2 he3
   subst he1;rcases h39 with h39|⟨b9,o9,rfl,hcell⟩
   ·have:(p.head.drop i0).length=0:=by rw [h39];rfl
    rw [List.length_drop] at this;omega
   have hcl:=hcell k (by rw [List.length_drop];exact hlt);have hg:(p.head.drop i0).getD k 0=p.head.getD (i0+k) 0:=by
    simp [List.getD_eq_getElem?_getD]
   rw [hg] at hcl;have hnx:=HA.out.next HW.out h0 (show i0+k<p.head.length by omega);have hbd:=bl_ HW.out.head (show i0+k<p.head.length by omega);obtain ⟨y,hy⟩:∃ y,y=p.head.getD (i0+k) 0:=⟨_,rfl⟩;rw [<- hy] at hcl hnx hbd;have HNX:=hq_ hnx;have hEn:EnS p.mem lo (pre ++ [y]):=⟨_,hnx.1⟩;obtain ⟨fn,tmps,assign,body,hyy,hR⟩:=HY.out pre y wr HJW.out hEn;have HEN:=hq_ hEn;have hltI:(k:Int)<((p.head.length-i0:Nat):Int):=oq_;clear hcell hg hnx hEn hy he2 he3
   gi_wp2
   refine ⟨rfl,hR.mono ?_⟩;rintro e W' (⟨rfl,hJ',hk'⟩|⟨rfl,hJx'⟩)
   ·gi_wp2
    go_roundw
    case rel=>exact ⟨k+1,y+1,pre ++ [y],oq_,by go_num,HNX.out.2,hJ',HK.out.trans hk'⟩
    case measure=>simp [intOf];omega
   ·gi_wp2
    refine bodyPost_ret (results_none rfl _ _ _) rfl ?_;exact ⟨⟨_,rfl⟩,.inr ⟨_,HEN.out,hJx'⟩⟩
  ·have hd:=HA.out.done h0 (show p.head.length≤i0+k by omega);have HD:=hq_ hd;have hbw:Bxx wr pbx _ _:=(HK.out pbx g1).trans hbW;have hlw:Bxx wr lbx _ _:=(HK.out lbx g2).trans hlW;have hbw0:=(hbw.cells 3).1;clear hd hIw;have hgeI:¬ (k:Int)<((p.head.length-i0:Nat):Int):=oq_
   by_cases hcy:p.cycle=[]
   ·have hcl0:((p.cycle.length:Int) == 0)=true:=by rw [hcy];rfl
    have HCY:=hq_ hcy;clear hcy
    gi_wp2
    refine bodyPost_ret (results_none rfl _ _ _) rfl ?_;exact ⟨⟨_,rfl⟩,.inl ⟨pre,ub_ HCY.out HD.out h0,HJW.out⟩⟩
   ·have hcl1:1≤p.cycle.length:=by
     rcases Nat.eq_zero_or_pos p.cycle.length with h|h
     ·exact absurd (List.eq_nil_of_length_eq_zero h) hcy
     ·exact h
    have hcl0:((p.cycle.length:Int) == 0)=false:=by rw [beq_eq_false_iff_ne];omega
    have hbw1:=(hbw.cells 1).1;have hbw2:=(hbw.cells 2).1;have hlw0:=(hlw.cells 0).1;have hlwf:=(hlw.cells 0).2;obtain ⟨t,ht⟩:∃ t,t=max lo p.frm:=⟨_,rfl⟩;have ht1:p.frm≤t:=oq_;have ht2:t≤1125899906842624:=oq_;have ht3:lo≤t:=oq_;have HT:=hq_ ht;clear hcy ht;have hIc:Ints wr (.slice ca p.cycle.length ccap) p.cycle:=hpW.cy.kp HK.out (fun hl b o n c' he=>(g4 hl b o n c' he).1)
    gi_wp2_with fail
    rw [<- HT.out];have hJ2:J pre (wr.setCell ⟨lbx,0,none⟩ (.int .i64 t)):=HJ.out pre wr _ (some lbx) HJW.out (grownBy_setCell' wr lbx _) (fun r e=>by cases e;exact ⟨rfl,_,hlw,rfl⟩);have hb2:Bxx (wr.setCell ⟨lbx,0,none⟩ (.int .i64 t)) pbx _ _:=hbw.setNe _ g5;have hl2:Bxx (wr.setCell ⟨lbx,0,none⟩ (.int .i64 t)) lbx #[.int .i64 t] 3:=a4_ 0 _ hlw;have hi2:Ints (wr.setCell ⟨lbx,0,none⟩ (.int .i64 t)) (.slice ca p.cycle.length ccap) p.cycle:=by
     obtain ⟨⟨a2,c2,he,h5,h6,h7⟩,h8,h9⟩:=hIc;refine ⟨⟨a2,c2,he,h5,h6,h7.imp id ?_⟩,h8,h9⟩;rintro ⟨b,o,rfl,hc⟩;exact ⟨b,o,rfl,fun i hi=>bd_ (hc i hi) (g4 (fun e=>by rw [e] at hi;simp at hi) b o _ _ he).2 _⟩
    generalize wr.setCell ⟨lbx,0,none⟩ (.int .i64 t)=W2 at *;clear hbw hlw hbw0 hbw1 hbw2 hlw0 hlwf hIc;have x1:=(hb2.cells 1).1;have x2:=(hb2.cells 2).1;have x3:=(hb2.cells 3).1;have x4:=(hl2.cells 0).1;have ht0:0≤t-p.frm:=oq_;have hm0:=Int.emod_nonneg (t-p.frm) (show p.period≠0 by omega);have hm1:=Int.emod_lt_of_pos (t-p.frm) (show 0<p.period by omega);have hm2:(t-p.frm) % p.period≤t-p.frm:=by
     have e1:=Int.emod_add_mul_ediv (t-p.frm) p.period;have e2:=Int.mul_nonneg (show 0≤p.period by omega) (Int.ediv_nonneg ht0 (show 0≤p.period by omega));omega
    have hST:=CyIn.start HW.out (lo:=lo) (t:=t) (pre:=pre) (by rw [HT.out];exact HD.out) ht3 rfl ht1;refine wpIn_wide.2 ?_;go_quiet (fail)
    have hp3:0≤t-(t-p.frm) % p.period:=oq_;obtain ⟨base0,hb0⟩:∃ b,b=t-(t-p.frm) % p.period:=⟨_,rfl⟩;rw [<- hb0] at hST ⊢;have hbt:0≤t-base0∧base0≤t:=oq_;have hk3:p.cycle.countP (fun y=>decide (y<t-base0))≤p.cycle.length:=List.countP_le_length;obtain ⟨j0,hj0⟩:∃ j,j=p.cycle.countP (fun y=>decide (y<t-base0)):=⟨_,rfl⟩;rw [<- hj0] at hST hk3;have HJ0:=hq_ hj0;have HST:=hq_ hST;have hbb:base0≤1125899906842624:=oq_;have hbn:0≤base0:=oq_;clear hb0 hj0 hST hp3
    apply_assumption
    gi_wp2_with (refine ⟨trivial,rfl,?_⟩;gi_at_call 128;refine (callsIn_wide.2 (c9_ _ p.cycle _ _ (hi2.ext xE) hs2)).mono ?_;rintro e w' ⟨he,nq2,rfl⟩;rw [<- HJ0.out] at he;subst he)
    have hJ3:J pre (W2.drewN (nq+nq2)):=HJN.out _ _ _ hJ2
    gi_loopw [4,8] (fun vi vb wr=>∃ (j:Nat) (base u:Int) (pre:List Int),vi=.int .i64 j∧vb=.int .i64 base∧j≤p.cycle.length∧0≤base∧base≤5629499534213120∧(0<j->base≤1125899906842624)∧CyIn p lo base j u pre∧J pre wr∧KpB pb W2 wr) (fun _ vb _=>(9007199254740992-intOf vb).toNat)
    case atStart=>exact ⟨j0,base0,t,pre,rfl,rfl,hk3,hbn,oq_,fun _=>hbb,HST.out,hJ3,fun _ _=>rfl⟩
    case round=>
     obtain ⟨j,base,u',pre',rfl,rfl,hj,hbs0,hbs1,hbs2,hC,hJr,hKr⟩:=hrel;obtain ⟨a2,hrun2,hdr2,_⟩:=g0_ (a:=ca) (c:=ccap) p.cycle hj;have y3:=hKr.cell (a:=⟨pbx,3,none⟩) g1 x3;have HC:=hq_ hC;have HKR:=hq_ hKr;clear hC hKr
     gi_wp2_with fail
     clear hrun2;have hpos:=HC.out.hi;have hge0:=HC.out.ge;have HPOS:Hid (j<p.cycle.length->lo≤base+p.cycle.getD j 0):=hq_ (fun hlt=>by have:=hpos j (Nat.le_refl _) hlt;omega);have HMJ:Hid (j<p.cycle.length->p.mem (base+p.cycle.getD j 0)):=hq_ (fun hlt=>by
      have hbd:=bl_ HW.out.cyc hlt;have hfb:=HC.out.fb;rw [hj_ HW.out HC.out.fb HC.out.dv oq_ oq_,show base+p.cycle.getD j 0-base=p.cycle.getD j 0 from by omega];exact ah_ hlt)
     clear hpos hge0;obtain ⟨wo,rfl⟩:∃ wo:World,wo=wr:=⟨_,rfl⟩
     gi_loopw [63] (fun i wr=>∃ (k:Nat) (u:Int) (pre:List Int),k≤p.cycle.length-j∧i=.int .i64 k∧CyIn p lo base (j+k) u pre∧J pre wr∧KpB pb W2 wr) (fun i _=>(p.cycle.length-j)-(intOf i).toNat)
     case atStart=>exact ⟨0,u',pre',oq_,rfl,HC.out,hJr,HKR.out⟩
     case round=>
      obtain ⟨k,u,pre,hk,rfl,hA,hJw,hK⟩:=hrel;have HA:=hq_ hA;have HK:=hq_ hK;have HJW:=hq_ hJw;have hIw:Ints wr (.slice a2 (p.cycle.length-j) (ccap-j)) (p.cycle.drop j):=hdr2 wr (hi2.kp hK (fun hl b o n c' he=>(g4 hl b o n c' he).1));have y2:=hK.cell (a:=⟨pbx,2,none⟩) g1 x2;clear hA hK hJw
      by_cases hlt:k<p.cycle.length-j
      ·obtain ⟨⟨a9,c9,he9,_,_,h39⟩,_,_⟩:=hIw;injection he9 with he1 he2 he3
       subst he1;rcases h39 with h39|⟨b9,o9,rfl,hcell⟩
       ·have:(p.cycle.drop j).length=0:=by rw [h39];rfl
        rw [List.length_drop] at this;omega
       have hcl:=hcell k (by rw [List.length_drop];exact hlt);have hg:(p.cycle.drop j).getD k 0=p.cycle.getD (j+k) 0:=by
        simp [List.getD_eq_getElem?_getD]
       rw [hg] at hcl;have hnx:=HA.out.next HW.out h0 (show j+k<p.cycle.length by omega);have hbd:=bl_ HW.out.cyc (show j+k<p.cycle.length by omega);obtain ⟨y,hy⟩:∃ y,y=p.cycle.getD (j+k) 0:=⟨_,rfl⟩;rw [<- hy] at hcl hnx hbd;have HNX:=hq_ hnx;have hEn:EnS p.mem lo (pre ++ [base+y]):=⟨_,hnx.1⟩;obtain ⟨fn,tmps,assign,body,hyy,hR⟩:=HY.out pre (base+y) wr HJW.out hEn;have HEN:=hq_ hEn;have hltI:(k:Int)<((p.cycle.length-j:Nat):Int):=oq_;clear hcell hg hnx hEn hy he2 he3
       gi_wp2
       refine ⟨rfl,hR.mono ?_⟩;rintro e W' (⟨rfl,hJ',hk'⟩|⟨rfl,hJx'⟩)
       ·gi_wp2
        go_roundw
        case rel=>exact ⟨k+1,base+y+1,pre ++ [base+y],oq_,by go_num,HNX.out.2,hJ',HK.out.trans hk'⟩
        case measure=>simp [intOf];omega
       ·gi_wp2
        refine bodyPost_ret (results_none rfl _ _ _) rfl ?_;exact ⟨⟨_,rfl⟩,.inr ⟨_,HEN.out,hJx'⟩⟩
      ·have hgeI:¬ (k:Int)<((p.cycle.length-j:Nat):Int):=oq_;have hnext:=HA.out.round HW.out h0 (show p.cycle.length≤j+k by omega);have HNEXT:=hq_ hnext;have hbnd:base≤4503599627370496:=by
        rcases Nat.lt_or_ge j p.cycle.length with hjl|hjl
        ·have h9:=HN.out pre wr HJW.out (base+p.cycle.getD j 0) (by
          rw [HA.out.is,ae_ h0];exact ⟨HPOS.out hjl,HA.out.lo j oq_ hjl,HMJ.out hjl⟩)
         have:=bl_ HW.out.cyc hjl;omega
        ·have:=hbs2 oq_;omega
       clear hnext hIw hbs2
       gi_wp2_with fail
       refine ⟨⟨0,base+p.period,base+p.period,pre,rfl,rfl,oq_,oq_,oq_,oq_,HNEXT.out,HJW.out,HK.out⟩,by simp [intOf];omega⟩
end Go.Proofs.YthjnojbeimchdaaGreat
namespace Go.Proofs.YthjnojbeimchdaaGreat
open Go.RowKit Go.Shelf Kal
attribute [local go_sem] Oper.semAt_some
theorem ms_ {F:Fence} {nF:Nat} {w:World} {ops:Array Oper} {rest:List Oper} {o:Oper} {a:Act} {Q:Exit->Act->World->Prop} (hgd:o.guard=none) (s x:Operand)
  (ho:o.op=.call { callee:=.builtin .append,args:=#[s,x],argTypes:=#[37,37] }) (base:Nat) (v:Value) (l:List Int) (y:Int) (hs:a.eval s=v) (hown:OwnI w base v l)
  (blk c:Nat) (hx:a.eval x=.slice (some ⟨blk,0,none⟩) 1 c) (hnew:w.cell? ⟨blk,0,none⟩=some (.int .i64 y)) (hy:InI y) (hlen:l.length+1≤17592186044416) (hbase:base≤w.heap.size)
  (h:∀ g cap w',OwnI w' base (.slice (some ⟨g,0,none⟩) (l.length+1) cap) (l ++ [y])->w.grownBy w' v.ownBlock->Below base w w'->wpListIn F nF Tryz.prog ops Q rest (a.put o.dst (.slice (some ⟨g,0,none⟩) (l.length+1) cap)) w') :
  wpListIn F nF Tryz.prog ops Q (o :: rest) a w:=by
 obtain ⟨i,hi,h1,h2,h3⟩:=dt_;refine wpListIn_append_own_at w hgd s x 37 ho base 3 i (.int .i64 0) 1 8 Tryz.underlying37 hi h1 h2 h3 rfl oq_ v l.length (l.map (Value.int .i64)) hs hown.row ⟨blk,0,none⟩ 1 c [.int .i64 y] hx rfl ?_ (by simp [Value.oneCell']) (by unfold maxLen;omega) oq_ hbase ?_
 ·intro j u hu
  match j,hu with
  | 0,hu=>simp at hu;subst hu;exact hnew
 ·intro v' w' hown' hgrow _ _;obtain ⟨g,cap,rfl⟩:=ownsRow_succ hown';exact h g cap w' (OwnI.appended hown.rng hy hlen hown') hgrow (hown.below_grown (W0:=w) (.inr trivial) hbase hgrow)
def ib_ (l:List Int) (w:World) (e:Ending) (w':World):Prop:=∃ v,e=.returned v∧OwnI w' w.heap.size v l∧Below w.heap.size w w'
theorem dl_ {B D:Nat} {w:World} (hB:B≤D) (hD:w.heap[D]? = some (.deferred (some []))):b5_ B [{ target:=.collected D,args:=#[] }] w:=
 ⟨[D],rfl,sq_,fun D' h=>by (obtain rfl:D'=D:=by simpa using h);exact ⟨hB,hD⟩⟩
theorem KeepsOthers.grown_cells {A B C:World} {row:Option Nat} (h:KeepsOthers A B) (hg:B.grownBy C row) (hr:∀ r,row=some r->∃ o:Obj,B.heap[r]? = some o∧o.isCells=true):KeepsOthers A C:=
 ⟨Nat.le_trans h.size hg.size,fun k o hk ho=>by
  have h1:=h.same k o hk ho;refine (hg.block k (Array.getElem?_eq_some_iff.1 h1).1 fun e=>?_).trans h1;obtain ⟨o2,h2,h3⟩:=hr k e.symm;rw [h1] at h2;cases h2;rw [ho] at h3;cases h3⟩
theorem OwnI.row_cells {W:World} {base:Nat} {v:Value} {l:List Int} (h:OwnI W base v l):∀ r,v.ownBlock=some r->∃ o:Obj,W.heap[r]? = some o∧o.isCells=true:=by
 intro r hr;rcases h.row.2 with ⟨rfl,_⟩|⟨g,cap,cur,rfl,_,hh,_⟩
 ·cases hr
 ·obtain rfl:g=r:=by simpa [Value.ownBlock] using hr
  exact ⟨_,hh,rfl⟩
structure WI (w:World) (hi:Int) (hb ob base:Nat) (v:Value) (l:List Int) (W:World):Prop where
 below:Below w.heap.size w W
 hbx:Bxx W hb #[.int .i64 hi] 3
 obx:Bxx W ob #[v] 37
 own:OwnI W base v l
 sz:base≤W.heap.size
theorem WI.grow {w:World} {hi:Int} {hb ob base:Nat} {v:Value} {l:List Int} {W W':World} {row:Option Nat} (h:WI w hi hb ob base v l W) (hg:W.grownBy W' row)
  (hr:∀ r,row=some r->w.heap.size≤r∧((r≠hb∧r≠ob∧r<base)∨∃ o:Obj,W.heap[r]? = some o∧o.isCells=false)):WI w hi hb ob base v l W':=by
 have key:∀ {b:Nat} {c:Array Value} {t:TypeId},Bxx W b c t->(b=hb∨b=ob)->Bxx W' b c t:=fun {b c t} hx hbo=>by
  refine (hg.block b hx.lt fun e=>?_).trans hx;obtain ⟨_,h1|⟨o,ho,hc⟩⟩:=hr b e.symm
  ·rcases hbo with rfl|rfl <;> simp at h1
  ·rw [show W.heap[b]? = _ from hx] at ho;cases ho;cases hc
 refine ⟨h.below.grown hg h.below.size (fun k e=>(hr k e).1),key h.hbx (.inl rfl),key h.obx (.inr rfl),h.own.kept hg ?_,Nat.le_trans h.sz hg.size⟩;rcases hob:v.ownBlock with _|g
 ·exact .inl rfl
 ·refine .inr fun e=>?_;have hlt:=h.own.lt g hob;obtain ⟨o2,h2,h3⟩:=h.own.row_cells g hob;obtain ⟨_,h1|⟨o,ho,hc⟩⟩:=hr g e.symm
  ·omega
  ·rw [h2] at ho;cases ho;rw [hc] at h3;cases h3
theorem gs_ {S:Int->Prop} {lo hi n:Int} (h0:0≤lo) (h1:∀ x∈sel S lo n,x<hi) (h2:∀ x,S x->lo≤x->x<hi->x<n):sel S lo n=sel S lo hi:=by
 refine (ad_ h0).ext (ad_ h0) fun x=>?_;constructor
 ·intro hx;have:=(ae_ h0 x).1 hx;exact (ae_ h0 x).2 ⟨this.1,h1 x hx,this.2.2⟩
 ·intro hx;have:=(ae_ h0 x).1 hx;exact (ae_ h0 x).2 ⟨this.1,h2 x this.2.2 this.1 this.2.1,this.2.2⟩
theorem l4_ (h c:Value) (p:Per) (lo hi:Int) (w:World) (hp:a8_ w h c p) (hw:p.WF) (h1:p.frm≤1125899906842624) (h2:p.period≤1125899906842624) (h0:0≤lo) (h3:lo≤1125899906842624) (h4:0≤hi) (h5:hi≤8796093022208) :
  Calls Tryz.prog 152 #[perV h c p.frm p.period,.int .i64 lo,.int .i64 hi] w (ib_ (sel p.mem lo hi) w):=by
 obtain ⟨a1,c1,a2,c2,rfl,rfl⟩:=hp.inn.form;refine callsIn_wide (n:=0).1 ?_;refine callsIn_of_wp_marks Tryz.func152 rfl trivial ?_ rfl;simp only [Tryz.ntmps152,List.size_toArray,List.length_cons,List.length_nil,Nat.reduceAdd,Nat.reduceSub,Array.replicate_succ,Array.replicate_zero,List.push_toArray,List.append_toArray,List.nil_append,List.cons_append]
 gi_wp2_with (refine ⟨trivial,rfl,?_⟩;gi_at_call 84;refine (callsIn_wide.2 (o9_ _ _ p lo _ ⟨_,_,_,_,_,_,rfl,rfl⟩)).mono ?_;rintro e w' ⟨rfl,rfl⟩)
 generalize hW0:((((w.alloc _).alloc _).alloc _).alloc _).alloc _=W0;have hE:Below w.heap.size w W0:=by rw [<- hW0];exact xE
 have hsz:W0.heap.size=w.heap.size+5:=by rw [<- hW0];simp
 have hhi:Bxx W0 (w.heap.size+1) #[.int .i64 hi] 3:=by rw [<- hW0];exact (((Bxx.at sq_).alloc _).alloc _).alloc _
 have hob:Bxx W0 (w.heap.size+2) #[.slice none 0 0] 37:=by rw [<- hW0];exact ((Bxx.at sq_).alloc _).alloc _
 have hpb:Bxx W0 (w.heap.size+3) #[.slice a1 p.head.length c1,.int .i64 p.frm,.int .i64 p.period,.slice a2 p.cycle.length c2] 39:=by rw [<- hW0];exact (Bxx.at sq_).alloc _
 have hlb:Bxx W0 (w.heap.size+4) #[.int .i64 lo] 3:=by rw [<- hW0];exact Bxx.at sq_
 have hz1:W0.heap.size≤w.heap.size+5:=oq_;have hz2:w.heap.size+5≤W0.heap.size:=oq_;have hpW:=hp.ext hE;have hin:=hp.inn;have hST:WI w hi (w.heap.size+1) (w.heap.size+2) W0.heap.size (.slice none 0 0) [] W0:=⟨hE,hhi,hob,OwnI.nil _ _,Nat.le_refl _⟩;have HST:=hq_ hST;clear hW0 hsz hST hhi hob;have garr:∀ (v:Value) (l:List Int),IntsIn w 0 w.heap.size v l->l≠[]->∀ b o n c',v=.slice (some ⟨b,o,none⟩) n c'->b<w.heap.size:=fun v l hi hl b o n c' he=>(hi.blk hl b (by rw [he];rfl)).2;simp only [Nat.add_assoc,Nat.reduceAdd];refine gx_ (x:=some (w.heap.size+4)) (gf:=127) (lb:=#[.pointer (some ⟨w.heap.size+3,0,none⟩),.pointer (some ⟨w.heap.size+4,0,none⟩)]) rfl (enters_of Tryz.func127 (by kernel_rfl) rfl)
  (od_ (.slice a1 p.head.length c1) (.slice a2 p.cycle.length c2) p lo (w.heap.size+3) (w.heap.size+4) W0 (fun k=>k<w.heap.size∨k=w.heap.size+3∨k=w.heap.size+4) hpW hw h1 h2 h0 h3 hpb hlb (.inr (.inl rfl)) (.inr (.inr rfl))
   (fun hl b o n c' he=>.inl (garr _ _ hin.hd hl b o n c' he)) (fun hl b o n c' he=>⟨.inl (garr _ _ hin.cy hl b o n c' he),by have:=garr _ _ hin.cy hl b o n c' he;omega⟩) oq_)
  (fun h k=>h.trans k) (KpB.putObj (by intro k hk;omega)) (fun y=>rfl)
  (fun pre W'=>(∀ x∈pre,x<hi)∧∃ v,WI w hi (w.heap.size+1) (w.heap.size+2) W0.heap.size v pre W')
  (fun c' _ W'=>c'=.exit 0∧∃ v,WI w hi (w.heap.size+1) (w.heap.size+2) W0.heap.size v (sel p.mem lo hi) W')
  (fun pre A C row hI hg hr=>⟨hI.1,hI.2.choose,hI.2.choose_spec.grow hg fun r e=>by
   rcases hr r e with ⟨h,_⟩|⟨h,h'⟩
   ·injection h with h;exact ⟨oq_,.inl ⟨oq_,oq_,oq_⟩⟩
   ·exact ⟨oq_,.inr h'⟩⟩)
  (fun c' pre A C row hI hg hr=>⟨hI.1,hI.2.choose,hI.2.choose_spec.grow hg fun r e=>by
   rcases hr r e with ⟨h,_⟩|⟨h,h'⟩
   ·injection h with h;exact ⟨oq_,.inl ⟨oq_,oq_,oq_⟩⟩
   ·exact ⟨oq_,.inr h'⟩⟩)
  (fun pre W' hI x hx=>by have:=hI.1 x hx;omega) ⟨sq_,_,HST.out⟩
  (fun y=>⟨#[perV (.slice a1 p.head.length c1) (.slice a2 p.cycle.length c2) p.frm p.period,.int .i64 lo,.int .i64 hi,.pointer (some ⟨w.heap.size,0,none⟩),undef,.pointer (some ⟨w.heap.size+1,0,none⟩),.slice none 0 0,.pointer (some ⟨w.heap.size+2,0,none⟩),(.int .i64 y),.agg #[.slice a1 p.head.length c1,.int .i64 p.frm,.int .i64 p.period,.slice a2 p.cycle.length c2],.int .i64 lo,.func (.func 127) #[] #[.pointer (some ⟨w.heap.size+3,0,none⟩),.pointer (some ⟨w.heap.size+4,0,none⟩)],(.int .i64 y),undef,undef,undef,undef,undef,undef,undef,undef],[]⟩) ?assign ?body ?done ?stop
 case assign=>
  intro l y W' K hK
  gi_wp2
  exact hK
 case body=>
  rintro l pre y W' ⟨hlt,v,hWI⟩ hen;obtain ⟨hy1,hy2,hy3,hy4⟩:=EnS.last h0 hen;obtain ⟨va,vc,rfl⟩:=hWI.own.form;have q1:=(hWI.hbx.cells 0).1;have q2:=(hWI.obx.cells 0).1;have q3:=(hWI.obx.cells 0).2;have hown:=hWI.own;have hsz:=hWI.sz;have HWI:=hq_ hWI;have H3:=hq_ hy3;have H4:=hq_ hy4;have hb8:=hWI.below.size;clear hy3 hy4 hWI hen
  by_cases hc:y<hi
  ·have hlen:pre.length+1≤17592186044416:=by
    have:=(ad_ (S:=p.mem) (lo:=lo) (hi:=y) h0).length_le hy1;rw [<- H3.out] at this;omega
   gi_wp2_with (gi_at_builtin;refine ms_ rq_ _ _ rq_ W0.heap.size (.slice va pre.length vc) pre y rq_ (OwnI.ext hown (Ea (Er _) _)) _ _ rq_ sq_ ⟨oq_,oq_⟩ hlen tq_ ?_;intro g cap W2 hown2 hgrow hbel;have hob2:=(HWI.out.obx.alloc (.cells #[.int .i64 y] 3)).upto hbel oq_;have hk2:=(hob2.cells 0).1;have hk3:=(hob2.cells 0).2)
   refine ⟨(KeepsOthers.trans (KeepsOthers.grown_cells (KeepsOthers.alloc W' _) hgrow (OwnI.row_cells (OwnI.ext hown (Ea (Er W') (.cells #[.int .i64 y] 3))))) (KeepsOthers.setCell W2 ⟨w.heap.size+2,0,none⟩ (.slice (some ⟨g,0,none⟩) (pre.length+1) cap))).from _,fun k hk=>?_,fun x hx=>?_,.slice (some ⟨g,0,none⟩) (pre.length+1) cap,?_⟩
   ·rw [bx_ oq_,hbel.block k oq_];exact Below.heap_alloc _ _ _ oq_
   ·rcases List.mem_append.1 hx with hx|hx
    ·exact hlt x hx
    ·obtain rfl:x=y:=by simpa using hx
     exact hc
   ·have hz3:=hbel.size;simp only [World.size_alloc] at hz3;refine ⟨((HWI.out.below.alloc oq_ _).trans (hbel.mono oq_)).setCell (p:=⟨w.heap.size+2,0,none⟩) sq_ _,((HWI.out.hbx.alloc _).upto hbel oq_).setNe _ oq_,a4_ 0 _ hob2,?_,by simp [World.setCell];omega⟩;have e:(Value.slice (some ⟨g,0,none⟩) (pre.length+1) cap)=.slice (some ⟨g,0,none⟩) (pre ++ [y]).length cap:=by simp
    exact hown2.above ((a7_.refl _ W2).setCell tq_ _)
  ·have hge:hi≤y:=oq_
   gi_wp2
   refine ⟨KeepsFrom.refl _ _,rfl,.slice va pre.length vc,?_⟩;have e:pre=sel p.mem lo hi:=by
    rw [H3.out];exact gs_ h0 (fun x hx=>hlt x (by rw [H3.out];exact hx)) (fun x _ _ hx=>oq_)
   rw [<- e];exact HWI.out
 case done=>
  rintro D xs W' hD ⟨n,hn,rfl⟩ ⟨hlt,v,hWI⟩ hdef;have e:=gs_ h0 hlt (fun x hx _ _=>hn x hx);rw [e] at hWI;clear e hlt;obtain ⟨va,vc,rfl⟩:=hWI.own.form;have q2:=(hWI.obx.cells 0).1;have HWI:=hq_ hWI;have HDEF:=hq_ hdef;clear hWI hdef
  gi_wp2_with fail
  have hM:b5_ w.heap.size [{ target:=.collected D,args:=#[] }] W':=dl_ oq_ HDEF.out;refine ce_ (B:=w.heap.size) _ _ hM fun w' hs=>⟨.slice va (sel p.mem lo hi).length vc,by simp [results,Tryz.results152,go_sem],.slice va (sel p.mem lo hi).length vc,rfl,?_,HWI.out.below.trans hs.below⟩;exact (HWI.out.own.shut hs).mono oq_
 case stop=>
  rintro D c' pre W' hD _ ⟨rfl,v,hWI⟩ hdef;refine wpIn_exit ?_
  conv=>whnf
  apply_assumption
  obtain ⟨va,vc,rfl⟩:=hWI.own.form;have q2:=(hWI.obx.cells 0).1;have HWI:=hq_ hWI;have HDEF:=hq_ hdef;clear hWI hdef
  gi_wp2_with fail
  have hM:b5_ w.heap.size [{ target:=.collected D,args:=#[] }] W':=dl_ oq_ HDEF.out;refine ce_ (B:=w.heap.size) _ _ hM fun w' hs=>⟨.slice va (sel p.mem lo hi).length vc,by simp [results,Tryz.results152,go_sem],.slice va (sel p.mem lo hi).length vc,rfl,?_,HWI.out.below.trans hs.below⟩;exact (HWI.out.own.shut hs).mono oq_
end Go.Proofs.YthjnojbeimchdaaGreat
namespace Go.Proofs.YthjnojbeimchdaaGreat
open Go.RowKit Kal
end Go.Proofs.YthjnojbeimchdaaGreat
namespace Go.Proofs.YthjnojbeimchdaaGreat
open Go.RowKit Go.Maps Go.ChangeShapes Kal
open Go.WideElems (rd_val)
def grp (ys:List Int) (g r:Int):List Int:=ys.filter fun y=>decide (y % g=r)
noncomputable def dat (l:List Int):DataW Unit:=if l=[] then .nil else .slice (lits .i64 l) []
theorem va_ {a b:List Int} (h:(lits (H:=Unit) .i64 a)=lits .i64 b):a=b:=by
 unfold lits at h
 induction a generalizing b with
 | nil=>cases b with
  | nil=>rfl
  | cons y b=>simp at h
 | cons x a ih=>cases b with
  | nil=>simp at h
  | cons y b=>
   simp only [List.map_cons,List.cons.injEq] at h;obtain ⟨h1,h2⟩:=h;injection h1 with h1;injection h1 with h1 h3
   rw [h3,ih h2]
structure ef_ (D:DataW Unit) (g:Int) (ys:List Int):Prop where
 map:IsMap D
 rd:∀ r,D.atKey (.int .i64 r) .nil=dat (grp ys g r)
theorem ef_.nil (g:Int):ef_ (.map []) g []:=⟨isMap_empty,fun r=>rfl⟩
theorem ef_.got {D:DataW Unit} {g:Int} {ys:List Int} (h:ef_ D g ys) {w:World} {base:Nat} {e:TypeId} {v:Value} {zs:List Int} {r:Int} (hat:D.atKey (.int .i64 r) .nil=rowDatum .i64 v zs) (ho:w.ownsInts base e .i64 v zs):zs=grp ys g r:=by
 rw [h.rd] at hat;unfold dat at hat;rcases ho.datum (H:=Unit) with ⟨h1,h2⟩|h1
 ·rw [h1] at hat
  by_cases hg:grp ys g r=[]
  ·rw [h2,hg]
  ·rw [if_neg hg] at hat;cases hat
 ·rw [h1] at hat
  by_cases hg:grp ys g r=[]
  ·rw [if_pos hg] at hat;cases hat
  ·rw [if_neg hg] at hat;injection hat with hat
   exact (va_ hat).symm
theorem ef_.put {D:DataW Unit} {g:Int} {ys:List Int} (h:ef_ D g ys) {w:World} {base:Nat} {e:TypeId} {v:Value} {y:Int} (ho:w.ownsInts base e .i64 v (grp ys g (y % g) ++ [y])) :
  ef_ (D.put (.int .i64 (y % g)) (rowDatum .i64 v (grp ys g (y % g) ++ [y]))) g (ys ++ [y]):=by
 refine ⟨h.map.put _ _,fun r=>?_⟩
 by_cases hr:r=y % g
 ·subst hr;rw [atKey_put_same h.map (by simp [WideAt.IsKeyLit]),ho.datum_pos sq_];unfold dat;rw [show grp (ys ++ [y]) g (y % g)=grp ys g (y % g) ++ [y] from by unfold grp;simp,if_neg sq_]
 ·rw [atKey_put_other (by intro e;injection e with _ e;exact hr e),h.rd]
  congr 1
  unfold grp;rw [List.filter_append];simp [show ¬ y % g=r from fun e=>hr e.symm]
def dh_ (w:World) (b hi:Nat) (g:Int) (ys:List Int):Prop:=
 ∃ (es:Array MapEntry) (clock n base:Nat) (D:DataW Unit),b<base∧w.heap[b]? = some (.map es clock)∧n≤17592186044416∧w.ownsGroups Tryz.prog 3 base 3 .i64 b n D∧ef_ D g ys∧b<hi∧∀ x∈es.toList,∀ k,x.val.ownBlock=some k->k<hi
theorem hy_ {w w':World} {base hi:Nat} {e:TypeId} {v:Value} {zs:List Int} (h:w.ownsInts base e .i64 v zs) (hlt:∀ k,v.ownBlock=some k->k<hi) (hk:∀ k,base≤k->k<hi->w'.heap[k]? = w.heap[k]?):w'.ownsInts base e .i64 v zs:=by
 obtain ⟨⟨h1,h2⟩,h3⟩:=h;refine ⟨⟨h1,?_⟩,h3⟩;rcases h2 with h2|⟨g,cap,cur,hv,hg,hh,hr⟩
 ·exact .inl h2
 ·exact .inr ⟨g,cap,cur,hv,hg,(hk g hg (hlt g (by rw [hv];rfl))).trans hh,hr⟩
theorem dh_.of_blocks {w w':World} {b hi:Nat} {g:Int} {ys:List Int} (h:dh_ w b hi g ys) (hk:∀ k,b≤k->k<hi->w'.heap[k]? = w.heap[k]?):dh_ w' b hi g ys:=by
 obtain ⟨es,clock,n,base,D,hbs,hb,hn,⟨es2,clock2,hb2,F,hs,hD,hbb,hlen,hap⟩,hrd,hhi,hrow⟩:=h;rw [hb] at hb2;injection hb2 with hb2;injection hb2 with e1 e2
 subst e1;subst e2;have hb':=(hk b (Nat.le_refl _) hhi).trans hb;have key:∀ x∈es.toList,∀ z,rowElem (H:=Unit) w base 3 .i64 x.val=some z->rowElem (H:=Unit) w' base 3 .i64 x.val=some z:=by
  intro x hx z hz;obtain ⟨zs,ho,rfl⟩:=rowElem_inv hz;exact rowElem_mk (hy_ ho (hrow x hx) fun k h1 h2=>hk k oq_ h2)
 have owned:∀ x∈es.toList,∃ zs,w.ownsInts base 3 .i64 x.val zs:=fun x hx=>by
  obtain ⟨y,hy⟩:=F.reads x hx;obtain ⟨z,hz,_⟩:=rd_val hy;obtain ⟨zs,ho,_⟩:=rowElem_inv hz;exact ⟨zs,ho⟩
 obtain ⟨F',hm,_⟩:=F.stay (R':=rowElem (H:=Unit) w' base 3 .i64) key;refine ⟨es,clock,n,base,D,hbs,hb',hn,⟨es,clock,hb',F',hs,by rw [hm];exact hD,hbb,fun x hx zs hz=>?_,hap⟩,hrd,hhi,hrow⟩;obtain ⟨zs0,h0⟩:=owned x hx;rw [(hy_ h0 (hrow x hx) fun k h1 h2=>hk k oq_ h2).unique hz |>.symm];exact hlen x hx zs0 h0
theorem dh_.of_groups {w:World} {b n base:Nat} {D:DataW Unit} {g:Int} {ys:List Int} (h:w.ownsGroups Tryz.prog 3 base 3 .i64 b n D) (hbs:b<base) (hn:n≤17592186044416) (hrd:ef_ D g ys):dh_ w b w.heap.size g ys:=by
 have h':=h;obtain ⟨es,clock,hb,F,hs,hD,hbb,hlen,hap⟩:=h;refine ⟨es,clock,n,base,D,hbs,hb,hn,h',hrd,(Array.getElem?_eq_some_iff.1 hb).1,fun x hx k hk=>?_⟩;obtain ⟨y,hy⟩:=F.reads x hx;obtain ⟨z,hz,_⟩:=rd_val hy;obtain ⟨zs,ho,_⟩:=rowElem_inv hz;exact (ho.1.lt k hk).2
theorem iy_:Keyed Tryz.prog 3:=int_keyed Tryz.underlying3
theorem h7_ (w:World):(zeroValue 37).run Tryz.prog w=.ok (.slice none 0 0) w:=by kernel_rfl
theorem mapKey {r:Int} (hr:InI r):keyOf Tryz.prog 3 (.int .i64 r)=some (.int .i64 r):=keyOf_int_mk Tryz.underlying3 (WalkArith.wf_i64 hr)
theorem vr_ {x:Int} (h:(Lit.int .i64 x).wf=true):InI x:=by
 simp [Lit.wf,IntKind.min,IntKind.max,IntKind.signed,IntKind.bits] at h;unfold InI;omega
theorem dh_.look {w:World} {b hi:Nat} {g r:Int} {ys:List Int} (h:dh_ w b hi g ys) (hr:InI r) :
  ∃ v,(Instr.lookup 137 (.map (some b)) (.int .i64 r) false).run Tryz.prog w=.ok v w∧IntsIn w (b+1) hi v (grp ys g r):=by
 obtain ⟨es,clock,n,base,D,hbs,hb,hn,⟨es2,clock2,hb2,F,hs,hD,hbb,hlen,hap⟩,hrd,hhi,hrow⟩:=h;rw [hb] at hb2;injection hb2 with hb2;injection hb2 with e1 e2
 subst e1;subst e2;subst hD;rcases Maps.fit_look false iy_ Tryz.underlying137 (h7_ w) hb F (mapKey hr) with ⟨hrun,_,hat⟩|⟨e0,y,hm0,h3,hrun,hR,hat,_⟩
 ·have hz:=hrd.got (v:=.slice none 0 0) (zs:=[]) (hat _) (World.ownsInts_nil w base 3 .i64);refine ⟨.slice none 0 0,hrun,?_⟩;rw [<- hz];exact ⟨Ints.nil w,fun h=>absurd rfl h⟩
 ·obtain ⟨zs,ho,rfl⟩:=rowElem_inv hR;have hz:=hrd.got (hat _) ho;refine ⟨e0.val,hrun,?_⟩;rw [<- hz];have hO:OwnI w base e0.val zs:=⟨ho.1,fun x hx=>vr_ (ho.2 x hx),by have:=hlen e0 hm0 zs ho;omega⟩;exact ⟨hO.ints,fun _ k hk=>⟨by have:=(hO.lt k hk).1;omega,hrow e0 hm0 k hk⟩⟩
end Go.Proofs.YthjnojbeimchdaaGreat
namespace Go.Proofs.YthjnojbeimchdaaGreat
open Go.RowKit Go.Maps Go.ChangeShapes Kal
theorem qk_ {l:List MapEntry} (h:(l.map (·.key)).Nodup) {a b:MapEntry} (ha:a∈l) (hb:b∈l) (e:a.key=b.key):a=b:=by
 induction l with
 | nil=>simp at ha
 | cons x l ih=>
  rw [List.map_cons,List.nodup_cons] at h;rcases List.mem_cons.1 ha with ha1|ha1 <;> rcases List.mem_cons.1 hb with hb1|hb1
  ·rw [ha1,hb1]
  ·exact absurd (List.mem_map.2 ⟨b,hb1,by rw [<- ha1];exact e.symm⟩) h.1
  ·exact absurd (List.mem_map.2 ⟨a,ha1,by rw [<- hb1];exact e⟩) h.1
  ·exact ih h.2 ha1 hb1
theorem nx_ {v v':Value} {w w':World} (h:(Result.ok v w:Result Value)=Result.ok v' w'):v=v':=by cases h;rfl
theorem ic_ {w:World} {b n base:Nat} {D:DataW Unit} {r:Int} (h:w.ownsGroups Tryz.prog 3 base 3 .i64 b n D) (hn:n≤17592186044416) (hr:InI r) :
  ∃ v zs,(∀ W:World,W.heap[b]? = w.heap[b]?->(Instr.lookup 137 (.map (some b)) (.int .i64 r) false).run Tryz.prog W=.ok v W)∧D.atKey (.int .i64 r) .nil=rowDatum .i64 v zs∧w.ownsInts base 3 .i64 v zs∧zs.length≤n∧
   w.groupBack Tryz.prog 137 3 base 3 .i64 b n D (.int .i64 r) (.int .i64 r) v:=by
 obtain ⟨v,zs,hrun,hat,ho,hzl,hback⟩:=h.at iy_ Tryz.underlying137 (h7_ w) (by unfold maxLen;omega) (mapKey hr);refine ⟨v,zs,fun W hW=>?_,hat,ho,hzl,hback⟩;obtain ⟨es,clock,hb,F,_⟩:=h;have hb':=hW.trans hb;rcases Maps.fit_look false iy_ Tryz.underlying137 (h7_ w) hb F (mapKey hr) with ⟨h1,h2,_⟩|⟨e0,y,hm0,h3,h1,_⟩
 ·have e1:=nx_ (hrun.symm.trans h1)
  (try dsimp only at e1)
  rcases Maps.fit_look false iy_ Tryz.underlying137 (h7_ W) hb' F (mapKey hr) with ⟨g1,_,_⟩|⟨e2,y1,hm1,g3,g1,_⟩
  ·rw [e1];exact g1
  ·exact absurd g3 (h2 e2 hm1)
 ·have e1:=nx_ (hrun.symm.trans h1)
  (try dsimp only at e1)
  rcases Maps.fit_look false iy_ Tryz.underlying137 (h7_ W) hb' F (mapKey hr) with ⟨g1,g2,_⟩|⟨e2,y1,hm1,g3,g1,_⟩
  ·exact absurd h3 (g2 e0 hm0)
  ·have:=qk_ F.stamped.2.2 hm0 hm1 (h3.trans g3.symm);subst this;rw [e1];exact g1
theorem sd_ (w:World) {o:Oper} {a:Act} {K:Act->World->Prop} {Q:Exit->Act->World->Prop} (s x:Operand)
  (ho:o.op=.call { callee:=.builtin .append,args:=#[s,x],argTypes:=#[37,37] }) (base:Nat) (v:Value) (l:List Int) (y:Int) (hs:a.eval s=v) (hown:OwnI w base v l)
  (blk c:Nat) (hx:a.eval x=.slice (some ⟨blk,0,none⟩) 1 c) (hnew:w.cell? ⟨blk,0,none⟩=some (.int .i64 y)) (hy:InI y) (hlen:l.length+1≤17592186044416) (hbase:base≤w.heap.size)
  (h:∀ g cap w',OwnI w' base (.slice (some ⟨g,0,none⟩) (l.length+1) cap) (l ++ [y])->w.grownBy w' v.ownBlock->(v.ownBlock=some g∨g=w.heap.size)->K (a.put o.dst (.slice (some ⟨g,0,none⟩) (l.length+1) cap)) w') :
  Oper.wp Tryz.prog o a w K Q:=by
 obtain ⟨i,hi,h1,h2,h3⟩:=dt_;refine wp_append_lies w s x 37 ho base 3 i (.int .i64 0) 1 8 Tryz.underlying37 hi h1 h2 h3 rfl oq_ v l.length (l.map (Value.int .i64)) hs hown.row ⟨blk,0,none⟩ 1 c [.int .i64 y] hx rfl ?_ (by simp [Value.oneCell']) oq_ (by unfold maxLen;omega) oq_ hbase _ rfl ?_
 ·intro j u hu
  match j,hu with
  | 0,hu=>simp at hu;subst hu;exact hnew
 ·intro g cap w' hown' hgrow hloc _;exact h g cap w' (OwnI.appended hown.rng hy hlen hown') hgrow hloc
end Go.Proofs.YthjnojbeimchdaaGreat
namespace Go.Proofs.YthjnojbeimchdaaGreat
open Go.RowKit Go.Maps Kal
abbrev em_ (h1 c1 h2 c2:Value) (qa qb:Per) (st:Int) (xv yv:Value) (g:Int) (mb:Nat):Value:=
 .agg #[h1,.int .i64 qa.frm,.int .i64 qa.period,c1,h2,.int .i64 qb.frm,.int .i64 qb.period,c2,.int .i64 st,xv,yv,.int .i64 g,.map (some mb)]
theorem al_ {P:Program} {c:Code} {Q:Exit->Act->World->Prop} {a:Act} {W:World} (F:World->Prop) (h:F W) (k:∀ W2,F W2->c.wp P Q a W2):c.wp P Q a W:=k W h
theorem s4_ {G:Act->World->Prop} {a:Act} {W:World} (F:World->Prop) (h:F W) (k:∀ W2,F W2->G a W2):G a W:=k W h
theorem h4_ {W:World} {b i k:Nat} {o:Obj} {v:Value} (h:W.heap[k]? = some o) (hne:k≠b):(W.setCell ⟨b,i,none⟩ v).heap[k]? = some o:=(Below.heap_setCell W ⟨b,i,none⟩ v k hne).trans h
theorem ny_ {w:World} {b o o':Nat} {x:Value} (h:w.cell? ⟨b,o,none⟩=some x) (hne:o'≠o) (v:Value):(w.setCell ⟨b,o',none⟩ v).cell? ⟨b,o,none⟩=some x:=(World.cell?_setCell_other _ _ _ _ (by simp [hne])).trans h
theorem vj_ {W:World} {b:Nat} {x0 x1 x2 x3 x4 x5 x6 x7 x8 x9 x10 x11 x12 y0 y1 y2 y3 y4 y5 y6 y7 y8 y9 y10 y11 y12:Value} {t:TypeId} (h:Bxx W b #[x0,x1,x2,x3,x4,x5,x6,x7,x8,x9,x10,x11,x12] t) :
  Bxx (((((((((((((W.setCell ⟨b,0,none⟩ y0).setCell ⟨b,1,none⟩ y1).setCell ⟨b,2,none⟩ y2).setCell ⟨b,3,none⟩ y3).setCell ⟨b,4,none⟩ y4).setCell ⟨b,5,none⟩ y5).setCell ⟨b,6,none⟩ y6).setCell ⟨b,7,none⟩ y7).setCell ⟨b,8,none⟩ y8).setCell ⟨b,9,none⟩ y9).setCell ⟨b,10,none⟩ y10).setCell ⟨b,11,none⟩ y11).setCell ⟨b,12,none⟩ y12) b #[y0,y1,y2,y3,y4,y5,y6,y7,y8,y9,y10,y11,y12] t:=by
 have:=(a4_ 12 y12 (a4_ 11 y11 (a4_ 10 y10 (a4_ 9 y9 (a4_ 8 y8 (a4_ 7 y7 (a4_ 6 y6 (a4_ 5 y5 (a4_ 4 y4 (a4_ 3 y3 (a4_ 2 y2 (a4_ 1 y1 (a4_ 0 y0 h)))))))))))));simpa [Bxx] using this
theorem ux_ {W:World} {b k:Nat} {y0 y1 y2 y3 y4 y5 y6 y7 y8 y9 y10 y11 y12:Value} (h:k≠b) :
  (((((((((((((W.setCell ⟨b,0,none⟩ y0).setCell ⟨b,1,none⟩ y1).setCell ⟨b,2,none⟩ y2).setCell ⟨b,3,none⟩ y3).setCell ⟨b,4,none⟩ y4).setCell ⟨b,5,none⟩ y5).setCell ⟨b,6,none⟩ y6).setCell ⟨b,7,none⟩ y7).setCell ⟨b,8,none⟩ y8).setCell ⟨b,9,none⟩ y9).setCell ⟨b,10,none⟩ y10).setCell ⟨b,11,none⟩ y11).setCell ⟨b,12,none⟩ y12).heap[k]? = W.heap[k]?:=by
 have st:∀ (W:World) (i:Nat) (y:Value),(W.setCell ⟨b,i,none⟩ y).heap[k]? = W.heap[k]?:=fun W i y=>Below.heap_setCell W ⟨b,i,none⟩ y k h;simp only [st]
theorem wg_ {W:World} {b:Nat} {x0 x1 x2 x3 x4 x5 x6 x7 x8 x9 x10 x11 x12 y:Value} {t:TypeId} (h:Bxx W b #[x0,x1,x2,x3,x4,x5,x6,x7,x8,x9,x10,x11,x12] t):Bxx (W.setCell ⟨b,8,none⟩ y) b #[x0,x1,x2,x3,x4,x5,x6,x7,y,x9,x10,x11,x12] t:=by
 have:=a4_ 8 y h;simpa [Bxx] using this
theorem wm_ {W:World} {b:Nat} {x0 x1 x2 x3 x4 x5 x6 x7 x8 x9 x10 x11 x12 y:Value} {t:TypeId} (h:Bxx W b #[x0,x1,x2,x3,x4,x5,x6,x7,x8,x9,x10,x11,x12] t):Bxx (W.setCell ⟨b,9,none⟩ y) b #[x0,x1,x2,x3,x4,x5,x6,x7,x8,y,x10,x11,x12] t:=by
 have:=a4_ 9 y h;simpa [Bxx] using this
theorem u0_ {W:World} {b:Nat} {x0 x1 x2 x3 x4 x5 x6 x7 x8 x9 x10 x11 x12 y:Value} {t:TypeId} (h:Bxx W b #[x0,x1,x2,x3,x4,x5,x6,x7,x8,x9,x10,x11,x12] t):Bxx (W.setCell ⟨b,10,none⟩ y) b #[x0,x1,x2,x3,x4,x5,x6,x7,x8,x9,y,x11,x12] t:=by
 have:=a4_ 10 y h;simpa [Bxx] using this
theorem u8_ {W:World} {b:Nat} {x0 x1 x2 x3 x4 x5 x6 x7 x8 x9 x10 x11 x12 y:Value} {t:TypeId} (h:Bxx W b #[x0,x1,x2,x3,x4,x5,x6,x7,x8,x9,x10,x11,x12] t):Bxx (W.setCell ⟨b,11,none⟩ y) b #[x0,x1,x2,x3,x4,x5,x6,x7,x8,x9,x10,y,x12] t:=by
 have:=a4_ 11 y h;simpa [Bxx] using this
theorem r8_ (a b c d:Value) (w:World):(Instr.field 39 (.agg #[a,b,c,d]) 3).run Tryz.prog w=.ok d w:=by kernel_rfl
abbrev j4_:Array Value:=#[.slice none 0 0,.int .i64 0,.int .i64 0,.slice none 0 0,.slice none 0 0,.int .i64 0,.int .i64 0,.slice none 0 0,.int .i64 0,.slice none 0 0,.slice none 0 0,.int .i64 0,.map none]
theorem q4_ {w w':World} {b:Nat} {o:Obj} (h:w.heap[b]? = some o) (hb:Below w.heap.size w w'):w'.heap[b]? = some o:=(hb.block b (Array.getElem?_eq_some_iff.1 h).1).trans h
theorem dh_.mono_hi {w:World} {b hi hi':Nat} {g:Int} {ys:List Int} (h:dh_ w b hi g ys) (hh:hi≤hi'):dh_ w b hi' g ys:=by
 obtain ⟨es,clock,n,base,D,h1,h2,h3,h4,h5,h6,h7⟩:=h;exact ⟨es,clock,n,base,D,h1,h2,h3,h4,h5,oq_,fun x hx k hk=>by have:=h7 x hx k hk;omega⟩
structure eu_ (w:World) (lo hi:Nat) (h1 c1 h2 c2:Value) (qa qb:Per) (st:Int) (xv yv:Value) (mb:Nat):Prop where
 a:ar_ w lo hi h1 c1 qa
 b:ar_ w lo hi h2 c2 qb
 x:IntsIn w lo hi xv (a0_ (cycL qa st))
 y:IntsIn w lo hi yv (a0_ (cycL qb st))
 m:dh_ w mb hi (Int.gcd qa.period qb.period:Nat) (a0_ (cycL qb st))
 lom:lo≤mb
end Go.Proofs.YthjnojbeimchdaaGreat
section
variable {ops:Array Go.Oper}{a st x:Int}{l ys:List Int}{rest:List Go.Oper}{R base k mb:Nat}{o:Go.Oper}{row:Option Nat}{qa qb:Kal.Per}{c1 c2 h1 h2 v xv yv:Go.Value}{W W' W1 w:Go.World}
namespace Go.Proofs.YthjnojbeimchdaaGreat
open Go.RowKit Go.Maps Kal
theorem pi_ (h1 c1 h2 c2:Value) (p1 p2 qa qb:Per) (day:Int) (w:World) (hp1:a8_ w h1 c1 p1) (hp2:a8_ w h2 c2 p2) (hw1:p1.WF) (hw2:p2.WF)
  (f1:p1.frm≤562949953421312) (f2:p2.frm≤562949953421312) (t1:p1.period≤562949953421312) (t2:p2.period≤562949953421312) (hqa:a6_ qa p1.mem) (hqb:a6_ qb p2.mem) (h0:0≤day) (hd:day≤562949953421312) :
  Calls Tryz.prog 147 #[perV h1 c1 p1.frm p1.period,perV h2 c2 p2.frm p2.period,.int .i64 day] w fun e w'=>∃ (x1 x2 x3 x4 xv yv:Value) (mb:Nat),
   e=.returned (em_ x1 x2 x3 x4 qa qb (max (max qa.frm qb.frm) day) xv yv (Int.gcd qa.period qb.period:Nat) mb)∧eu_ w' w.heap.size w'.heap.size x1 x2 x3 x4 qa qb (max (max qa.frm qb.frm) day) xv yv mb∧Below w.heap.size w w':=by
 have hl1:∀ W,Below w.heap.size w W->a8_ W h1 c1 p1:=fun W hb=>hp1.ext hb;have hl2:∀ W,Below w.heap.size w W->a8_ W h2 c2 p2:=fun W hb=>hp2.ext hb;have HW1:=hq_ hw1;have HW2:=hq_ hw2;have HQA:=hq_ hqa;have HQB:=hq_ hqb;obtain ⟨b1,b2,b3,b4,b5⟩:=hqa.smaller hw1;obtain ⟨d1,d2,d3,d4,d5⟩:=hqb.smaller hw2;have za0:=hqa.wf.frm;have zb0:=hqb.wf.frm;have za1:=hqa.wf.per;have zb1:=hqb.wf.per;obtain ⟨a1,m1,a2,m2,rfl,rfl⟩:=hp1.inn.form;obtain ⟨a3,m3,a4,m4,rfl,rfl⟩:=hp2.inn.form;clear hp1 hp2 hw1 hw2 hqa hqb b3 d3;have hmm:=@run_makeMap Tryz.prog
 go_enter Tryz.func147,Tryz.ntmps147
 go_wp2_with fail
 generalize hW0:((w.alloc _).alloc _).alloc _=W0;have hE:Below w.heap.size w W0:=by rw [<- hW0];exact xE
 have hpa:Bxx W0 w.heap.size #[.slice a1 p1.head.length m1,.int .i64 p1.frm,.int .i64 p1.period,.slice a2 p1.cycle.length m2] 39:=by rw [<- hW0];exact ((Bxx.at rfl).alloc _).alloc _
 have hpb:Bxx W0 (w.heap.size+1) #[.slice a3 p2.head.length m3,.int .i64 p2.frm,.int .i64 p2.period,.slice a4 p2.cycle.length m4] 39:=by rw [<- hW0];exact (Bxx.at sq_).alloc _
 have hrb:Bxx W0 (w.heap.size+2) j4_ 139:=by rw [<- hW0];exact Bxx.at sq_
 have hA0:=(hpa.cells 0).1;have hA1:=(hpa.cells 1).1;have hA2:=(hpa.cells 2).1;have hA3:=(hpa.cells 3).1;have hB0:=(hpb.cells 0).1;have hB1:=(hpb.cells 1).1;have hB2:=(hpb.cells 2).1;have hB3:=(hpb.cells 3).1;have hz0:=hrb.lt;clear hW0 hpa hpb;refine ai_ (w0:=W0) [0,1,2,3,4,5,6] [7] (fun v=>⟨#[perV (.slice a1 p1.head.length m1) (.slice a2 p1.cycle.length m2) p1.frm p1.period,perV (.slice a3 p2.head.length m3) (.slice a4 p2.cycle.length m4) p2.frm p2.period,.int .i64 day,.pointer (some ⟨w.heap.size,0,none⟩),.pointer (some ⟨w.heap.size+1,0,none⟩),undef,.pointer (some ⟨w.heap.size+1+1,0,none⟩),v 6,undef,undef,v 0,v 1,v 2,v 3,v 4,v 5,undef,undef,undef,undef,undef,undef,undef,undef,undef,undef,undef,undef,undef,undef,undef,undef,undef,undef,undef,undef,undef,undef,undef,undef,undef,undef,undef,undef,undef,undef,undef,undef,undef,undef,undef,undef,undef,undef,undef,undef,undef,undef,undef,undef,undef,undef,undef,undef,undef,undef,undef,undef,undef,undef,undef,undef],[]⟩) [perV (.slice a1 p1.head.length m1) (.slice a2 p1.cycle.length m2) p1.frm p1.period,undef,perV (.slice a3 p2.head.length m3) (.slice a4 p2.cycle.length m4) p2.frm p2.period,undef,undef,undef,undef] [1,3,4,5,6] (fun i v lo hi W=>match i with|1=>∃ x1 x2,v 1=perV x1 x2 qa.frm qa.period∧e4_ W (lo 1) (hi 1) x1 x2 qa|3=>∃ x1 x2,v 3=perV x1 x2 qb.frm qb.period∧e4_ W (lo 3) (hi 3) x1 x2 qb|4=>v 4=.map (some (lo 4))∧lo 4<hi 4∧W.heap[lo 4]? = some (.map #[] 0)|5=>∃ x1 x2 x3 x4,v 1=perV x1 x2 qa.frm qa.period∧v 3=perV x3 x4 qb.frm qb.period∧v 5=.agg #[x1,.int .i64 qa.frm,.int .i64 qa.period,x2,x3,.int .i64 qb.frm,.int .i64 qb.period,x4,.int .i64 0,.slice none 0 0,.slice none 0 0,.int .i64 0,.map (some (lo 4))]|6=>v 6=.pointer (some ⟨lo 6,0,none⟩)∧lo 6<hi 6∧Bxx W (lo 6) j4_ 139|_=>True) (fun W=>Below w.heap.size w W∧(W.cell? ⟨w.heap.size,0,none⟩=some (.slice a1 p1.head.length m1)∧W.cell? ⟨w.heap.size,1,none⟩=some (.int .i64 p1.frm)∧W.cell? ⟨w.heap.size,2,none⟩=some (.int .i64 p1.period)∧W.cell? ⟨w.heap.size,3,none⟩=some (.slice a2 p1.cycle.length m2))∧(W.cell? ⟨w.heap.size+1,0,none⟩=some (.slice a3 p2.head.length m3)∧W.cell? ⟨w.heap.size+1,1,none⟩=some (.int .i64 p2.frm)∧W.cell? ⟨w.heap.size+1,2,none⟩=some (.int .i64 p2.period)∧W.cell? ⟨w.heap.size+1,3,none⟩=some (.slice a4 p2.cycle.length m4))) (fun W hb=>⟨by exact xE,⟨cux hA0 hb,cux hA1 hb,cux hA2 hb,cux hA3 hb⟩,cux hB0 hb,cux hB1 hb,cux hB2 hb,cux hB3 hb⟩) ?stab ?loc ?steps ?fin
 case stab=>
  refine ⟨?_,?_,?_,?_,?_,trivial⟩
  ·intro v lo hi W W' h hb;exact (let ⟨x1,x2,e,hp⟩:=h;⟨x1,x2,e,hp.below hb⟩)
  ·intro v lo hi W W' h hb;exact (let ⟨x1,x2,e,hp⟩:=h;⟨x1,x2,e,hp.below hb⟩)
  ·intro v lo hi W W' h hb;exact ⟨h.1,h.2.1,q4_ h.2.2 hb⟩
  ·intro v lo hi W W' h hb;exact h
  ·intro v lo hi W W' h hb;exact ⟨h.1,h.2.1,h.2.2.below hb⟩
 case loc=>
  refine ⟨?_,?_,?_,?_,?_,trivial⟩
  ·intro v v' lo lo' hi hi' W hag h;have q:=hag 1 (.inl rfl)
   (try dsimp only at h ⊢)
   simp only [q.1,q.2.1,q.2.2] at h;exact h
  ·intro v v' lo lo' hi hi' W hag h;have q:=hag 3 (.inl rfl)
   (try dsimp only at h ⊢)
   simp only [q.1,q.2.1,q.2.2] at h;exact h
  ·intro v v' lo lo' hi hi' W hag h;have q:=hag 4 (.inl rfl)
   (try dsimp only at h ⊢)
   simp only [q.1,q.2.1,q.2.2] at h;exact h
  ·intro v v' lo lo' hi hi' W hag h;have q:=hag 5 (.inl rfl);have q1:=hag 1 (.inr (Rdp (by kernel_rfl)));have q3:=hag 3 (.inr (Rdp (by kernel_rfl)));have q4:=hag 4 (.inr (Rdp (by kernel_rfl)))
   (try dsimp only at h ⊢)
   simp only [q.1,q.2.1,q.2.2,q1.1,q1.2.1,q1.2.2,q3.1,q3.2.1,q3.2.2,q4.1,q4.2.1,q4.2.2] at h;exact h
  ·intro v v' lo lo' hi hi' W hag h;have q:=hag 6 (.inl rfl)
   (try dsimp only at h ⊢)
   simp only [q.1,q.2.1,q.2.2] at h;exact h
 case steps=>
  clear hA0 hA1 hA2 hA3 hB0 hB1 hB2 hB3;refine .c [] [] rfl ?_ (.c [0] [] rfl ?_ (.c [] [] rfl ?_ (.c [2] [1] rfl ?_ (.c [] [] rfl ?_ (.c [] [1,3,4] rfl ?_ (.c [] [] rfl ?_ (.n)))))))
  all_goals try exact stw
  ·rintro v lo hi W hb ⟨hE1,⟨g0,g1,g2,g3⟩,k0,k1,k2,k3⟩ _;refine .inl ⟨rfl,fun K hK=>?_⟩;simp only [ov,vat,Nat.reduceBEq,cond_true,cond_false];go_wp2_with (go_at_call 88;refine (fm_ _ _ p1 qa _ (hl1 _ xE) HW1.out oq_ oq_ HQA.out).mono ?_;rintro e w3 ⟨x1,x2,rfl,ho3,hb3⟩)
   exact acx (hK (perV x1 x2 qa.frm qa.period) w3 hb3 ⟨x1,x2,rfl,ho3.at⟩) (by simp [ov,vat,upd])
  ·rintro v lo hi W hb ⟨hE1,⟨g0,g1,g2,g3⟩,k0,k1,k2,k3⟩ ⟨⟨la1,lb1,D1⟩,_⟩;refine .inl ⟨rfl,fun K hK=>?_⟩;simp only [ov,vat,Nat.reduceBEq,cond_true,cond_false]
   (try dsimp only at D1)
   go_wp2_with (go_at_call 88;refine (fm_ _ _ p2 qb _ (hl2 _ xE) HW2.out oq_ oq_ HQB.out).mono ?_;rintro e w3 ⟨x1,x2,rfl,ho3,hb3⟩)
   exact acx (hK (perV x1 x2 qb.frm qb.period) w3 hb3 ⟨x1,x2,rfl,ho3.at⟩) (by simp [ov,vat,upd])
  ·rintro v lo hi W hb ⟨hE1,⟨g0,g1,g2,g3⟩,k0,k1,k2,k3⟩ _;refine .inl ⟨rfl,fun K hK=>?_⟩;simp only [ov,vat,Nat.reduceBEq,cond_true,cond_false];go_wp2_with fail
   exact hK (.map (some W.heap.size)) _ (Ea (Er _) _) ⟨rfl,sq_,World.alloc_heap_new _ _⟩
  ·rintro v lo hi W hb ⟨hE1,⟨g0,g1,g2,g3⟩,k0,k1,k2,k3⟩ ⟨⟨la1,lb1,D1⟩,⟨la3,lb3,D3⟩,⟨la4,lb4,D4⟩,_⟩;refine .inl ⟨rfl,fun K hK=>?_⟩;simp only [ov,vat,Nat.reduceBEq,cond_true,cond_false]
   (try dsimp only at D1 D3 D4)
   obtain ⟨x1,x2,e1,P1⟩:=D1;obtain ⟨x3,x4,e3,P3⟩:=D3;obtain ⟨e4,_⟩:=D4;obtain ⟨r1,s1,r2,s2,rfl,rfl⟩:=P1.inn.form;obtain ⟨r3,s3,r4,s4,rfl,rfl⟩:=P3.inn.form
   (try simp only [e1,e3,e4])
   go_wp2_with fail
   exact acx (hK (.agg #[.slice r1 qa.head.length s1,.int .i64 qa.frm,.int .i64 qa.period,.slice r2 qa.cycle.length s2,.slice r3 qb.head.length s3,.int .i64 qb.frm,.int .i64 qb.period,.slice r4 qb.cycle.length s4,.int .i64 0,.slice none 0 0,.slice none 0 0,.int .i64 0,.map (some (lo 4))]) W (Below.refl _ _) ⟨_,_,_,_,e1,e3,rfl⟩) (by simp [ov,vat,upd,e1,e3,e4])
  ·rintro v lo hi W hb ⟨hE1,⟨g0,g1,g2,g3⟩,k0,k1,k2,k3⟩ _;refine .inl ⟨rfl,fun K hK=>?_⟩;simp only [ov,vat,Nat.reduceBEq,cond_true,cond_false];go_wp2_with fail
   exact hK (.pointer (some ⟨W.heap.size,0,none⟩)) _ (Ea (Er _) _) ⟨rfl,sq_,Bxx.new _ _ _⟩
 case fin=>
  rintro v lo hi W hb ⟨hE1,_⟩ hf hap;show wpList _ _ _ [_] _ _;obtain ⟨l1,l1',l1'',x1,x2,e1,P1,hle1⟩:=hf 1 rfl;obtain ⟨l3,l3',l3'',x3,x4,e3,P3,hle3⟩:=hf 3 rfl;obtain ⟨l4,l4',l4'',e4,lt4,hm4⟩:=hf 4 rfl;obtain ⟨l6,l6',l6'',e6,lt6,hb6⟩:=hf 6 rfl;obtain ⟨y1,y2,y3,y4,e1',e3',e5⟩:=(hf 5 rfl).2.2.2;rw [e1] at e1';rw [e3] at e3';injection e1' with e1';injection e1' with e1';injection e1' with q1 e1';injection e1' with _ e1';injection e1' with _ e1';injection e1' with q2 _
  injection e3' with e3';injection e3' with e3';injection e3' with q3 e3';injection e3' with _ e3';injection e3' with _ e3';injection e3' with q4 _
  subst q1;subst q2;subst q3;subst q4;have d13:=hap 1 3 rfl rfl oq_;have d14:=hap 1 4 rfl rfl oq_;have d16:=hap 1 6 rfl rfl oq_;have d34:=hap 3 4 rfl rfl oq_;have d36:=hap 3 6 rfl rfl oq_;have d46:=hap 4 6 rfl rfl oq_;have hrb1:=hrb.below hb;have hzW:=hb.size;clear hf hap hA0 hA1 hA2 hA3 hB0 hB1 hB2 hB3 hrb;obtain ⟨r1,s1,r2,s2,rfl,rfl⟩:=P1.form;obtain ⟨r3,s3,r4,s4,rfl,rfl⟩:=P3.form;generalize lo 1=lo1 at *;generalize hi 1=hi1 at *;generalize lo 3=lo3 at *;generalize hi 3=hi3 at *;generalize lo 4=mb at *;generalize hi 4=hi4 at *;generalize lo 6=pb at *;generalize hi 6=hi6 at *;dsimp only;rw [e1,e3,e4,e5,e6];generalize v 0=v0,v 2=v2;have c0:=hb6.cells 0;have c1:=hb6.cells 1;have c2:=hb6.cells 2;have c3:=hb6.cells 3;have c4:=hb6.cells 4;have c5:=hb6.cells 5;have c6:=hb6.cells 6;have c7:=hb6.cells 7;have c8:=hb6.cells 8;have c9:=hb6.cells 9;have c10:=hb6.cells 10;have c11:=hb6.cells 11;have c12:=hb6.cells 12;clear e1 e3 e4 e5 e6;obtain ⟨st,hst⟩:∃ st,st=max (max qa.frm qb.frm) day:=⟨_,rfl⟩;have HSTT:=hq_ hst;have hs0:qa.frm≤st∧qb.frm≤st∧day≤st∧st≤562949953421312:=oq_;obtain ⟨hs1,hs2,hs3,hs4⟩:=hs0;have HS5:Hid (st≤qa.frm∨st≤qb.frm∨st≤day):=hq_ oq_;clear hst;go_upto_region 2 with (fail)
  refine al_ (F:=fun W2=>Bxx W2 pb #[.slice r1 qa.head.length s1,.int .i64 qa.frm,.int .i64 qa.period,.slice r2 qa.cycle.length s2,.slice r3 qb.head.length s3,.int .i64 qb.frm,.int .i64 qb.period,.slice r4 qb.cycle.length s4,.int .i64 0,.slice none 0 0,.slice none 0 0,.int .i64 0,.map (some mb)] 139∧Bxx W2 (w.heap.size+2) j4_ 139∧ar_ W2 lo1 hi1 (.slice r1 qa.head.length s1) (.slice r2 qa.cycle.length s2) qa∧ar_ W2 lo3 hi3 (.slice r3 qb.head.length s3) (.slice r4 qb.cycle.length s4) qb∧W2.heap[mb]? = some (.map #[] 0)∧Below w.heap.size w W2∧W.heap.size≤W2.heap.size)
   ⟨vj_ hb6,by (repeat' (with_reducible first|assumption|refine Bxx.setNe ?_ _ ?_|omega)),by (repeat' (with_reducible first|assumption|refine ar_.alloc ?_ _ ?_|refine ar_.drew ?_|refine ar_.drewN ?_ _|refine ar_.set ?_ _ ?_|refine ar_.below ?_ (by assumption) ?_|omega|(simp;done)|(simp;omega))),by (repeat' (with_reducible first|assumption|refine ar_.alloc ?_ _ ?_|refine ar_.drew ?_|refine ar_.drewN ?_ _|refine ar_.set ?_ _ ?_|refine ar_.below ?_ (by assumption) ?_|omega|(simp;done)|(simp;omega))),by (repeat' (with_reducible first|assumption|refine h4_ ?_ ?_|omega)),by exact xE,sq_⟩ ?_
  rintro W2 ⟨hbx,hrx,hP1,hP3,hmm4,hE2,hzz⟩;have c1:=(hbx.cells 1).1;have c5:=(hbx.cells 5).1;have c8:=(hbx.cells 8);obtain ⟨QQ,hQQ⟩:∃ QQ:Exit->Act->World->Prop,QQ=(fun e a' W'=>e=.normal∧∃ (u16 u17 u18 u19 u20 u21 u22 u23 u24:Value),a'=⟨#[perV (.slice a1 p1.head.length m1) (.slice a2 p1.cycle.length m2) p1.frm p1.period,perV (.slice a3 p2.head.length m3) (.slice a4 p2.cycle.length m4) p2.frm p2.period,.int .i64 day,.pointer (some ⟨w.heap.size,0,none⟩),.pointer (some ⟨w.heap.size+1,0,none⟩),undef,.pointer (some ⟨w.heap.size+1+1,0,none⟩),.pointer (some ⟨pb,0,none⟩),undef,undef,v0,perV (.slice r1 qa.head.length s1) (.slice r2 qa.cycle.length s2) qa.frm qa.period,v2,perV (.slice r3 qb.head.length s3) (.slice r4 qb.cycle.length s4) qb.frm qb.period,.map (some mb),.agg #[.slice r1 qa.head.length s1,.int .i64 qa.frm,.int .i64 qa.period,.slice r2 qa.cycle.length s2,.slice r3 qb.head.length s3,.int .i64 qb.frm,.int .i64 qb.period,.slice r4 qb.cycle.length s4,.int .i64 0,.slice none 0 0,.slice none 0 0,.int .i64 0,.map (some mb)],u16,u17,u18,u19,u20,u21,u22,u23,u24,undef,undef,undef,undef,undef,undef,undef,undef,undef,undef,undef,undef,undef,undef,undef,undef,undef,undef,undef,undef,undef,undef,undef,undef,undef,undef,undef,undef,undef,undef,undef,undef,undef,undef,undef,undef,undef,undef,undef,undef,undef,undef,undef,undef,undef,undef,undef],[]⟩∧W'=W2.setCell ⟨pb,8,none⟩ (.int .i64 st)):=⟨_,rfl⟩;have HQQ:=hq_ hQQ;clear hQQ;refine Code.wp_mono (Q:=QQ) ?imp ?reg
  case reg=>
   clear hb6 P1 P3 hm4 hrb1;go_wp2_with fail
   all_goals first
    | (
     obtain rfl:st=qa.frm:=by have:=HS5.out;omega
     rw [HQQ.out];exact ⟨rfl,_,_,_,_,_,_,_,_,_,rfl,rfl⟩)
    | (
     obtain rfl:st=qb.frm:=by have:=HS5.out;omega
     rw [HQQ.out];exact ⟨rfl,_,_,_,_,_,_,_,_,_,rfl,rfl⟩)
    | (
     obtain rfl:st=day:=by have:=HS5.out;omega
     rw [HQQ.out];exact ⟨rfl,_,_,_,_,_,_,_,_,_,rfl,rfl⟩)
  case imp=>
   intro e a' W3 hq;rw [HQQ.out] at hq;obtain ⟨rfl,u16,u17,u18,u19,u20,u21,u22,u23,u24,rfl,rfl⟩:=hq;go_wp2_with fail
   refine al_ (F:=fun W3=>Bxx W3 pb #[.slice r1 qa.head.length s1,.int .i64 qa.frm,.int .i64 qa.period,.slice r2 qa.cycle.length s2,.slice r3 qb.head.length s3,.int .i64 qb.frm,.int .i64 qb.period,.slice r4 qb.cycle.length s4,.int .i64 st,.slice none 0 0,.slice none 0 0,.int .i64 0,.map (some mb)] 139∧Bxx W3 (w.heap.size+2) j4_ 139∧ar_ W3 lo1 hi1 (.slice r1 qa.head.length s1) (.slice r2 qa.cycle.length s2) qa∧ar_ W3 lo3 hi3 (.slice r3 qb.head.length s3) (.slice r4 qb.cycle.length s4) qb∧W3.heap[mb]? = some (.map #[] 0)∧Below w.heap.size w W3∧W.heap.size≤W3.heap.size)
    ⟨wg_ hbx,hrx.setNe _ oq_,hP1.set _ oq_,hP3.set _ oq_,h4_ hmm4 oq_,by exact xE,by simpa using hzz⟩ ?_
   clear c1 c5 c8 hbx hrx hP1 hP3 hmm4 hE2 hzz HQQ QQ hb6 P1 P3 hm4 hrb1;rintro W3 ⟨hbx,hrx,hP1,hP3,hmm4,hE3,hzz⟩;have hA0:W3.cell? ⟨pb,0,none⟩=some (.slice r1 qa.head.length s1):=(hbx.cells 0).1;have hA1:W3.cell? ⟨pb,1,none⟩=some (.int .i64 qa.frm):=(hbx.cells 1).1;have hA2:W3.cell? ⟨pb,2,none⟩=some (.int .i64 qa.period):=(hbx.cells 2).1;have hA3:W3.cell? ⟨pb,3,none⟩=some (.slice r2 qa.cycle.length s2):=(hbx.cells 3).1;have hB0:W3.cell? ⟨pb,4,none⟩=some (.slice r3 qb.head.length s3):=(hbx.cells 4).1;have hB1:W3.cell? ⟨pb,5,none⟩=some (.int .i64 qb.frm):=(hbx.cells 5).1;have hB2:W3.cell? ⟨pb,6,none⟩=some (.int .i64 qb.period):=(hbx.cells 6).1;have hB3:W3.cell? ⟨pb,7,none⟩=some (.slice r4 qb.cycle.length s4):=(hbx.cells 7).1;have hC0:W3.cell? ⟨pb,8,none⟩=some (.int .i64 st):=(hbx.cells 8).1;have hpbl:=hbx.lt;have HP1:=hq_ hP1;have HP3:=hq_ hP3;clear hP1 hP3;have hfld:=r8_;have hC9:W3.cell? ⟨pb,9,none⟩=some (.slice none 0 0):=(hbx.cells 9).1;have hF9:W3.frozen? ⟨pb,9,none⟩=false:=(hbx.cells 9).2;have hC10:W3.cell? ⟨pb,10,none⟩=some (.slice none 0 0):=(hbx.cells 10).1;have hF10:W3.frozen? ⟨pb,10,none⟩=false:=(hbx.cells 10).2;go_region_held3 (fun w'=>w'.cell? ⟨pb,0,none⟩=some (.slice r1 qa.head.length s1)∧w'.cell? ⟨pb,1,none⟩=some (.int .i64 qa.frm)∧w'.cell? ⟨pb,2,none⟩=some (.int .i64 qa.period)∧w'.cell? ⟨pb,3,none⟩=some (.slice r2 qa.cycle.length s2)∧w'.cell? ⟨pb,4,none⟩=some (.slice r3 qb.head.length s3)∧w'.cell? ⟨pb,5,none⟩=some (.int .i64 qb.frm)∧w'.cell? ⟨pb,6,none⟩=some (.int .i64 qb.period)∧w'.cell? ⟨pb,7,none⟩=some (.slice r4 qb.cycle.length s4)∧w'.cell? ⟨pb,8,none⟩=some (.int .i64 st)) ((go_split_ands;repeat' (with_reducible first|assumption|refine ny_ ?_ ?_ _|refine bd_ ?_ ?_ _|refine ag_ ?_ _|refine dm_ ?_|exact Ext.cell (by assumption) (by assumption)|apply And.intro|(exact Below.cell' (by assumption) (by assumption) (by first|(simp;done)|(simp;omega)|omega))|(refine Below.cell' (by assumption) ?_ (by first|(simp;done)|(simp;omega)|omega))|omega|(simp;done)|(simp;omega))))
    ((go_at_call 136;first|((with_reducible refine (ip_ _ _ qa st _ (HP1.out.is.ext xE) HQA.out.wf oq_ oq_ oq_ oq_).mono ?_);rintro e w5 ⟨z1,z2,he5,ho5,hb5,_⟩;obtain ⟨t1a,t1b,t2a,t2b,rfl,rfl⟩:=ho5.form;have he5':e=.returned (.agg #[.slice t1a (a9_ qa st).head.length t1b,.int .i64 (a9_ qa st).frm,.int .i64 (a9_ qa st).period,.slice t2a (a9_ qa st).cycle.length t2b]):=he5;clear he5;subst he5';obtain ⟨hc5,hf5⟩:=au_ hb5;(try simp only [World.size_alloc,World.size_drew,af_,World.size_setCell] at hc5 hf5);have hz5:=hb5.size;(try simp only [World.size_alloc,World.size_drew,af_,World.size_setCell] at hz5);have hz5':pb<w5.heap.size:=oq_)|((with_reducible refine (ip_ _ _ qb st _ (HP3.out.is.ext xE) HQB.out.wf oq_ oq_ oq_ oq_).mono ?_);rintro e w6 ⟨z3,z4,he6,ho6,hb6b,_⟩;obtain ⟨t3a,t3b,t4a,t4b,rfl,rfl⟩:=ho6.form;have he6':e=.returned (.agg #[.slice t3a (a9_ qb st).head.length t3b,.int .i64 (a9_ qb st).frm,.int .i64 (a9_ qb st).period,.slice t4a (a9_ qb st).cycle.length t4b]):=he6;clear he6;subst he6';obtain ⟨hc6,hf6⟩:=au_ hb6b;(try simp only [World.size_alloc,World.size_drew,af_,World.size_setCell] at hc6 hf6);have hz6:=hb6b.size;(try simp only [World.size_alloc,World.size_drew,af_,World.size_setCell] at hz6);have hz6':pb<w6.heap.size:=oq_)))
   have hW4:Below W3.heap.size W3 w5:=by exact xE
   have hW6:Below W3.heap.size W3 w6:=by exact xE
   have hx5:=ho5.cy.inn.below hb6b (Nat.le_refl _);have hx6:=ho6.cy.inn;have hp0:=HP1.out.below hW6 oq_;have hp4:=HP3.out.below hW6 oq_;refine s4_ (F:=fun W4=>Bxx W4 pb #[.slice r1 qa.head.length s1,.int .i64 qa.frm,.int .i64 qa.period,.slice r2 qa.cycle.length s2,.slice r3 qb.head.length s3,.int .i64 qb.frm,.int .i64 qb.period,.slice r4 qb.cycle.length s4,.int .i64 st,.slice t2a (a9_ qa st).cycle.length t2b,.slice t4a (a9_ qb st).cycle.length t4b,.int .i64 0,.map (some mb)] 139∧Bxx W4 (w.heap.size+2) j4_ 139∧ar_ W4 lo1 hi1 (.slice r1 qa.head.length s1) (.slice r2 qa.cycle.length s2) qa∧ar_ W4 lo3 hi3 (.slice r3 qb.head.length s3) (.slice r4 qb.cycle.length s4) qb∧IntsIn W4 W3.heap.size W4.heap.size (.slice t2a (a9_ qa st).cycle.length t2b) (a9_ qa st).cycle∧IntsIn W4 W3.heap.size W4.heap.size (.slice t4a (a9_ qb st).cycle.length t4b) (a9_ qb st).cycle∧W4.heap[mb]? = some (.map #[] 0)∧Below w.heap.size w W4∧W.heap.size≤W4.heap.size)
    ⟨u0_ (wm_ (hbx.below hW6)),((hrx.below hW6).setNe _ oq_).setNe _ oq_,(hp0.set _ oq_).set _ oq_,(hp4.set _ oq_).set _ oq_,((hx5.mono sq_ tq_).set _ oq_).set _ oq_,((hx6.mono oq_ sq_).set _ oq_).set _ oq_,h4_ (h4_ (q4_ hmm4 hW6) oq_) oq_,by exact xE,tq_⟩ ?_
   clear hx5 hx6 hp0 hp4 hW4 hW6 hb5 hb6b ho5 ho6 hc5 hf5 hc6 hf6 hA0 hA1 hA2 hA3 hB0 hB1 hB2 hB3 hC0 hC9 hF9 hC10 hF10 hbx hrx hmm4 HP1 HP3;rintro W4 ⟨hbx,hrx,hP1,hP3,hX5,hX6,hmm4,hE4,hzz4⟩;have hA2:W4.cell? ⟨pb,2,none⟩=some (.int .i64 qa.period):=(hbx.cells 2).1;have hB2:W4.cell? ⟨pb,6,none⟩=some (.int .i64 qb.period):=(hbx.cells 6).1;have hC11:W4.cell? ⟨pb,11,none⟩=some (.int .i64 0):=(hbx.cells 11).1;have hC10:W4.cell? ⟨pb,10,none⟩=some (.slice t4a (a9_ qb st).cycle.length t4b):=(hbx.cells 10).1;have hF11:W4.frozen? ⟨pb,11,none⟩=false:=(hbx.cells 11).2;go_wp2_with fail
   go_at_call 77
   refine (g6_ _ _ _ (by have:=HQA.out.wf.per;omega) oq_ (by have:=HQB.out.wf.per;omega) oq_).mono ?_;rintro e w7 ⟨rfl,n,rfl⟩;go_wp2_with fail
   refine al_ (F:=fun W5=>Bxx W5 pb #[.slice r1 qa.head.length s1,.int .i64 qa.frm,.int .i64 qa.period,.slice r2 qa.cycle.length s2,.slice r3 qb.head.length s3,.int .i64 qb.frm,.int .i64 qb.period,.slice r4 qb.cycle.length s4,.int .i64 st,.slice t2a (a9_ qa st).cycle.length t2b,.slice t4a (a9_ qb st).cycle.length t4b,.int .i64 (Int.gcd qa.period qb.period:Nat),.map (some mb)] 139∧Bxx W5 (w.heap.size+2) j4_ 139∧ar_ W5 lo1 hi1 (.slice r1 qa.head.length s1) (.slice r2 qa.cycle.length s2) qa∧ar_ W5 lo3 hi3 (.slice r3 qb.head.length s3) (.slice r4 qb.cycle.length s4) qb∧IntsIn W5 W3.heap.size W4.heap.size (.slice t2a (a9_ qa st).cycle.length t2b) (a9_ qa st).cycle∧IntsIn W5 W3.heap.size W4.heap.size (.slice t4a (a9_ qb st).cycle.length t4b) (a9_ qb st).cycle∧W5.heap[mb]? = some (.map #[] 0)∧Below w.heap.size w W5∧W4.heap.size≤W5.heap.size)
    ⟨u8_ hbx,hrx.setNe _ oq_,(hP1.drewN _).set _ oq_,(hP3.drewN _).set _ oq_,(hX5.drewN _).set _ oq_,(hX6.drewN _).set _ oq_,h4_ hmm4 oq_,by exact xE,sq_⟩ ?_
   clear hA2 hB2 hC10 hC11 hF11 hbx hrx hP1 hP3 hX5 hX6 hmm4;rintro W5 ⟨hbx,hrx,hP1,hP3,hX5,hX6,hmm4,hE5,hzz5⟩;have hGa:=bn_ (b:=qb.period) za1;have hGb:=cs_ (a:=qa.period) zb1;generalize hG:((Int.gcd qa.period qb.period:Nat):Int)=G at *;have HG:=hq_ hG;clear hG;generalize hys:(a9_ qb st).cycle=ys at *;have HYS:=hq_ hys;clear hys;have hmblt:mb<W5.heap.size:=(Array.getElem?_eq_some_iff.1 hmm4).1;have hpb5:pb<W5.heap.size:=hbx.lt;have hC10:W5.cell? ⟨pb,10,none⟩=some (.slice t4a ys.length t4b):=(hbx.cells 10).1;have hmbW:mb<W3.heap.size:=oq_;have hylen:ys.length≤17592186044416:=hX6.ints.len;have hmade:W5.ownsGroups Tryz.prog 3 W5.heap.size 3 .i64 mb 0 (.map []:DataW Unit):=⟨#[],0,hmm4,⟨sq_,MapKept.stamped_empty 0,sq_⟩,Nat.le_refl _,rfl,hmblt,sq_,sq_⟩;have HX6:=hq_ hX6;have HBX:=hq_ hbx;have HMADE:=hq_ hmade;have HRX:=hq_ hrx;have HP1:=hq_ hP1;have HP3:=hq_ hP3;have HX5:=hq_ hX5;clear hX6 hbx hmade hmm4 hrx hP1 hP3 hX5;go_wp2_with fail
   go_loopw [50] (fun i wr=>∃ (k n:Nat) (D:DataW Unit),k≤ys.length∧n≤k∧i=.int .i64 k∧wr.ownsGroups Tryz.prog 3 W5.heap.size 3 .i64 mb n D∧ef_ D G (ys.take k)∧W5.grownBy wr (some mb)) (fun i _=>ys.length-(intOf i).toNat)
   case atStart=>exact ⟨0,0,.map [],oq_,oq_,rfl,HMADE.out,ef_.nil G,World.grownBy.refl _ _⟩
   case round=>
    obtain ⟨k,n,D,hk,hn,rfl,hown,hrd,hgr⟩:=hrel;have hbx:Bxx wr pb _ _:=(hgr.block pb hpb5 tq_).trans HBX.out;have hX6:=HX6.out.of_blocks (w':=wr) fun j h1 h2=>hgr.block j oq_ tq_
    by_cases hlt:k<ys.length
    ·have hA12:wr.cell? ⟨pb,12,none⟩=some (.map (some mb)):=(hbx.cells 12).1;have hA11:wr.cell? ⟨pb,11,none⟩=some (.int .i64 G):=(hbx.cells 11).1;have hyI:=hX6.ints.rng (ys.getD k 0) (ah_ hlt);obtain ⟨⟨⟨a8,c8,he8,_,_,h38⟩,_,_⟩,_⟩:=hX6;injection he8 with he1 he2 he3
     subst he1;subst he3;rcases h38 with h38|⟨b8,f8,rfl,hcell⟩
     ·rw [h38] at hlt;simp at hlt
     have hcl:=hcell k hlt;have hkI:(k:Int)<ys.length:=oq_;obtain ⟨y,hy⟩:∃ y,y=ys.getD k 0:=⟨_,rfl⟩;rw [<- hy] at hcl hyI;have hy0:0≤y:=by
      have:=(ec_ HQB.out.wf (day:=st) oq_).1.cyc.2 y (by rw [HYS.out,hy];exact ah_ hlt);exact this.1
     have hm0:=Int.emod_nonneg y (show G≠0 by omega);have hm1:=Int.emod_lt_of_pos y (show 0<G by omega);obtain ⟨rv,zs,hlk,hat,ho,hzl,hback⟩:=ic_ hown oq_ (r:=y % G) ⟨oq_,oq_⟩;have hz:=hrd.got hat ho;have hrowlt:∀ j,rv.ownBlock=some j->W5.heap.size≤j∧j<wr.heap.size:=fun j hj=>ho.1.lt j hj;have hpbrow:some pb≠rv.ownBlock:=fun e=>by have:=hrowlt pb e.symm;omega
     have hmbrow:some mb≠rv.ownBlock:=fun e=>by have:=hrowlt mb e.symm;omega
     have hO:OwnI wr W5.heap.size rv zs:=⟨ho.1,fun x hx=>vr_ (ho.2 x hx),oq_⟩;have hmbwr:mb<wr.heap.size:=by have:=hgr.size;omega
     have hszgr:=hgr.size;have hzlen:zs.length+1≤17592186044416:=oq_;have HO:=hq_ hO;have HBACK:=hq_ hback;have HHO:=hq_ ho;have HZ:=hq_ hz;have HRD:=hq_ hrd;have HBOX:=hq_ hbx;have HGR:=hq_ hgr;have HY:=hq_ hy;clear hO hback ho hz hrd hbx hgr hat hown hcell hy;go_wp2_with fail
     refine i1_ (w0:=wr) (rv.ownBlock) 15 [0,1,2,3,4,5,6,7,8,9,10,11,12,13,14,15] [16] (fun v=>⟨#[perV (.slice a1 p1.head.length m1) (.slice a2 p1.cycle.length m2) p1.frm p1.period,perV (.slice a3 p2.head.length m3) (.slice a4 p2.cycle.length m4) p2.frm p2.period,.int .i64 day,.pointer (some ⟨w.heap.size,0,none⟩),.pointer (some ⟨w.heap.size+1,0,none⟩),undef,.pointer (some ⟨w.heap.size+1+1,0,none⟩),.pointer (some ⟨pb,0,none⟩),undef,.int .i64 y,v0,perV (.slice r1 qa.head.length s1) (.slice r2 qa.cycle.length s2) qa.frm qa.period,v2,perV (.slice r3 qb.head.length s3) (.slice r4 qb.cycle.length s4) qb.frm qb.period,.map (some mb),.agg #[.slice r1 qa.head.length s1,.int .i64 qa.frm,.int .i64 qa.period,.slice r2 qa.cycle.length s2,.slice r3 qb.head.length s3,.int .i64 qb.frm,.int .i64 qb.period,.slice r4 qb.cycle.length s4,.int .i64 0,.slice none 0 0,.slice none 0 0,.int .i64 0,.map (some mb)],u16,u17,u18,u19,u20,u21,u22,u23,u24,.pointer (some ⟨pb,0,none⟩),.agg #[.slice r1 qa.head.length s1,.int .i64 qa.frm,.int .i64 qa.period,.slice r2 qa.cycle.length s2],.pointer (some ⟨pb,8,none⟩),.int .i64 st,.agg #[.slice t1a (a9_ qa st).head.length t1b,.int .i64 (a9_ qa st).frm,.int .i64 (a9_ qa st).period,.slice t2a (a9_ qa st).cycle.length t2b],.slice t2a (a9_ qa st).cycle.length t2b,.pointer (some ⟨pb,4,none⟩),.agg #[.slice r3 qb.head.length s3,.int .i64 qb.frm,.int .i64 qb.period,.slice r4 qb.cycle.length s4],.pointer (some ⟨pb,8,none⟩),.int .i64 st,.agg #[.slice t3a (a9_ qb st).head.length t3b,.int .i64 (a9_ qb st).frm,.int .i64 (a9_ qb st).period,.slice (some ⟨b8,f8,none⟩) ys.length t4b],.slice (some ⟨b8,f8,none⟩) ys.length t4b,.pointer (some ⟨pb,9,none⟩),.pointer (some ⟨pb,10,none⟩),.pointer (some ⟨pb,0,none⟩),.pointer (some ⟨pb,2,none⟩),.int .i64 qa.period,.pointer (some ⟨pb,4,none⟩),.pointer (some ⟨pb,6,none⟩),.int .i64 qb.period,.int .i64 G,.pointer (some ⟨pb,11,none⟩),.pointer (some ⟨pb,10,none⟩),.slice (some ⟨b8,f8,none⟩) ys.length t4b,.int .i64 ↑ys.length,.int .i64 ↑k,.bool true,.pointer (some ⟨b8,f8+k,none⟩),.int .i64 y,v 0,v 1,v 2,v 3,v 4,v 5,v 6,v 7,v 8,v 9,v 10,v 11,v 12,v 13,v 14,v 15,u70,undef],[]⟩) (fun j=>match j with|0=>u54|1=>u55|2=>u56|3=>u57|4=>u58|5=>u59|6=>u60|7=>u61|8=>u62|9=>u63|10=>u64|11=>u65|12=>u66|13=>u67|14=>u68|15=>u69|_=>undef)
      (fun i v lo hi W=>match i with
       | 0=>v 0=.pointer (some ⟨pb,12,none⟩)
       | 1=>v 1=.map (some mb)
       | 2=>v 2=.int .i64 y
       | 3=>v 3=.pointer (some ⟨pb,11,none⟩)
       | 4=>v 4=.int .i64 G
       | 5=>v 5=.int .i64 (y % G)
       | 6=>v 6=.pointer (some ⟨pb,12,none⟩)
       | 7=>v 7=.map (some mb)
       | 8=>v 8=.int .i64 y
       | 9=>v 9=.pointer (some ⟨pb,11,none⟩)
       | 10=>v 10=.int .i64 G
       | 11=>v 11=.int .i64 (y % G)
       | 12=>v 12=rv
       | 13=>v 13=.int .i64 y
       | 14=>v 14=.slice (some ⟨lo 14,0,none⟩) 1 1∧lo 14<hi 14∧wr.heap.size≤lo 14∧hi 14≤W.heap.size∧Bxx W (lo 14) #[.int .i64 y] 3
       | 15=>∃ g cap,v 15=.slice (some ⟨g,0,none⟩) (zs.length+1) cap∧OwnI W W5.heap.size (v 15) (zs ++ [y])∧(rv.ownBlock=some g∨wr.heap.size≤g)
       | _=>True)
      (fun W=>W.cell? ⟨pb,12,none⟩=some (.map (some mb))∧W.cell? ⟨pb,11,none⟩=some (.int .i64 G)∧W.heap[mb]? = wr.heap[mb]?) rfl (by kernel_rfl) dq_ rfl ?stab ?loc (fun W hb=>⟨hb.cell hA12 hpbrow,hb.cell hA11 hpbrow,hb.block mb hmbwr hmbrow⟩) ?steps ?fin
     case stab=>
      rintro (_|_|_|_|_|_|_|_|_|_|_|_|_|_|_|_|i) v lo hi W W' h hb
      ·exact h
      ·exact h
      ·exact h
      ·exact h
      ·exact h
      ·exact h
      ·exact h
      ·exact h
      ·exact h
      ·exact h
      ·exact h
      ·exact h
      ·exact h
      ·exact h
      ·rw [if_neg dq_] at hb;exact ⟨h.1,h.2.1,h.2.2.1,Nat.le_trans h.2.2.2.1 hb.size,(hb.block (lo 14) (by have:=h.2.1;have:=h.2.2.2.1;omega) (fun e=>by have:=hrowlt _ e.symm;have:=h.2.2.1;omega)).trans h.2.2.2.2⟩
      ·rw [if_pos rfl] at hb;exact (let ⟨g,cap,e,ho,hl⟩:=h;⟨g,cap,e,ho.ext hb,hl⟩)
      ·trivial
     case loc=>
      rintro (_|_|_|_|_|_|_|_|_|_|_|_|_|_|_|_|i) v v' lo lo' hi hi' W hag h
      ·have q:=hag 0 (.inl rfl)
       (try dsimp only at h ⊢);(try simp only [q.1,q.2.1,q.2.2] at h);exact h
      ·have q:=hag 1 (.inl rfl);have q0:=hag 0 (.inr (Rdp (by kernel_rfl)))
       (try dsimp only at h ⊢);(try simp only [q.1,q.2.1,q.2.2,q0.1,q0.2.1,q0.2.2] at h);exact h
      ·have q:=hag 2 (.inl rfl)
       (try dsimp only at h ⊢);(try simp only [q.1,q.2.1,q.2.2] at h);exact h
      ·have q:=hag 3 (.inl rfl)
       (try dsimp only at h ⊢);(try simp only [q.1,q.2.1,q.2.2] at h);exact h
      ·have q:=hag 4 (.inl rfl);have q3:=hag 3 (.inr (Rdp (by kernel_rfl)))
       (try dsimp only at h ⊢);(try simp only [q.1,q.2.1,q.2.2,q3.1,q3.2.1,q3.2.2] at h);exact h
      ·have q:=hag 5 (.inl rfl);have q2:=hag 2 (.inr (Rdp (by kernel_rfl)));have q4:=hag 4 (.inr (Rdp (by kernel_rfl)))
       (try dsimp only at h ⊢);(try simp only [q.1,q.2.1,q.2.2,q2.1,q2.2.1,q2.2.2,q4.1,q4.2.1,q4.2.2] at h);exact h
      ·have q:=hag 6 (.inl rfl)
       (try dsimp only at h ⊢);(try simp only [q.1,q.2.1,q.2.2] at h);exact h
      ·have q:=hag 7 (.inl rfl);have q6:=hag 6 (.inr (Rdp (by kernel_rfl)))
       (try dsimp only at h ⊢);(try simp only [q.1,q.2.1,q.2.2,q6.1,q6.2.1,q6.2.2] at h);exact h
      ·have q:=hag 8 (.inl rfl)
       (try dsimp only at h ⊢);(try simp only [q.1,q.2.1,q.2.2] at h);exact h
      ·have q:=hag 9 (.inl rfl)
       (try dsimp only at h ⊢);(try simp only [q.1,q.2.1,q.2.2] at h);exact h
      ·have q:=hag 10 (.inl rfl);have q9:=hag 9 (.inr (Rdp (by kernel_rfl)))
       (try dsimp only at h ⊢);(try simp only [q.1,q.2.1,q.2.2,q9.1,q9.2.1,q9.2.2] at h);exact h
      ·have q:=hag 11 (.inl rfl);have q8:=hag 8 (.inr (Rdp (by kernel_rfl)));have q10:=hag 10 (.inr (Rdp (by kernel_rfl)))
       (try dsimp only at h ⊢);(try simp only [q.1,q.2.1,q.2.2,q8.1,q8.2.1,q8.2.2,q10.1,q10.2.1,q10.2.2] at h);exact h
      ·have q:=hag 12 (.inl rfl);have q7:=hag 7 (.inr (Rdp (by kernel_rfl)));have q11:=hag 11 (.inr (Rdp (by kernel_rfl)))
       (try dsimp only at h ⊢);(try simp only [q.1,q.2.1,q.2.2,q7.1,q7.2.1,q7.2.2,q11.1,q11.2.1,q11.2.2] at h);exact h
      ·have q:=hag 13 (.inl rfl)
       (try dsimp only at h ⊢);(try simp only [q.1,q.2.1,q.2.2] at h);exact h
      ·have q:=hag 14 (.inl rfl);have q13:=hag 13 (.inr (Rdp (by kernel_rfl)))
       (try dsimp only at h ⊢);(try simp only [q.1,q.2.1,q.2.2,q13.1,q13.2.1,q13.2.2] at h);exact h
      ·have q:=hag 15 (.inl rfl);have q12:=hag 12 (.inr (Rdp (by kernel_rfl)));have q14:=hag 14 (.inr (Rdp (by kernel_rfl)))
       (try dsimp only at h ⊢);(try simp only [q.1,q.2.1,q.2.2,q12.1,q12.2.1,q12.2.2,q14.1,q14.2.1,q14.2.2] at h);exact h
      ·trivial
     case steps=>
      refine an_.cons rfl ?_ (an_.cons rfl ?_ (an_.cons rfl ?_ (an_.cons rfl ?_ (an_.cons rfl ?_ (an_.cons rfl ?_ (an_.cons rfl ?_ (an_.cons rfl ?_ (an_.cons rfl ?_ (an_.cons rfl ?_ (an_.cons rfl ?_ (an_.cons rfl ?_ (an_.cons rfl ?_ (an_.cons rfl ?_ (an_.cons rfl ?_ (an_.cons rfl ?_ an_.nil)))))))))))))))
      ·rintro v lo hi W hb hkx ⟨g12,g11,gmb⟩ hd K hK;replace hK:=fun x W' (h:Below W.heap.size W W')=>hK x W' (by rw [if_neg dq_];exact h);clear hkx;clear hd;dsimp only;go_wp2_with fail
       exact acx (hK (.pointer (some ⟨pb,12,none⟩)) W (Below.refl _ _) rfl) sq_
      ·rintro v lo hi W hb hkx ⟨g12,g11,gmb⟩ hd K hK;replace hK:=fun x W' (h:Below W.heap.size W W')=>hK x W' (by rw [if_neg dq_];exact h);clear hkx;have e0:v 0=.pointer (some ⟨pb,12,none⟩):=(hd 0 (Rdp (by kernel_rfl))).2.2;clear hd;dsimp only
       (try simp only [e0])
       go_wp2_with fail
       exact acx (hK (.map (some mb)) W (Below.refl _ _) rfl) (by simp [e0])
      ·rintro v lo hi W hb hkx ⟨g12,g11,gmb⟩ hd K hK;replace hK:=fun x W' (h:Below W.heap.size W W')=>hK x W' (by rw [if_neg dq_];exact h);clear hkx;clear hd;dsimp only;go_wp2_with fail
       exact acx (hK (.int .i64 y) W (Below.refl _ _) rfl) sq_
      ·rintro v lo hi W hb hkx ⟨g12,g11,gmb⟩ hd K hK;replace hK:=fun x W' (h:Below W.heap.size W W')=>hK x W' (by rw [if_neg dq_];exact h);clear hkx;clear hd;dsimp only;go_wp2_with fail
       exact acx (hK (.pointer (some ⟨pb,11,none⟩)) W (Below.refl _ _) rfl) sq_
      ·rintro v lo hi W hb hkx ⟨g12,g11,gmb⟩ hd K hK;replace hK:=fun x W' (h:Below W.heap.size W W')=>hK x W' (by rw [if_neg dq_];exact h);clear hkx;have e3:v 3=.pointer (some ⟨pb,11,none⟩):=(hd 3 (Rdp (by kernel_rfl))).2.2;clear hd;dsimp only
       (try simp only [e3])
       go_wp2_with fail
       exact acx (hK (.int .i64 G) W (Below.refl _ _) rfl) (by simp [e3])
      ·rintro v lo hi W hb hkx ⟨g12,g11,gmb⟩ hd K hK;replace hK:=fun x W' (h:Below W.heap.size W W')=>hK x W' (by rw [if_neg dq_];exact h);clear hkx;have e2:v 2=.int .i64 y:=(hd 2 (Rdp (by kernel_rfl))).2.2;have e4:v 4=.int .i64 G:=(hd 4 (Rdp (by kernel_rfl))).2.2;clear hd;dsimp only
       (try simp only [e2,e4])
       go_wp2_with fail
       exact acx (hK (.int .i64 (y % G)) W (Below.refl _ _) rfl) (by simp [e2,e4])
      ·rintro v lo hi W hb hkx ⟨g12,g11,gmb⟩ hd K hK;replace hK:=fun x W' (h:Below W.heap.size W W')=>hK x W' (by rw [if_neg dq_];exact h);clear hkx;clear hd;dsimp only;go_wp2_with fail
       exact acx (hK (.pointer (some ⟨pb,12,none⟩)) W (Below.refl _ _) rfl) sq_
      ·rintro v lo hi W hb hkx ⟨g12,g11,gmb⟩ hd K hK;replace hK:=fun x W' (h:Below W.heap.size W W')=>hK x W' (by rw [if_neg dq_];exact h);clear hkx;have e6:v 6=.pointer (some ⟨pb,12,none⟩):=(hd 6 (Rdp (by kernel_rfl))).2.2;clear hd;dsimp only
       (try simp only [e6])
       go_wp2_with fail
       exact acx (hK (.map (some mb)) W (Below.refl _ _) rfl) (by simp [e6])
      ·rintro v lo hi W hb hkx ⟨g12,g11,gmb⟩ hd K hK;replace hK:=fun x W' (h:Below W.heap.size W W')=>hK x W' (by rw [if_neg dq_];exact h);clear hkx;clear hd;dsimp only;go_wp2_with fail
       exact acx (hK (.int .i64 y) W (Below.refl _ _) rfl) sq_
      ·rintro v lo hi W hb hkx ⟨g12,g11,gmb⟩ hd K hK;replace hK:=fun x W' (h:Below W.heap.size W W')=>hK x W' (by rw [if_neg dq_];exact h);clear hkx;clear hd;dsimp only;go_wp2_with fail
       exact acx (hK (.pointer (some ⟨pb,11,none⟩)) W (Below.refl _ _) rfl) sq_
      ·rintro v lo hi W hb hkx ⟨g12,g11,gmb⟩ hd K hK;replace hK:=fun x W' (h:Below W.heap.size W W')=>hK x W' (by rw [if_neg dq_];exact h);clear hkx;have e9:v 9=.pointer (some ⟨pb,11,none⟩):=(hd 9 (Rdp (by kernel_rfl))).2.2;clear hd;dsimp only
       (try simp only [e9])
       go_wp2_with fail
       exact acx (hK (.int .i64 G) W (Below.refl _ _) rfl) (by simp [e9])
      ·rintro v lo hi W hb hkx ⟨g12,g11,gmb⟩ hd K hK;replace hK:=fun x W' (h:Below W.heap.size W W')=>hK x W' (by rw [if_neg dq_];exact h);clear hkx;have e8:v 8=.int .i64 y:=(hd 8 (Rdp (by kernel_rfl))).2.2;have e10:v 10=.int .i64 G:=(hd 10 (Rdp (by kernel_rfl))).2.2;clear hd;dsimp only
       (try simp only [e8,e10])
       go_wp2_with fail
       exact acx (hK (.int .i64 (y % G)) W (Below.refl _ _) rfl) (by simp [e8,e10])
      ·rintro v lo hi W hb hkx ⟨g12,g11,gmb⟩ hd K hK;replace hK:=fun x W' (h:Below W.heap.size W W')=>hK x W' (by rw [if_neg dq_];exact h);clear hkx;have e7:v 7=.map (some mb):=(hd 7 (Rdp (by kernel_rfl))).2.2;have e11:v 11=.int .i64 (y % G):=(hd 11 (Rdp (by kernel_rfl))).2.2;clear hd;dsimp only
       (try simp only [e7,e11])
       have hlk9:=hlk W gmb;go_wp2_with fail
       exact acx (hK rv W (Below.refl _ _) rfl) (by simp [e7,e11])
      ·rintro v lo hi W hb hkx ⟨g12,g11,gmb⟩ hd K hK;replace hK:=fun x W' (h:Below W.heap.size W W')=>hK x W' (by rw [if_neg dq_];exact h);clear hkx;clear hd;dsimp only;go_wp2_with fail
       exact acx (hK (.int .i64 y) W (Below.refl _ _) rfl) sq_
      ·rintro v lo hi W hb hkx ⟨g12,g11,gmb⟩ hd K hK;replace hK:=fun x W' (h:Below W.heap.size W W')=>hK x W' (by rw [if_neg dq_];exact h);clear hkx;have e13:v 13=.int .i64 y:=(hd 13 (Rdp (by kernel_rfl))).2.2;clear hd;dsimp only
       (try simp only [e13])
       go_wp2_with fail
       exact acx (hK (.slice (some ⟨W.heap.size,0,none⟩) 1 1) _ (Ea (Er _) _) ⟨rfl,sq_,hb.size,sq_,Bxx.new _ _ _⟩) (by simp [e13])
      ·rintro v lo hi W hb hkx ⟨g12,g11,gmb⟩ hd K hK;replace hK:=fun x W' (h:W.grownBy W' (rv.ownBlock))=>hK x W' (by rw [if_pos rfl];exact h);replace hkx:=hkx rfl;have e12:v 12=rv:=(hd 12 (Rdp (by kernel_rfl))).2.2;obtain ⟨la14,lb14,D14⟩:=hd 14 (Rdp (by kernel_rfl));clear hd;dsimp only
       (try simp only [e12])
       obtain ⟨e14,h14a,h14b,h14c,h14d⟩:=D14;refine sd_ W _ _ rq_ W5.heap.size rv zs y (by first|rfl|exact e12) (HO.out.ext hkx) (lo 14) 1 (by first|exact e14|(simp [e14];done)) (h14d.cells 0).1 hyI hzlen (by have h8:=hkx.size;omega) ?_;intro g cap w1 hown1 hgrow1 hloc1;exact acx (hK (.slice (some ⟨g,0,none⟩) (zs.length+1) cap) w1 hgrow1 ⟨g,cap,rfl,hown1,hloc1.imp id (fun e=>by rw [e];exact hb.size)⟩) (by simp only [e12];rfl)
     case fin=>
      rintro v lo hi W hb ⟨g12,g11,gmb⟩ hf hap;show wpList _ _ _ [_] _ _;have e1:v 1=.map (some mb):=(hf 1 rfl).2.2.2;have e5:v 5=.int .i64 (y % G):=(hf 5 rfl).2.2.2;obtain ⟨_,_,_,gb,cap,e15,ho15,hl15⟩:=hf 15 rfl;clear hf hap;rw [e15] at ho15;have hown':W.ownsInts W5.heap.size 3 .i64 (.slice (some ⟨gb,0,none⟩) (zs.length+1) cap) (zs ++ [y]):=⟨ho15.row,fun z hz=>WalkArith.wf_i64 (ho15.rng z hz)⟩;have hput:=HRD.out.put (y:=y) (v:=.slice (some ⟨gb,0,none⟩) (zs.length+1) cap) (w:=W) (base:=W5.heap.size) (e:=3) (by rw [<- HZ.out];exact hown');rw [<- HZ.out] at hput;have HOWN':=hq_ hown';have HPUT:=hq_ hput;have HLOC:Hid ((Value.slice (some ⟨gb,0,none⟩) (zs.length+1) cap).ownBlock=rv.ownBlock∨∃ g,(Value.slice (some ⟨gb,0,none⟩) (zs.length+1) cap).ownBlock=some g∧wr.heap.size≤g):=hq_ (hl15.elim (fun e=>.inl e.symm) (fun h=>.inr ⟨gb,rfl,h⟩));have HB:=hq_ hb;clear hown' hput hl15 ho15 hb;dsimp only;rw [e1,e5,e15];clear e1 e5 e15;refine wpList_mapUpdate_back _ rfl _ _ _ 137 rfl HBACK.out rfl rfl rfl HB.out HOWN'.out tq_ HLOC.out ?_;intro w2 hown2 hgrow2;go_wp2_with fail
      go_roundw
      case rel=>
       refine ⟨k+1,n+1,_,oq_,oq_,by go_num,hown2,?_,(HGR.out.andThen HB.out (fun j hj=>.inl (hrowlt j hj).1)).trans hgrow2⟩;have ht:ys.take (k+1)=ys.take k ++ [y]:=by rw [List.take_succ_eq_append_getElem hlt,HY.out];simp [hlt]
       rw [ht];exact HPUT.out
      case measure=>simp [intOf];omega
    ·obtain rfl:k=ys.length:=oq_;have hszg:=hgr.size;have hPr1:=HP1.out.of_blocks (w':=wr) fun j h1 h2=>hgr.block j oq_ tq_;have hPr3:=HP3.out.of_blocks (w':=wr) fun j h1 h2=>hgr.block j oq_ tq_;have hX5r:=HX5.out.of_blocks (w':=wr) fun j h1 h2=>hgr.block j oq_ tq_;rw [List.take_length] at hrd;have hMI:=dh_.of_groups hown hmblt oq_ hrd;have hrx:Bxx wr (w.heap.size+2) _ _:=(hgr.block (w.heap.size+2) HRX.out.lt tq_).trans HRX.out;have hEr:Below w.heap.size w wr:=⟨hgr.os.trans hE5.os,hgr.tape.trans hE5.tape,hgr.output.trans hE5.output,by have:=hE5.size;omega,fun j hj=>(hgr.block j (by have:=hE5.size;omega) tq_).trans (hE5.block j hj)⟩;have c0:=(hbx.cells 0).1;have c1:=(hbx.cells 1).1;have c2:=(hbx.cells 2).1;have c3:=(hbx.cells 3).1;have c4:=(hbx.cells 4).1;have c5:=(hbx.cells 5).1;have c6:=(hbx.cells 6).1;have c7:=(hbx.cells 7).1;have c8:=(hbx.cells 8).1;have c9:=(hbx.cells 9).1;have c10:=(hbx.cells 10).1;have c11:=(hbx.cells 11).1;have c12:=(hbx.cells 12).1;have k0:=(hrx.cells 0);have k1:=(hrx.cells 1);have k2:=(hrx.cells 2);have k3:=(hrx.cells 3);have k4:=(hrx.cells 4);have k5:=(hrx.cells 5);have k6:=(hrx.cells 6);have k7:=(hrx.cells 7);have k8:=(hrx.cells 8);have k9:=(hrx.cells 9);have k10:=(hrx.cells 10);have k11:=(hrx.cells 11);have k12:=(hrx.cells 12);have HPR1:=hq_ hPr1;have HPR3:=hq_ hPr3;have HX5R:=hq_ hX5r;have HX6R:=hq_ hX6;have HMI:=hq_ hMI;have HRXR:=hq_ hrx;have HER:=hq_ hEr;clear hPr1 hPr3 hX5r hX6 hMI hrx hEr hown hrd hgr hbx;go_wp2_with fail
     refine s4_ (F:=fun Wf=>Bxx Wf (w.heap.size+2) #[.slice r1 qa.head.length s1,.int .i64 qa.frm,.int .i64 qa.period,.slice r2 qa.cycle.length s2,.slice r3 qb.head.length s3,.int .i64 qb.frm,.int .i64 qb.period,.slice r4 qb.cycle.length s4,.int .i64 st,.slice t2a (a9_ qa st).cycle.length t2b,.slice t4a ys.length t4b,.int .i64 G,.map (some mb)] 139∧(∀ k,k≠w.heap.size+2->Wf.heap[k]? = wr.heap[k]?)∧Below w.heap.size w Wf∧wr.heap.size≤Wf.heap.size)
      ⟨vj_ HRXR.out,fun k hk=>ux_ hk,by have hEr:=HER.out;exact xE,sq_⟩ ?_
     clear c0 c1 c2 c3 c4 c5 c6 c7 c8 c9 c10 c11 c12 k0 k1 k2 k3 k4 k5 k6 k7 k8 k9 k10 k11 k12;rintro Wf ⟨hbf,hkf,hEf,hzf⟩;have k0:=(hbf.cells 0).1;have k1:=(hbf.cells 1).1;have k2:=(hbf.cells 2).1;have k3:=(hbf.cells 3).1;have k4:=(hbf.cells 4).1;have k5:=(hbf.cells 5).1;have k6:=(hbf.cells 6).1;have k7:=(hbf.cells 7).1;have k8:=(hbf.cells 8).1;have k9:=(hbf.cells 9).1;have k10:=(hbf.cells 10).1;have k11:=(hbf.cells 11).1;have k12:=(hbf.cells 12).1;have hcyc:∀ (q:Per),q.frm≤st->(a9_ q st).cycle=a0_ (cycL q st):=fun q hq=>by show a0_ (cycL q (max q.frm st))=_;rw [Int.max_eq_right hq]
     have g1:ar_ Wf w.heap.size Wf.heap.size (.slice r1 qa.head.length s1) (.slice r2 qa.cycle.length s2) qa:=(HPR1.out.of_blocks fun j h1 h2=>hkf j oq_).mono oq_ oq_;have g2:ar_ Wf w.heap.size Wf.heap.size (.slice r3 qb.head.length s3) (.slice r4 qb.cycle.length s4) qb:=(HPR3.out.of_blocks fun j h1 h2=>hkf j oq_).mono oq_ oq_;have g3:IntsIn Wf w.heap.size Wf.heap.size (.slice t2a (a9_ qa st).cycle.length t2b) (a9_ qa st).cycle:=(HX5R.out.of_blocks fun j h1 h2=>hkf j oq_).mono oq_ oq_;have g4:IntsIn Wf w.heap.size Wf.heap.size (.slice t4a ys.length t4b) ys:=(HX6R.out.of_blocks fun j h1 h2=>hkf j oq_).mono oq_ oq_;have g5:=(HMI.out.of_blocks (w':=Wf) fun j h1 h2=>hkf j oq_).mono_hi hzf;rw [hcyc qa oq_] at g3;rw [<- HYS.out,hcyc qb oq_] at g4 g5;rw [<- HG.out] at g5;exact bodyPost_ret (v:=em_ (.slice r1 qa.head.length s1) (.slice r2 qa.cycle.length s2) (.slice r3 qb.head.length s3) (.slice r4 qb.cycle.length s4) qa qb st (.slice t2a (a9_ qa st).cycle.length t2b) (.slice t4a ys.length t4b) G mb) (by simp [results,Tryz.results147,go_sem, *]) rfl
      ⟨_,_,_,_,.slice t2a (a0_ (cycL qa st)).length t2b,.slice t4a (a0_ (cycL qb st)).length t4b,mb,by rw [HG.out,<- HSTT.out,<- hcyc qa oq_,<- hcyc qb oq_,HYS.out],by rw [<- HSTT.out];exact ⟨g1,g2,g3,g4,g5,oq_⟩,hEf⟩
def g4_ (w:World) (mb:Nat) (g:Int) (ys:List Int):Prop:=
 ∀ r,InI r->∃ v,(∀ W,Below w.heap.size w W->(Instr.lookup 137 (.map (some mb)) (.int .i64 r) false).run Tryz.prog W=.ok v W)∧Ints w v (grp ys g r)
theorem g4_.ext {g:Int} (h:g4_ w mb g ys) (hb:Below w.heap.size w W):g4_ W mb g ys:=fun r hr=>by
 obtain ⟨v,h1,h2⟩:=h r hr;exact ⟨v,fun W' hb'=>h1 W' (hb.trans (hb'.mono hb.size)),h2.ext hb⟩
theorem dh_.looks {hi:Nat} {g:Int} (h:dh_ w mb hi g ys):g4_ w mb g ys:=fun r hr=>by
 obtain ⟨v0,hr0,hv0⟩:=h.look hr;obtain ⟨es,clock,n,base,D,hbs,hb,hn,hown,_⟩:=h;obtain ⟨v,zs,h1,_⟩:=ic_ hown hn hr;have e:=h1 w rfl;rw [hr0] at e;injection e with e
 subst e;exact ⟨v0,fun W hW=>h1 W (hW.block mb (Array.getElem?_eq_some_iff.1 hb).1),hv0.ints⟩
structure ej_ (w:World) (h1 c1 h2 c2:Value) (qa qb:Per) (st:Int) (xv yv:Value) (g:Int) (mb:Nat):Prop where
 a:a8_ w h1 c1 qa
 b:a8_ w h2 c2 qb
 x:Ints w xv (a0_ (cycL qa st))
 y:Ints w yv (a0_ (cycL qb st))
 m:g4_ w mb g (a0_ (cycL qb st))
theorem ej_.ext {g:Int} (h:ej_ w h1 c1 h2 c2 qa qb st xv yv g mb) (hb:Below w.heap.size w W):ej_ W h1 c1 h2 c2 qa qb st xv yv g mb:=
 ⟨h.a.ext hb,h.b.ext hb,h.x.ext hb,h.y.ext hb,h.m.ext hb⟩
theorem eu_.at {lo hi:Nat} (h:eu_ w lo hi h1 c1 h2 c2 qa qb st xv yv mb):ej_ w h1 c1 h2 c2 qa qb st xv yv (Int.gcd qa.period qb.period:Nat) mb:=
 ⟨h.a.is,h.b.is,h.x.ints,h.y.ints,h.m.looks⟩
theorem beqI (a b:Int):(a == b)=decide (a=b):=by by_cases h:a=b <;> simp [h]
def e3_ (ys:List Int) (g b n:Int):Bool:=decide (((grp ys g (n % g)).length:Int)=b / g)
theorem hk_ (h1 c1 h2 c2:Value) (qa qb:Per) (st:Int) (xv yv:Value) (g:Int) (mb:Nat) (n:Int) (w:World) (hP:ej_ w h1 c1 h2 c2 qa qb st xv yv g mb) (hg:1≤g) (hg1:g≤562949953421312) (hn:0≤n) (hn1:n≤9007199254740992)
  (hp:1≤qb.period) (hp1:qb.period≤562949953421312) :
  Calls Tryz.prog 181 #[em_ h1 c1 h2 c2 qa qb st xv yv g mb,.int .i64 n] w fun e w'=>e=.returned (.bool (e3_ (a0_ (cycL qb st)) g qb.period n))∧Below w.heap.size w w':=by
 have hm0:=Int.emod_nonneg n (show g≠0 by omega);have hm1:=Int.emod_lt_of_pos n (show 0<g by omega);have hlk:=hP.m (n % g) ⟨oq_,oq_⟩;obtain ⟨v,hlk,hv⟩:=hlk;obtain ⟨⟨va,vc,rfl,_⟩,hvl,_⟩:=hv;obtain ⟨xa,xc,rfl⟩:∃ a c,xv=.slice a (a0_ (cycL qa st)).length c:=by obtain ⟨⟨a,c,e,_⟩,_⟩:=hP.x;exact ⟨a,c,e⟩
 obtain ⟨ya,yc,rfl⟩:∃ a c,yv=.slice a (a0_ (cycL qb st)).length c:=by obtain ⟨⟨a,c,e,_⟩,_⟩:=hP.y;exact ⟨a,c,e⟩
 obtain ⟨a1,k1,a2,k2,rfl,rfl⟩:=hP.a.inn.form;obtain ⟨a3,k3,a4,k4,rfl,rfl⟩:=hP.b.inn.form;have hL:∀ W,Below w.heap.size w W->∀ nq,(Instr.lookup 137 (.map (some mb)) (.int .i64 (n % g)) false).run Tryz.prog (W.drewN nq)=.ok (.slice va (grp (a0_ (cycL qb st)) g (n % g)).length vc) (W.drewN nq):=fun W hb nq=>hlk _ xE;obtain ⟨F,hF⟩:∃ F,F=e3_ (a0_ (cycL qb st)) g qb.period n:=⟨_,rfl⟩;have HF:=hq_ hF;rw [<- hF];unfold e3_ at hF;generalize (a0_ (cycL qb st))=ys at *;generalize (a0_ (cycL qa st))=xs at *;generalize hlen:(grp ys g (n % g)).length=len at *;have HLEN:=hq_ hlen;clear hlen;clear hlk hP
 go_enter Tryz.func181,Tryz.ntmps181
 go_wp2_with fail
 have hL2:=hL _ (Ea (Er w) (.cells #[.slice a1 qa.head.length k1,.int .i64 qa.frm,.int .i64 qa.period,.slice a2 qa.cycle.length k2,.slice a3 qb.head.length k3,.int .i64 qb.frm,.int .i64 qb.period,.slice a4 qb.cycle.length k4,.int .i64 st,.slice xa xs.length xc,.slice ya ys.length yc,.int .i64 g,.map (some mb)] 139));go_quiet (fail)
 go_wp2_with fail
 go_ret;refine ⟨ac_ ?_,xE⟩;rw [HF.out];unfold e3_;rw [HLEN.out,beqI]
def comN (xs ys:List Int) (g:Int):Nat:=(xs.map fun x=>(grp ys g (x % g)).length).sum
theorem sv_ {xs:List Int} {g:Int} (h:k<xs.length):comN (xs.take (k+1)) ys g=comN (xs.take k) ys g+(grp ys g (xs.getD k 0 % g)).length:=by
 unfold comN;rw [List.take_succ_eq_append_getElem h,List.map_append,List.sum_append,List.getD_eq_getElem?_getD,List.getElem?_eq_getElem h];simp
theorem w1_ {xs:List Int} {g:Int} (k:Nat):comN (xs.take k) ys g≤comN xs ys g:=by
 unfold comN
 conv=>rhs;rw [<- List.take_append_drop k xs,List.map_append,List.sum_append]
 omega
theorem qf_ (h1 c1 h2 c2:Value) (qa qb:Per) (st:Int) (xv yv:Value) (g:Int) (mb:Nat) (w:World) (hP:ej_ w h1 c1 h2 c2 qa qb st xv yv g mb) (hg:1≤g) (hg1:g≤562949953421312)
  (hx:∀ x∈a0_ (cycL qa st),0≤x∧x≤562949953421312) (hc:comN (a0_ (cycL qa st)) (a0_ (cycL qb st)) g≤4611686018427387904) :
  Calls Tryz.prog 149 #[em_ h1 c1 h2 c2 qa qb st xv yv g mb] w fun e w'=>e=.returned (.int .i64 (comN (a0_ (cycL qa st)) (a0_ (cycL qb st)) g:Nat))∧Below w.heap.size w w':=by
 have hP0:=hP;obtain ⟨⟨xa,xc,rfl,_⟩,hxl,_⟩:=hP.x;obtain ⟨ya,yc,rfl⟩:∃ a c,yv=.slice a (a0_ (cycL qb st)).length c:=by obtain ⟨⟨a,c,e,_⟩,_⟩:=hP.y;exact ⟨a,c,e⟩
 obtain ⟨a1,k1,a2,k2,rfl,rfl⟩:=hP.a.inn.form;obtain ⟨a3,k3,a4,k4,rfl,rfl⟩:=hP.b.inn.form;obtain ⟨ys,hys⟩:∃ ys,ys=a0_ (cycL qb st):=⟨_,rfl⟩;obtain ⟨xs,hxs⟩:∃ xs,xs=a0_ (cycL qa st):=⟨_,rfl⟩;have HM:Hid (g4_ w mb g ys):=hq_ (hys ▸ hP.m);have HX:Hid (Ints w (.slice xa xs.length xc) xs):=hq_ (by rw [hxs];exact hP.x);rw [<- hys,<- hxs];rw [<- hys,<- hxs] at hc;rw [<- hxs] at hx hxl;clear hP hys hxs hP0
 go_enter Tryz.func149,Tryz.ntmps149
 go_wp2_with fail
 generalize hW0:w.alloc _=W0;have hE:Below w.heap.size w W0:=by rw [<- hW0];exact xE
 have hbx:Bxx W0 w.heap.size #[.slice a1 qa.head.length k1,.int .i64 qa.frm,.int .i64 qa.period,.slice a2 qa.cycle.length k2,.slice a3 qb.head.length k3,.int .i64 qb.frm,.int .i64 qb.period,.slice a4 qb.cycle.length k4,.int .i64 st,.slice xa xs.length xc,.slice ya ys.length yc,.int .i64 g,.map (some mb)] 139:=by rw [<- hW0];exact Bxx.new _ _ _
 have q11:=(hbx.cells 11).1;have q12:=(hbx.cells 12).1;have HE:=hq_ hE;have HBX:=hq_ hbx;clear hW0 hbx hE
 go_loopw [9,3] (fun i n wr=>∃ (k q:Nat),k≤xs.length∧i=.int .i64 k∧n=.int .i64 (comN (xs.take k) ys g:Nat)∧wr=W0.drewN q) (fun i _ _=>xs.length-(intOf i).toNat)
 case atStart=>exact ⟨0,0,oq_,rfl,rfl,rfl⟩
 case round=>
  obtain ⟨k,q,hk,rfl,rfl,rfl⟩:=hrel
  by_cases hlt:k<xs.length
  ·have hxI:=hx (xs.getD k 0) (ah_ hlt);have hsu:=sv_ (xs:=xs) (ys:=ys) (g:=g) hlt;have hle:=w1_ (xs:=xs) (ys:=ys) (g:=g) (k+1);obtain ⟨⟨a8,c8,he8,_,_,h38⟩,_,_⟩:=HX.out.ext HE.out;injection he8 with he1 he2 he3
   subst he1;subst he3;rcases h38 with h38|⟨b8,f8,rfl,hcell⟩
   ·rw [h38] at hlt;simp at hlt
   have hcl:=hcell k hlt;have hkI:(k:Int)<xs.length:=oq_;obtain ⟨x,hxx⟩:∃ x,x=xs.getD k 0:=⟨_,rfl⟩;rw [<- hxx] at hcl hxI hsu;have hm0:=Int.emod_nonneg x (show g≠0 by omega);have hm1:=Int.emod_lt_of_pos x (show 0<g by omega);obtain ⟨v,hlk,hv⟩:=HM.out (x % g) ⟨oq_,oq_⟩;obtain ⟨⟨va,vc,rfl,_⟩,hvl,_⟩:=hv;have hL2:∀ nq,(Instr.lookup 137 (.map (some mb)) (.int .i64 (x % g)) false).run Tryz.prog (W0.drewN nq)=.ok (.slice va (grp ys g (x % g)).length vc) (W0.drewN nq):=fun nq=>hlk _ (En HE.out nq);obtain ⟨len,hlen⟩:∃ len,len=(grp ys g (x % g)).length:=⟨_,rfl⟩;rw [<- hlen] at hsu hvl hL2;rw [hsu] at hle;obtain ⟨n0,hn0⟩:∃ n0,n0=comN (xs.take k) ys g:=⟨_,rfl⟩;rw [<- hn0] at hsu hle ⊢;have HS:=hq_ hsu;clear hlk hsu hlen hxx hcell hn0;go_wp2_with fail
   go_quiet (fail)
   go_wp2_with fail
   go_roundw
   case rel=>exact ⟨k+1,_,oq_,by go_num,by rw [HS.out];go_num,rfl⟩
   case measure=>simp [intOf];omega
  ·obtain rfl:k=xs.length:=oq_;go_wp2_with fail
   go_ret;exact ⟨by rw [List.take_length];rfl,En HE.out _⟩
theorem nr_ {a:Act} {Q:Exit->Act->World->Prop} (hgd:o.guard=none) (s x:Operand)
  (ho:o.op=.call { callee:=.builtin .append,args:=#[s,x],argTypes:=#[37,37] }) (base:Nat) (v:Value) (l:List Int) (y:Int) (hs:a.eval s=v) (hown:OwnI w base v l)
  (blk c:Nat) (hx:a.eval x=.slice (some ⟨blk,0,none⟩) 1 c) (hnew:w.cell? ⟨blk,0,none⟩=some (.int .i64 y)) (hy:InI y) (hlen:l.length+1≤17592186044416) (hbase:base≤w.heap.size)
  (h:∀ g cap w',OwnI w' base (.slice (some ⟨g,0,none⟩) (l.length+1) cap) (l ++ [y])->w.grownBy w' v.ownBlock->Below base w w'->(v.ownBlock=some g∨w.heap.size≤g)->wpList Tryz.prog ops Q rest (a.put o.dst (.slice (some ⟨g,0,none⟩) (l.length+1) cap)) w') :
  wpList Tryz.prog ops Q (o :: rest) a w:=by
 obtain ⟨i,hi,h1,h2,h3⟩:=dt_;refine wpList_append_lies w hgd s x 37 ho base 3 i (.int .i64 0) 1 8 Tryz.underlying37 hi h1 h2 h3 rfl oq_ v l.length (l.map (Value.int .i64)) hs hown.row ⟨blk,0,none⟩ 1 c [.int .i64 y] hx rfl ?_ (by simp [Value.oneCell']) oq_ (by unfold maxLen;omega) oq_ hbase _ rfl ?_
 ·intro j u hu
  match j,hu with
  | 0,hu=>simp at hu;subst hu;exact hnew
 ·intro g cap w' hown' hgrow hloc _;exact h g cap w' (OwnI.appended hown.rng hy hlen hown') hgrow (hown.below_grown (W0:=w) (.inr trivial) hbase hgrow) (hloc.imp id fun e=>oq_)
theorem r6_ {xs:List Int} {b:Int} (h:k<xs.length):c1_ (xs.take (k+1)) ys a b st=c1_ (xs.take k) ys a b st ++ (grp ys (Int.gcd a b:Nat) (xs.getD k 0 % (Int.gcd a b:Nat))).map fun y=>st+bg_ (xs.getD k 0) a y b:=by
 unfold c1_ grp;rw [List.take_succ_eq_append_getElem h,List.flatMap_append,List.getD_eq_getElem?_getD,List.getElem?_eq_getElem h];simp
theorem ug_ {xs:List Int} {b:Int} (k:Nat):(c1_ (xs.take k) ys a b st).length≤(c1_ xs ys a b st).length:=by
 unfold c1_
 conv=>rhs;rw [<- List.take_append_drop k xs,List.flatMap_append,List.length_append]
 omega
def wk_ (base:Nat) (l:List Int) (w:World) (e:Ending) (w':World):Prop:=∃ v,e=.returned v∧OwnI w' base v l∧Below base w w'
theorem mm_ {α β:Type} (f:α->β) {l:List α} (h:k<l.length):(l.take (k+1)).map f=(l.take k).map f ++ [f l[k]]:=by
 rw [List.take_succ_eq_append_getElem h,List.map_append];rfl
structure hu_ (base:Nat) (w:World) (h1 c1 h2 c2:Value) (qa qb:Per) (st:Int) (xv yv:Value) (g:Int) (mb:Nat):Prop where
 a:∀ W,Below base w W->a8_ W h1 c1 qa
 b:∀ W,Below base w W->a8_ W h2 c2 qb
 x:∀ W,Below base w W->Ints W xv (a0_ (cycL qa st))
 y:∀ W,Below base w W->Ints W yv (a0_ (cycL qb st))
 m:∀ r,InI r->∃ v,∀ W,Below base w W->(Instr.lookup 137 (.map (some mb)) (.int .i64 r) false).run Tryz.prog W=.ok v W∧Ints W v (grp (a0_ (cycL qb st)) g r)
theorem eu_.pairB {lo hi:Nat} (h:eu_ w lo hi h1 c1 h2 c2 qa qb st xv yv mb) (hb:hi≤base):hu_ base w h1 c1 h2 c2 qa qb st xv yv (Int.gcd qa.period qb.period:Nat) mb:=by
 refine ⟨fun W hW=>(h.a.below hW hb).is,fun W hW=>(h.b.below hW hb).is,fun W hW=>(h.x.below hW hb).ints,fun W hW=>(h.y.below hW hb).ints,fun r hr=>?_⟩;obtain ⟨v0,hr0,hv0⟩:=h.m.look hr;obtain ⟨es,clock,n,b9,D,hbs,hb9,hn,hown,_,hlt,_⟩:=h.m;obtain ⟨v,zs,h1,_⟩:=ic_ hown hn hr;have e:=nx_ (hr0.symm.trans (h1 w rfl));subst e;exact ⟨v0,fun W hW=>⟨h1 W (hW.block mb oq_),(hv0.below hW hb).ints⟩⟩
theorem hu_.below {g:Int} (h:hu_ base w h1 c1 h2 c2 qa qb st xv yv g mb) (hb:Below base w W):hu_ base W h1 c1 h2 c2 qa qb st xv yv g mb:=
 ⟨fun W' h'=>h.a W' (hb.trans h'),fun W' h'=>h.b W' (hb.trans h'),fun W' h'=>h.x W' (hb.trans h'),fun W' h'=>h.y W' (hb.trans h'),fun r hr=>let ⟨v,hv⟩:=h.m r hr;⟨v,fun W' h'=>hv W' (hb.trans h')⟩⟩
theorem hu_.at {g:Int} (h:hu_ base w h1 c1 h2 c2 qa qb st xv yv g mb) (hb:base≤w.heap.size):ej_ w h1 c1 h2 c2 qa qb st xv yv g mb:=
 ⟨h.a w (Below.refl _ _),h.b w (Below.refl _ _),h.x w (Below.refl _ _),h.y w (Below.refl _ _),fun r hr=>let ⟨v,hv⟩:=h.m r hr;⟨v,fun W hW=>(hv W (hW.mono hb)).1,(hv w (Below.refl _ _)).2⟩⟩
theorem v2_ (h1 c1 h2 c2:Value) (qa qb:Per) (st:Int) (xv yv:Value) (g:Int) (mb base:Nat) (hv:Value) (l:List Int) (w:World) (hP:hu_ base w h1 c1 h2 c2 qa qb st xv yv g mb)
  (hg:g=(Int.gcd qa.period qb.period:Nat)) (ha:1≤qa.period) (ha1:qa.period≤4294967295) (hb:1≤qb.period) (hb1:qb.period≤4294967295) (hL:lcmI qa.period qb.period≤1099511627776) (hs0:0≤st) (hs1:st≤562949953421312)
  (hx:Rise 0 qa.period (a0_ (cycL qa st))) (hy:Rise 0 qb.period (a0_ (cycL qb st))) (hown:OwnI w base hv l) (hbase:base≤w.heap.size)
  (hlen:l.length+(c1_ (a0_ (cycL qa st)) (a0_ (cycL qb st)) qa.period qb.period st).length≤4398046511104) :
  Calls Tryz.prog 150 #[em_ h1 c1 h2 c2 qa qb st xv yv g mb,hv] w (wk_ base (l ++ c1_ (a0_ (cycL qa st)) (a0_ (cycL qb st)) qa.period qb.period st) w):=by
 have hP0:=hP.at hbase;obtain ⟨⟨xa,xc,rfl,_⟩,hxl,_⟩:=hP0.x;obtain ⟨ya,yc,rfl⟩:∃ a c,yv=.slice a (a0_ (cycL qb st)).length c:=by obtain ⟨⟨a,c,e,_⟩,_⟩:=hP0.y;exact ⟨a,c,e⟩
 obtain ⟨a1,k1,a2,k2,rfl,rfl⟩:=hP0.a.inn.form;obtain ⟨a3,k3,a4,k4,rfl,rfl⟩:=hP0.b.inn.form;have HP:=hq_ hP;have hg1:=bn_ (b:=qb.period) ha;have HG:=hq_ hg;rw [<- hg] at hg1;have HX:=hq_ hx;have HY:=hq_ hy;have HM:=fun k=>ug_ (xs:=a0_ (cycL qa st)) (ys:=a0_ (cycL qb st)) (a:=qa.period) (b:=qb.period) (st:=st) k;have HMS:=fun k=>r6_ (xs:=a0_ (cycL qa st)) (ys:=a0_ (cycL qb st)) (a:=qa.period) (b:=qb.period) (st:=st) (k:=k);rw [<- hg] at HMS;have HMH:=hq_ HM;have HMSH:=hq_ HMS;obtain ⟨M,hM⟩:∃ M:Nat->List Int,M=fun k=>c1_ ((a0_ (cycL qa st)).take k) (a0_ (cycL qb st)) qa.period qb.period st:=⟨_,rfl⟩;have HMM:=hq_ hM;have HOWN:=hq_ hown;have hMe:M (a0_ (cycL qa st)).length=c1_ (a0_ (cycL qa st)) (a0_ (cycL qb st)) qa.period qb.period st:=by rw [hM];simp only [List.take_length]
 rw [<- hMe];rw [<- hMe] at hlen HMH;clear hP hP0 hg hx hy HM HMS hM hown hMe;obtain ⟨hva,hvc,rfl⟩:=HOWN.out.form
 go_enter Tryz.func150,Tryz.ntmps150
 go_wp2_with fail
 generalize hW0:w.alloc _=W0;have hE:Below base w W0:=by rw [<- hW0];exact (Below.refl _ _).alloc hbase _
 have hbx:Bxx W0 w.heap.size #[.slice a1 qa.head.length k1,.int .i64 qa.frm,.int .i64 qa.period,.slice a2 qa.cycle.length k2,.slice a3 qb.head.length k3,.int .i64 qb.frm,.int .i64 qb.period,.slice a4 qb.cycle.length k4,.int .i64 st,.slice xa (a0_ (cycL qa st)).length xc,.slice ya (a0_ (cycL qb st)).length yc,.int .i64 g,.map (some mb)] 139:=by rw [<- hW0];exact Bxx.new _ _ _
 have hown0:OwnI W0 base (.slice hva l.length hvc) l:=by rw [<- hW0];exact HOWN.out.ext (Ea (Er _) _)
 have hob0:∀ k,(Value.slice hva l.length hvc).ownBlock=some k->k≠w.heap.size:=fun k hk=>by have:=(HOWN.out.lt k hk).2;omega
 have q9:=(hbx.cells 9).1;have HE:=hq_ hE;have HBX:=hq_ hbx;have HOW0:=hq_ hown0;have HOB0:=hq_ hob0;clear hW0 hbx hE hown0 hob0;go_wp2_with fail
 go_loopw [15,1] (fun i h wr=>∃ k:Nat,k≤(a0_ (cycL qa st)).length∧i=.int .i64 k∧OwnI wr base h (l ++ M k)∧Bxx wr w.heap.size #[.slice a1 qa.head.length k1,.int .i64 qa.frm,.int .i64 qa.period,.slice a2 qa.cycle.length k2,.slice a3 qb.head.length k3,.int .i64 qb.frm,.int .i64 qb.period,.slice a4 qb.cycle.length k4,.int .i64 st,.slice xa (a0_ (cycL qa st)).length xc,.slice ya (a0_ (cycL qb st)).length yc,.int .i64 g,.map (some mb)] 139∧(∀ k,h.ownBlock=some k->k≠w.heap.size)∧Below base w wr) (fun i _ _=>(a0_ (cycL qa st)).length-(intOf i).toNat)
 case atStart=>exact ⟨0,oq_,rfl,by rw [HMM.out];simpa [c1_] using HOW0.out,HBX.out,HOB0.out,HE.out⟩
 case round=>
  obtain ⟨k,hk,rfl,hown,hbx,hob,hbw⟩:=hrel;have hszw:=hbw.size;have hbs:w.heap.size<wr.heap.size:=hbx.lt
  by_cases hlt:k<(a0_ (cycL qa st)).length
  ·have q11:=(hbx.cells 11).1;have q12:=(hbx.cells 12).1;obtain ⟨⟨a8,c8,he8,_,_,h38⟩,_,_⟩:=HP.out.x wr hbw;injection he8 with he1 he2 he3
   subst he1;subst he3;rcases h38 with h38|⟨b8,f8,rfl,hcell⟩
   ·rw [h38] at hlt;simp at hlt
   have hcl:=hcell k hlt;have hxm:=ah_ hlt;have hxI:=HX.out.2 _ hxm;have hsu:=HMSH.out k hlt;have hle:=HMH.out (k+1);have hkI:(k:Int)<(a0_ (cycL qa st)).length:=oq_;generalize hxx:(a0_ (cycL qa st)).getD k 0=x at *;have hm0:=Int.emod_nonneg x (show g≠0 by omega);have hm1:=Int.emod_lt_of_pos x (show 0<g by omega);obtain ⟨v,hvm⟩:=HP.out.m (x % g) ⟨oq_,oq_⟩;have hgm:∀ y∈grp (a0_ (cycL qb st)) g (x % g),y∈a0_ (cycL qb st)∧y % g=x % g:=fun y hy=>by simpa [grp] using hy
   have hsu2:M (k+1)=M k ++ (grp (a0_ (cycL qb st)) g (x % g)).map fun y=>st+bg_ x qa.period y qb.period:=by rw [HMM.out];exact hsu
   obtain ⟨zs,hzs⟩:∃ zs,zs=grp (a0_ (cycL qb st)) g (x % g):=⟨_,rfl⟩;rw [<- hzs] at hvm hgm hsu2;have hMle:(M (k+1)).length≤(M (a0_ (cycL qa st)).length).length:=by rw [HMM.out] at hle ⊢;exact hle
   rw [hsu2,List.length_append,List.length_map] at hMle;obtain ⟨va,vc,rfl⟩:∃ a c,v=.slice a zs.length c:=by obtain ⟨_,⟨⟨a,c,e,_⟩,_⟩⟩:=hvm w (Below.refl _ _);exact ⟨a,c,e⟩
   obtain ⟨wo,hwo⟩:∃ wo:World,wo=wr:=⟨_,rfl⟩;rw [<- hwo] at hown hbx hbw hbs hszw hcl hcell q11 q12 ⊢;have hzl:zs.length≤17592186044416:=(hvm w (Below.refl _ _)).2.len;have hL2:∀ nq,(Instr.lookup 137 (.map (some mb)) (.int .i64 (x % g)) false).run Tryz.prog (wo.drewN nq)=.ok (.slice va zs.length vc) (wo.drewN nq):=fun nq=>(hvm _ (Below.drewN hbw nq)).1;obtain ⟨L8,hL8⟩:∃ L8,L8=l ++ M k:=⟨_,rfl⟩;rw [<- hL8] at hown;obtain ⟨hua,huc,rfl⟩:=hown.form;have HL8:=hq_ hL8;have HOWNo:=hq_ hown;have HBXo:=hq_ hbx;have HBWo:=hq_ hbw;have HOBo:=hq_ hob;have HVM:=hq_ hvm;have HSU2:=hq_ hsu2;have HGM:=hq_ hgm;clear hown hbx hbw hob hvm hgm hsu2 hcell hsu hle hwo hzs hL8;go_wp2_with fail
   go_quiet (fail)
   go_wp2_with fail
   go_loopw [27,1] (fun i h wr=>∃ j:Nat,j≤zs.length∧i=.int .i64 j∧OwnI wr base h (L8 ++ (zs.take j).map fun y=>st+bg_ x qa.period y qb.period)∧Bxx wr w.heap.size #[.slice a1 qa.head.length k1,.int .i64 qa.frm,.int .i64 qa.period,.slice a2 qa.cycle.length k2,.slice a3 qb.head.length k3,.int .i64 qb.frm,.int .i64 qb.period,.slice a4 qb.cycle.length k4,.int .i64 st,.slice (some ⟨b8,f8,none⟩) (a0_ (cycL qa st)).length xc,.slice ya (a0_ (cycL qb st)).length yc,.int .i64 g,.map (some mb)] 139∧(∀ k,h.ownBlock=some k->k≠w.heap.size)∧Below base w wr) (fun i _ _=>zs.length-(intOf i).toNat)
   case atStart=>exact ⟨0,oq_,rfl,by rw [List.take_zero,List.map_nil,List.append_nil];exact HOWNo.out.ext (En (Er _) _),HBXo.out.below (En (Er _) _),HOBo.out,Below.drewN HBWo.out _⟩
   case round=>
    obtain ⟨j,hj,rfl,hown,hbx,hob,hbw⟩:=hrel;have hszr:=hbw.size;have hbsr:w.heap.size<wr.heap.size:=hbx.lt
    by_cases hlj:j<zs.length
    ·have r2:=(hbx.cells 2).1;have r6:=(hbx.cells 6).1;have r8:=(hbx.cells 8).1;obtain ⟨_,⟨⟨a9,c9,he9,_,_,h39⟩,_,_⟩⟩:=HVM.out wr hbw;injection he9 with he1 he2 he3
     subst he1;subst he3;rcases h39 with h39|⟨b9,f9,rfl,hcell9⟩
     ·rw [h39] at hlj;simp at hlj
     have hcl9:=hcell9 j hlj;have hym:=HGM.out _ (ah_ hlj);have hyI:=HY.out.2 _ hym.1;have hjI:(j:Int)<zs.length:=oq_;have htk:(zs.take (j+1)).map (fun y=>st+bg_ x qa.period y qb.period)=(zs.take j).map (fun y=>st+bg_ x qa.period y qb.period) ++ [st+bg_ x qa.period (zs.getD j 0) qb.period]:=by
      rw [mm_ _ hlj,List.getD_eq_getElem?_getD,List.getElem?_eq_getElem hlj];rfl
     generalize hyy:zs.getD j 0=y at *;have hsol:=eg_ (x:=x) (a:=qa.period) (y:=y) (b:=qb.period) ha hb (by rw [<- HG.out];exact hym.2.symm);have hs5:0≤bg_ x qa.period y qb.period∧bg_ x qa.period y qb.period≤1099511627776:=⟨hsol.1,by have:=hsol.2.1;omega⟩;have hdiv:(y % qb.period-x % qa.period) % (Int.gcd qa.period qb.period:Nat)=0:=by
      rw [Int.emod_eq_of_lt hyI.1 hyI.2,Int.emod_eq_of_lt hxI.1 hxI.2,<- HG.out];exact Int.emod_eq_emod_iff_emod_sub_eq_zero.1 hym.2
     obtain ⟨sv,hsv⟩:∃ sv,sv=bg_ x qa.period y qb.period:=⟨_,rfl⟩;rw [<- hsv] at htk hs5;have HSV:=hq_ hsv;have HDIV:=hq_ hdiv;have HTK:=hq_ htk;have hlen9:(L8 ++ (zs.take j).map (fun y=>st+bg_ x qa.period y qb.period)).length+1≤17592186044416:=by
      rw [HL8.out];simp only [List.length_append,List.length_map,List.length_take];omega
     obtain ⟨L9,hL9⟩:∃ L9,L9=L8 ++ (zs.take j).map (fun y=>st+bg_ x qa.period y qb.period):=⟨_,rfl⟩;rw [<- hL9] at hown hlen9;obtain ⟨h9a,h9c,rfl⟩:=hown.form;have HL9:=hq_ hL9;have HOWN9:=hq_ hown;have HBX9:=hq_ hbx;have HBW9:=hq_ hbw;have HOB9:=hq_ hob;clear hown hbx hbw hob htk hdiv hsv hsol hcell9 hyy hym hL9;go_wp2_with (first|(go_at_call 178;refine (tf_ x qa.period y qb.period _ ⟨oq_,oq_⟩ ⟨oq_,oq_⟩ ha ha1 hb hb1 hL HDIV.out).mono ?_;rintro e w' ⟨he,nq,rfl⟩;rw [<- HSV.out] at he;subst he)|(at_builtin;refine nr_ rq_ _ _ rq_ base (.slice h9a L9.length h9c) L9 (st+sv) rq_ (HOWN9.out.ext (Ea (En (Er _) _) _)) _ _ rq_ ((Bxx.new (wr.drewN nq) #[.int .i64 (st+sv)] 3).cells 0).1 ⟨oq_,oq_⟩ hlen9 (by rw [World.size_alloc,af_];omega) ?_;intro gg cap w5 hown5 hgrow5 hbel5 hloc5))
     go_roundw
     case rel=>
      refine ⟨j+1,oq_,by go_num,?_,?_,?_,?_⟩
      ·rw [HTK.out,<- List.append_assoc,<- HL9.out];exact hown5
      ·refine (hgrow5.block _ (by rw [World.size_alloc,af_];omega) (fun e=>HOB9.out _ e.symm rfl)).trans ((HBX9.out.below (En (Er _) nq)).alloc _)
      ·intro k5 hk5;obtain rfl:gg=k5:=by simpa [Value.ownBlock] using hk5
       rcases hloc5 with h5|h5
       ·exact HOB9.out _ h5
       ·rw [World.size_alloc,af_] at h5;omega
      ·exact ((Below.drewN HBW9.out nq).alloc (by rw [af_];omega) _).trans hbel5
     case measure=>simp [intOf];omega
    ·obtain rfl:j=zs.length:=oq_;have HOWN9:=hq_ hown;have HBX9:=hq_ hbx;have HBW9:=hq_ hbw;have HOB9:=hq_ hob;clear hown hbx hbw hob;go_wp2_with fail
     go_roundw
     case rel=>
      refine ⟨k+1,oq_,by go_num,?_,HBX9.out,HOB9.out,HBW9.out⟩;have:=HOWN9.out;rw [List.take_length] at this;rw [HSU2.out,<- List.append_assoc,<- HL8.out];exact this
     case measure=>simp [intOf];omega
  ·obtain rfl:k=(a0_ (cycL qa st)).length:=oq_;have HOWN2:=hq_ hown;obtain ⟨hua,huc,rfl⟩:=hown.form;have HBW:=hq_ hbw;clear hown hob hbx hbw;go_wp2_with fail
   go_ret;exact ⟨_,rfl,HOWN2.out,HBW.out⟩
theorem nw_ {A B:Per} (hA:A.WF) (hf:A.frm=st):A.head.filter (memB B)=sel (fun n=>A.mem n∧B.mem n) 0 st:=by
 refine (hA.head.filter _).ext (ad_ (Int.le_refl _)) fun x=>?_;rw [List.mem_filter,ae_ (Int.le_refl _),hA.head_mem,hf];constructor
 ·rintro ⟨⟨h1,h2,h3⟩,h4⟩;exact ⟨h1,h2,h3,(gh_ h1).1 h4⟩
 ·rintro ⟨h1,h2,h3,h4⟩;exact ⟨⟨h1,h2,h3⟩,(gh_ h1).2 h4⟩
theorem g8_ (p:Int->Bool) (h:k<l.length):(l.take (k+1)).filter p=(l.take k).filter p ++ (if p (l.getD k 0)=true then [l.getD k 0] else []):=by
 rw [List.take_succ_eq_append_getElem h,List.filter_append,List.getD_eq_getElem?_getD,List.getElem?_eq_getElem h]
 congr 1
 by_cases hp:p l[k]=true <;> simp [hp]
theorem Bxx.set4 {b:Nat} {x y z u x' y' z' u':Value} {t:TypeId} (h:Bxx W b #[x,y,z,u] t) :
  Bxx ((((W.setCell ⟨b,0,none⟩ x').setCell ⟨b,1,none⟩ y').setCell ⟨b,2,none⟩ z').setCell ⟨b,3,none⟩ u') b #[x',y',z',u'] t:=dg_ h
theorem Bxx.drewB {b:Nat} {c:Array Value} {t:TypeId} (h:Bxx W b c t):Bxx W.drew b c t:=h
def nn_ (l:List Int) (w:World) (e:Ending) (w':World):Prop:=∃ v,e=.returned v∧OwnI w' w.heap.size v l∧Below w.heap.size w w'
theorem tx_ (h1 c1 h2 c2:Value) (qa qb:Per) (st:Int) (xv yv:Value) (g:Int) (mb:Nat) (w:World) (hP:ej_ w h1 c1 h2 c2 qa qb st xv yv g mb) (hwa:qa.WF) (hwb:qb.WF) (hst:st=max qa.frm qb.frm)
  (f1:qa.frm≤1125899906842624) (f2:qb.frm≤1125899906842624) (t1:qa.period≤1125899906842624) (t2:qb.period≤1125899906842624) :
  Calls Tryz.prog 148 #[em_ h1 c1 h2 c2 qa qb st xv yv g mb] w (nn_ (sel (fun n=>qa.mem n∧qb.mem n) 0 st) w):=by
 obtain ⟨xa,xc,rfl⟩:∃ a c,xv=.slice a (a0_ (cycL qa st)).length c:=by obtain ⟨⟨a,c,e,_⟩,_⟩:=hP.x;exact ⟨a,c,e⟩
 obtain ⟨ya,yc,rfl⟩:∃ a c,yv=.slice a (a0_ (cycL qb st)).length c:=by obtain ⟨⟨a,c,e,_⟩,_⟩:=hP.y;exact ⟨a,c,e⟩
 obtain ⟨a1,k1,a2,k2,rfl,rfl⟩:=hP.a.inn.form;obtain ⟨a3,k3,a4,k4,rfl,rfl⟩:=hP.b.inn.form;have HP:=hq_ hP;have HWA:=hq_ hwa;have HWB:=hq_ hwb;have HST:=hq_ hst;clear hP hwa hwb hst
 go_enter Tryz.func148,Tryz.ntmps148
 go_wp2_with fail
 generalize hW0:w.alloc _=W0;have hE:Below w.heap.size w W0:=by rw [<- hW0];exact xE
 have hbx:Bxx W0 w.heap.size #[.slice a1 qa.head.length k1,.int .i64 qa.frm,.int .i64 qa.period,.slice a2 qa.cycle.length k2,.slice a3 qb.head.length k3,.int .i64 qb.frm,.int .i64 qb.period,.slice a4 qb.cycle.length k4,.int .i64 st,.slice xa (a0_ (cycL qa st)).length xc,.slice ya (a0_ (cycL qb st)).length yc,.int .i64 g,.map (some mb)] 139:=by rw [<- hW0];exact Bxx.new _ _ _
 clear hW0;have c0:W0.cell? ⟨w.heap.size,0,none⟩=some (.slice a1 qa.head.length k1):=(hbx.cells 0).1;have c1:W0.cell? ⟨w.heap.size,1,none⟩=some (.int .i64 qa.frm):=(hbx.cells 1).1;have c2:W0.cell? ⟨w.heap.size,2,none⟩=some (.int .i64 qa.period):=(hbx.cells 2).1;have c3:W0.cell? ⟨w.heap.size,3,none⟩=some (.slice a2 qa.cycle.length k2):=(hbx.cells 3).1;have c4:W0.cell? ⟨w.heap.size,4,none⟩=some (.slice a3 qb.head.length k3):=(hbx.cells 4).1;have c5:W0.cell? ⟨w.heap.size,5,none⟩=some (.int .i64 qb.frm):=(hbx.cells 5).1;have c6:W0.cell? ⟨w.heap.size,6,none⟩=some (.int .i64 qb.period):=(hbx.cells 6).1;have c7:W0.cell? ⟨w.heap.size,7,none⟩=some (.slice a4 qb.cycle.length k4):=(hbx.cells 7).1;have hz0:=hbx.lt;refine Code.wp_mono (Q:=fun e a' W'=>e=.normal∧∃ (b3 b4:Nat) (u8 u9 u10 u11:Value),a'=⟨#[em_ (.slice a1 qa.head.length k1) (.slice a2 qa.cycle.length k2) (.slice a3 qb.head.length k3) (.slice a4 qb.cycle.length k4) qa qb st (.slice xa (a0_ (cycL qa st)).length xc) (.slice ya (a0_ (cycL qb st)).length yc) g mb,.pointer (some ⟨w.heap.size,0,none⟩),.slice none 0 0,.pointer (some ⟨b3,0,none⟩),.pointer (some ⟨b4,0,none⟩),undef,undef,undef,u8,u9,u10,u11,undef,undef,undef,undef,undef,undef,undef,undef,undef,undef,undef,undef,undef,undef,undef,undef,undef,undef,undef,undef,undef,undef,undef],[]⟩∧Bxx W' b3 #[.slice a1 qa.head.length k1,.int .i64 qa.frm,.int .i64 qa.period,.slice a2 qa.cycle.length k2] 39∧Bxx W' b4 #[.slice a3 qb.head.length k3,.int .i64 qb.frm,.int .i64 qb.period,.slice a4 qb.cycle.length k4] 39∧Below W0.heap.size W0 W'∧W0.heap.size≤b3∧W0.heap.size≤b4∧b3≠b4) ?imp ?reg
 case reg=>
  go_region_held3 (fun w'=>w'.cell? ⟨w.heap.size,0,none⟩=some (.slice a1 qa.head.length k1)∧w'.cell? ⟨w.heap.size,1,none⟩=some (.int .i64 qa.frm)∧w'.cell? ⟨w.heap.size,2,none⟩=some (.int .i64 qa.period)∧w'.cell? ⟨w.heap.size,3,none⟩=some (.slice a2 qa.cycle.length k2)∧w'.cell? ⟨w.heap.size,4,none⟩=some (.slice a3 qb.head.length k3)∧w'.cell? ⟨w.heap.size,5,none⟩=some (.int .i64 qb.frm)∧w'.cell? ⟨w.heap.size,6,none⟩=some (.int .i64 qb.period)∧w'.cell? ⟨w.heap.size,7,none⟩=some (.slice a4 qb.cycle.length k4)) ((go_split_ands;repeat' (with_reducible first|assumption|refine bd_ ?_ ?_ _|refine ag_ ?_ _|refine dm_ ?_|exact Ext.cell (by assumption) (by assumption)|apply And.intro|(exact Below.cell' (by assumption) (by assumption) (by first|(simp;done)|(simp;omega)|omega))|(refine Below.cell' (by assumption) ?_ (by first|(simp;done)|(simp;omega)|omega))|omega|(simp;done)|(simp;omega)))) (fail)
  all_goals (refine ⟨rfl,_,_,_,_,_,_,rfl,?_,?_,by exact xE,sq_,sq_,sq_⟩ <;> (repeat' (first|exact Bxx.at sq_|refine Bxx.alloc ?_ _|refine Bxx.drewB ?_|refine dg_ ?_|refine Bxx.setNe ?_ _ sq_)))
 case imp=>
  rintro e a' W2 ⟨rfl,b3,b4,u8,u9,u10,u11,rfl,hx3,hx4,hE1,z3,z4,hne⟩;have hE2:Below w.heap.size w W2:=by exact xE
  have hbx:=hbx.below hE1;have hne':=hne.symm;clear c0 c1 c2 c3 c4 c5 c6 c7 hE1;have hc31:W2.cell? ⟨b3,1,none⟩=some (.int .i64 qa.frm):=(hx3.cells 1).1;have hc8:W2.cell? ⟨w.heap.size,8,none⟩=some (.int .i64 st):=(hbx.cells 8).1
  by_cases hcase:qa.frm=st
  ·have hb:(qa.frm != st)=false:=by simp [hcase]
   go_upto_region 4 with (fail)
   have hsel:=nw_ (B:=qb) HWA.out hcase;have HSEL:=hq_ hsel;have y0:W2.cell? ⟨b3,0,none⟩=some (.slice a1 qa.head.length k1):=(hx3.cells 0).1;have H4H:=hq_ hx4;have hl9:=(HP.out.a).hd.len;have hszW:=hE2.size;clear hx3 hx4 hsel;go_wp2_with fail
   go_loopw [22,5] (fun i o wr=>∃ k:Nat,k≤qa.head.length∧i=.int .i64 k∧OwnI wr W2.heap.size o ((qa.head.take k).filter (memB qb))∧Below W2.heap.size W2 wr) (fun i _ _=>qa.head.length-(intOf i).toNat)
   case atStart=>exact ⟨0,oq_,rfl,OwnI.nil _ _,Below.refl _ _⟩
   case round=>
    obtain ⟨k,hk,rfl,hown,hbw⟩:=hrel;have hEr:Below w.heap.size w wr:=Et hE2 hbw;have hszr:=hbw.size
    by_cases hlt:k<qa.head.length
    ·have hb4:=H4H.out.below hbw;obtain ⟨⟨a8,c8,he8,_,_,h38⟩,_,hrng⟩:=(HP.out.a.ext hEr).hd;injection he8 with he1 he2 he3
     subst he1;subst he3;rcases h38 with h38|⟨b8,f8,rfl,hcell⟩
     ·rw [h38] at hlt;simp at hlt
     have hcl:=hcell k hlt;have hyb:=(HWA.out.head.2 _ (ah_ hlt));have hsu:=g8_ (memB qb) hlt;have hkI:(k:Int)<qa.head.length:=oq_;have hll:=List.length_filter_le (memB qb) (qa.head.take k);rw [List.length_take] at hll;obtain ⟨y,hyy⟩:∃ y,y=qa.head.getD k 0:=⟨_,rfl⟩;rw [<- hyy] at hcl hyb hsu;obtain ⟨L,hL⟩:∃ L,L=(qa.head.take k).filter (memB qb):=⟨_,rfl⟩;rw [<- hL] at hown hll hsu;obtain ⟨oa,oc,rfl⟩:=hown.form;have z0:wr.cell? ⟨b4,0,none⟩=some (.slice a3 qb.head.length k3):=(hb4.cells 0).1;have z1:wr.cell? ⟨b4,1,none⟩=some (.int .i64 qb.frm):=(hb4.cells 1).1;have z2:wr.cell? ⟨b4,2,none⟩=some (.int .i64 qb.period):=(hb4.cells 2).1;have z3:wr.cell? ⟨b4,3,none⟩=some (.slice a4 qb.cycle.length k4):=(hb4.cells 3).1;have HOWN:=hq_ hown;have HBW:=hq_ hbw;have HSU:=hq_ hsu;clear hown hbw hb4 hsu hyy hL hcell;cases hm:memB qb y with
     | true=>
      have HM:=hq_ hm;clear hm;go_wp2_with (first|(go_at_call 86;refine (ds_ _ _ qb y _ (HP.out.b.ext hEr) HWB.out oq_ oq_ oq_ oq_).mono ?_;rintro e w5 ⟨he,hb5⟩;rw [HM.out] at he;subst he;have hown5:=HOWN.out.ext hb5;have hsz5:=hb5.size)|(at_builtin;refine aj_ rq_ _ _ rq_ W2.heap.size (.slice oa L.length oc) L y rq_ (hown5.ext (Ea (Er _) _)) _ _ rq_ sq_ ⟨oq_,oq_⟩ oq_ tq_ ?_;intro gg cap w6 hown6 hgrow6 hbel6))
      go_roundw
      case rel=>
       refine ⟨k+1,oq_,by go_num,?_,(((HBW.out).trans (hb5.mono oq_)).alloc oq_ _).trans hbel6⟩;rw [HSU.out,HM.out,if_pos rfl];exact hown6
      case measure=>simp [intOf];omega
     | false=>
      have HM:=hq_ hm;clear hm;go_wp2_with (go_at_call 86;refine (ds_ _ _ qb y _ (HP.out.b.ext hEr) HWB.out oq_ oq_ oq_ oq_).mono ?_;rintro e w5 ⟨he,hb5⟩;rw [HM.out] at he;subst he;have hown5:=HOWN.out.ext hb5;have hsz5:=hb5.size)
      go_roundw
      case rel=>
       refine ⟨k+1,oq_,by go_num,?_,(HBW.out).trans (hb5.mono oq_)⟩;rw [HSU.out,HM.out,if_neg sq_,List.append_nil];exact hown5
      case measure=>simp [intOf];omega
    ·obtain rfl:k=qa.head.length:=oq_;rw [List.take_length,HSEL.out] at hown;obtain ⟨oa,oc,rfl⟩:=hown.form;have HOWN:=hq_ hown;clear hown;go_wp2_with fail
     go_ret;exact ⟨_,rfl,HOWN.out.mono oq_,hEr⟩
  ·have hb:(qa.frm != st)=true:=by simp [hcase]
   have w0:W2.cell? ⟨b3,0,none⟩=some (.slice a1 qa.head.length k1):=(hx3.cells 0).1;have w1:W2.cell? ⟨b3,1,none⟩=some (.int .i64 qa.frm):=(hx3.cells 1).1;have w2:W2.cell? ⟨b3,2,none⟩=some (.int .i64 qa.period):=(hx3.cells 2).1;have w3:W2.cell? ⟨b3,3,none⟩=some (.slice a2 qa.cycle.length k2):=(hx3.cells 3).1;have x0:W2.cell? ⟨b4,0,none⟩=some (.slice a3 qb.head.length k3):=(hx4.cells 0).1;have x1:W2.cell? ⟨b4,1,none⟩=some (.int .i64 qb.frm):=(hx4.cells 1).1;have x2:W2.cell? ⟨b4,2,none⟩=some (.int .i64 qb.period):=(hx4.cells 2).1;have x3:W2.cell? ⟨b4,3,none⟩=some (.slice a4 qb.cycle.length k4):=(hx4.cells 3).1;have hw:=fun i=>(hx3.cells i).2;have hx:=fun i=>(hx4.cells i).2;have HX3:=hq_ hx3;have HX4:=hq_ hx4;have w3f0:=hw 0;have w3f1:=hw 1;have w3f2:=hw 2;have w3f3:=hw 3;have x3f0:=hx 0;have x3f1:=hx 1;have x3f2:=hx 2;have x3f3:=hx 3;clear hw hx hx3 hx4 hc31;go_upto_region 4 with (fail)
   refine al_ (F:=fun W3=>Bxx W3 b3 #[.slice a3 qb.head.length k3,.int .i64 qb.frm,.int .i64 qb.period,.slice a4 qb.cycle.length k4] 39∧Bxx W3 b4 #[.slice a1 qa.head.length k1,.int .i64 qa.frm,.int .i64 qa.period,.slice a2 qa.cycle.length k2] 39∧Below w.heap.size w W3)
    ⟨by (repeat' (with_reducible first|exact HX3.out.set4|refine Bxx.setNe ?_ _ oq_)),by (apply Bxx.set4;repeat' (with_reducible first|exact HX4.out|refine Bxx.setNe ?_ _ oq_)),xE⟩ ?_
   clear hE2 hbx hc8 w0 w1 w2 w3 x0 x1 x2 x3 w3f0 w3f1 w3f2 w3f3 x3f0 x3f1 x3f2 x3f3;rintro W3 ⟨hx3,hx4,hE2⟩;have hfb:qb.frm=st:=by have:=HST.out;omega
   have hsel:qb.head.filter (memB qa)=sel (fun n=>qa.mem n∧qb.mem n) 0 st:=(nw_ HWB.out hfb).trans (eb_ (Int.le_refl _) fun n=>And.comm);clear hfb;have HSEL:=hq_ hsel;have y0:W3.cell? ⟨b3,0,none⟩=some (.slice a3 qb.head.length k3):=(hx3.cells 0).1;have H4H:=hq_ hx4;have hl9:=(HP.out.b).hd.len;have hszW:=hE2.size;clear hx3 hx4 hsel;go_wp2_with fail
   go_loopw [22,5] (fun i o wr=>∃ k:Nat,k≤qb.head.length∧i=.int .i64 k∧OwnI wr W3.heap.size o ((qb.head.take k).filter (memB qa))∧Below W3.heap.size W3 wr) (fun i _ _=>qb.head.length-(intOf i).toNat)
   case atStart=>exact ⟨0,oq_,rfl,OwnI.nil _ _,Below.refl _ _⟩
   case round=>
    obtain ⟨k,hk,rfl,hown,hbw⟩:=hrel;have hEr:Below w.heap.size w wr:=Et hE2 hbw;have hszr:=hbw.size
    by_cases hlt:k<qb.head.length
    ·have hb4:=H4H.out.below hbw;obtain ⟨⟨a8,c8,he8,_,_,h38⟩,_,hrng⟩:=(HP.out.b.ext hEr).hd;injection he8 with he1 he2 he3
     subst he1;subst he3;rcases h38 with h38|⟨b8,f8,rfl,hcell⟩
     ·rw [h38] at hlt;simp at hlt
     have hcl:=hcell k hlt;have hyb:=(HWB.out.head.2 _ (ah_ hlt));have hsu:=g8_ (memB qa) hlt;have hkI:(k:Int)<qb.head.length:=oq_;have hll:=List.length_filter_le (memB qa) (qb.head.take k);rw [List.length_take] at hll;obtain ⟨y,hyy⟩:∃ y,y=qb.head.getD k 0:=⟨_,rfl⟩;rw [<- hyy] at hcl hyb hsu;obtain ⟨L,hL⟩:∃ L,L=(qb.head.take k).filter (memB qa):=⟨_,rfl⟩;rw [<- hL] at hown hll hsu;obtain ⟨oa,oc,rfl⟩:=hown.form;have z0:wr.cell? ⟨b4,0,none⟩=some (.slice a1 qa.head.length k1):=(hb4.cells 0).1;have z1:wr.cell? ⟨b4,1,none⟩=some (.int .i64 qa.frm):=(hb4.cells 1).1;have z2:wr.cell? ⟨b4,2,none⟩=some (.int .i64 qa.period):=(hb4.cells 2).1;have z3:wr.cell? ⟨b4,3,none⟩=some (.slice a2 qa.cycle.length k2):=(hb4.cells 3).1;have HOWN:=hq_ hown;have HBW:=hq_ hbw;have HSU:=hq_ hsu;clear hown hbw hb4 hsu hyy hL hcell;cases hm:memB qa y with
     | true=>
      have HM:=hq_ hm;clear hm;go_wp2_with (first|(go_at_call 86;refine (ds_ _ _ qa y _ (HP.out.a.ext hEr) HWA.out oq_ oq_ oq_ oq_).mono ?_;rintro e w5 ⟨he,hb5⟩;rw [HM.out] at he;subst he;have hown5:=HOWN.out.ext hb5;have hsz5:=hb5.size)|(at_builtin;refine aj_ rq_ _ _ rq_ W3.heap.size (.slice oa L.length oc) L y rq_ (hown5.ext (Ea (Er _) _)) _ _ rq_ sq_ ⟨oq_,oq_⟩ oq_ tq_ ?_;intro gg cap w6 hown6 hgrow6 hbel6))
      go_roundw
      case rel=>
       refine ⟨k+1,oq_,by go_num,?_,(((HBW.out).trans (hb5.mono oq_)).alloc oq_ _).trans hbel6⟩;rw [HSU.out,HM.out,if_pos rfl];exact hown6
      case measure=>simp [intOf];omega
     | false=>
      have HM:=hq_ hm;clear hm;go_wp2_with (go_at_call 86;refine (ds_ _ _ qa y _ (HP.out.a.ext hEr) HWA.out oq_ oq_ oq_ oq_).mono ?_;rintro e w5 ⟨he,hb5⟩;rw [HM.out] at he;subst he;have hown5:=HOWN.out.ext hb5;have hsz5:=hb5.size)
      go_roundw
      case rel=>
       refine ⟨k+1,oq_,by go_num,?_,(HBW.out).trans (hb5.mono oq_)⟩;rw [HSU.out,HM.out,if_neg sq_,List.append_nil];exact hown5
      case measure=>simp [intOf];omega
    ·obtain rfl:k=qb.head.length:=oq_;rw [List.take_length,HSEL.out] at hown;obtain ⟨oa,oc,rfl⟩:=hown.form;have HOWN:=hq_ hown;clear hown;go_wp2_with fail
     go_ret;exact ⟨_,rfl,HOWN.out.mono oq_,hEr⟩
def di_ (q:Per) (l:List Int) (n:Int):List Int:=if memB q n=true then l else l ++ [n]
def wi_ (base:Nat) (lv:Value) (l:List Int) (w:World) (e:Ending) (w':World):Prop:=∃ v,e=.returned v∧OwnI w' base v l∧w.grownBy w' lv.ownBlock
theorem k9_ (a1 a2 a3 a4:Option Addr) (k1 k2 k3 k4:Nat) (qa qb:Per) (st:Int) (xv yv:Value) (g:Int) (mb pb base:Nat) (lv:Value) (l:List Int) (n:Int) (w:World) (hbx:Bxx w pb #[.slice a1 qa.head.length k1,.int .i64 qa.frm,.int .i64 qa.period,.slice a2 qa.cycle.length k2,.slice a3 qb.head.length k3,.int .i64 qb.frm,.int .i64 qb.period,.slice a4 qb.cycle.length k4,.int .i64 st,xv,yv,.int .i64 g,.map (some mb)] 139)
  (hq:a8_ w (.slice a3 qb.head.length k3) (.slice a4 qb.cycle.length k4) qb) (hwf:qb.WF) (f1:qb.frm≤1125899906842624) (t1:qb.period≤1125899906842624) (h0:0≤n) (h1:n≤9007199254740992)
  (hown:OwnI w base lv l) (hbase:base≤w.heap.size) (hlen:l.length+1≤17592186044416) :
  Calls Tryz.prog 180 #[lv,.int .i64 n,.pointer (some ⟨pb,0,none⟩)] w (wi_ base lv (di_ qb l n) w):=by
 have c4:w.cell? ⟨pb,4,none⟩=some (.slice a3 qb.head.length k3):=(hbx.cells 4).1;have c5:w.cell? ⟨pb,5,none⟩=some (.int .i64 qb.frm):=(hbx.cells 5).1;have c6:w.cell? ⟨pb,6,none⟩=some (.int .i64 qb.period):=(hbx.cells 6).1;have c7:w.cell? ⟨pb,7,none⟩=some (.slice a4 qb.cycle.length k4):=(hbx.cells 7).1;obtain ⟨oa,oc,rfl⟩:=hown.form;have HOWN:=hq_ hown;have HW:=hq_ hwf;clear hown hwf hbx;cases hm:memB qb n with
 | true=>
  have hk:di_ qb l n=l:=by unfold di_;rw [if_pos hm]
  rw [hk];have HM:=hq_ hm;clear hm hk
  go_enter Tryz.func180,Tryz.ntmps180
  go_wp2_with (go_at_call 86;refine (ds_ _ _ qb n _ hq HW.out oq_ oq_ oq_ oq_).mono ?_;rintro e w5 ⟨he,hb5⟩;rw [HM.out] at he;subst he)
  go_ret;exact ⟨_,rfl,HOWN.out.ext hb5,World.grownBy.of_below hb5 _⟩
 | false=>
  have hk:di_ qb l n=l ++ [n]:=by unfold di_;rw [if_neg (by simp [hm])]
  rw [hk];have HM:=hq_ hm;clear hm hk
  go_enter Tryz.func180,Tryz.ntmps180
  go_wp2_with (first|(go_at_call 86;refine (ds_ _ _ qb n _ hq HW.out oq_ oq_ oq_ oq_).mono ?_;rintro e w5 ⟨he,hb5⟩;rw [HM.out] at he;subst he;have hown5:=HOWN.out.ext hb5;have hsz5:=hb5.size)|(at_builtin;refine aj_ rq_ _ _ rq_ base (.slice oa l.length oc) l n rq_ (hown5.ext (Ea (Er _) _)) _ _ rq_ sq_ ⟨oq_,oq_⟩ hlen tq_ ?_;intro gg cap w6 hown6 hgrow6 hbel6))
  go_ret;exact ⟨_,rfl,hown6,((World.grownBy.of_below hb5 _).trans (World.grownBy_alloc _ _ _)).trans hgrow6⟩
end Go.Proofs.YthjnojbeimchdaaGreat
namespace Go.Proofs.YthjnojbeimchdaaGreat
open Go.RowKit Go.Shelf Go.Maps Kal
attribute [local go_sem] Oper.semAt_some
def cg_ (q:Per) (l:List Int):List Int:=l.filter fun n=>!memB q n
theorem k8_ (q:Per) (l:List Int):(cg_ q l).length≤l.length:=List.length_filter_le _ _
theorem kl_ (q:Per) (l:List Int) (y:Int):cg_ q (l ++ [y])=di_ q (cg_ q l) y:=by
 unfold cg_ di_;rw [List.filter_append];cases h:memB q y <;> simp [h]
theorem Bxx.grown {b:Nat} {c:Array Value} {t:TypeId} (h:Bxx W b c t) (hg:W.grownBy W1 row) (hne:some b≠row):Bxx W1 b c t:=(hg.block b h.lt hne).trans h
theorem m7_ (q:Per) (A l:List Int) (y:Int):A ++ di_ q l y=di_ q (A ++ l) y:=by
 unfold di_;split <;> simp
theorem lj_ {L:Int} {m:Nat} (hx0:0≤x) (hx:x<a) (hL:L=R*a) (hm:m≤R):(x+m*a<L↔m<R)∧0≤(m:Int)*a∧(m:Int)*a≤L:=by
 have h1:(m:Int)*a≤(R:Int)*a:=Int.mul_le_mul_of_nonneg_right oq_ oq_;have h2:0≤(m:Int)*a:=Int.mul_nonneg oq_ oq_;refine ⟨⟨fun h=>?_,fun h=>?_⟩,h2,oq_⟩
 ·rcases Nat.lt_or_ge m R with h3|h3
  ·exact h3
  ·obtain rfl:m=R:=oq_;omega
 ·have h3:((m+1:Nat):Int)*a≤(R:Int)*a:=Int.mul_le_mul_of_nonneg_right oq_ oq_;push_cast at h3;rw [Int.add_mul] at h3;omega
def cc_ (q:Per) (st a x:Int) (m:Nat):List Int:=cg_ q ((upto m).map fun j=>st+(x+j*a))
theorem kr_ (q:Per) (st a x:Int) (m:Nat):cc_ q st a x (m+1)=di_ q (cc_ q st a x m) (st+(x+m*a)):=by
 unfold cc_;rw [<- kl_]
 congr 1
 unfold upto;rw [List.range_succ];simp
theorem kd_ (q:Per) (st a x:Int) (m:Nat):(cc_ q st a x m).length≤m:=by
 unfold cc_;refine Nat.le_trans (k8_ _ _) ?_;simp [upto]
noncomputable def eo_ (qa qb:Per) (st g:Int) (xs ys:List Int) (R k:Nat):List Int:=
 cg_ qb (sel qa.mem 0 st) ++ (xs.take k).flatMap fun x=>if e3_ ys g qb.period x=true then [] else cc_ qb st qa.period x R
theorem kj_ {g:Int} {xs:List Int} (h:k<xs.length):eo_ qa qb st g xs ys R (k+1)=eo_ qa qb st g xs ys R k ++ if e3_ ys g qb.period (xs.getD k 0)=true then [] else cc_ qb st qa.period (xs.getD k 0) R:=by
 unfold eo_;rw [List.take_succ_eq_append_getElem h,List.flatMap_append,List.getD_eq_getElem?_getD,List.getElem?_eq_getElem h];simp
theorem u6_ {g:Int} {xs:List Int} (h0:0≤st) (h:k≤xs.length):((eo_ qa qb st g xs ys R k).length:Int)≤st+k*R:=by
 induction k with
 | zero=>
  unfold eo_;have h1:=k8_ qb (sel qa.mem 0 st);have h2:=(ad_ (S:=qa.mem) (lo:=0) (hi:=st) (Int.le_refl _)).length_le h0;simp;omega
 | succ k ih=>
  have:=ih oq_;rw [kj_ oq_,List.length_append];have h3:(if e3_ ys g qb.period (xs.getD k 0)=true then [] else cc_ qb st qa.period (xs.getD k 0) R).length≤R:=by
   split
   ·simp
   ·exact kd_ _ _ _ _ _
  push_cast;rw [Int.add_mul];omega
theorem i0_ {D:Nat} {x:Option (List Deferred)} (h:W.heap[D]? = some (.deferred x)) (ho:OwnI W base v l) (hg:W.grownBy W1 v.ownBlock):W1.heap[D]? = some (.deferred x):=by
 refine (hg.block D (Array.getElem?_eq_some_iff.1 h).1 fun e=>?_).trans h;obtain ⟨o,h1,h2⟩:=ho.row_cells D e.symm;rw [h] at h1;cases h1;cases h2
structure WO (w:World) (pc:Array Value) (base:Nat) (v:Value) (l:List Int) (W:World):Prop where
 below:Below w.heap.size w W
 pbx:Bxx W w.heap.size pc 139
 kbx:Bxx W (w.heap.size+1) #[.func (.func 180) #[] #[.pointer (some ⟨w.heap.size,0,none⟩)]] 166
 obx:Bxx W (w.heap.size+2) #[v] 37
 own:OwnI W base v l
 sz:base≤W.heap.size
 hb:w.heap.size+3≤base
theorem WO.grow {pc:Array Value} (h:WO w pc base v l W) (hg:W.grownBy W' row)
  (hr:∀ r,row=some r->w.heap.size≤r∧((w.heap.size+3≤r∧r<base)∨∃ o:Obj,W.heap[r]? = some o∧o.isCells=false)):WO w pc base v l W':=by
 have key:∀ {b:Nat} {c:Array Value} {t:TypeId},Bxx W b c t->b<w.heap.size+3->Bxx W' b c t:=fun {b c t} hx hbo=>by
  refine (hg.block b hx.lt fun e=>?_).trans hx;obtain ⟨_,h1|⟨o,ho,hc⟩⟩:=hr b e.symm
  ·omega
  ·rw [show W.heap[b]? = _ from hx] at ho;cases ho;cases hc
 refine ⟨h.below.grown hg h.below.size (fun k e=>(hr k e).1),key h.pbx oq_,key h.kbx oq_,key h.obx oq_,h.own.kept hg ?_,Nat.le_trans h.sz hg.size,h.hb⟩;rcases hob:v.ownBlock with _|g
 ·exact .inl rfl
 ·refine .inr fun e=>?_;have hlt:=h.own.lt g hob;obtain ⟨o2,h2,h3⟩:=h.own.row_cells g hob;obtain ⟨_,h1|⟨o,ho,hc⟩⟩:=hr g e.symm
  ·omega
  ·rw [h2] at ho;cases ho;rw [hc] at h3;cases h3
theorem WO.step {pc:Array Value} {v':Value} {l':List Int} (h:WO w pc base v l W) (hg:W.grownBy W1 v.ownBlock) (ho:OwnI W1 base v' l'):WO w pc base v' l' (W1.setCell ⟨w.heap.size+2,0,none⟩ v'):=by
 have hbk:=h.hb;have key:∀ {b:Nat} {c:Array Value} {t:TypeId},Bxx W b c t->b<w.heap.size+3->Bxx W1 b c t:=fun {b c t} hx hbo=>by
  refine (hg.block b hx.lt fun e=>?_).trans hx;have:=(h.own.lt b e.symm).1;omega
 have hbel:Below w.heap.size w W1:=h.below.grown hg h.below.size fun k e=>by have:=(h.own.lt k e).1;omega
 refine ⟨hbel.setCell (p:=⟨w.heap.size+2,0,none⟩) sq_ _,(key h.pbx oq_).setNe _ oq_,(key h.kbx oq_).setNe _ oq_,a4_ 0 _ (key h.obx oq_),?_,by have:=h.sz;have:=hg.size;simp [World.setCell];omega,hbk⟩;exact ho.above ((a7_.refl _ W1).setCell tq_ _)
theorem pk_ (h1 c1 h2 c2:Value) (qa qb:Per) (st:Int) (xv yv:Value) (g:Int) (mb:Nat) (L:Int) (w:World) (hP:ej_ w h1 c1 h2 c2 qa qb st xv yv g mb) (hwa:qa.WF) (hwb:qb.WF) (hs1:qa.frm≤st) (hs2:st≤4398046511104) (R:Nat) (hLR:L=R*qa.period) (hL1:L≤1099511627776) (hx:Rise 0 qa.period (a0_ (cycL qa st))) (hg:1≤g) (hg1:g≤562949953421312)
  (f2:qb.frm≤1125899906842624) (t1:qa.period≤562949953421312) (t2:qb.period≤562949953421312) :
  Calls Tryz.prog 153 #[em_ h1 c1 h2 c2 qa qb st xv yv g mb,.int .i64 L] w (nn_ (eo_ qa qb st g (a0_ (cycL qa st)) (a0_ (cycL qb st)) R (a0_ (cycL qa st)).length) w):=by
 obtain ⟨xa,xc,rfl⟩:∃ a c,xv=.slice a (a0_ (cycL qa st)).length c:=by obtain ⟨⟨a,c,e,_⟩,_⟩:=hP.x;exact ⟨a,c,e⟩
 obtain ⟨ya,yc,rfl⟩:∃ a c,yv=.slice a (a0_ (cycL qb st)).length c:=by obtain ⟨⟨a,c,e,_⟩,_⟩:=hP.y;exact ⟨a,c,e⟩
 obtain ⟨a1,k1,a2,k2,rfl,rfl⟩:=hP.a.inn.form;obtain ⟨a3,k3,a4,k4,rfl,rfl⟩:=hP.b.inn.form;have HLR:=hq_ hLR;clear hLR;refine callsIn_wide (n:=0).1 ?_;refine callsIn_of_wp_marks Tryz.func153 rfl trivial ?_ rfl;simp only [Tryz.ntmps153,List.size_toArray,List.length_cons,List.length_nil,Nat.reduceAdd,Nat.reduceSub,Array.replicate_succ,Array.replicate_zero,List.push_toArray,List.append_toArray,List.nil_append,List.cons_append]
 gi_wp2_with (refine ⟨trivial,rfl,?_⟩;gi_at_call 84;refine (callsIn_wide.2 (o9_ _ _ qa 0 _ ⟨_,_,_,_,_,_,rfl,rfl⟩)).mono ?_;rintro e w' ⟨rfl,rfl⟩)
 generalize hW0:((((w.alloc _).alloc _).alloc _).alloc _).alloc _=W0;have hE:Below w.heap.size w W0:=by rw [<- hW0];exact xE
 have hsz:W0.heap.size=w.heap.size+5:=by rw [<- hW0];simp
 have hpb:Bxx W0 w.heap.size #[.slice a1 qa.head.length k1,.int .i64 qa.frm,.int .i64 qa.period,.slice a2 qa.cycle.length k2,.slice a3 qb.head.length k3,.int .i64 qb.frm,.int .i64 qb.period,.slice a4 qb.cycle.length k4,.int .i64 st,.slice xa (a0_ (cycL qa st)).length xc,.slice ya (a0_ (cycL qb st)).length yc,.int .i64 g,.map (some mb)] 139:=by rw [<- hW0];exact ((((Bxx.at rfl).alloc _).alloc _).alloc _).alloc _
 have hkb:Bxx W0 (w.heap.size+1) #[.func (.func 180) #[] #[.pointer (some ⟨w.heap.size,0,none⟩)]] 166:=by rw [<- hW0];exact (((Bxx.at sq_).alloc _).alloc _).alloc _
 have hob:Bxx W0 (w.heap.size+2) #[.slice none 0 0] 37:=by rw [<- hW0];exact ((Bxx.at sq_).alloc _).alloc _
 have hfb:Bxx W0 (w.heap.size+3) #[.slice a1 qa.head.length k1,.int .i64 qa.frm,.int .i64 qa.period,.slice a2 qa.cycle.length k2] 39:=by rw [<- hW0];exact (Bxx.at sq_).alloc _
 have hlb:Bxx W0 (w.heap.size+4) #[.int .i64 0] 3:=by rw [<- hW0];exact Bxx.at sq_
 have hz1:W0.heap.size≤w.heap.size+5:=oq_;have hz2:w.heap.size+5≤W0.heap.size:=oq_;have hpW:=hP.a.ext hE;have hin:=hP.a.inn;have hf0:=hwa.frm;have hp0:=hwa.per;have hp1:=hwb.per;obtain ⟨WL,hWL⟩:∃ WL:Nat->List Int,WL=eo_ qa qb st g (a0_ (cycL qa st)) (a0_ (cycL qb st)) R:=⟨_,rfl⟩;have hWL0:WL 0=cg_ qb (sel qa.mem 0 st):=by rw [hWL];simp [eo_]
 have HWLS:Hid (∀ k,k<(a0_ (cycL qa st)).length->WL (k+1)=WL k ++ if e3_ (a0_ (cycL qb st)) g qb.period ((a0_ (cycL qa st)).getD k 0)=true then [] else cc_ qb st qa.period ((a0_ (cycL qa st)).getD k 0) R):=hq_ (by rw [hWL];exact fun k hk=>kj_ hk);have HWLE:Hid (∀ k,k<(a0_ (cycL qa st)).length->(WL k).length+R≤8796093022208):=hq_ (fun k hk=>by
  have h1:=u6_ (qa:=qa) (qb:=qb) (g:=g) (ys:=a0_ (cycL qb st)) (R:=R) (k:=k) (xs:=a0_ (cycL qa st)) (show 0≤st by omega) oq_;rw [<- hWL] at h1;have h2:((k+1:Nat):Int)*R≤qa.period*R:=Int.mul_le_mul_of_nonneg_right (by have:=hx.length_le oq_;omega) oq_;rw [Int.mul_comm qa.period,<- HLR.out] at h2;push_cast at h2;rw [Int.add_mul] at h2;omega)
 have hWLe:WL (a0_ (cycL qa st)).length=eo_ qa qb st g (a0_ (cycL qa st)) (a0_ (cycL qb st)) R (a0_ (cycL qa st)).length:=by rw [hWL]
 have HWLe:=hq_ hWLe;have HX:=hq_ hx;have HWL0:=hq_ hWL0;clear hWL hWLe hx hWL0;have hST:WO w #[.slice a1 qa.head.length k1,.int .i64 qa.frm,.int .i64 qa.period,.slice a2 qa.cycle.length k2,.slice a3 qb.head.length k3,.int .i64 qb.frm,.int .i64 qb.period,.slice a4 qb.cycle.length k4,.int .i64 st,.slice xa (a0_ (cycL qa st)).length xc,.slice ya (a0_ (cycL qb st)).length yc,.int .i64 g,.map (some mb)] W0.heap.size (.slice none 0 0) (cg_ qb []) W0:=⟨hE,hpb,hkb,hob,OwnI.nil _ _,Nat.le_refl _,oq_⟩;have HST:=hq_ hST;have HP:=hq_ hP;have HWA:=hq_ hwa;have HWB:=hq_ hwb;clear hW0 hsz hST hpb hkb hob hP hwb;have garr:∀ (v:Value) (l:List Int),IntsIn w 0 w.heap.size v l->l≠[]->∀ b o n c',v=.slice (some ⟨b,o,none⟩) n c'->b<w.heap.size:=fun v l hi hl b o n c' he=>(hi.blk hl b (by rw [he];rfl)).2;simp only [Nat.add_assoc,Nat.reduceAdd];refine gx_ (x:=some (w.heap.size+4)) (gf:=127) (lb:=#[.pointer (some ⟨w.heap.size+3,0,none⟩),.pointer (some ⟨w.heap.size+4,0,none⟩)]) rfl (enters_of Tryz.func127 (by kernel_rfl) rfl)
  (od_ (.slice a1 qa.head.length k1) (.slice a2 qa.cycle.length k2) qa 0 (w.heap.size+3) (w.heap.size+4) W0 (fun k=>k<w.heap.size∨k=w.heap.size+3∨k=w.heap.size+4) hpW hwa oq_ oq_ oq_ oq_ hfb hlb (.inr (.inl rfl)) (.inr (.inr rfl))
   (fun hl b o n c' he=>.inl (garr _ _ hin.hd hl b o n c' he)) (fun hl b o n c' he=>⟨.inl (garr _ _ hin.cy hl b o n c' he),by have:=garr _ _ hin.cy hl b o n c' he;omega⟩) oq_)
  (fun h k=>h.trans k) (KpB.putObj (by intro k hk;omega)) (fun y=>rfl)
  (fun pre W'=>(∀ x∈pre,x<st)∧∃ v,WO w #[.slice a1 qa.head.length k1,.int .i64 qa.frm,.int .i64 qa.period,.slice a2 qa.cycle.length k2,.slice a3 qb.head.length k3,.int .i64 qb.frm,.int .i64 qb.period,.slice a4 qb.cycle.length k4,.int .i64 st,.slice xa (a0_ (cycL qa st)).length xc,.slice ya (a0_ (cycL qb st)).length yc,.int .i64 g,.map (some mb)] W0.heap.size v (cg_ qb pre) W')
  (fun c' _ W'=>c'=.exit 0∧∃ v,WO w #[.slice a1 qa.head.length k1,.int .i64 qa.frm,.int .i64 qa.period,.slice a2 qa.cycle.length k2,.slice a3 qb.head.length k3,.int .i64 qb.frm,.int .i64 qb.period,.slice a4 qb.cycle.length k4,.int .i64 st,.slice xa (a0_ (cycL qa st)).length xc,.slice ya (a0_ (cycL qb st)).length yc,.int .i64 g,.map (some mb)] W0.heap.size v (cg_ qb (sel qa.mem 0 st)) W')
  (fun pre A C row hI hg hr=>⟨hI.1,hI.2.choose,hI.2.choose_spec.grow hg fun r e=>by
   rcases hr r e with ⟨h,_⟩|⟨h,h'⟩
   ·injection h with h;exact ⟨oq_,.inl ⟨oq_,oq_⟩⟩
   ·exact ⟨oq_,.inr h'⟩⟩)
  (fun c' pre A C row hI hg hr=>⟨hI.1,hI.2.choose,hI.2.choose_spec.grow hg fun r e=>by
   rcases hr r e with ⟨h,_⟩|⟨h,h'⟩
   ·injection h with h;exact ⟨oq_,.inl ⟨oq_,oq_⟩⟩
   ·exact ⟨oq_,.inr h'⟩⟩)
  (fun pre W' hI x hx=>by have:=hI.1 x hx;omega) ⟨sq_,_,HST.out⟩
  (fun y=>⟨#[em_ (.slice a1 qa.head.length k1) (.slice a2 qa.cycle.length k2) (.slice a3 qb.head.length k3) (.slice a4 qb.cycle.length k4) qa qb st (.slice xa (a0_ (cycL qa st)).length xc) (.slice ya (a0_ (cycL qb st)).length yc) g mb,.int .i64 L,.pointer (some ⟨w.heap.size,0,none⟩),undef,.slice none 0 0,.pointer (some ⟨w.heap.size+1,0,none⟩),.pointer (some ⟨w.heap.size+2,0,none⟩),(.int .i64 y),undef,undef,undef,.func (Fn.func 180) #[] #[.pointer (some ⟨w.heap.size,0,none⟩)],.pointer (some ⟨w.heap.size,0,none⟩),.agg #[.slice a1 qa.head.length k1,.int .i64 qa.frm,.int .i64 qa.period,.slice a2 qa.cycle.length k2],.func (.func 127) #[] #[.pointer (some ⟨w.heap.size+3,0,none⟩),.pointer (some ⟨w.heap.size+4,0,none⟩)],(.int .i64 y),undef,undef,undef,undef,undef,undef,undef,undef,undef,undef,undef,undef,undef,undef,undef,undef,undef,undef,undef,undef,undef,undef,undef,undef,undef,undef,undef,undef,undef,undef,undef,undef,undef,undef,undef,undef],[]⟩) ?assign ?body ?done ?stop
 case assign=>
  intro l y W' K hK
  gi_wp2
  exact hK
 case body=>
  rintro l pre y W' ⟨hlt,v,hWO⟩ hen;obtain ⟨hy1,hy2,hy3,hy4⟩:=EnS.last (Int.le_refl 0) hen;obtain ⟨va,vc,rfl⟩:=hWO.own.form;have p8:W'.cell? ⟨w.heap.size,8,none⟩=some (.int .i64 st):=(hWO.pbx.cells 8).1;have q1:W'.cell? ⟨w.heap.size+1,0,none⟩=some (.func (.func 180) #[] #[.pointer (some ⟨w.heap.size,0,none⟩)]):=(hWO.kbx.cells 0).1;have q2:W'.cell? ⟨w.heap.size+2,0,none⟩=some (.slice va (cg_ qb pre).length vc):=(hWO.obx.cells 0).1;have q3:W'.frozen? ⟨w.heap.size+2,0,none⟩=false:=(hWO.obx.cells 0).2;have hown:=hWO.own;have hsz:=hWO.sz;have HWO:=hq_ hWO;have H3:=hq_ hy3;have H4:=hq_ hy4;have hb8:=hWO.below.size;have hplen:pre.length≤4398046511104:=by
   have h9:=ad_ (S:=qa.mem) (lo:=0) (hi:=y) (Int.le_refl _);rw [<- H3.out] at h9;have:=(show Rise 0 st pre from ⟨h9.1,fun x hx=>⟨(h9.2 x hx).1,hlt x hx⟩⟩).length_le oq_;omega
  clear hy3 hy4 hWO hen
  by_cases hc:y<st
  ·have hkl:=k8_ qb pre;have hks:=kl_ qb pre y;obtain ⟨KL,hKL⟩:∃ KL,KL=di_ qb (cg_ qb pre) y:=⟨_,rfl⟩;rw [<- hKL] at hks;obtain ⟨K,hK⟩:∃ K,K=cg_ qb pre:=⟨_,rfl⟩;rw [<- hK] at hKL;have HKL:=hq_ hKL;have hobx:=HWO.out.obx;rw [<- hK] at hobx;have HOBX:=hq_ hobx;rw [<- hK] at hkl hown q2;have HKS:=hq_ hks;have HK:=hq_ hK;have HOWN:=hq_ hown;clear hks hK hown hKL hobx
   gi_wp2_with (refine ⟨trivial,rfl,?_⟩;gi_at_call 180;refine (CallsIn.inRound l (callsIn_wide.2 (k9_ a1 a2 a3 a4 k1 k2 k3 k4 qa qb st _ _ g mb w.heap.size W0.heap.size (.slice va K.length vc) K y _ HWO.out.pbx (HP.out.b.ext HWO.out.below) HWB.out f2 oq_ oq_ oq_ HOWN.out oq_ oq_))).mono ?_;rintro e w5 ⟨v5,rfl,hown5,hg5⟩;rw [<- HKL.out] at hown5;obtain ⟨v5a,v5c,rfl⟩:=hown5.form;have hob5:=HOBX.out.grown hg5 (fun e=>by have h77:=HOWN.out.lt _ e.symm;omega);have r1:=(hob5.cells 0).1;have r2:=(hob5.cells 0).2)
   have hsz5:=hg5.size;refine ⟨(KeepsOthers.trans (KeepsOthers.grown_cells (KeepsOthers.refl W') hg5 (OwnI.row_cells HOWN.out)) (KeepsOthers.setCell w5 ⟨w.heap.size+2,0,none⟩ (.slice v5a KL.length v5c))).from _,fun k hk=>?_,fun x hx=>?_,.slice v5a KL.length v5c,?_⟩
   ·rw [bx_ oq_,hg5.block k oq_ (fun e=>by have:=HOWN.out.lt k e.symm;omega)]
   ·rcases List.mem_append.1 hx with hx|hx
    ·exact hlt x hx
    ·obtain rfl:x=y:=by simpa using hx
     exact hc
   ·rw [HKS.out];exact WO.step (by have:=HWO.out;rw [<- HK.out] at this;exact this) hg5 hown5
  ·have hge:st≤y:=oq_
   gi_wp2
   refine ⟨KeepsFrom.refl _ _,rfl,.slice va (cg_ qb pre).length vc,?_⟩;have e:pre=sel qa.mem 0 st:=by
    rw [H3.out];exact gs_ (Int.le_refl 0) (fun x hx=>hlt x (by rw [H3.out];exact hx)) (fun x _ _ hx=>oq_)
   rw [<- e];exact HWO.out
 case done=>
  rintro D xs W' hD ⟨n,hn,rfl⟩ ⟨hlt,v,hWO⟩ hdef;have e:=gs_ (Int.le_refl 0) hlt (fun x hx _ _=>hn x hx);rw [e] at hWO;clear e hlt;obtain ⟨va,vc,rfl⟩:=hWO.own.form;have p9:W'.cell? ⟨w.heap.size,9,none⟩=some (.slice xa (a0_ (cycL qa st)).length xc):=(hWO.pbx.cells 9).1;rw [<- HWL0.out] at hWO;have HWO:=hq_ hWO;have HDEF:=hq_ hdef;clear hWO hdef
  gi_wp2_with fail
  refine wpIn_wide.2 ?_
  go_loopw [27] (fun i wr=>∃ k:Nat,k≤(a0_ (cycL qa st)).length∧i=.int .i64 k∧(∃ v,WO w #[.slice a1 qa.head.length k1,.int .i64 qa.frm,.int .i64 qa.period,.slice a2 qa.cycle.length k2,.slice a3 qb.head.length k3,.int .i64 qb.frm,.int .i64 qb.period,.slice a4 qb.cycle.length k4,.int .i64 st,.slice xa (a0_ (cycL qa st)).length xc,.slice ya (a0_ (cycL qb st)).length yc,.int .i64 g,.map (some mb)] W0.heap.size v (WL k) wr)∧wr.heap[D]? = some (.deferred (some []))) (fun i _=>(a0_ (cycL qa st)).length-(intOf i).toNat)
  case atStart=>exact ⟨0,oq_,rfl,⟨_,HWO.out⟩,HDEF.out⟩
  case round=>
   obtain ⟨k,hk,rfl,⟨v,hWO⟩,hdef⟩:=hrel
   by_cases hlt:k<(a0_ (cycL qa st)).length
   ·obtain ⟨⟨a8,c8,he8,_,_,h38⟩,_,_⟩:=(HP.out.ext hWO.below).x;injection he8 with he1 he2 he3
    subst he1;subst he3;rcases h38 with h38|⟨b8,f8,rfl,hcell⟩
    ·rw [h38] at hlt;simp at hlt
    have hcl:=hcell k hlt;have hxb:=HX.out.2 _ (ah_ hlt);have hsu:=HWLS.out k hlt;have hle:=HWLE.out k oq_;have hkI:(k:Int)<(a0_ (cycL qa st)).length:=oq_;obtain ⟨x,hxx⟩:∃ x,x=(a0_ (cycL qa st)).getD k 0:=⟨_,rfl⟩;rw [<- hxx] at hcl hxb hsu;have p0:wr.cell? ⟨w.heap.size,0,none⟩=some (.slice a1 qa.head.length k1):=(hWO.pbx.cells 0).1;have p1:wr.cell? ⟨w.heap.size,1,none⟩=some (.int .i64 qa.frm):=(hWO.pbx.cells 1).1;have p2:wr.cell? ⟨w.heap.size,2,none⟩=some (.int .i64 qa.period):=(hWO.pbx.cells 2).1;have p3:wr.cell? ⟨w.heap.size,3,none⟩=some (.slice a2 qa.cycle.length k2):=(hWO.pbx.cells 3).1;have p4:wr.cell? ⟨w.heap.size,4,none⟩=some (.slice a3 qb.head.length k3):=(hWO.pbx.cells 4).1;have p5:wr.cell? ⟨w.heap.size,5,none⟩=some (.int .i64 qb.frm):=(hWO.pbx.cells 5).1;have p6:wr.cell? ⟨w.heap.size,6,none⟩=some (.int .i64 qb.period):=(hWO.pbx.cells 6).1;have p7:wr.cell? ⟨w.heap.size,7,none⟩=some (.slice a4 qb.cycle.length k4):=(hWO.pbx.cells 7).1;have p8:wr.cell? ⟨w.heap.size,8,none⟩=some (.int .i64 st):=(hWO.pbx.cells 8).1;have p9:wr.cell? ⟨w.heap.size,9,none⟩=some (.slice (some ⟨b8,f8,none⟩) (a0_ (cycL qa st)).length xc):=(hWO.pbx.cells 9).1;have p10:wr.cell? ⟨w.heap.size,10,none⟩=some (.slice ya (a0_ (cycL qb st)).length yc):=(hWO.pbx.cells 10).1;have p11:wr.cell? ⟨w.heap.size,11,none⟩=some (.int .i64 g):=(hWO.pbx.cells 11).1;have p12:wr.cell? ⟨w.heap.size,12,none⟩=some (.map (some mb)):=(hWO.pbx.cells 12).1;have HWOr:=hq_ hWO;have HDEFr:=hq_ hdef;have HSU:=hq_ hsu;have HLE:=hq_ hle;have hxb0:=hxb.1;have hxb1:=hxb.2;have hsz1:=hWO.below.size;have hsz2:=hWO.sz;have hP9:=HP.out.ext hWO.below;have HP9:=hq_ hP9;clear hsu hle hWO hdef hxx hcell hxb hP9;cases hfull:e3_ (a0_ (cycL qb st)) g qb.period x with
    | true=>
     have HF:=hq_ hfull;clear hfull;go_wp2_with (go_at_call 181;refine (hk_ _ _ _ _ qa qb st _ _ g mb x _ HP9.out hg hg1 oq_ oq_ oq_ oq_).mono ?_;rintro e w5 ⟨he,hb5⟩;rw [HF.out] at he;subst he)
     go_roundw
     case rel=>
      refine ⟨k+1,oq_,by go_num,⟨v,?_⟩,(hb5.block D (Array.getElem?_eq_some_iff.1 HDEFr.out).1).trans HDEFr.out⟩;rw [HSU.out,HF.out,if_pos rfl,List.append_nil];exact HWOr.out.grow (World.grownBy.of_below hb5 none) (fun r e=>by cases e)
     case measure=>simp [intOf];omega
    | false=>
     have HF:=hq_ hfull;clear hfull;go_wp2_with (go_at_call 181;refine (hk_ _ _ _ _ qa qb st _ _ g mb x _ HP9.out hg hg1 oq_ oq_ oq_ oq_).mono ?_;rintro e w5 ⟨he,hb5⟩;rw [HF.out] at he;subst he)
     have HWO5:Hid (WO w #[.slice a1 qa.head.length k1,.int .i64 qa.frm,.int .i64 qa.period,.slice a2 qa.cycle.length k2,.slice a3 qb.head.length k3,.int .i64 qb.frm,.int .i64 qb.period,.slice a4 qb.cycle.length k4,.int .i64 st,.slice (some ⟨b8,f8,none⟩) (a0_ (cycL qa st)).length xc,.slice ya (a0_ (cycL qb st)).length yc,.int .i64 g,.map (some mb)] W0.heap.size v (WL k) w5):=hq_ (HWOr.out.grow (World.grownBy.of_below hb5 none) (fun r e=>by cases e));have HDEF5:Hid (w5.heap[D]? = some (.deferred (some []))):=hq_ ((hb5.block D (Array.getElem?_eq_some_iff.1 HDEFr.out).1).trans HDEFr.out);clear hb5
     go_loopw [10] (fun i wr=>∃ (m:Nat) (n:Int),m≤R∧i=.int .i64 n∧Hid (n=x+m*qa.period)∧(∃ v,WO w #[.slice a1 qa.head.length k1,.int .i64 qa.frm,.int .i64 qa.period,.slice a2 qa.cycle.length k2,.slice a3 qb.head.length k3,.int .i64 qb.frm,.int .i64 qb.period,.slice a4 qb.cycle.length k4,.int .i64 st,.slice (some ⟨b8,f8,none⟩) (a0_ (cycL qa st)).length xc,.slice ya (a0_ (cycL qb st)).length yc,.int .i64 g,.map (some mb)] W0.heap.size v (WL k ++ cc_ qb st qa.period x m) wr)∧wr.heap[D]? = some (.deferred (some []))) (fun i _=>(L-intOf i).toNat)
     case atStart=>exact ⟨0,x,oq_,rfl,hq_ sq_,⟨v,by simpa [cc_,upto,cg_] using HWO5.out⟩,HDEF5.out⟩
     case round=>
      obtain ⟨m,n,hm,rfl,hn,⟨v9,hWO⟩,hdef⟩:=hrel;obtain ⟨g1,g2,g3⟩:=lj_ hxb0 hxb1 HLR.out hm;rw [<- hn.out] at g1;have hn0:0≤n:=by rw [hn.out];omega
      have hn1:n≤L+qa.period:=by rw [hn.out];omega
      clear g2 g3
      by_cases hlm:m<R
      ·have hnL:n<L:=g1.2 hlm;have hps:=kr_ qb st qa.period x m;rw [<- hn.out] at hps;have hpl:=kd_ qb st qa.period x m;have hlen:(WL k ++ cc_ qb st qa.period x m).length+1≤17592186044416:=by rw [List.length_append];have:=HLE.out;omega
       have hap:=m7_ qb (WL k) (cc_ qb st qa.period x m) (st+n);rw [<- hps] at hap;obtain ⟨K,hK⟩:∃ K,K=WL k ++ cc_ qb st qa.period x m:=⟨_,rfl⟩;rw [<- hK] at hlen hap hWO;obtain ⟨KL,hKL⟩:∃ KL,KL=di_ qb K (st+n):=⟨_,rfl⟩;rw [<- hKL] at hap;have HKL:=hq_ hKL;have HAP:=hq_ hap;have hown:=hWO.own;have hobx:=hWO.obx;obtain ⟨va9,vc9,rfl⟩:=hown.form;have q1:wr.cell? ⟨w.heap.size+1,0,none⟩=some (.func (.func 180) #[] #[.pointer (some ⟨w.heap.size,0,none⟩)]):=(hWO.kbx.cells 0).1;have q2:wr.cell? ⟨w.heap.size+2,0,none⟩=some (.slice va9 K.length vc9):=(hobx.cells 0).1;have q3:wr.frozen? ⟨w.heap.size+2,0,none⟩=false:=(hobx.cells 0).2;have q8:wr.cell? ⟨w.heap.size,8,none⟩=some (.int .i64 st):=(hWO.pbx.cells 8).1;have qp:wr.cell? ⟨w.heap.size,2,none⟩=some (.int .i64 qa.period):=(hWO.pbx.cells 2).1;have hszr:=hWO.sz;have hszw:=hWO.below.size;have HWO9:=hq_ hWO;have HOWN:=hq_ hown;have HOBX:=hq_ hobx;have HDEF9:=hq_ hdef;clear hWO hown hobx hdef hps hap hK hKL g1;go_wp2_with (go_at_call 180;refine (k9_ a1 a2 a3 a4 k1 k2 k3 k4 qa qb st _ _ g mb w.heap.size W0.heap.size (.slice va9 K.length vc9) K (st+n) _ HWO9.out.pbx (HP.out.b.ext HWO9.out.below) HWB.out f2 oq_ oq_ oq_ HOWN.out oq_ oq_).mono ?_;rintro e w6 ⟨v6,rfl,hown6,hg6⟩;rw [<- HKL.out] at hown6;obtain ⟨v6a,v6c,rfl⟩:=hown6.form;have hob6:=HOBX.out.grown hg6 (fun e=>by have h77:=HOWN.out.lt _ e.symm;omega);have r1:=(hob6.cells 0).1;have r2:=(hob6.cells 0).2;have r5:w6.cell? ⟨w.heap.size,2,none⟩=some (.int .i64 qa.period):=((HWO9.out.pbx.grown hg6 (fun e=>by have h77:=HOWN.out.lt _ e.symm;omega)).cells 2).1)
       go_roundw
       case rel=>
        refine ⟨m+1,n+qa.period,oq_,by go_num,hq_ (by rw [hn.out];push_cast;rw [Int.add_mul];omega),⟨.slice v6a KL.length v6c,?_⟩,?_⟩
        ·rw [HAP.out];exact HWO9.out.step hg6 hown6
        ·exact (Below.heap_setCell _ _ _ _ (by have:=(Array.getElem?_eq_some_iff.1 HDEF9.out).1;simp;omega)).trans (i0_ HDEF9.out HOWN.out hg6)
       case measure=>simp [intOf];omega
      ·have hnL:¬ n<L:=fun h=>hlm (g1.1 h);obtain rfl:m=R:=oq_;have HWO9:=hq_ hWO;have HDEF9:=hq_ hdef;clear hWO hdef g1;go_wp2_with fail
       go_roundw
       case rel=>
        refine ⟨k+1,oq_,by go_num,⟨v9,?_⟩,HDEF9.out⟩;rw [HSU.out,HF.out,if_neg sq_];exact HWO9.out
       case measure=>simp [intOf];omega
   ·obtain rfl:k=(a0_ (cycL qa st)).length:=oq_;obtain ⟨va9,vc9,rfl⟩:=hWO.own.form;have q2:wr.cell? ⟨w.heap.size+2,0,none⟩=some (.slice va9 (WL (a0_ (cycL qa st)).length).length vc9):=(hWO.obx.cells 0).1;have HWO9:=hq_ hWO;have HDEF9:=hq_ hdef;have hsz9:=hWO.sz;have hsw9:=hWO.hb;clear hWO hdef;go_wp2_with fail
    gi_wp2_with fail
    have hM:b5_ w.heap.size [{ target:=.collected D,args:=#[] }] wr:=dl_ oq_ HDEF9.out;refine ce_ (B:=w.heap.size) _ _ hM fun w' hs=>⟨.slice va9 (WL (a0_ (cycL qa st)).length).length vc9,by simp [results,Tryz.results153,go_sem],.slice va9 (WL (a0_ (cycL qa st)).length).length vc9,rfl,?_,HWO9.out.below.trans hs.below⟩;have h9:=(HWO9.out.own.shut hs).mono (base':=w.heap.size) oq_
    first|exact h9|(rw [<- HWLe.out];exact h9)
 case stop=>
  rintro D c' pre W' hD _ ⟨rfl,v,hWO⟩ hdef;refine wpIn_exit ?_
  conv=>whnf
  apply_assumption
  obtain ⟨va,vc,rfl⟩:=hWO.own.form;have p9:W'.cell? ⟨w.heap.size,9,none⟩=some (.slice xa (a0_ (cycL qa st)).length xc):=(hWO.pbx.cells 9).1;rw [<- HWL0.out] at hWO;have HWO:=hq_ hWO;have HDEF:=hq_ hdef;clear hWO hdef
  gi_wp2_with fail
  refine wpIn_wide.2 ?_
  go_loopw [27] (fun i wr=>∃ k:Nat,k≤(a0_ (cycL qa st)).length∧i=.int .i64 k∧(∃ v,WO w #[.slice a1 qa.head.length k1,.int .i64 qa.frm,.int .i64 qa.period,.slice a2 qa.cycle.length k2,.slice a3 qb.head.length k3,.int .i64 qb.frm,.int .i64 qb.period,.slice a4 qb.cycle.length k4,.int .i64 st,.slice xa (a0_ (cycL qa st)).length xc,.slice ya (a0_ (cycL qb st)).length yc,.int .i64 g,.map (some mb)] W0.heap.size v (WL k) wr)∧wr.heap[D]? = some (.deferred (some []))) (fun i _=>(a0_ (cycL qa st)).length-(intOf i).toNat)
  case atStart=>exact ⟨0,oq_,rfl,⟨_,HWO.out⟩,HDEF.out⟩
  case round=>
   obtain ⟨k,hk,rfl,⟨v,hWO⟩,hdef⟩:=hrel
   by_cases hlt:k<(a0_ (cycL qa st)).length
   ·obtain ⟨⟨a8,c8,he8,_,_,h38⟩,_,_⟩:=(HP.out.ext hWO.below).x;injection he8 with he1 he2 he3
    subst he1;subst he3;rcases h38 with h38|⟨b8,f8,rfl,hcell⟩
    ·rw [h38] at hlt;simp at hlt
    have hcl:=hcell k hlt;have hxb:=HX.out.2 _ (ah_ hlt);have hsu:=HWLS.out k hlt;have hle:=HWLE.out k oq_;have hkI:(k:Int)<(a0_ (cycL qa st)).length:=oq_;obtain ⟨x,hxx⟩:∃ x,x=(a0_ (cycL qa st)).getD k 0:=⟨_,rfl⟩;rw [<- hxx] at hcl hxb hsu;have p0:wr.cell? ⟨w.heap.size,0,none⟩=some (.slice a1 qa.head.length k1):=(hWO.pbx.cells 0).1;have p1:wr.cell? ⟨w.heap.size,1,none⟩=some (.int .i64 qa.frm):=(hWO.pbx.cells 1).1;have p2:wr.cell? ⟨w.heap.size,2,none⟩=some (.int .i64 qa.period):=(hWO.pbx.cells 2).1;have p3:wr.cell? ⟨w.heap.size,3,none⟩=some (.slice a2 qa.cycle.length k2):=(hWO.pbx.cells 3).1;have p4:wr.cell? ⟨w.heap.size,4,none⟩=some (.slice a3 qb.head.length k3):=(hWO.pbx.cells 4).1;have p5:wr.cell? ⟨w.heap.size,5,none⟩=some (.int .i64 qb.frm):=(hWO.pbx.cells 5).1;have p6:wr.cell? ⟨w.heap.size,6,none⟩=some (.int .i64 qb.period):=(hWO.pbx.cells 6).1;have p7:wr.cell? ⟨w.heap.size,7,none⟩=some (.slice a4 qb.cycle.length k4):=(hWO.pbx.cells 7).1;have p8:wr.cell? ⟨w.heap.size,8,none⟩=some (.int .i64 st):=(hWO.pbx.cells 8).1;have p9:wr.cell? ⟨w.heap.size,9,none⟩=some (.slice (some ⟨b8,f8,none⟩) (a0_ (cycL qa st)).length xc):=(hWO.pbx.cells 9).1;have p10:wr.cell? ⟨w.heap.size,10,none⟩=some (.slice ya (a0_ (cycL qb st)).length yc):=(hWO.pbx.cells 10).1;have p11:wr.cell? ⟨w.heap.size,11,none⟩=some (.int .i64 g):=(hWO.pbx.cells 11).1;have p12:wr.cell? ⟨w.heap.size,12,none⟩=some (.map (some mb)):=(hWO.pbx.cells 12).1;have HWOr:=hq_ hWO;have HDEFr:=hq_ hdef;have HSU:=hq_ hsu;have HLE:=hq_ hle;have hxb0:=hxb.1;have hxb1:=hxb.2;have hsz1:=hWO.below.size;have hsz2:=hWO.sz;have hP9:=HP.out.ext hWO.below;have HP9:=hq_ hP9;clear hsu hle hWO hdef hxx hcell hxb hP9;cases hfull:e3_ (a0_ (cycL qb st)) g qb.period x with
    | true=>
     have HF:=hq_ hfull;clear hfull;go_wp2_with (go_at_call 181;refine (hk_ _ _ _ _ qa qb st _ _ g mb x _ HP9.out hg hg1 oq_ oq_ oq_ oq_).mono ?_;rintro e w5 ⟨he,hb5⟩;rw [HF.out] at he;subst he)
     go_roundw
     case rel=>
      refine ⟨k+1,oq_,by go_num,⟨v,?_⟩,(hb5.block D (Array.getElem?_eq_some_iff.1 HDEFr.out).1).trans HDEFr.out⟩;rw [HSU.out,HF.out,if_pos rfl,List.append_nil];exact HWOr.out.grow (World.grownBy.of_below hb5 none) (fun r e=>by cases e)
     case measure=>simp [intOf];omega
    | false=>
     have HF:=hq_ hfull;clear hfull;go_wp2_with (go_at_call 181;refine (hk_ _ _ _ _ qa qb st _ _ g mb x _ HP9.out hg hg1 oq_ oq_ oq_ oq_).mono ?_;rintro e w5 ⟨he,hb5⟩;rw [HF.out] at he;subst he)
     have HWO5:Hid (WO w #[.slice a1 qa.head.length k1,.int .i64 qa.frm,.int .i64 qa.period,.slice a2 qa.cycle.length k2,.slice a3 qb.head.length k3,.int .i64 qb.frm,.int .i64 qb.period,.slice a4 qb.cycle.length k4,.int .i64 st,.slice (some ⟨b8,f8,none⟩) (a0_ (cycL qa st)).length xc,.slice ya (a0_ (cycL qb st)).length yc,.int .i64 g,.map (some mb)] W0.heap.size v (WL k) w5):=hq_ (HWOr.out.grow (World.grownBy.of_below hb5 none) (fun r e=>by cases e));have HDEF5:Hid (w5.heap[D]? = some (.deferred (some []))):=hq_ ((hb5.block D (Array.getElem?_eq_some_iff.1 HDEFr.out).1).trans HDEFr.out);clear hb5
     go_loopw [10] (fun i wr=>∃ (m:Nat) (n:Int),m≤R∧i=.int .i64 n∧Hid (n=x+m*qa.period)∧(∃ v,WO w #[.slice a1 qa.head.length k1,.int .i64 qa.frm,.int .i64 qa.period,.slice a2 qa.cycle.length k2,.slice a3 qb.head.length k3,.int .i64 qb.frm,.int .i64 qb.period,.slice a4 qb.cycle.length k4,.int .i64 st,.slice (some ⟨b8,f8,none⟩) (a0_ (cycL qa st)).length xc,.slice ya (a0_ (cycL qb st)).length yc,.int .i64 g,.map (some mb)] W0.heap.size v (WL k ++ cc_ qb st qa.period x m) wr)∧wr.heap[D]? = some (.deferred (some []))) (fun i _=>(L-intOf i).toNat)
     case atStart=>exact ⟨0,x,oq_,rfl,hq_ sq_,⟨v,by simpa [cc_,upto,cg_] using HWO5.out⟩,HDEF5.out⟩
     case round=>
      obtain ⟨m,n,hm,rfl,hn,⟨v9,hWO⟩,hdef⟩:=hrel;obtain ⟨g1,g2,g3⟩:=lj_ hxb0 hxb1 HLR.out hm;rw [<- hn.out] at g1;have hn0:0≤n:=by rw [hn.out];omega
      have hn1:n≤L+qa.period:=by rw [hn.out];omega
      clear g2 g3
      by_cases hlm:m<R
      ·have hnL:n<L:=g1.2 hlm;have hps:=kr_ qb st qa.period x m;rw [<- hn.out] at hps;have hpl:=kd_ qb st qa.period x m;have hlen:(WL k ++ cc_ qb st qa.period x m).length+1≤17592186044416:=by rw [List.length_append];have:=HLE.out;omega
       have hap:=m7_ qb (WL k) (cc_ qb st qa.period x m) (st+n);rw [<- hps] at hap;obtain ⟨K,hK⟩:∃ K,K=WL k ++ cc_ qb st qa.period x m:=⟨_,rfl⟩;rw [<- hK] at hlen hap hWO;obtain ⟨KL,hKL⟩:∃ KL,KL=di_ qb K (st+n):=⟨_,rfl⟩;rw [<- hKL] at hap;have HKL:=hq_ hKL;have HAP:=hq_ hap;have hown:=hWO.own;have hobx:=hWO.obx;obtain ⟨va9,vc9,rfl⟩:=hown.form;have q1:wr.cell? ⟨w.heap.size+1,0,none⟩=some (.func (.func 180) #[] #[.pointer (some ⟨w.heap.size,0,none⟩)]):=(hWO.kbx.cells 0).1;have q2:wr.cell? ⟨w.heap.size+2,0,none⟩=some (.slice va9 K.length vc9):=(hobx.cells 0).1;have q3:wr.frozen? ⟨w.heap.size+2,0,none⟩=false:=(hobx.cells 0).2;have q8:wr.cell? ⟨w.heap.size,8,none⟩=some (.int .i64 st):=(hWO.pbx.cells 8).1;have qp:wr.cell? ⟨w.heap.size,2,none⟩=some (.int .i64 qa.period):=(hWO.pbx.cells 2).1;have hszr:=hWO.sz;have hszw:=hWO.below.size;have HWO9:=hq_ hWO;have HOWN:=hq_ hown;have HOBX:=hq_ hobx;have HDEF9:=hq_ hdef;clear hWO hown hobx hdef hps hap hK hKL g1;go_wp2_with (go_at_call 180;refine (k9_ a1 a2 a3 a4 k1 k2 k3 k4 qa qb st _ _ g mb w.heap.size W0.heap.size (.slice va9 K.length vc9) K (st+n) _ HWO9.out.pbx (HP.out.b.ext HWO9.out.below) HWB.out f2 oq_ oq_ oq_ HOWN.out oq_ oq_).mono ?_;rintro e w6 ⟨v6,rfl,hown6,hg6⟩;rw [<- HKL.out] at hown6;obtain ⟨v6a,v6c,rfl⟩:=hown6.form;have hob6:=HOBX.out.grown hg6 (fun e=>by have h77:=HOWN.out.lt _ e.symm;omega);have r1:=(hob6.cells 0).1;have r2:=(hob6.cells 0).2;have r5:w6.cell? ⟨w.heap.size,2,none⟩=some (.int .i64 qa.period):=((HWO9.out.pbx.grown hg6 (fun e=>by have h77:=HOWN.out.lt _ e.symm;omega)).cells 2).1)
       go_roundw
       case rel=>
        refine ⟨m+1,n+qa.period,oq_,by go_num,hq_ (by rw [hn.out];push_cast;rw [Int.add_mul];omega),⟨.slice v6a KL.length v6c,?_⟩,?_⟩
        ·rw [HAP.out];exact HWO9.out.step hg6 hown6
        ·exact (Below.heap_setCell _ _ _ _ (by have:=(Array.getElem?_eq_some_iff.1 HDEF9.out).1;simp;omega)).trans (i0_ HDEF9.out HOWN.out hg6)
       case measure=>simp [intOf];omega
      ·have hnL:¬ n<L:=fun h=>hlm (g1.1 h);obtain rfl:m=R:=oq_;have HWO9:=hq_ hWO;have HDEF9:=hq_ hdef;clear hWO hdef g1;go_wp2_with fail
       go_roundw
       case rel=>
        refine ⟨k+1,oq_,by go_num,⟨v9,?_⟩,HDEF9.out⟩;rw [HSU.out,HF.out,if_neg sq_];exact HWO9.out
       case measure=>simp [intOf];omega
   ·obtain rfl:k=(a0_ (cycL qa st)).length:=oq_;obtain ⟨va9,vc9,rfl⟩:=hWO.own.form;have q2:wr.cell? ⟨w.heap.size+2,0,none⟩=some (.slice va9 (WL (a0_ (cycL qa st)).length).length vc9):=(hWO.obx.cells 0).1;have HWO9:=hq_ hWO;have HDEF9:=hq_ hdef;have hsz9:=hWO.sz;have hsw9:=hWO.hb;clear hWO hdef;go_wp2_with fail
    gi_wp2_with fail
    have hM:b5_ w.heap.size [{ target:=.collected D,args:=#[] }] wr:=dl_ oq_ HDEF9.out;refine ce_ (B:=w.heap.size) _ _ hM fun w' hs=>⟨.slice va9 (WL (a0_ (cycL qa st)).length).length vc9,by simp [results,Tryz.results153,go_sem],.slice va9 (WL (a0_ (cycL qa st)).length).length vc9,rfl,?_,HWO9.out.below.trans hs.below⟩;have h9:=(HWO9.out.own.shut hs).mono (base':=w.heap.size) oq_
    first|exact h9|(rw [<- HWLe.out];exact h9)
end Go.Proofs.YthjnojbeimchdaaGreat
end
