/- Part 4 of what the claims of this seat rest on. -/
import Derived.Test.YthjnojbeimchdaaGreatN3
import Derived.Test.YthjnojbeimchdaaGreatN2
import Derived.Test.YthjnojbeimchdaaGreatN1
import Derived.Maps.OwnIn
import Derived.OwnWalk
import Derived.Maps.OwnRows
import Derived.Maps.Views
set_option linter.unusedVariables false
set_option linter.unusedSimpArgs false
/- Where slices of ints lie, and how their readings last while other blocks are written. -/
namespace Go.Proofs.YthjnojbeimchdaaGreat
open Go.RowKit Kal
theorem size_drewN {w:World} {n:Nat}:(w.drewN n).heap.size=w.heap.size:=rfl
structure IntsIn (w:World) (lo hi:Nat) (v:Value) (l:List Int):Prop where
 ints:Ints w v l
 blk:l≠[]→∀ k,v.ownBlock=some k→lo≤k∧k<hi
theorem IntsIn.mono {w:World} {lo hi lo' hi':Nat} {v:Value} {l:List Int} (h:IntsIn w lo hi v l) (h1:lo'≤lo) (h2:hi≤hi'):IntsIn w lo' hi' v l:=
 ⟨h.ints,fun hl k hk=>by have:=h.blk hl k hk;omega⟩
theorem IntsIn.of_blocks {w w':World} {lo hi:Nat} {v:Value} {l:List Int} (h:IntsIn w lo hi v l) (hb:∀ k,lo≤k→k<hi→w'.heap[k]? = w.heap[k]?):IntsIn w' lo hi v l:=by
 obtain ⟨⟨⟨a,c,rfl,h1,h2,h3⟩,h4,h5⟩,h6⟩:=h
 refine ⟨⟨⟨a,c,rfl,h1,h2,?_⟩,h4,h5⟩,h6⟩
 rcases h3 with h3|⟨b,o,rfl,hc⟩
 ·exact .inl h3
 ·by_cases hl:l=[]
  ·exact .inl hl
  ·obtain ⟨g1,g2⟩:=h6 hl b rfl
   exact .inr ⟨b,o,rfl,fun i hi=>(World.cell?_of_block (hb b g1 g2)).trans (hc i hi)⟩
theorem IntsIn.set {w:World} {lo hi b i:Nat} {v:Value} {l:List Int} (h:IntsIn w lo hi v l) (u:Value) (hb:b<lo∨hi≤b):IntsIn (w.setCell ⟨b,i,none⟩ u) lo hi v l:=
 h.of_blocks fun k h1 h2=>Below.heap_setCell w ⟨b,i,none⟩ u k (by simp;omega)
theorem IntsIn.drew {w:World} {lo hi:Nat} {v:Value} {l:List Int} (h:IntsIn w lo hi v l):IntsIn w.drew lo hi v l:=h.of_blocks fun _ _ _=>rfl
theorem IntsIn.drewN {w:World} {lo hi:Nat} {v:Value} {l:List Int} (h:IntsIn w lo hi v l) (n:Nat):IntsIn (w.drewN n) lo hi v l:=h.of_blocks fun _ _ _=>rfl
theorem IntsIn.below {w w':World} {lo hi B:Nat} {v:Value} {l:List Int} (h:IntsIn w lo hi v l) (hb:Below B w w') (hB:hi≤B):IntsIn w' lo hi v l:=h.of_blocks fun k _ h2=>hb.block k (by omega)
theorem IntsIn.above {w w':World} {lo hi B:Nat} {v:Value} {l:List Int} (h:IntsIn w lo hi v l) (hb:Above B w w') (hB:B≤lo) (hw:hi≤w.heap.size):IntsIn w' lo hi v l:=h.of_blocks fun k h1 h2=>hb.block k (by omega) (by omega)
theorem IntsIn.alloc {w:World} {lo hi:Nat} {v:Value} {l:List Int} (h:IntsIn w lo hi v l) (o:Obj) (hw:hi≤w.heap.size):IntsIn (w.alloc o) lo hi v l:=
 h.of_blocks fun k _ h2=>Below.heap_alloc w o k (by omega)
theorem Ints.inn {w:World} {v:Value} {l:List Int} (h:Ints w v l):IntsIn w 0 w.heap.size v l:=by
 refine ⟨h,fun hl k hk=>⟨Nat.zero_le _,?_⟩⟩
 obtain ⟨⟨a,c,rfl,h1,h2,h3⟩,h4,h5⟩:=h
 rcases h3 with h3|⟨b,o,rfl,hc⟩
 ·exact absurd h3 hl
 ·obtain rfl:b=k:=by simpa [Value.ownBlock] using hk
  exact World.block_lt_of_cell? w _ (hc 0 (List.length_pos_iff.2 hl))
theorem OwnI.inn {w:World} {base:Nat} {v:Value} {l:List Int} (h:OwnI w base v l):IntsIn w base w.heap.size v l:=
 ⟨h.ints,fun _ k hk=>h.lt k hk⟩
structure PerIn (w:World) (lo hi:Nat) (h c:Value) (p:Per):Prop where
 hd:IntsIn w lo hi h p.head
 cy:IntsIn w lo hi c p.cycle
section
variable {w w':World} {lo hi B b i:Nat} {h c:Value} {p:Per}
theorem PerIn.is (hp:PerIn w lo hi h c p):PerIs w h c p:=⟨hp.hd.ints,hp.cy.ints⟩
theorem PerIn.mono {lo' hi':Nat} (hp:PerIn w lo hi h c p) (h1:lo'≤lo) (h2:hi≤hi'):PerIn w lo' hi' h c p:=⟨hp.hd.mono h1 h2,hp.cy.mono h1 h2⟩
theorem PerIn.of_blocks (hp:PerIn w lo hi h c p) (hb:∀ k,lo≤k→k<hi→w'.heap[k]? = w.heap[k]?):PerIn w' lo hi h c p:=⟨hp.hd.of_blocks hb,hp.cy.of_blocks hb⟩
theorem PerIn.set (hp:PerIn w lo hi h c p) (u:Value) (hb:b<lo∨hi≤b):PerIn (w.setCell ⟨b,i,none⟩ u) lo hi h c p:=⟨hp.hd.set u hb,hp.cy.set u hb⟩
theorem PerIn.drew (hp:PerIn w lo hi h c p):PerIn w.drew lo hi h c p:=⟨hp.hd.drew,hp.cy.drew⟩
theorem PerIn.drewN (hp:PerIn w lo hi h c p) (n:Nat):PerIn (w.drewN n) lo hi h c p:=⟨hp.hd.drewN n,hp.cy.drewN n⟩
theorem PerIn.below (hp:PerIn w lo hi h c p) (hb:Below B w w') (hB:hi≤B):PerIn w' lo hi h c p:=⟨hp.hd.below hb hB,hp.cy.below hb hB⟩
theorem PerIn.alloc (hp:PerIn w lo hi h c p) (o:Obj) (hw:hi≤w.heap.size):PerIn (w.alloc o) lo hi h c p:=⟨hp.hd.alloc o hw,hp.cy.alloc o hw⟩
theorem PerIs.inn (hp:PerIs w h c p):PerIn w 0 w.heap.size h c p:=⟨hp.hd.inn,hp.cy.inn⟩
theorem POx.inn {base:Nat} (hp:POx w base h c p):PerIn w base w.heap.size h c p:=⟨hp.hd.inn,hp.cy.inn⟩
theorem PerIn.form (hp:PerIn w lo hi h c p):∃ a1 c1 a2 c2,h=.slice a1 p.head.length c1∧c=.slice a2 p.cycle.length c2:=by
 obtain ⟨⟨⟨⟨a1,c1,h1,_⟩,_,_⟩,_⟩,⟨⟨a2,c2,h2,_⟩,_,_⟩,_⟩:=hp
 exact ⟨a1,c1,a2,c2,h1,h2⟩
end
theorem cux {w w':World} {a:Addr} {v:Value} (h:w.cell? a=some v) (hb:Below w.heap.size w w'):w'.cell? a=some v:=Ext.cell hb h
theorem slice_from {a:Option Addr} {c i:Nat} (l:List Int) (hi:i≤l.length) :
  ∃ a',(∀ W,(Instr.slice 37 (.slice a l.length c) (some (.int .i64 (i:Int))) none none).run Tryz.prog W=.ok (.slice a' (l.length-i) (c-i)) W)∧
   (∀ w,Ints w (.slice a l.length c) l→Ints w (.slice a' (l.length-i) (c-i)) (l.drop i))∧
   (i<l.length→l.length≤c→∀ b o,a=some ⟨b,o,none⟩→a'=some ⟨b,o+i,none⟩):=by
 refine ⟨if c=i then a else a.map (·.add (i*1)),fun W=>?_,fun w h=>?_,fun h1 h2 b o hb=>?_⟩
 ·rw [run_slice_l W 37 _ _ _ (by kernel_rfl) .i64 _ (by omega) (by omega)]
  have hz:(sizeOf (Tryz.prog.elem 37)).run Tryz.prog W=.ok 1 W:=by kernel_rfl
  rw [hz]
  simp only [Result.andThen,sliced]
  congr 2
 ·obtain ⟨⟨a2,c2,he,h1,h2,h3⟩,h4,h5⟩:=h
  injection he with e1 e2 e3
  subst e1;subst e3
  refine ⟨⟨_,c-i,by rw [List.length_drop],by rw [List.length_drop];omega,by omega,?_⟩,by rw [List.length_drop];omega,fun x hx=>h5 x (List.mem_of_mem_drop hx)⟩
  by_cases hl:l.drop i=[]
  ·exact .inl hl
  ·have hlt:i<l.length:=by
    rcases Nat.lt_or_ge i l.length with h|h
    ·exact h
    ·exact absurd (List.drop_of_length_le h) hl
   rcases h3 with rfl|⟨b,o,rfl,hc⟩
   ·simp at hlt
   ·refine .inr ⟨b,o+i,by rw [if_neg (by omega)];simp [Addr.add],fun j hj=>?_⟩
    rw [List.length_drop] at hj
    rw [Nat.add_assoc,hc (i+j) (by omega)]
    simp
 ·rw [if_neg (by omega),hb];simp [Addr.add]
structure OwnIn (w:World) (lo hi:Nat) (v:Value) (l:List Int):Prop where
 own:OwnI w lo v l
 lt:∀ k,v.ownBlock=some k→k<hi
theorem OwnI.oin {w:World} {base:Nat} {v:Value} {l:List Int} (h:OwnI w base v l):OwnIn w base w.heap.size v l:=⟨h,fun k hk=>(h.lt k hk).2⟩
theorem OwnIn.of_blocks {w w':World} {lo hi:Nat} {v:Value} {l:List Int} (h:OwnIn w lo hi v l) (hb:∀ k,lo≤k→k<hi→w'.heap[k]? = w.heap[k]?):OwnIn w' lo hi v l:=by
 obtain ⟨⟨⟨h1,h2⟩,h3,h4⟩,h5⟩:=h
 refine ⟨⟨⟨h1,?_⟩,h3,h4⟩,h5⟩
 rcases h2 with h2|⟨g,cap,cur,hv,hg,hh,hr⟩
 ·exact .inl h2
 ·exact .inr ⟨g,cap,cur,hv,hg,(hb g hg (h5 g (by rw [hv];rfl))).trans hh,hr⟩
theorem OwnIn.set {w:World} {lo hi b i:Nat} {v:Value} {l:List Int} (h:OwnIn w lo hi v l) (u:Value) (hb:b<lo∨hi≤b):OwnIn (w.setCell ⟨b,i,none⟩ u) lo hi v l:=
 h.of_blocks fun k h1 h2=>Below.heap_setCell w ⟨b,i,none⟩ u k (by simp;omega)
theorem OwnIn.drew {w:World} {lo hi:Nat} {v:Value} {l:List Int} (h:OwnIn w lo hi v l):OwnIn w.drew lo hi v l:=h.of_blocks fun _ _ _=>rfl
theorem OwnIn.drewN {w:World} {lo hi:Nat} {v:Value} {l:List Int} (h:OwnIn w lo hi v l) (n:Nat):OwnIn (w.drewN n) lo hi v l:=h.of_blocks fun _ _ _=>rfl
theorem OwnIn.below {w w':World} {lo hi B:Nat} {v:Value} {l:List Int} (h:OwnIn w lo hi v l) (hb:Below B w w') (hB:hi≤B):OwnIn w' lo hi v l:=h.of_blocks fun k _ h2=>hb.block k (by omega)
theorem OwnIn.alloc {w:World} {lo hi:Nat} {v:Value} {l:List Int} (h:OwnIn w lo hi v l) (o:Obj) (hw:hi≤w.heap.size):OwnIn (w.alloc o) lo hi v l:=
 h.of_blocks fun k _ h2=>Below.heap_alloc w o k (by omega)
theorem OwnIn.inn {w:World} {lo hi:Nat} {v:Value} {l:List Int} (h:OwnIn w lo hi v l):IntsIn w lo hi v l:=⟨h.own.ints,fun _ k hk=>⟨(h.own.lt k hk).1,h.lt k hk⟩⟩
theorem OwnIn.form {w:World} {lo hi:Nat} {v:Value} {l:List Int} (h:OwnIn w lo hi v l):∃ a c,v=.slice a l.length c:=h.own.form
structure PerAt (w:World) (lo hi:Nat) (h c:Value) (p:Per):Prop where
 inn:PerIn w lo hi h c p
 le:hi≤w.heap.size
theorem PerAt.below {w w':World} {lo hi:Nat} {h c:Value} {p:Per} (hp:PerAt w lo hi h c p) (hb:Below w.heap.size w w'):PerAt w' lo hi h c p:=⟨hp.inn.below hb hp.le,Nat.le_trans hp.le hb.size⟩
theorem POx.at {w:World} {base:Nat} {h c:Value} {p:Per} (hp:POx w base h c p):PerAt w base w.heap.size h c p:=⟨hp.inn,Nat.le_refl _⟩
structure OwnAt (w:World) (lo hi:Nat) (v:Value) (l:List Int):Prop where
 inn:OwnIn w lo hi v l
 le:hi≤w.heap.size
theorem OwnAt.below {w w':World} {lo hi:Nat} {v:Value} {l:List Int} (hp:OwnAt w lo hi v l) (hb:Below w.heap.size w w'):OwnAt w' lo hi v l:=⟨hp.inn.below hb hp.le,Nat.le_trans hp.le hb.size⟩
theorem OwnI.at {w:World} {base:Nat} {v:Value} {l:List Int} (h:OwnI w base v l):OwnAt w base w.heap.size v l:=⟨h.oin,Nat.le_refl _⟩
def Bxx (w:World) (b:Nat) (c:Array Value) (t:TypeId):Prop:=w.heap[b]? = some (.cells c t (0,0))
theorem Bxx.lt {w:World} {b:Nat} {c:Array Value} {t:TypeId} (h:Bxx w b c t):b<w.heap.size:=(Array.getElem?_eq_some_iff.1 h).1
theorem Bxx.below {w w':World} {b:Nat} {c:Array Value} {t:TypeId} (h:Bxx w b c t) (hb:Below w.heap.size w w'):Bxx w' b c t:=(hb.block b h.lt).trans h
theorem Bxx.cells {w:World} {b:Nat} {c:Array Value} {t:TypeId} (h:Bxx w b c t) (i:Nat):w.cell? ⟨b,i,none⟩=c[i]?∧w.frozen? ⟨b,i,none⟩=false:=cells_of h i
theorem Bxx.alloc {w:World} {b:Nat} {c:Array Value} {t:TypeId} (h:Bxx w b c t) (o:Obj):Bxx (w.alloc o) b c t:=(Below.heap_alloc _ _ _ h.lt).trans h
theorem Bxx.at {w:World} {b:Nat} {c:Array Value} {t:TypeId} (h:b=w.heap.size):Bxx (w.alloc (.cells c t)) b c t:=by subst h;exact World.alloc_heap_new _ _
theorem xB {w:World} {b:Nat} {c:Array Value} {t:TypeId} (h:Bxx w b c t:=by (repeat' (first|(refine Bxx.at ?_;simp;done)|apply Bxx.alloc))):Bxx w b c t:=h
theorem Bxx.new (w:World) (c:Array Value) (t:TypeId):Bxx (w.alloc (.cells c t)) w.heap.size c t:=World.alloc_heap_new _ _
theorem equal_any (v1 v2:Value) (l1 l2:List Int) (w:World) (h1:Ints w v1 l1) (h2:Ints w v2 l2) :
  Calls Tryz.prog 89 #[v1,v2] w fun e w'=>e=.returned (.bool (decide (l1=l2)))∧∃ n,w'=w.drewN n:=by
 obtain ⟨⟨a1,c1,rfl,g1,g2,g3⟩,g4,g5⟩:=h1
 obtain ⟨⟨a2,c2,rfl,k1,k2,k3⟩,k4,k5⟩:=h2
 by_cases hl:l1.length=l2.length
 ·rcases g3 with rfl|⟨b1,o1,rfl,hc1⟩
  ·refine (Tryz.slices_Equal_int_empty a1 a2 c1 l2.length c2 w (by omega)).mono fun e w' ⟨he,hw⟩=>⟨?_,0,hw⟩
   rw [he];cases l2 with
   | nil=>simp
   | cons x l=>simp at hl
  ·rcases k3 with rfl|⟨b2,o2,rfl,hc2⟩
   ·have:l1=[]:=List.eq_nil_of_length_eq_zero (by simpa using hl)
    subst this
    exact (Tryz.slices_Equal_int_empty _ a2 c1 0 c2 w (by omega)).mono fun e w' ⟨he,hw⟩=>⟨by rw [he];simp,0,hw⟩
   ·refine (Tryz.slices_Equal_int b1 o1 l1.length c1 b2 o2 l2.length c2 l1 l2 w (Nat.le_refl _) (Nat.le_refl _) (by omega) (by omega) hc1 hc2).mono fun e w' ⟨he,hw⟩=>⟨?_,hw⟩
    rw [he,List.take_length,List.take_length]
    congr 2
    by_cases e:l1=l2 <;> simp [e]
 ·refine (Tryz.slices_Equal_int_lens a1 a2 l1.length c1 l2.length c2 w hl).mono fun e w' ⟨he,hw⟩=>⟨?_,0,hw⟩
  rw [he]
  have:l1≠l2:=fun e=>hl (by rw [e])
  simp [this]
end Go.Proofs.YthjnojbeimchdaaGreat
/- Walks: Same (package periodic). -/
namespace Go.Proofs.YthjnojbeimchdaaGreat
open Go.RowKit Kal
def sameB (p q:Per):Bool:=decide (p.frm=q.frm) && decide (p.period=q.period) && decide (p.head=q.head) && decide (p.cycle=q.cycle)
theorem sameB_iff (p q:Per):sameB p q=true↔p=q:=by
 unfold sameB
 simp only [Bool.and_eq_true,decide_eq_true_eq]
 exact ⟨fun ⟨⟨⟨h1,h2⟩,h3⟩,h4⟩=>Per.ext' h3 h1 h2 h4,fun h=>by subst h;simp⟩
set_option maxRecDepth 100000 in
set_option maxHeartbeats 1000000 in
theorem same_ok (h1 c1 h2 c2:Value) (p1 p2 q1 q2:Per) (w:World) (hp1:PerIs w h1 c1 p1) (hp2:PerIs w h2 c2 p2) (hv1:Valid p1) (hv2:Valid p2) (hq1:IsCanon q1 p1.mem) (hq2:IsCanon q2 p2.mem) :
  Calls Tryz.prog 45 #[perV h1 c1 p1.frm p1.period,perV h2 c2 p2.frm p2.period] w fun e w'=>e=.returned (.bool (sameB q1 q2))∧Below w.heap.size w w':=by
 have hl1:∀ W,Below w.heap.size w W→PerIs W h1 c1 p1:=fun W hb=>hp1.ext hb
 have hl2:∀ W,Below w.heap.size w W→PerIs W h2 c2 p2:=fun W hb=>hp2.ext hb
 have hvb1:=(validB_iff p1).2 hv1
 have hvb2:=(validB_iff p2).2 hv2
 have HV1:=Lib.hid hv1
 have HV2:=Lib.hid hv2
 have HF1:Hid (p1.frm≤1125899906842624∧p1.period≤1125899906842624):=by have:=hv1.frm;have:=hv1.per;exact Lib.hid (by omega)
 have HF2:Hid (p2.frm≤1125899906842624∧p2.period≤1125899906842624):=by have:=hv2.frm;have:=hv2.per;exact Lib.hid (by omega)
 have HQ1:=Lib.hid hq1
 have HQ2:=Lib.hid hq2
 clear hp1 hp2 hv1 hv2 hq1 hq2
 go_enter Tryz.func45,Tryz.ntmps45
 go_wp2_with (go_at_call 65;first|((with_reducible refine (valid_any h1 c1 p1 _ (hl1 _ xE)).mono ?_);rintro e w1 ⟨rfl,hb1⟩;obtain ⟨hx1,hf1⟩:=bcell hb1;(try simp only [World.size_alloc,World.size_drew,size_drewN,World.size_setCell] at hx1 hf1))|((with_reducible refine (valid_any h2 c2 p2 _ (hl2 _ xE)).mono ?_);rintro e w2 ⟨rfl,hb2⟩;obtain ⟨hx2,hf2⟩:=bcell hb2;(try simp only [World.size_alloc,World.size_drew,size_drewN,World.size_setCell] at hx2 hf2)))
 have hz1:=hb1.size
 have hz2:=hb2.size
 simp only [World.size_alloc] at hz1
 have hA:(w2.cell? ⟨w.heap.size,0,none⟩=some h1∧w2.cell? ⟨w.heap.size,1,none⟩=some (.int .i64 p1.frm)∧w2.cell? ⟨w.heap.size,2,none⟩=some (.int .i64 p1.period)∧w2.cell? ⟨w.heap.size,3,none⟩=some c1)∧
   (w2.cell? ⟨w.heap.size+1,0,none⟩=some h2∧w2.cell? ⟨w.heap.size+1,1,none⟩=some (.int .i64 p2.frm)∧w2.cell? ⟨w.heap.size+1,2,none⟩=some (.int .i64 p2.period)∧w2.cell? ⟨w.heap.size+1,3,none⟩=some c2):=by
  refine ⟨⟨?_,?_,?_,?_⟩,?_,?_,?_,?_⟩ <;> (rw [hx2 _ _ (by omega),hx1 _ _ (by (first|omega|(simp;done)|(simp;omega)))];simp)
 obtain ⟨⟨hA0,hA1,hA2,hA3⟩,hB0,hB1,hB2,hB3⟩:=hA
 have hE:Below w.heap.size w w2:=by exact xE
 have HE:=Lib.hid hE
 clear hx1 hx2 hf1 hf2 hvb1 hvb2 hb1 hb2
 refine wp_region_W (w0:=w2) [0,1,2,3,4,5] [6,7] (fun v=>⟨#[perV h1 c1 p1.frm p1.period,perV h2 c2 p2.frm p2.period,.pointer (some ⟨w.heap.size,0,none⟩),.pointer (some ⟨w.heap.size+1,0,none⟩),.bool false,v 4,v 5,.agg #[h1,.int .i64 p1.frm,.int .i64 p1.period,c1],.bool true,.bool false,.bool false,.agg #[h2,.int .i64 p2.frm,.int .i64 p2.period,c2],.bool true,.bool false,.bool false,v 0,v 1,v 2,v 3,undef,undef,undef,undef,undef,undef,undef,undef,undef,undef,undef,undef,undef,undef,undef,undef,undef,undef,undef,undef,undef,undef,undef,undef,undef,undef],[]⟩) [perV h1 c1 p1.frm p1.period,undef,perV h2 c2 p2.frm p2.period,undef,undef,undef] [1,3,4,5] (fun i v lo hi W=>match i with|1=>∃ x1 x2,v 1=perV x1 x2 q1.frm q1.period∧PerAt W (lo 1) (hi 1) x1 x2 q1|3=>∃ x1 x2,v 3=perV x1 x2 q2.frm q2.period∧PerAt W (lo 3) (hi 3) x1 x2 q2|4=>v 4=.pointer (some ⟨lo 4,0,none⟩)∧lo 4<hi 4∧Bxx W (lo 4) #[.slice none 0 0,.int .i64 0,.int .i64 0,.slice none 0 0] 39|5=>v 5=.pointer (some ⟨lo 5,0,none⟩)∧lo 5<hi 5∧Bxx W (lo 5) #[.slice none 0 0,.int .i64 0,.int .i64 0,.slice none 0 0] 39|_=>True) (fun W=>Below w.heap.size w W∧(W.cell? ⟨w.heap.size,0,none⟩=some h1∧W.cell? ⟨w.heap.size,1,none⟩=some (.int .i64 p1.frm)∧W.cell? ⟨w.heap.size,2,none⟩=some (.int .i64 p1.period)∧W.cell? ⟨w.heap.size,3,none⟩=some c1)∧(W.cell? ⟨w.heap.size+1,0,none⟩=some h2∧W.cell? ⟨w.heap.size+1,1,none⟩=some (.int .i64 p2.frm)∧W.cell? ⟨w.heap.size+1,2,none⟩=some (.int .i64 p2.period)∧W.cell? ⟨w.heap.size+1,3,none⟩=some c2)) (fun W hb=>⟨by exact xE,⟨Below.cell' hb hA0 (by omega),Below.cell' hb hA1 (by omega),Below.cell' hb hA2 (by omega),Below.cell' hb hA3 (by omega)⟩,Below.cell' hb hB0 (by omega),Below.cell' hb hB1 (by omega),Below.cell' hb hB2 (by omega),Below.cell' hb hB3 (by omega)⟩) ?stab ?loc ?steps ?fin
 case stab=>
  refine ⟨?_,?_,?_,?_,trivial⟩
  ·intro v lo hi W W' h hb
   exact (let ⟨x1,x2,e,hp⟩:=h;⟨x1,x2,e,hp.below hb⟩)
  ·intro v lo hi W W' h hb
   exact (let ⟨x1,x2,e,hp⟩:=h;⟨x1,x2,e,hp.below hb⟩)
  ·intro v lo hi W W' h hb
   exact ⟨h.1,h.2.1,h.2.2.below hb⟩
  ·intro v lo hi W W' h hb
   exact ⟨h.1,h.2.1,h.2.2.below hb⟩
 case loc=>
  refine ⟨?_,?_,?_,?_,trivial⟩
  ·intro v v' lo lo' hi hi' W hag h
   have q:=hag 1 (.inl rfl)
   (try dsimp only at h ⊢)
   simp only [q.1,q.2.1,q.2.2] at h
   exact h
  ·intro v v' lo lo' hi hi' W hag h
   have q:=hag 3 (.inl rfl)
   (try dsimp only at h ⊢)
   simp only [q.1,q.2.1,q.2.2] at h
   exact h
  ·intro v v' lo lo' hi hi' W hag h
   have q:=hag 4 (.inl rfl)
   (try dsimp only at h ⊢)
   simp only [q.1,q.2.1,q.2.2] at h
   exact h
  ·intro v v' lo lo' hi hi' W hag h
   have q:=hag 5 (.inl rfl)
   (try dsimp only at h ⊢)
   simp only [q.1,q.2.1,q.2.2] at h
   exact h
 case steps=>
  clear hA0 hA1 hA2 hA3 hB0 hB1 hB2 hB3
  refine .c [] [] rfl ?_ (.c [0] [] rfl ?_ (.c [] [] rfl ?_ (.c [2] [1] rfl ?_ (.c [] [] rfl ?_ (.c [] [] rfl ?_ (.n))))))
  all_goals try exact stw
  ·rintro v lo hi W hb ⟨hE1,⟨g0,g1,g2,g3⟩,k0,k1,k2,k3⟩ _
   refine .inl ⟨rfl,fun K hK=>?_⟩
   simp only [ov,vat,Nat.reduceBEq,cond_true,cond_false]
   go_wp2_with (go_at_call 88;refine (canon_any h1 c1 p1 q1 _ (hl1 _ xE) HV1.out.wf HF1.out.1 HF1.out.2 HQ1.out).mono ?_;rintro e w3 ⟨x1,x2,rfl,ho3,hb3⟩)
   exact acx (hK (perV x1 x2 q1.frm q1.period) w3 hb3 ⟨x1,x2,rfl,ho3.at⟩) (by simp [ov,vat,upd])
  ·rintro v lo hi W hb ⟨hE1,⟨g0,g1,g2,g3⟩,k0,k1,k2,k3⟩ ⟨⟨la1,lb1,D1⟩,_⟩
   refine .inl ⟨rfl,fun K hK=>?_⟩
   simp only [ov,vat,Nat.reduceBEq,cond_true,cond_false]
   (try dsimp only at D1)
   go_wp2_with (go_at_call 88;refine (canon_any h2 c2 p2 q2 _ (hl2 _ xE) HV2.out.wf HF2.out.1 HF2.out.2 HQ2.out).mono ?_;rintro e w3 ⟨x1,x2,rfl,ho3,hb3⟩)
   exact acx (hK (perV x1 x2 q2.frm q2.period) w3 hb3 ⟨x1,x2,rfl,ho3.at⟩) (by simp [ov,vat,upd])
  ·rintro v lo hi W hb ⟨hE1,⟨g0,g1,g2,g3⟩,k0,k1,k2,k3⟩ _
   refine .inl ⟨rfl,fun K hK=>?_⟩
   simp only [ov,vat,Nat.reduceBEq,cond_true,cond_false]
   go_wp2_with fail
   exact hK (.pointer (some ⟨W.heap.size,0,none⟩)) _ (Ea (Er _) _) ⟨rfl,by simp,Bxx.new _ _ _⟩
  ·rintro v lo hi W hb ⟨hE1,⟨g0,g1,g2,g3⟩,k0,k1,k2,k3⟩ _
   refine .inl ⟨rfl,fun K hK=>?_⟩
   simp only [ov,vat,Nat.reduceBEq,cond_true,cond_false]
   go_wp2_with fail
   exact hK (.pointer (some ⟨W.heap.size,0,none⟩)) _ (Ea (Er _) _) ⟨rfl,by simp,Bxx.new _ _ _⟩
 case fin=>
  rintro v lo hi W hb ⟨hE1,_⟩ hf hap
  show wpList _ _ _ [_,_] _ _
  obtain ⟨l1,m1,n1,x1,x2,e1,⟨hP1,_⟩⟩:=hf 1 rfl
  obtain ⟨l3,m3,n3,x3,x4,e3,⟨hP3,_⟩⟩:=hf 3 rfl
  obtain ⟨l4,m4,n4,e4,lt4,hh4⟩:=hf 4 rfl
  obtain ⟨l5,m5,n5,e5,lt5,hh5⟩:=hf 5 rfl
  have d14:=hap 1 4 rfl rfl (by omega)
  have d15:=hap 1 5 rfl rfl (by omega)
  have d34:=hap 3 4 rfl rfl (by omega)
  have d35:=hap 3 5 rfl rfl (by omega)
  have d45:=hap 4 5 rfl rfl (by omega)
  clear hf hap hA0 hA1 hA2 hA3 hB0 hB1 hB2 hB3
  generalize lo 1=lo1 at *
  generalize lo 3=lo3 at *
  generalize lo 4=b5 at *
  generalize lo 5=b6 at *
  generalize hi 1=hi1 at *
  generalize hi 3=hi3 at *
  generalize hi 4=hi4 at *
  generalize hi 5=hi5 at *
  have hne:b5≠b6:=by omega
  have hne':b6≠b5:=by omega
  obtain ⟨a1,t1,a2,t2,rfl,rfl⟩:=hP1.form
  obtain ⟨a3,t3,a4,t4,rfl,rfl⟩:=hP3.form
  have c0:=(cells_of hh4 0)
  have c1:=(cells_of hh4 1)
  have c2:=(cells_of hh4 2)
  have c3:=(cells_of hh4 3)
  have k0:=(cells_of hh5 0)
  have k1:=(cells_of hh5 1)
  have k2:=(cells_of hh5 2)
  have k3:=(cells_of hh5 3)
  dsimp only
  rw [e1,e3,e4,e5]
  generalize v 0=v0
  generalize v 2=v2
  clear hh4 hh5 e1 e3 e4 e5
  go_wp2_with (go_at_call 89;first|((with_reducible refine (equal_any (.slice a1 q1.head.length t1) (.slice a3 q2.head.length t3) q1.head q2.head _ (show PerIn _ lo1 hi1 _ (.slice a2 q1.cycle.length t2) q1 by (repeat' (with_reducible first|assumption|refine PerIn.alloc ?_ _ ?_|refine PerIn.drew ?_|refine PerIn.drewN ?_ _|refine PerIn.set ?_ _ ?_|refine PerIn.below ?_ (by assumption) ?_|omega|(simp;done)|(simp;omega)))).is.hd (show PerIn _ lo3 hi3 _ (.slice a4 q2.cycle.length t4) q2 by (repeat' (with_reducible first|assumption|refine PerIn.alloc ?_ _ ?_|refine PerIn.drew ?_|refine PerIn.drewN ?_ _|refine PerIn.set ?_ _ ?_|refine PerIn.below ?_ (by assumption) ?_|omega|(simp;done)|(simp;omega)))).is.hd).mono ?_);rintro e w5 ⟨rfl,nq,rfl⟩)|((with_reducible refine (equal_any (.slice a2 q1.cycle.length t2) (.slice a4 q2.cycle.length t4) q1.cycle q2.cycle _ (show PerIn _ lo1 hi1 (.slice a1 q1.head.length t1) _ q1 by (repeat' (with_reducible first|assumption|refine PerIn.alloc ?_ _ ?_|refine PerIn.drew ?_|refine PerIn.drewN ?_ _|refine PerIn.set ?_ _ ?_|refine PerIn.below ?_ (by assumption) ?_|omega|(simp;done)|(simp;omega)))).is.cy (show PerIn _ lo3 hi3 (.slice a3 q2.head.length t3) _ q2 by (repeat' (with_reducible first|assumption|refine PerIn.alloc ?_ _ ?_|refine PerIn.drew ?_|refine PerIn.drewN ?_ _|refine PerIn.set ?_ _ ?_|refine PerIn.below ?_ (by assumption) ?_|omega|(simp;done)|(simp;omega)))).is.cy).mono ?_);rintro e w5 ⟨rfl,nr,rfl⟩))
  all_goals (go_ret;refine ⟨ret_bool ?_,xE⟩;simp [sameB, *])
end Go.Proofs.YthjnojbeimchdaaGreat
/- Walks: later (package periodic). -/
namespace Go.Proofs.YthjnojbeimchdaaGreat
open Go.RowKit Kal
def laterP (p:Per) (day:Int):Per:=⟨p.head.drop (p.head.countP fun y=>decide (y<day)),max p.frm day,p.period,isort (cycL p (max p.frm day))⟩
theorem laterP_ok {p:Per} (h:p.WF) {day:Int} (h0:0≤day):(laterP p day).WF∧∀ n,(laterP p day).mem n↔p.mem n∧day≤n:=
 later_wf h h0 (isort_lt (cycL_nodup h _)) fun y=>isort_mem _ y
def OwnRes (c:Per) (w:World) (e:Ending) (w':World):Prop:=
 ∃ (h' c':Value),e=.returned (perV h' c' c.frm c.period)∧POx w' w.heap.size h' c' c∧Below w.heap.size w w'∧∀ g,h'.ownBlock=some g→c'.ownBlock≠some g
structure LI (w:World) (ob:Nat) (p:Per) (hp cp:Value) (f:Int) (l4 h4:Nat) (hv:Value) (hl:List Int) (base:Nat) (cyv:Value) (l:List Int) (W:World):Prop where
 below:Below w.heap.size w W
 pb:Bxx W w.heap.size #[hp,.int .i64 p.frm,.int .i64 p.period,cp] 39
 rb:Bxx W (w.heap.size+1) #[.slice none 0 0,.int .i64 0,.int .i64 0,.slice none 0 0] 39
 obx:Bxx W ob #[hv,.int .i64 f,.int .i64 p.period,cyv] 39
 own:OwnI W base cyv l
 hd:OwnIn W l4 h4 hv hl
 o1:w.heap.size+1<ob
 o2:ob<base
 o3:base≤W.heap.size
 o4:ob<l4∨h4≤ob
 o5:h4≤base
 o6:w.heap.size+1<l4
theorem Bxx.setNe {W:World} {b k i:Nat} {c:Array Value} {t:TypeId} (h:Bxx W b c t) (v:Value) (hne:b≠k):Bxx (W.setCell ⟨k,i,none⟩ v) b c t:=(Below.heap_setCell W ⟨k,i,none⟩ v b hne).trans h
theorem Bxx.upto {W W':World} {B b:Nat} {c:Array Value} {t:TypeId} (h:Bxx W b c t) (hb:Below B W W') (hlt:b<B):Bxx W' b c t:=(hb.block b hlt).trans h
theorem LI.step {w:World} {ob:Nat} {p:Per} {hp cp:Value} {f:Int} {l4 h4:Nat} {hv:Value} {hl:List Int} {base:Nat} {cyv:Value} {l:List Int} {W:World} (h:LI w ob p hp cp f l4 h4 hv hl base cyv l W)
  {W1:World} {v':Value} {l':List Int} (hb:Below base W W1) (ho:OwnI W1 base v' l'):LI w ob p hp cp f l4 h4 hv hl base v' l' (W1.setCell ⟨ob,3,none⟩ v'):=by
 have o1:=h.o1;have o2:=h.o2;have o3:=h.o3;have o4:=h.o4;have o5:=h.o5
 have hz:=hb.size
 exact ⟨(h.below.trans (hb.mono (by omega))).setCell (p:=⟨ob,3,none⟩) (by simp;omega) _,(h.pb.upto hb (by omega)).setNe _ (by omega),(h.rb.upto hb (by omega)).setNe _ (by omega),set4 (h.obx.upto hb (by omega)),
  ho.above ((Above.refl base W1).setCell (by simp;omega) _),(h.hd.below hb (by omega)).set _ o4,o1,o2,by simp;omega,o4,o5,h.o6⟩
set_option maxRecDepth 100000 in
set_option maxHeartbeats 2000000 in
theorem later_any (h c:Value) (p:Per) (day:Int) (w:World) (hp:PerIs w h c p) (hw:p.WF) (h1:p.frm≤1125899906842624) (h2:p.period≤1125899906842624) (h0:0≤day) (hd:day≤1125899906842624) :
  Calls Tryz.prog 136 #[perV h c p.frm p.period,.int .i64 day] w (OwnRes (laterP p day) w):=by
 have f0:=hw.frm
 have hs1:=hw.head.1
 have hl:∀ W,Below w.heap.size w W→Ints W h p.head:=fun W hb=>hp.hd.ext hb
 have hcx:∀ W,Below w.heap.size w W→Ints W c p.cycle:=fun W hb=>hp.cy.ext hb
 obtain ⟨⟨⟨ha,hcap,rfl,hlc,hcc,hcells⟩,hlen,_⟩,⟨ca,ccap,rfl,_,_,_⟩,hclen,_⟩:=hp
 have hk2:p.head.countP (fun y=>decide (y<day))≤p.head.length:=List.countP_le_length
 obtain ⟨i0,hi0⟩:∃ i0,i0=p.head.countP fun y=>decide (y<day):=⟨_,rfl⟩
 rw [← hi0] at hk2
 obtain ⟨a',hrun,hdr,_⟩:=slice_from (a:=ha) (c:=hcap) p.head hk2
 have HI:=Lib.hid hi0
 have HW:=Lib.hid hw
 clear hcells hi0 hw
 go_enter Tryz.func136,Tryz.ntmps136
 go_wp2_with (go_at_call 128;(refine (search_any _ p.head day _ (hl _ xE) hs1).mono ?_);rintro e w' ⟨he,nq,rfl⟩;rw [← HI.out] at he;subst he)
 generalize hW0:World.drewN _ nq=W0
 have hE:Below w.heap.size w W0:=by rw [← hW0];exact xE
 have hpb:Bxx W0 w.heap.size #[.slice ha p.head.length hcap,.int .i64 p.frm,.int .i64 p.period,.slice ca p.cycle.length ccap] 39:=by rw [← hW0];exact (Below.heap_alloc _ _ _ (by simp)).trans (World.alloc_heap_new _ _)
 have hrb:Bxx W0 (w.heap.size+1) #[.slice none 0 0,.int .i64 0,.int .i64 0,.slice none 0 0] 39:=by
  rw [← hW0];have:=World.alloc_heap_new (w.alloc (.cells #[.slice ha p.head.length hcap,.int .i64 p.frm,.int .i64 p.period,.slice ca p.cycle.length ccap] 39)) (.cells #[.slice none 0 0,.int .i64 0,.int .i64 0,.slice none 0 0] 39);rwa [World.size_alloc] at this
 clear hW0
 have hA0:W0.cell? ⟨w.heap.size,0,none⟩=some (.slice ha p.head.length hcap):=(hpb.cells 0).1
 have hA1:W0.cell? ⟨w.heap.size,1,none⟩=some (.int .i64 p.frm):=(hpb.cells 1).1
 have hA2:W0.cell? ⟨w.heap.size,2,none⟩=some (.int .i64 p.period):=(hpb.cells 2).1
 have hz0:=hrb.lt
 refine wp_region_W (w0:=W0) [0,1,2,3,4,5,6,7,8,9,10,11,12] [13] (fun v=>⟨#[perV (.slice ha p.head.length hcap) (.slice ca p.cycle.length ccap) p.frm p.period,.int .i64 day,.pointer (some ⟨w.heap.size,0,none⟩),undef,.pointer (some ⟨w.heap.size+1,0,none⟩),.int .i64 ↑i0,.bool (decide (day∈p.head)),v 12,undef,undef,.tuple #[.int .i64 ↑i0,.bool (decide (day∈p.head))],.pointer (some ⟨w.heap.size,0,none⟩),.slice ha p.head.length hcap,.int .i64 day,.tuple #[.int .i64 ↑i0,.bool (decide (day∈p.head))],.int .i64 ↑i0,.bool (decide (day∈p.head)),v 0,v 1,v 2,v 3,v 4,v 5,v 6,v 7,v 8,v 9,v 10,v 11,undef,undef,undef,undef,undef,undef,undef,undef,undef,undef,undef,undef,undef,undef,undef,undef,undef,undef,undef,undef,undef,undef,undef,undef,undef,undef,undef],[]⟩) [.pointer (some ⟨w.heap.size,0,none⟩),.slice ha p.head.length hcap,.int .i64 i0,.slice a' (p.head.length-i0) (hcap-i0),undef,.pointer (some ⟨w.heap.size,1,none⟩),.int .i64 p.frm,.int .i64 day,.int .i64 (max p.frm day),.pointer (some ⟨w.heap.size,2,none⟩),.int .i64 p.period,undef,undef] [4,11,12] (fun i v lo hi W=>match i with|4=>(∃ a c,v 4=.slice a (p.head.drop i0).length c)∧OwnAt W (lo 4) (hi 4) (v 4) (p.head.drop i0)|11=>v 11=.agg #[v 4,.int .i64 (max p.frm day),.int .i64 p.period,.slice none 0 0]|12=>v 12=.pointer (some ⟨lo 12,0,none⟩)∧lo 12<hi 12∧Bxx W (lo 12) #[.slice none 0 0,.int .i64 0,.int .i64 0,.slice none 0 0] 39|_=>True) (fun W=>Below w.heap.size w W∧W.cell? ⟨w.heap.size,0,none⟩=some (.slice ha p.head.length hcap)∧W.cell? ⟨w.heap.size,1,none⟩=some (.int .i64 p.frm)∧W.cell? ⟨w.heap.size,2,none⟩=some (.int .i64 p.period)) (fun W hb=>⟨by exact xE,Below.cell' hb hA0 (by omega),Below.cell' hb hA1 (by omega),Below.cell' hb hA2 (by omega)⟩) ?stab ?loc ?steps ?fin
 case stab=>
  refine ⟨?_,?_,?_,trivial⟩
  ·intro v lo hi W W' h hb
   exact ⟨h.1,h.2.below hb⟩
  ·intro v lo hi W W' h hb
   exact h
  ·intro v lo hi W W' h hb
   exact ⟨h.1,h.2.1,h.2.2.below hb⟩
 case loc=>
  refine ⟨?_,?_,?_,trivial⟩
  ·intro v v' lo lo' hi hi' W hag h
   have q:=hag 4 (.inl rfl)
   (try dsimp only at h ⊢)
   simp only [q.1,q.2.1,q.2.2] at h
   exact h
  ·intro v v' lo lo' hi hi' W hag h
   have q:=hag 11 (.inl rfl)
   have q4:=hag 4 (.inr (Rdp (by kernel_rfl)))
   (try dsimp only at h ⊢)
   simp only [q.1,q.2.1,q.2.2,q4.1,q4.2.1,q4.2.2] at h
   exact h
  ·intro v v' lo lo' hi hi' W hag h
   have q:=hag 12 (.inl rfl)
   (try dsimp only at h ⊢)
   simp only [q.1,q.2.1,q.2.2] at h
   exact h
 case steps=>
  clear hA0 hA1 hA2
  refine .c [] [] rfl ?_ (.c [0] [] rfl ?_ (.c [] [] rfl ?_ (.c [1,2] [] rfl ?_ (.c [3] [] rfl ?_ (.c [] [] rfl ?_ (.c [5] [] rfl ?_ (.c [] [] rfl ?_ (.c [6,7] [] rfl ?_ (.c [] [] rfl ?_ (.c [9] [] rfl ?_ (.c [8,10] [4] rfl ?_ (.c [] [] rfl ?_ (.n)))))))))))))
  all_goals try exact stw
  ·rintro v lo hi W hb ⟨hE1,g0,g1,g2⟩ _
   refine .inl ⟨rfl,fun K hK=>?_⟩
   simp only [ov,vat,Nat.reduceBEq,cond_true,cond_false]
   go_wp2_with (go_at_call 129;refine (clone_any _ (p.head.drop i0) _ (hdr _ (hl _ xE))).mono ?_;rintro e w3 ⟨x,rfl,ho3,hb3⟩)
   exact acx (hK x w3 hb3 ⟨ho3.form,ho3.at⟩) (by simp [ov,vat,upd])
  ·rintro v lo hi W hb ⟨hE1,g0,g1,g2⟩ ⟨⟨la4,lb4,D4⟩,_⟩
   refine .inl ⟨rfl,fun K hK=>?_⟩
   simp only [ov,vat,Nat.reduceBEq,cond_true,cond_false]
   (try dsimp only at D4)
   obtain ⟨⟨a9,c9,e4⟩,_⟩:=D4
   (try simp only [e4])
   go_wp2_with fail
   exact acx (hK (.agg #[v 4,.int .i64 (max p.frm day),.int .i64 p.period,.slice none 0 0]) W (Below.refl _ _) rfl) (by simp [ov,vat,upd,e4])
  ·rintro v lo hi W hb ⟨hE1,g0,g1,g2⟩ _
   refine .inl ⟨rfl,fun K hK=>?_⟩
   simp only [ov,vat,Nat.reduceBEq,cond_true,cond_false]
   go_wp2_with fail
   exact hK (.pointer (some ⟨W.heap.size,0,none⟩)) _ (Ea (Er _) _) ⟨rfl,by simp,Bxx.new _ _ _⟩
 case fin=>
  rintro v lo hi W hb ⟨hE1,_⟩ hf hap
  show wpList _ _ _ [_] _ _
  obtain ⟨l4a,m4,n4,⟨a9,c9,e4⟩,hO4,_⟩:=hf 4 rfl
  obtain ⟨l12,m12,n12,e12,lt12,hb12⟩:=hf 12 rfl
  have e11:v 11=.agg #[v 4,.int .i64 (max p.frm day),.int .i64 p.period,.slice none 0 0]:=(hf 11 rfl).2.2.2
  have d:=hap 4 12 rfl rfl (by omega)
  have hpb1:=hpb.below hb
  have hrb1:=hrb.below hb
  clear hf hap hA0 hA1 hA2 hpb hrb
  rw [e4] at hO4 e11
  generalize lo 4=l4 at *
  generalize hi 4=h4 at *
  generalize lo 12=ob at *
  generalize hi 12=h12 at *
  have q0:=hb12.cells 0
  have q1:=hb12.cells 1
  have q2:=hb12.cells 2
  have q3:=hb12.cells 3
  have q4:=hpb1.cells 3
  dsimp only
  rw [e11,e12]
  generalize hfm:max p.frm day=f at *
  have HF:=Lib.hid hfm.symm
  have hfs:p.frm≤f:=by omega
  have hfd:f≤1125899906842624:=by omega
  clear hfm
  generalize v 0=v0
  generalize v 1=v1
  generalize v 2=v2
  generalize v 3=v3
  generalize v 4=v4
  generalize v 5=v5
  generalize v 6=v6
  generalize v 7=v7
  generalize v 8=v8
  generalize v 9=v9
  generalize v 10=v10
  obtain ⟨hl,hhl⟩:∃ hl,hl=p.head.drop i0:=⟨_,rfl⟩
  rw [← hhl] at hO4 ⊢
  have HHL:=Lib.hid hhl
  clear hhl
  have hst:=LI.mk (w:=w) (ob:=ob) (p:=p) (f:=f) (base:=W.heap.size) (cyv:=.slice none 0 0) (l:=[]) (W:=((((W.setCell ⟨ob,0,none⟩ (.slice a9 hl.length c9)).setCell ⟨ob,1,none⟩ (.int .i64 f)).setCell ⟨ob,2,none⟩ (.int .i64 p.period)).setCell ⟨ob,3,none⟩ (.slice none 0 0)))
   xE ((((hpb1.setNe _ (by omega)).setNe _ (by omega)).setNe _ (by omega)).setNe _ (by omega)) ((((hrb1.setNe _ (by omega)).setNe _ (by omega)).setNe _ (by omega)).setNe _ (by omega)) (set4all hb12) (OwnI.nil _ _)
   ((((hO4.set _ (by omega)).set _ (by omega)).set _ (by omega)).set _ (by omega)) (by omega) (by omega) (by simp) (by omega) (by omega) (by omega)
  have HST:=Lib.hid hst
  clear hst hpb1 hrb1 hb12 e11 e12 e4
  go_wp2_with fail
  have hp0:=(HW.out).per
  go_loopw [32] (fun i wr=>∃ (k:Nat) (cyv:Value),k≤p.cycle.length∧i=.int .i64 k∧LI w ob p (.slice ha p.head.length hcap) (.slice ca p.cycle.length ccap) f l4 h4 (.slice a9 hl.length c9) hl W.heap.size cyv ((p.cycle.take k).map fun c=>(p.frm+c-f) % p.period) wr) (fun i _=>p.cycle.length-(intOf i).toNat)
  case atStart=>exact ⟨0,_,by omega,rfl,HST.out⟩
  case round=>
   obtain ⟨k,cyv,hk,rfl,hTw⟩:=hrel
   have hq1:wr.cell? ⟨w.heap.size,1,none⟩=some (.int .i64 p.frm):=(hTw.pb.cells 1).1
   have hq2:wr.cell? ⟨w.heap.size,2,none⟩=some (.int .i64 p.period):=(hTw.pb.cells 2).1
   have hq3:wr.cell? ⟨ob,1,none⟩=some (.int .i64 f):=(hTw.obx.cells 1).1
   have hq4:wr.cell? ⟨ob,3,none⟩=some cyv:=(hTw.obx.cells 3).1
   have hqf:wr.frozen? ⟨ob,3,none⟩=false:=(hTw.obx.cells 3).2
   have o2:=hTw.o2
   have o3:=hTw.o3
   have hown:=hTw.own
   have HTW:=Lib.hid hTw
   have hBw:=hcx wr hTw.below
   clear hTw
   by_cases hlt:k<p.cycle.length
   ·obtain ⟨⟨a8,c8,he8,_,_,h38⟩,_,_⟩:=hBw
    injection he8 with he1 he2 he3
    subst he1;subst he3
    rcases h38 with h38|⟨b8,f8,rfl,hcell⟩
    ·rw [h38] at hlt;simp at hlt
    have hcl:=hcell k hlt
    clear hcell
    have hkI:(k:Int)<p.cycle.length:=by omega
    obtain ⟨y,hy⟩:∃ y,y=p.cycle.getD k 0:=⟨_,rfl⟩
    have hr1:=(HW.out).cyc.2 (p.cycle.getD k 0) (getD_mem hlt)
    rw [← hy] at hcl hr1
    have HY:=Lib.hid hy
    clear hy
    have hw1:IntKind.i64.wrap (p.frm+y)=p.frm+y:=wrapI ⟨by omega,by omega⟩
    have hw2:IntKind.i64.wrap (p.frm+y-f)=p.frm+y-f:=wrapI ⟨by omega,by omega⟩
    have hm1:=Int.emod_nonneg (p.frm+y-f) (show p.period≠0 by omega)
    have hm2:=Int.emod_lt_of_pos (p.frm+y-f) (show 0<p.period by omega)
    obtain ⟨z,hz⟩:∃ z,z=(p.frm+y-f) % p.period:=⟨_,rfl⟩
    rw [← hz] at hm1 hm2
    have HZ:=Lib.hid hz
    clear hz
    go_wp2_with fail
    refine wp_region_W (w0:=wr) [0,1,2,3,4,5,6,7,8,9,10,11,12] [13,14,15] (fun v=>⟨#[perV (.slice ha p.head.length hcap) (.slice (some ⟨b8,f8,none⟩) p.cycle.length ccap) p.frm p.period,.int .i64 day,.pointer (some ⟨w.heap.size,0,none⟩),undef,.pointer (some ⟨w.heap.size+1,0,none⟩),.int .i64 ↑i0,.bool (decide (day∈p.head)),.pointer (some ⟨ob,0,none⟩),undef,.int .i64 y,.tuple #[.int .i64 ↑i0,.bool (decide (day∈p.head))],.pointer (some ⟨w.heap.size,0,none⟩),.slice ha p.head.length hcap,.int .i64 day,.tuple #[.int .i64 ↑i0,.bool (decide (day∈p.head))],.int .i64 ↑i0,.bool (decide (day∈p.head)),v0,v1,v2,v3,v4,v5,v6,v7,v8,v9,v10,.agg #[.slice a9 hl.length c9,.int .i64 f,.int .i64 p.period,.slice none 0 0],.pointer (some ⟨w.heap.size,3,none⟩),.slice (some ⟨b8,f8,none⟩) p.cycle.length ccap,.int .i64 ↑p.cycle.length,.int .i64 ↑k,.bool true,.pointer (some ⟨b8,f8+k,none⟩),.int .i64 y,v 0,v 1,v 2,v 3,v 4,v 5,v 6,v 7,v 8,v 9,v 10,v 11,v 12,u49,u50,u51,undef,undef,undef,undef],[]⟩) [.pointer (some ⟨ob,3,none⟩),cyv,.pointer (some ⟨w.heap.size,1,none⟩),.int .i64 p.frm,.int .i64 y,.int .i64 (p.frm+y),.pointer (some ⟨ob,1,none⟩),.int .i64 f,.int .i64 (p.frm+y-f),.pointer (some ⟨w.heap.size,2,none⟩),.int .i64 p.period,.int .i64 z,undef] [12] (fun i v lo hi W=>match i with|12=>v 12=.slice (some ⟨lo 12,0,none⟩) 1 1∧lo 12<hi 12∧Bxx W (lo 12) #[.int .i64 z] 3|_=>True) (fun W=>W.cell? ⟨w.heap.size,1,none⟩=some (.int .i64 p.frm)∧W.cell? ⟨w.heap.size,2,none⟩=some (.int .i64 p.period)∧W.cell? ⟨ob,1,none⟩=some (.int .i64 f)∧W.cell? ⟨ob,3,none⟩=some cyv) (fun W9 hb=>⟨cux hq1 hb,cux hq2 hb,cux hq3 hb,cux hq4 hb⟩) ?stab ?loc ?steps ?fin (fun j=>match j with|0=>u36|1=>u37|2=>u38|3=>u39|4=>u40|5=>u41|6=>u42|7=>u43|8=>u44|9=>u45|10=>u46|11=>u47|12=>u48|_=>undef)
    case stab=>
     refine ⟨?_,trivial⟩
     ·intro v lo hi W W' h hb
      exact ⟨h.1,h.2.1,h.2.2.below hb⟩
    case loc=>
     refine ⟨?_,trivial⟩
     ·intro v v' lo lo' hi hi' W hag h
      have q:=hag 12 (.inl rfl)
      (try dsimp only at h ⊢)
      simp only [q.1,q.2.1,q.2.2] at h
      exact h
    case steps=>
     refine .c [] [] rfl ?_ (.c [0] [] rfl ?_ (.c [] [] rfl ?_ (.c [2] [] rfl ?_ (.c [] [] rfl ?_ (.c [3,4] [] rfl ?_ (.c [] [] rfl ?_ (.c [6] [] rfl ?_ (.c [5,7] [] rfl ?_ (.c [] [] rfl ?_ (.c [9] [] rfl ?_ (.c [8,10] [] rfl ?_ (.c [11] [] rfl ?_ (.n)))))))))))))
     all_goals try exact stw
     ·rintro v lo hi W hb ⟨g0,g1,g2,g3⟩ _
      refine .inl ⟨rfl,fun K hK=>?_⟩
      simp only [ov,vat,Nat.reduceBEq,cond_true,cond_false]
      go_wp2_with (go_at_call 167;refine (residue_any _ _ _ (by omega) (by omega)).mono ?_;rintro e w' ⟨he,rfl⟩;rw [← HZ.out] at he;subst he)
      exact acx (hK _ (Below.refl _ _)) (by simp [ov,vat,upd])
     ·rintro v lo hi W hb ⟨g0,g1,g2,g3⟩ _
      refine .inl ⟨rfl,fun K hK=>?_⟩
      simp only [ov,vat,Nat.reduceBEq,cond_true,cond_false]
      go_wp2_with fail
      exact acx (hK (.slice (some ⟨W.heap.size,0,none⟩) 1 1) _ (Ea (Er _) _) ⟨rfl,by simp,Bxx.new _ _ _⟩) (by simp [ov,vat,upd])
    case fin=>
     rintro v lo hi W1 hb ⟨g0,g1,g2,g3⟩ hf hap
     show wpList _ _ _ [_,_,_] _ _
     have e1:v 1=cyv:=(hf 1 rfl).2.2.2
     obtain ⟨l12,m12,n12,e12,lt12,hb12⟩:=hf 12 rfl
     have hqf1:=(Below.frozen hb (p:=⟨ob,3,none⟩) (by simp;omega)).trans hqf
     have hown1:=hown.ext hb
     have hz1:=hb.size
     have hnew:W1.cell? ⟨lo 12,0,none⟩=some (.int .i64 z):=(hb12.cells 0).1
     clear hf hap g0 g1 g2
     dsimp only
     rw [e1,e12]
     generalize lo 12=bn at *
     refine append_list (by rfl) _ _ (by rfl) W.heap.size cyv _ z (by rfl) hown1 _ _ (by rfl) hnew ⟨by omega,by omega⟩ (by simp;omega) (by omega) ?_
     intro g cap W2 hown2 hgrow hbel
     have hbel':Below W.heap.size wr W2:=(hb.mono o3).trans hbel
     have hqf2:W2.frozen? ⟨ob,3,none⟩=false:=(Below.frozen hbel' (p:=⟨ob,3,none⟩) o2).trans hqf
     have hqc2:W2.cell? ⟨ob,3,none⟩=some cyv:=Below.cell' hbel' hq4 o2
     go_wp2_with fail
     go_roundw
     case rel=>
      have hlen:((p.cycle.take k).map fun c=>(p.frm+c-f) % p.period).length=k:=by simp;omega
      have htk:((p.cycle.take (k+1)).map fun c=>(p.frm+c-f) % p.period)=((p.cycle.take k).map fun c=>(p.frm+c-f) % p.period) ++ [z]:=by
       rw [List.take_succ_eq_append_getElem hlt,List.map_append,HZ.out,HY.out,List.getD_eq_getElem?_getD,List.getElem?_eq_getElem hlt];rfl
      rw [hlen] at hown2
      refine ⟨k+1,.slice (some ⟨g,0,none⟩) (k+1) cap,by omega,by go_num,?_⟩
      rw [htk]
      exact HTW.out.step hbel' hown2
     case measure=>simp [intOf];omega
   ·obtain rfl:k=p.cycle.length:=by omega
    obtain ⟨cl,hcl⟩:∃ cl,cl=((p.cycle.take p.cycle.length).map fun c=>(p.frm+c-f) % p.period):=⟨_,rfl⟩
    have hTc:=HTW.out
    rw [← hcl] at hown hTc
    have HTC:=Lib.hid hTc
    have HCL:=Lib.hid hcl
    clear hTc hcl HTW
    go_wp2_with fail
    go_at_call 132
    refine (sort_any _ _ W.heap.size _ hown).mono ?_
    rintro e W2 ⟨rfl,hown2,hgrow⟩
    have hbel:=hown.below_grown (W0:=wr) (.inr trivial) o3 hgrow
    obtain ⟨ya,yc,rfl⟩:=hown.form
    have o1:=HTC.out.o1
    have o4:=HTC.out.o4
    have o5:=HTC.out.o5
    have o6:=HTC.out.o6
    have hob2:=HTC.out.obx.upto hbel o2
    have hrb2:=HTC.out.rb.upto hbel (by omega)
    have hk0:W2.cell? ⟨ob,0,none⟩=some (.slice a9 hl.length c9):=(hob2.cells 0).1
    have hk1:W2.cell? ⟨ob,1,none⟩=some (.int .i64 f):=(hob2.cells 1).1
    have hk2:W2.cell? ⟨ob,2,none⟩=some (.int .i64 p.period):=(hob2.cells 2).1
    have hk3:W2.cell? ⟨ob,3,none⟩=some (.slice ya cl.length yc):=(hob2.cells 3).1
    have hj0:=hrb2.cells 0
    have hj1:=hrb2.cells 1
    have hj2:=hrb2.cells 2
    have hj3:=hrb2.cells 3
    have hdd:=HTC.out.hd.below hbel o5
    have HRB:=Lib.hid hrb2
    have hz2:=hbel.size
    have hbW:Below w.heap.size w W2:=HTC.out.below.trans (hbel.mono (by omega))
    have HAP:Hid (∀ g,(Value.slice a9 hl.length c9).ownBlock=some g→(Value.slice ya cl.length yc).ownBlock≠some g):=Lib.hid (fun g h1 h2=>by have:=hdd.lt g h1;have:=(hown2.lt g h2).1;omega)
    have HCY:=Lib.hid (hown2.mono (base':=w.heap.size+1+1) (by omega)).oin
    clear hob2 hrb2 hown2 hgrow hbel hown
    go_wp2_with fail
    refine bodyPost_ret (v:=perV (.slice a9 hl.length c9) (.slice ya cl.length yc) f p.period) (by simp [results,Tryz.results136,go_sem, *]) rfl ⟨.slice a9 hl.length c9,.slice ya cl.length yc,?_,⟨?_,?_⟩,by exact xE,HAP.out⟩
    ·simp only [laterP,HF.out]
    ·have h1:OwnIn _ _ _ (.slice a9 hl.length c9) hl:=(((hdd.set (b:=w.heap.size+1) (i:=0) (.slice a9 hl.length c9) (by omega)).set (b:=w.heap.size+1) (i:=1) (.int .i64 f) (by omega)).set (b:=w.heap.size+1) (i:=2) (.int .i64 p.period) (by omega)).set (b:=w.heap.size+1) (i:=3) (.slice ya cl.length yc) (by omega)
     have h2:=h1.own.mono (base':=w.heap.size) (by omega)
     show OwnI _ _ _ (laterP p day).head
     rw [show (laterP p day).head=hl from by rw [HHL.out,HI.out];rfl]
     exact h2
    ·have h1:OwnIn _ _ _ (.slice ya cl.length yc) (isort cl):=(((HCY.out.set (b:=w.heap.size+1) (i:=0) (.slice a9 hl.length c9) (by omega)).set (b:=w.heap.size+1) (i:=1) (.int .i64 f) (by omega)).set (b:=w.heap.size+1) (i:=2) (.int .i64 p.period) (by omega)).set (b:=w.heap.size+1) (i:=3) (.slice ya cl.length yc) (by omega)
     have h2:=h1.own.mono (base':=w.heap.size) (by omega)
     show OwnI _ _ _ (laterP p day).cycle
     rw [show (laterP p day).cycle=isort cl from by rw [HCL.out,List.take_length,HF.out];rfl]
     exact h2
end Go.Proofs.YthjnojbeimchdaaGreat
/- Walks: from (package periodic) and its iterator. -/
namespace Go.Proofs.YthjnojbeimchdaaGreat
open Go.RowKit Go.Shelf Kal
attribute [local go_sem] Oper.semAt_some
set_option maxRecDepth 100000 in
theorem from_any (h c:Value) (p:Per) (lo:Int) (w:World) (hp:∃ a1 n1 c1 a2 n2 c2,h=.slice a1 n1 c1∧c=.slice a2 n2 c2) :
  Calls Tryz.prog 84 #[perV h c p.frm p.period,.int .i64 lo] w fun e w'=>e=.returned (.func (.func 127) #[] #[.pointer (some ⟨w.heap.size,0,none⟩),.pointer (some ⟨w.heap.size+1,0,none⟩)])∧
   (w.alloc (.cells #[h,.int .i64 p.frm,.int .i64 p.period,c] 39)).alloc (.cells #[.int .i64 lo] 3)=w':=by
 obtain ⟨a1,n1,c1,a2,n2,c2,rfl,rfl⟩:=hp
 go_enter Tryz.func84,Tryz.ntmps84
 go_wp2
 go_ret
 exact ⟨rfl,rfl⟩
theorem KeepsOf.block {pb:Nat→Prop} {A B:World} (h:KpB pb A B) {b:Nat} {c:Array Value} {t:TypeId} (hp:pb b) (hb:Bxx A b c t):Bxx B b c t:=(h b hp).trans hb
theorem Ints.kp {pb:Nat→Prop} {A B:World} {v:Value} {l:List Int} (h:Ints A v l) (hk:KpB pb A B) (hp:l≠[]→∀ b o n c,v=.slice (some ⟨b,o,none⟩) n c→pb b):Ints B v l:=by
 obtain ⟨⟨a,c,rfl,h1,h2,h3⟩,h4,h5⟩:=h
 refine ⟨⟨a,c,rfl,h1,h2,?_⟩,h4,h5⟩
 by_cases hl:l=[]
 ·exact .inl hl
 ·refine h3.imp id ?_
  rintro ⟨b,o,rfl,hc⟩
  exact ⟨b,o,rfl,fun i hi=>hk.cell (hp hl b o _ _ rfl) (hc i hi)⟩
set_option maxRecDepth 100000 in
set_option maxHeartbeats 4000000 in
theorem from_seq (h c:Value) (p:Per) (lo:Int) (pbx lbx:Nat) (w:World) (pb:Nat→Prop) (hp:PerIs w h c p) (hw:p.WF) (h1:p.frm≤1125899906842624) (h2:p.period≤1125899906842624) (h0:0≤lo) (h3:lo≤1125899906842624)
  (hpb:Bxx w pbx #[h,.int .i64 p.frm,.int .i64 p.period,c] 39) (hlb:Bxx w lbx #[.int .i64 lo] 3) (g1:pb pbx) (g2:pb lbx)
  (g3:p.head≠[]→∀ b o n c',h=.slice (some ⟨b,o,none⟩) n c'→pb b) (g4:p.cycle≠[]→∀ b o n c',c=.slice (some ⟨b,o,none⟩) n c'→pb b∧b≠lbx) (g5:pbx≠lbx) :
  SeqX Tryz.prog 127 #[.pointer (some ⟨pbx,0,none⟩),.pointer (some ⟨lbx,0,none⟩)] (fun y:Int=>#[.int .i64 y]) (KpB pb) (some lbx) (EnS p.mem lo) (FinS p.mem lo) BdS w:=by
 intro l' J Jx W hW hJ hJx hN hY hJ0
 have hs1:=hw.head.1
 have hs2:=hw.cyc.1
 have f0:=hw.frm
 have p0:=hw.per
 have hpW:=hp.ext hW
 have hbW:Bxx W pbx _ _:=hpb.below hW
 have hlW:Bxx W lbx _ _:=hlb.below hW
 clear hp hpb hlb hW
 obtain ⟨⟨⟨ha,hcap,rfl,hlc,hcc,hcells⟩,hlen,_⟩,⟨ca,ccap,rfl,hclc,_,hccells⟩,hclen,_⟩:=id hpW
 clear hcells hccells
 have hk2:p.head.countP (fun y=>decide (y<lo))≤p.head.length:=List.countP_le_length
 have hHS:=HdAt.start hw h0
 obtain ⟨i0,hi0⟩:∃ i0,i0=p.head.countP fun y=>decide (y<lo):=⟨_,rfl⟩
 rw [← hi0] at hk2 hHS
 obtain ⟨a',hrun,hdr,_⟩:=slice_from (a:=ha) (c:=hcap) p.head hk2
 have HI:=Lib.hid hi0
 have HHS:=Lib.hid hHS
 have HW:=Lib.hid hw
 have HPW:=Lib.hid hpW
 clear hi0 hHS hw
 have grN:∀ (X:World) n,X.grownBy (X.drewN n) none:=fun X n=>⟨rfl,rfl,rfl,Nat.le_refl _,fun _ _ _=>rfl⟩
 have hJN:∀ (pre:List Int) (X:World) n,J pre X→J pre (X.drewN n):=fun pre X n h=>hJ pre X _ none h (grN X n) (fun r e=>by cases e)
 have HJN:=Lib.hid hJN
 have HJ:=Lib.hid hJ
 have HY:=Lib.hid hY
 have HN:=Lib.hid hN
 clear hJN grN hY hN hJ
 refine callsIn_of_wp Tryz.func127 rfl trivial ?_ rfl
 simp only [Tryz.ntmps127,List.size_toArray,List.length_cons,List.length_nil,Nat.reduceAdd,Nat.reduceSub,Array.replicate_succ,Array.replicate_zero,List.push_toArray,List.append_toArray,List.nil_append,List.cons_append]
 have hb0:=(hbW.cells 0).1
 have hl0:=(hlW.cells 0).1
 gi_wp2_with (refine ⟨trivial,rfl,?_⟩;gi_at_call 128;refine (callsIn_wide.2 (search_any _ p.head lo _ (hpW.hd.ext xE) hs1)).mono ?_;rintro e w' ⟨he,nq,rfl⟩;rw [← HI.out] at he;subst he)
 clear hrun
 gi_loopw [23] (fun i wr=>∃ (k:Nat) (u:Int) (pre:List Int),k≤p.head.length-i0∧i=.int .i64 k∧HdAt p lo (i0+k) u pre∧J pre wr∧KpB pb W wr) (fun i _=>(p.head.length-i0)-(intOf i).toNat)
 case atStart=>exact ⟨0,lo,[],by omega,rfl,HHS.out,HJN.out _ _ _ hJ0,fun _ _=>rfl⟩
 case round=>
  obtain ⟨k,u,pre,hk,rfl,hA,hJw,hK⟩:=hrel
  have HA:=Lib.hid hA
  have HK:=Lib.hid hK
  have HJW:=Lib.hid hJw
  have hIw:Ints wr (.slice a' (p.head.length-i0) (hcap-i0)) (p.head.drop i0):=hdr wr (hpW.hd.kp hK g3)
  clear hA hK hJw
  by_cases hlt:k<p.head.length-i0
  ·obtain ⟨⟨a9,c9,he9,_,_,h39⟩,_,_⟩:=hIw
   injection he9 with he1 he2 he3
   subst he1
   rcases h39 with h39|⟨b9,o9,rfl,hcell⟩
   ·have:(p.head.drop i0).length=0:=by rw [h39];rfl
    rw [List.length_drop] at this;omega
   have hcl:=hcell k (by rw [List.length_drop];exact hlt)
   have hg:(p.head.drop i0).getD k 0=p.head.getD (i0+k) 0:=by
    simp [List.getD_eq_getElem?_getD]
   rw [hg] at hcl
   have hnx:=HA.out.next HW.out h0 (show i0+k<p.head.length by omega)
   have hbd:=getD_bd HW.out.head (show i0+k<p.head.length by omega)
   obtain ⟨y,hy⟩:∃ y,y=p.head.getD (i0+k) 0:=⟨_,rfl⟩
   rw [← hy] at hcl hnx hbd
   have HNX:=Lib.hid hnx
   have hEn:EnS p.mem lo (pre ++ [y]):=⟨_,hnx.1⟩
   obtain ⟨fn,tmps,assign,body,hyy,hR⟩:=HY.out pre y wr HJW.out hEn
   have HEN:=Lib.hid hEn
   have hltI:(k:Int)<((p.head.length-i0:Nat):Int):=by omega
   clear hcell hg hnx hEn hy he2 he3
   gi_wp2
   refine ⟨rfl,hR.mono ?_⟩
   rintro e W' (⟨rfl,hJ',hk'⟩|⟨rfl,hJx'⟩)
   ·gi_wp2
    go_roundw
    case rel=>exact ⟨k+1,y+1,pre ++ [y],by omega,by go_num,HNX.out.2,hJ',HK.out.trans hk'⟩
    case measure=>simp [intOf];omega
   ·gi_wp2
    refine bodyPost_ret (results_none rfl _ _ _) rfl ?_
    exact ⟨⟨_,rfl⟩,.inr ⟨_,HEN.out,hJx'⟩⟩
  ·have hd:=HA.out.done h0 (show p.head.length≤i0+k by omega)
   have HD:=Lib.hid hd
   have hbw:Bxx wr pbx _ _:=(HK.out pbx g1).trans hbW
   have hlw:Bxx wr lbx _ _:=(HK.out lbx g2).trans hlW
   have hbw0:=(hbw.cells 3).1
   clear hd hIw
   have hgeI:¬ (k:Int)<((p.head.length-i0:Nat):Int):=by omega
   by_cases hcy:p.cycle=[]
   ·have hcl0:((p.cycle.length:Int) == 0)=true:=by rw [hcy];rfl
    have HCY:=Lib.hid hcy
    clear hcy
    gi_wp2
    refine bodyPost_ret (results_none rfl _ _ _) rfl ?_
    exact ⟨⟨_,rfl⟩,.inl ⟨pre,fin_done HCY.out HD.out h0,HJW.out⟩⟩
   ·have hcl1:1≤p.cycle.length:=by
     rcases Nat.eq_zero_or_pos p.cycle.length with h|h
     ·exact absurd (List.eq_nil_of_length_eq_zero h) hcy
     ·exact h
    have hcl0:((p.cycle.length:Int) == 0)=false:=by rw [beq_eq_false_iff_ne];omega
    have hbw1:=(hbw.cells 1).1
    have hbw2:=(hbw.cells 2).1
    have hlw0:=(hlw.cells 0).1
    have hlwf:=(hlw.cells 0).2
    obtain ⟨t,ht⟩:∃ t,t=max lo p.frm:=⟨_,rfl⟩
    have ht1:p.frm≤t:=by omega
    have ht2:t≤1125899906842624:=by omega
    have ht3:lo≤t:=by omega
    have HT:=Lib.hid ht
    clear hcy ht
    have hIc:Ints wr (.slice ca p.cycle.length ccap) p.cycle:=hpW.cy.kp HK.out (fun hl b o n c' he=>(g4 hl b o n c' he).1)
    gi_wp2_with fail
    rw [← HT.out]
    have hJ2:J pre (wr.setCell ⟨lbx,0,none⟩ (.int .i64 t)):=HJ.out pre wr _ (some lbx) HJW.out (grownBy_setCell' wr lbx _) (fun r e=>by cases e;exact ⟨rfl,_,hlw,rfl⟩)
    have hb2:Bxx (wr.setCell ⟨lbx,0,none⟩ (.int .i64 t)) pbx _ _:=hbw.setNe _ g5
    have hl2:Bxx (wr.setCell ⟨lbx,0,none⟩ (.int .i64 t)) lbx #[.int .i64 t] 3:=heap_set_at 0 _ hlw
    have hi2:Ints (wr.setCell ⟨lbx,0,none⟩ (.int .i64 t)) (.slice ca p.cycle.length ccap) p.cycle:=by
     obtain ⟨⟨a2,c2,he,h5,h6,h7⟩,h8,h9⟩:=hIc
     refine ⟨⟨a2,c2,he,h5,h6,h7.imp id ?_⟩,h8,h9⟩
     rintro ⟨b,o,rfl,hc⟩
     exact ⟨b,o,rfl,fun i hi=>cell_set_ne (hc i hi) (g4 (fun e=>by rw [e] at hi;simp at hi) b o _ _ he).2 _⟩
    generalize wr.setCell ⟨lbx,0,none⟩ (.int .i64 t)=W2 at *
    clear hbw hlw hbw0 hbw1 hbw2 hlw0 hlwf hIc
    have x1:=(hb2.cells 1).1
    have x2:=(hb2.cells 2).1
    have x3:=(hb2.cells 3).1
    have x4:=(hl2.cells 0).1
    have ht0:0≤t-p.frm:=by omega
    have hm0:=Int.emod_nonneg (t-p.frm) (show p.period≠0 by omega)
    have hm1:=Int.emod_lt_of_pos (t-p.frm) (show 0<p.period by omega)
    have hm2:(t-p.frm) % p.period≤t-p.frm:=by
     have e1:=Int.emod_add_mul_ediv (t-p.frm) p.period
     have e2:=Int.mul_nonneg (show 0≤p.period by omega) (Int.ediv_nonneg ht0 (show 0≤p.period by omega))
     omega
    have hST:=CyIn.start HW.out (lo:=lo) (t:=t) (pre:=pre) (by rw [HT.out];exact HD.out) ht3 rfl ht1
    refine wpIn_wide.2 ?_
    go_quiet (fail)
    have hp3:0≤t-(t-p.frm) % p.period:=by omega
    obtain ⟨base0,hb0⟩:∃ b,b=t-(t-p.frm) % p.period:=⟨_,rfl⟩
    rw [← hb0] at hST ⊢
    have hbt:0≤t-base0∧base0≤t:=by omega
    have hk3:p.cycle.countP (fun y=>decide (y<t-base0))≤p.cycle.length:=List.countP_le_length
    obtain ⟨j0,hj0⟩:∃ j,j=p.cycle.countP (fun y=>decide (y<t-base0)):=⟨_,rfl⟩
    rw [← hj0] at hST hk3
    have HJ0:=Lib.hid hj0
    have HST:=Lib.hid hST
    have hbb:base0≤1125899906842624:=by omega
    have hbn:0≤base0:=by omega
    clear hb0 hj0 hST hp3
    apply_assumption
    gi_wp2_with (refine ⟨trivial,rfl,?_⟩;gi_at_call 128;refine (callsIn_wide.2 (search_any _ p.cycle _ _ (hi2.ext xE) hs2)).mono ?_;rintro e w' ⟨he,nq2,rfl⟩;rw [← HJ0.out] at he;subst he)
    have hJ3:J pre (W2.drewN (nq+nq2)):=HJN.out _ _ _ hJ2
    gi_loopw [4,8] (fun vi vb wr=>∃ (j:Nat) (base u:Int) (pre:List Int),vi=.int .i64 j∧vb=.int .i64 base∧j≤p.cycle.length∧0≤base∧base≤5629499534213120∧(0<j→base≤1125899906842624)∧CyIn p lo base j u pre∧J pre wr∧KpB pb W2 wr) (fun _ vb _=>(9007199254740992-intOf vb).toNat)
    case atStart=>exact ⟨j0,base0,t,pre,rfl,rfl,hk3,hbn,by omega,fun _=>hbb,HST.out,hJ3,fun _ _=>rfl⟩
    case round=>
     obtain ⟨j,base,u',pre',rfl,rfl,hj,hbs0,hbs1,hbs2,hC,hJr,hKr⟩:=hrel
     obtain ⟨a2,hrun2,hdr2,_⟩:=slice_from (a:=ca) (c:=ccap) p.cycle hj
     have y3:=hKr.cell (a:=⟨pbx,3,none⟩) g1 x3
     have HC:=Lib.hid hC
     have HKR:=Lib.hid hKr
     clear hC hKr
     gi_wp2_with fail
     clear hrun2
     have hpos:=HC.out.hi
     have hge0:=HC.out.ge
     have HPOS:Hid (j<p.cycle.length→lo≤base+p.cycle.getD j 0):=Lib.hid (fun hlt=>by have:=hpos j (Nat.le_refl _) hlt;omega)
     have HMJ:Hid (j<p.cycle.length→p.mem (base+p.cycle.getD j 0)):=Lib.hid (fun hlt=>by
      have hbd:=getD_bd HW.out.cyc hlt
      have hfb:=HC.out.fb
      rw [mem_base HW.out HC.out.fb HC.out.dv (by omega) (by omega),show base+p.cycle.getD j 0-base=p.cycle.getD j 0 from by omega];exact getD_mem hlt)
     clear hpos hge0
     obtain ⟨wo,rfl⟩:∃ wo:World,wo=wr:=⟨_,rfl⟩
     gi_loopw [63] (fun i wr=>∃ (k:Nat) (u:Int) (pre:List Int),k≤p.cycle.length-j∧i=.int .i64 k∧CyIn p lo base (j+k) u pre∧J pre wr∧KpB pb W2 wr) (fun i _=>(p.cycle.length-j)-(intOf i).toNat)
     case atStart=>exact ⟨0,u',pre',by omega,rfl,HC.out,hJr,HKR.out⟩
     case round=>
      obtain ⟨k,u,pre,hk,rfl,hA,hJw,hK⟩:=hrel
      have HA:=Lib.hid hA
      have HK:=Lib.hid hK
      have HJW:=Lib.hid hJw
      have hIw:Ints wr (.slice a2 (p.cycle.length-j) (ccap-j)) (p.cycle.drop j):=hdr2 wr (hi2.kp hK (fun hl b o n c' he=>(g4 hl b o n c' he).1))
      have y2:=hK.cell (a:=⟨pbx,2,none⟩) g1 x2
      clear hA hK hJw
      by_cases hlt:k<p.cycle.length-j
      ·obtain ⟨⟨a9,c9,he9,_,_,h39⟩,_,_⟩:=hIw
       injection he9 with he1 he2 he3
       subst he1
       rcases h39 with h39|⟨b9,o9,rfl,hcell⟩
       ·have:(p.cycle.drop j).length=0:=by rw [h39];rfl
        rw [List.length_drop] at this;omega
       have hcl:=hcell k (by rw [List.length_drop];exact hlt)
       have hg:(p.cycle.drop j).getD k 0=p.cycle.getD (j+k) 0:=by
        simp [List.getD_eq_getElem?_getD]
       rw [hg] at hcl
       have hnx:=HA.out.next HW.out h0 (show j+k<p.cycle.length by omega)
       have hbd:=getD_bd HW.out.cyc (show j+k<p.cycle.length by omega)
       obtain ⟨y,hy⟩:∃ y,y=p.cycle.getD (j+k) 0:=⟨_,rfl⟩
       rw [← hy] at hcl hnx hbd
       have HNX:=Lib.hid hnx
       have hEn:EnS p.mem lo (pre ++ [base+y]):=⟨_,hnx.1⟩
       obtain ⟨fn,tmps,assign,body,hyy,hR⟩:=HY.out pre (base+y) wr HJW.out hEn
       have HEN:=Lib.hid hEn
       have hltI:(k:Int)<((p.cycle.length-j:Nat):Int):=by omega
       clear hcell hg hnx hEn hy he2 he3
       gi_wp2
       refine ⟨rfl,hR.mono ?_⟩
       rintro e W' (⟨rfl,hJ',hk'⟩|⟨rfl,hJx'⟩)
       ·gi_wp2
        go_roundw
        case rel=>exact ⟨k+1,base+y+1,pre ++ [base+y],by omega,by go_num,HNX.out.2,hJ',HK.out.trans hk'⟩
        case measure=>simp [intOf];omega
       ·gi_wp2
        refine bodyPost_ret (results_none rfl _ _ _) rfl ?_
        exact ⟨⟨_,rfl⟩,.inr ⟨_,HEN.out,hJx'⟩⟩
      ·have hgeI:¬ (k:Int)<((p.cycle.length-j:Nat):Int):=by omega
       have hnext:=HA.out.round HW.out h0 (show p.cycle.length≤j+k by omega)
       have HNEXT:=Lib.hid hnext
       have hbnd:base≤4503599627370496:=by
        rcases Nat.lt_or_ge j p.cycle.length with hjl|hjl
        ·have h9:=HN.out pre wr HJW.out (base+p.cycle.getD j 0) (by
          rw [HA.out.is,sel_mem h0]
          exact ⟨HPOS.out hjl,HA.out.lo j (by omega) hjl,HMJ.out hjl⟩)
         have:=getD_bd HW.out.cyc hjl;omega
        ·have:=hbs2 (by omega);omega
       clear hnext hIw hbs2
       gi_wp2_with fail
       refine ⟨⟨0,base+p.period,base+p.period,pre,rfl,rfl,by omega,by omega,by omega,by omega,HNEXT.out,HJW.out,HK.out⟩,by simp [intOf];omega⟩
end Go.Proofs.YthjnojbeimchdaaGreat
/- Walks: window (package periodic). -/
namespace Go.Proofs.YthjnojbeimchdaaGreat
open Go.RowKit Go.Shelf Kal
attribute [local go_sem] Oper.semAt_some
theorem append_listIn {F:Fence} {nF:Nat} {w:World} {ops:Array Oper} {rest:List Oper} {o:Oper} {a:Act} {Q:Exit→Act→World→Prop} (hgd:o.guard=none) (s x:Operand)
  (ho:o.op=.call { callee:=.builtin .append,args:=#[s,x],argTypes:=#[37,37] }) (base:Nat) (v:Value) (l:List Int) (y:Int) (hs:a.eval s=v) (hown:OwnI w base v l)
  (blk c:Nat) (hx:a.eval x=.slice (some ⟨blk,0,none⟩) 1 c) (hnew:w.cell? ⟨blk,0,none⟩=some (.int .i64 y)) (hy:InI y) (hlen:l.length+1≤17592186044416) (hbase:base≤w.heap.size)
  (h:∀ g cap w',OwnI w' base (.slice (some ⟨g,0,none⟩) (l.length+1) cap) (l ++ [y])→w.grownBy w' v.ownBlock→Below base w w'→wpListIn F nF Tryz.prog ops Q rest (a.put o.dst (.slice (some ⟨g,0,none⟩) (l.length+1) cap)) w') :
  wpListIn F nF Tryz.prog ops Q (o :: rest) a w:=by
 obtain ⟨i,hi,h1,h2,h3⟩:=intInfo
 refine wpListIn_append_own_at w hgd s x 37 ho base 3 i (.int .i64 0) 1 8 Tryz.underlying37 hi h1 h2 h3 rfl (by omega) v l.length (l.map (Value.int .i64)) hs hown.row ⟨blk,0,none⟩ 1 c [.int .i64 y] hx rfl ?_ (by simp [Value.oneCell']) (by unfold maxLen;omega) (by omega) hbase ?_
 ·intro j u hu
  match j,hu with
  | 0,hu=>simp at hu;subst hu;exact hnew
 ·intro v' w' hown' hgrow _ _
  obtain ⟨g,cap,rfl⟩:=ownsRow_succ hown'
  exact h g cap w' (OwnI.appended hown.rng hy hlen hown') hgrow (hown.below_grown (W0:=w) (.inr trivial) hbase hgrow)
def WinRes (l:List Int) (w:World) (e:Ending) (w':World):Prop:=∃ v,e=.returned v∧OwnI w' w.heap.size v l∧Below w.heap.size w w'
theorem marks_one {B D:Nat} {w:World} (hB:B≤D) (hD:w.heap[D]? = some (.deferred (some []))):MarksX B [{ target:=.collected D,args:=#[] }] w:=
 ⟨[D],rfl,by simp,fun D' h=>by (obtain rfl:D'=D:=by simpa using h);exact ⟨hB,hD⟩⟩
theorem KeepsOthers.grown_cells {A B C:World} {row:Option Nat} (h:KeepsOthers A B) (hg:B.grownBy C row) (hr:∀ r,row=some r→∃ o:Obj,B.heap[r]? = some o∧o.isCells=true):KeepsOthers A C:=
 ⟨Nat.le_trans h.size hg.size,fun k o hk ho=>by
  have h1:=h.same k o hk ho
  refine (hg.block k (Array.getElem?_eq_some_iff.1 h1).1 fun e=>?_).trans h1
  obtain ⟨o2,h2,h3⟩:=hr k e.symm
  rw [h1] at h2;cases h2;rw [ho] at h3;cases h3⟩
theorem OwnI.row_cells {W:World} {base:Nat} {v:Value} {l:List Int} (h:OwnI W base v l):∀ r,v.ownBlock=some r→∃ o:Obj,W.heap[r]? = some o∧o.isCells=true:=by
 intro r hr
 rcases h.row.2 with ⟨rfl,_⟩|⟨g,cap,cur,rfl,_,hh,_⟩
 ·cases hr
 ·obtain rfl:g=r:=by simpa [Value.ownBlock] using hr
  exact ⟨_,hh,rfl⟩
structure WI (w:World) (hi:Int) (hb ob base:Nat) (v:Value) (l:List Int) (W:World):Prop where
 below:Below w.heap.size w W
 hbx:Bxx W hb #[.int .i64 hi] 3
 obx:Bxx W ob #[v] 37
 own:OwnI W base v l
 sz:base≤W.heap.size
theorem WI.grow {w:World} {hi:Int} {hb ob base:Nat} {v:Value} {l:List Int} {W W':World} {row:Option Nat} (h:WI w hi hb ob base v l W) (hg:W.grownBy W' row)
  (hr:∀ r,row=some r→w.heap.size≤r∧((r≠hb∧r≠ob∧r<base)∨∃ o:Obj,W.heap[r]? = some o∧o.isCells=false)):WI w hi hb ob base v l W':=by
 have key:∀ {b:Nat} {c:Array Value} {t:TypeId},Bxx W b c t→(b=hb∨b=ob)→Bxx W' b c t:=fun {b c t} hx hbo=>by
  refine (hg.block b hx.lt fun e=>?_).trans hx
  obtain ⟨_,h1|⟨o,ho,hc⟩⟩:=hr b e.symm
  ·rcases hbo with rfl|rfl <;> simp at h1
  ·rw [show W.heap[b]? = _ from hx] at ho;cases ho;cases hc
 refine ⟨h.below.grown hg h.below.size (fun k e=>(hr k e).1),key h.hbx (.inl rfl),key h.obx (.inr rfl),h.own.kept hg ?_,Nat.le_trans h.sz hg.size⟩
 rcases hob:v.ownBlock with _|g
 ·exact .inl rfl
 ·refine .inr fun e=>?_
  have hlt:=h.own.lt g hob
  obtain ⟨o2,h2,h3⟩:=h.own.row_cells g hob
  obtain ⟨_,h1|⟨o,ho,hc⟩⟩:=hr g e.symm
  ·omega
  ·rw [h2] at ho;cases ho;rw [hc] at h3;cases h3
theorem sel_below {S:Int→Prop} {lo hi n:Int} (h0:0≤lo) (h1:∀ x∈sel S lo n,x<hi) (h2:∀ x,S x→lo≤x→x<hi→x<n):sel S lo n=sel S lo hi:=by
 refine (sel_rise h0).ext (sel_rise h0) fun x=>?_
 constructor
 ·intro hx
  have:=(sel_mem h0 x).1 hx
  exact (sel_mem h0 x).2 ⟨this.1,h1 x hx,this.2.2⟩
 ·intro hx
  have:=(sel_mem h0 x).1 hx
  exact (sel_mem h0 x).2 ⟨this.1,h2 x this.2.2 this.1 this.2.1,this.2.2⟩
set_option maxRecDepth 100000 in
set_option maxHeartbeats 2000000 in
theorem window_any (h c:Value) (p:Per) (lo hi:Int) (w:World) (hp:PerIs w h c p) (hw:p.WF) (h1:p.frm≤1125899906842624) (h2:p.period≤1125899906842624) (h0:0≤lo) (h3:lo≤1125899906842624) (h4:0≤hi) (h5:hi≤8796093022208) :
  Calls Tryz.prog 152 #[perV h c p.frm p.period,.int .i64 lo,.int .i64 hi] w (WinRes (sel p.mem lo hi) w):=by
 obtain ⟨a1,c1,a2,c2,rfl,rfl⟩:=hp.inn.form
 refine callsIn_wide (n:=0).1 ?_
 refine callsIn_of_wp_marks Tryz.func152 rfl trivial ?_ rfl
 simp only [Tryz.ntmps152,List.size_toArray,List.length_cons,List.length_nil,Nat.reduceAdd,Nat.reduceSub,Array.replicate_succ,Array.replicate_zero,List.push_toArray,List.append_toArray,List.nil_append,List.cons_append]
 gi_wp2_with (refine ⟨trivial,rfl,?_⟩;gi_at_call 84;refine (callsIn_wide.2 (from_any _ _ p lo _ ⟨_,_,_,_,_,_,rfl,rfl⟩)).mono ?_;rintro e w' ⟨rfl,rfl⟩)
 generalize hW0:((((w.alloc _).alloc _).alloc _).alloc _).alloc _=W0
 have hE:Below w.heap.size w W0:=by rw [← hW0];exact xE
 have hsz:W0.heap.size=w.heap.size+5:=by rw [← hW0];simp
 have hhi:Bxx W0 (w.heap.size+1) #[.int .i64 hi] 3:=by rw [← hW0];exact (((Bxx.at (by simp)).alloc _).alloc _).alloc _
 have hob:Bxx W0 (w.heap.size+2) #[.slice none 0 0] 37:=by rw [← hW0];exact ((Bxx.at (by simp)).alloc _).alloc _
 have hpb:Bxx W0 (w.heap.size+3) #[.slice a1 p.head.length c1,.int .i64 p.frm,.int .i64 p.period,.slice a2 p.cycle.length c2] 39:=by rw [← hW0];exact (Bxx.at (by simp)).alloc _
 have hlb:Bxx W0 (w.heap.size+4) #[.int .i64 lo] 3:=by rw [← hW0];exact Bxx.at (by simp)
 have hz1:W0.heap.size≤w.heap.size+5:=by omega
 have hz2:w.heap.size+5≤W0.heap.size:=by omega
 have hpW:=hp.ext hE
 have hin:=hp.inn
 have hST:WI w hi (w.heap.size+1) (w.heap.size+2) W0.heap.size (.slice none 0 0) [] W0:=⟨hE,hhi,hob,OwnI.nil _ _,Nat.le_refl _⟩
 have HST:=Lib.hid hST
 clear hW0 hsz hST hhi hob
 have garr:∀ (v:Value) (l:List Int),IntsIn w 0 w.heap.size v l→l≠[]→∀ b o n c',v=.slice (some ⟨b,o,none⟩) n c'→b<w.heap.size:=fun v l hi hl b o n c' he=>(hi.blk hl b (by rw [he];rfl)).2
 simp only [Nat.add_assoc,Nat.reduceAdd]
 refine wpIn_rangeX (x:=some (w.heap.size+4)) (gf:=127) (lb:=#[.pointer (some ⟨w.heap.size+3,0,none⟩),.pointer (some ⟨w.heap.size+4,0,none⟩)]) rfl (enters_of Tryz.func127 (by kernel_rfl) rfl)
  (from_seq (.slice a1 p.head.length c1) (.slice a2 p.cycle.length c2) p lo (w.heap.size+3) (w.heap.size+4) W0 (fun k=>k<w.heap.size∨k=w.heap.size+3∨k=w.heap.size+4) hpW hw h1 h2 h0 h3 hpb hlb (.inr (.inl rfl)) (.inr (.inr rfl))
   (fun hl b o n c' he=>.inl (garr _ _ hin.hd hl b o n c' he)) (fun hl b o n c' he=>⟨.inl (garr _ _ hin.cy hl b o n c' he),by have:=garr _ _ hin.cy hl b o n c' he;omega⟩) (by omega))
  (fun h k=>h.trans k) (KpB.putObj (by intro k hk;omega)) (fun y=>rfl)
  (fun pre W'=>(∀ x∈pre,x<hi)∧∃ v,WI w hi (w.heap.size+1) (w.heap.size+2) W0.heap.size v pre W')
  (fun c' _ W'=>c'=.exit 0∧∃ v,WI w hi (w.heap.size+1) (w.heap.size+2) W0.heap.size v (sel p.mem lo hi) W')
  (fun pre A C row hI hg hr=>⟨hI.1,hI.2.choose,hI.2.choose_spec.grow hg fun r e=>by
   rcases hr r e with ⟨h,_⟩|⟨h,h'⟩
   ·injection h with h;exact ⟨by omega,.inl ⟨by omega,by omega,by omega⟩⟩
   ·exact ⟨by omega,.inr h'⟩⟩)
  (fun c' pre A C row hI hg hr=>⟨hI.1,hI.2.choose,hI.2.choose_spec.grow hg fun r e=>by
   rcases hr r e with ⟨h,_⟩|⟨h,h'⟩
   ·injection h with h;exact ⟨by omega,.inl ⟨by omega,by omega,by omega⟩⟩
   ·exact ⟨by omega,.inr h'⟩⟩)
  (fun pre W' hI x hx=>by have:=hI.1 x hx;omega) ⟨by simp,_,HST.out⟩
  (fun y=>⟨#[perV (.slice a1 p.head.length c1) (.slice a2 p.cycle.length c2) p.frm p.period,.int .i64 lo,.int .i64 hi,.pointer (some ⟨w.heap.size,0,none⟩),undef,.pointer (some ⟨w.heap.size+1,0,none⟩),.slice none 0 0,.pointer (some ⟨w.heap.size+2,0,none⟩),(.int .i64 y),.agg #[.slice a1 p.head.length c1,.int .i64 p.frm,.int .i64 p.period,.slice a2 p.cycle.length c2],.int .i64 lo,.func (.func 127) #[] #[.pointer (some ⟨w.heap.size+3,0,none⟩),.pointer (some ⟨w.heap.size+4,0,none⟩)],(.int .i64 y),undef,undef,undef,undef,undef,undef,undef,undef],[]⟩) ?assign ?body ?done ?stop
 case assign=>
  intro l y W' K hK
  gi_wp2
  exact hK
 case body=>
  rintro l pre y W' ⟨hlt,v,hWI⟩ hen
  obtain ⟨hy1,hy2,hy3,hy4⟩:=EnS.last h0 hen
  obtain ⟨va,vc,rfl⟩:=hWI.own.form
  have q1:=(hWI.hbx.cells 0).1
  have q2:=(hWI.obx.cells 0).1
  have q3:=(hWI.obx.cells 0).2
  have hown:=hWI.own
  have hsz:=hWI.sz
  have HWI:=Lib.hid hWI
  have H3:=Lib.hid hy3
  have H4:=Lib.hid hy4
  have hb8:=hWI.below.size
  clear hy3 hy4 hWI hen
  by_cases hc:y<hi
  ·have hlen:pre.length+1≤17592186044416:=by
    have:=(sel_rise (S:=p.mem) (lo:=lo) (hi:=y) h0).length_le hy1
    rw [← H3.out] at this;omega
   gi_wp2_with (gi_at_builtin;refine append_listIn (by rfl) _ _ (by rfl) W0.heap.size (.slice va pre.length vc) pre y (by rfl) (OwnI.ext hown (Ea (Er _) _)) _ _ (by rfl) (by simp) ⟨by omega,by omega⟩ hlen (by simp;omega) ?_;intro g cap W2 hown2 hgrow hbel;have hob2:=(HWI.out.obx.alloc (.cells #[.int .i64 y] 3)).upto hbel (by omega);have hk2:=(hob2.cells 0).1;have hk3:=(hob2.cells 0).2)
   refine ⟨(KeepsOthers.trans (KeepsOthers.grown_cells (KeepsOthers.alloc W' _) hgrow (OwnI.row_cells (OwnI.ext hown (Ea (Er W') (.cells #[.int .i64 y] 3))))) (KeepsOthers.setCell W2 ⟨w.heap.size+2,0,none⟩ (.slice (some ⟨g,0,none⟩) (pre.length+1) cap))).from _,fun k hk=>?_,fun x hx=>?_,.slice (some ⟨g,0,none⟩) (pre.length+1) cap,?_⟩
   ·rw [heap_set_ne (by omega),hbel.block k (by omega)]
    exact Below.heap_alloc _ _ _ (by omega)
   ·rcases List.mem_append.1 hx with hx|hx
    ·exact hlt x hx
    ·obtain rfl:x=y:=by simpa using hx
     exact hc
   ·have hz3:=hbel.size;simp only [World.size_alloc] at hz3
    refine ⟨((HWI.out.below.alloc (by omega) _).trans (hbel.mono (by omega))).setCell (p:=⟨w.heap.size+2,0,none⟩) (by simp) _,((HWI.out.hbx.alloc _).upto hbel (by omega)).setNe _ (by omega),heap_set_at 0 _ hob2,?_,by simp [World.setCell];omega⟩
    have e:(Value.slice (some ⟨g,0,none⟩) (pre.length+1) cap)=.slice (some ⟨g,0,none⟩) (pre ++ [y]).length cap:=by simp
    exact hown2.above ((Above.refl _ W2).setCell (by simp;omega) _)
  ·have hge:hi≤y:=by omega
   gi_wp2
   refine ⟨KeepsFrom.refl _ _,rfl,.slice va pre.length vc,?_⟩
   have e:pre=sel p.mem lo hi:=by
    rw [H3.out]
    exact sel_below h0 (fun x hx=>hlt x (by rw [H3.out];exact hx)) (fun x _ _ hx=>by omega)
   rw [← e];exact HWI.out
 case done=>
  rintro D xs W' hD ⟨n,hn,rfl⟩ ⟨hlt,v,hWI⟩ hdef
  have e:=sel_below h0 hlt (fun x hx _ _=>hn x hx)
  rw [e] at hWI
  clear e hlt
  obtain ⟨va,vc,rfl⟩:=hWI.own.form
  have q2:=(hWI.obx.cells 0).1
  have HWI:=Lib.hid hWI
  have HDEF:=Lib.hid hdef
  clear hWI hdef
  gi_wp2_with fail
  have hM:MarksX w.heap.size [{ target:=.collected D,args:=#[] }] W':=marks_one (by omega) HDEF.out
  refine leaves_marks (B:=w.heap.size) _ _ hM fun w' hs=>⟨.slice va (sel p.mem lo hi).length vc,by simp [results,Tryz.results152,go_sem],.slice va (sel p.mem lo hi).length vc,rfl,?_,HWI.out.below.trans hs.below⟩
  exact (HWI.out.own.shut hs).mono (by omega)
 case stop=>
  rintro D c' pre W' hD _ ⟨rfl,v,hWI⟩ hdef
  refine wpIn_exit ?_
  conv=>whnf
  apply_assumption
  obtain ⟨va,vc,rfl⟩:=hWI.own.form
  have q2:=(hWI.obx.cells 0).1
  have HWI:=Lib.hid hWI
  have HDEF:=Lib.hid hdef
  clear hWI hdef
  gi_wp2_with fail
  have hM:MarksX w.heap.size [{ target:=.collected D,args:=#[] }] W':=marks_one (by omega) HDEF.out
  refine leaves_marks (B:=w.heap.size) _ _ hM fun w' hs=>⟨.slice va (sel p.mem lo hi).length vc,by simp [results,Tryz.results152,go_sem],.slice va (sel p.mem lo hi).length vc,rfl,?_,HWI.out.below.trans hs.below⟩
  exact (HWI.out.own.shut hs).mono (by omega)
end Go.Proofs.YthjnojbeimchdaaGreat
/- Walks: Cut (package periodic). -/
namespace Go.Proofs.YthjnojbeimchdaaGreat
open Go.RowKit Kal
end Go.Proofs.YthjnojbeimchdaaGreat
/- Walks: Shift (package periodic). -/
namespace Go.Proofs.YthjnojbeimchdaaGreat
open Go.RowKit Kal
def shiftS (p:Per) (b:Int) (n:Int):Prop:=0≤n∧p.mem (n-b)
def shiftP (p:Per) (b:Int):Per:=⟨(laterP p (max (-b) 0)).head.map (·+b),(laterP p (max (-b) 0)).frm+b,p.period,(laterP p (max (-b) 0)).cycle⟩
theorem shiftP_ok {p:Per} (h:p.WF) (b:Int):(shiftP p b).WF∧∀ n,(shiftP p b).mem n↔shiftS p b n:=by
 obtain ⟨hw,hm⟩:=laterP_ok h (day:=max (-b) 0) (by omega)
 have hf:max p.frm (max (-b) 0)=(laterP p (max (-b) 0)).frm:=rfl
 have h0:0≤(laterP p (max (-b) 0)).frm+b:=by rw [← hf];omega
 refine per_of_list (S:=shiftS p b) h0 h.per (fun n hn=>hn.1) ?_ ⟨?_,?_⟩ hw.cyc (fun n h1 h2=>?_) (fun n h1 h2=>?_)
 ·intro n hn
  have e:=hw.pfrom (n-b) (by omega)
  rw [hm,hm] at e
  have hp:(laterP p (max (-b) 0)).period=p.period:=rfl
  rw [hp] at e
  unfold shiftS
  rw [show n+p.period-b=n-b+p.period from by omega]
  have:=h.per
  constructor
  ·rintro ⟨h1,h2⟩;exact ⟨by omega,(e.1 ⟨h2,by omega⟩).1⟩
  ·rintro ⟨h1,h2⟩;exact ⟨by omega,(e.2 ⟨h2,by omega⟩).1⟩
 ·exact List.pairwise_map.2 (hw.head.1.imp fun h=>by omega)
 ·intro x hx
  obtain ⟨y,hy,rfl⟩:=List.mem_map.1 hx
  have hb:=hw.head.2 y hy
  have:=(hm y).1 ((Per.mem_lo hb.1 hb.2).2 hy)
  omega
 ·unfold shiftS
  rw [List.mem_map]
  constructor
  ·rintro ⟨y,hy,rfl⟩
   have hb:=hw.head.2 y hy
   have:=(hm y).1 ((Per.mem_lo hb.1 hb.2).2 hy)
   exact ⟨h1,by rw [show y+b-b=y from by omega];exact this.1⟩
  ·rintro ⟨_,h3⟩
   have hn:0≤n-b:=h3.1
   exact ⟨n-b,(Per.mem_lo hn (by omega)).1 ((hm _).2 ⟨h3,by omega⟩),by omega⟩
 ·unfold shiftS
  have hc:=hw.cyc_mem n
  rw [hm] at hc
  have e:(laterP p (max (-b) 0)).frm+b+n-b=(laterP p (max (-b) 0)).frm+n:=by omega
  rw [e]
  have hp:(laterP p (max (-b) 0)).period=p.period:=rfl
  rw [hp] at hc
  constructor
  ·intro hx;have:=hc.1 hx;exact ⟨by omega,this.2.2.1⟩
  ·rintro ⟨_,h3⟩;exact hc.2 ⟨h1,h2,h3,by rw [← hf];omega⟩
structure SI (w:World) (rb ob:Nat) (hv cv:Value) (f d:Int) (l cl:List Int) (lo hi:Nat) (W:World):Prop where
 below:Below w.heap.size w W
 rbx:Bxx W rb #[.slice none 0 0,.int .i64 0,.int .i64 0,.slice none 0 0] 39
 obx:Bxx W ob #[hv,.int .i64 f,.int .i64 d,cv] 39
 own:OwnIn W lo hi hv l
 cy:OwnIn W lo hi cv cl
 ap:∀ g,hv.ownBlock=some g→cv.ownBlock≠some g
 o1:w.heap.size<rb
 o2:rb<lo
 o3:hi≤ob
theorem SI.store {w:World} {rb ob g n cap lo hi:Nat} {cv:Value} {f d:Int} {l cl:List Int} {W:World} (h:SI w rb ob (.slice (some ⟨g,0,none⟩) n cap) cv f d l cl lo hi W) (hn:n=l.length) {i:Nat} {y:Int} (hy:InI y) :
  SI w rb ob (.slice (some ⟨g,0,none⟩) n cap) cv f d (l.set i y) cl lo hi (W.setCell ⟨g,i,none⟩ (.int .i64 y)):=by
 subst hn
 have hg:=h.own.own.lt g rfl
 have hg2:=h.own.lt g rfl
 have o1:=h.o1;have o2:=h.o2;have o3:=h.o3
 refine ⟨h.below.setCell (p:=⟨g,i,none⟩) (by simp;omega) _,h.rbx.setNe _ (by omega),h.obx.setNe _ (by omega),⟨⟨?_,fun x hx=>?_,by simpa using h.own.own.len⟩,h.own.lt⟩,?_,h.ap,o1,o2,o3⟩
 ·have:=(h.own.own.row.stored i (.int .i64 y)).1
  rw [List.length_set,List.map_set];exact this
 ·rcases List.mem_or_eq_of_mem_set hx with hx|rfl
  ·exact h.own.own.rng x hx
  ·exact hy
 ·obtain ⟨⟨⟨c1,c2⟩,c3,c4⟩,c5⟩:=h.cy
  refine ⟨⟨⟨c1,?_⟩,c3,c4⟩,c5⟩
  rcases c2 with c2|⟨g',cap',cur,hv,c6,c7,c8⟩
  ·exact .inl c2
  ·refine .inr ⟨g',cap',cur,hv,c6,(Below.heap_setCell W ⟨g,i,none⟩ _ g' (fun e=>?_)).trans c7,c8⟩
   have e':g'=g:=e
   subst e'
   exact h.ap g' rfl (by rw [hv];rfl)
def mkL (L:List Int) (b:Int) (k:Nat):List Int:=(L.take k).map (·+b) ++ L.drop k
theorem mkL_length (L:List Int) (b:Int) (k:Nat):(mkL L b k).length=L.length:=by
 unfold mkL;simp;omega
theorem mkL_get (L:List Int) (b:Int) {k:Nat} (h:k<L.length):(mkL L b k)[k]? = some (L.getD k 0):=by
 unfold mkL
 rw [List.getElem?_append_right (by simp;omega)]
 simp [Nat.min_eq_left (Nat.le_of_lt h),h]
theorem mkL_set (L:List Int) (b:Int) {k:Nat} (h:k<L.length):(mkL L b k).set k (L.getD k 0+b)=mkL L b (k+1):=by
 have hl:((L.take k).map (·+b)).length=k:=by simp;omega
 unfold mkL
 rw [List.set_append_right _ _ (by omega),hl,Nat.sub_self,List.drop_eq_getElem_cons h,List.set_cons_zero,List.take_succ_eq_append_getElem h,List.map_append,List.append_assoc]
 simp [h]
def ShiftRes (q:Per) (w:World) (e:Ending) (w':World):Prop:=(q.frm≤1099511627776→PerOk q w e w')∧(1099511627776<q.frm→PerErr 2 w e w')
set_option maxRecDepth 100000 in
set_option maxHeartbeats 2000000 in
theorem Shift_ok (h c:Value) (p q:Per) (b:Int) (w:World) (hp:PerIs w h c p) (hv:Valid p) (h0:-1099511627776≤b) (h1:b≤1099511627776) (hq:IsCanon q (shiftS p b)) :
  Calls Tryz.prog 93 #[perV h c p.frm p.period,.int .i64 b] w (ShiftRes q w):=by
 have hl:∀ W,Below w.heap.size w W→PerIs W h c p:=fun W hb=>hp.ext hb
 have hvb:=(validB_iff p).2 hv
 have f1:p.frm≤1125899906842624:=by have:=hv.frm;omega
 have f2:p.period≤1125899906842624:=by have:=hv.per;omega
 have hk:=shiftP_ok hv.wf b
 have HL:=Lib.hid hk
 have HQ:Hid (IsCanon q (shiftP p b).mem):=Lib.hid (hq.congr fun n=>(hk.2 n).symm)
 have HV:=Lib.hid hv
 obtain ⟨dy,hdy⟩:∃ dy,dy=max (-b) 0:=⟨_,rfl⟩
 have hd0:0≤dy:=by omega
 have hd1:dy≤1125899906842624:=by omega
 have HD:=Lib.hid hdy
 have hdx:max (-b) 0=dy:=hdy.symm
 have hR0:0≤(laterP p dy).frm+b:=by show 0≤max p.frm dy+b;omega
 have hR1:(laterP p dy).frm+b≤4398046511104:=by show max p.frm dy+b≤_;have:=hv.frm;omega
 have hR2:(laterP p dy).frm≤4398046511104:=by show max p.frm dy≤_;have:=hv.frm;omega
 have HRW:=Lib.hid (laterP_ok hv.wf hd0).1
 have HSP:Hid (shiftP p b=⟨(laterP p dy).head.map (·+b),(laterP p dy).frm+b,p.period,(laterP p dy).cycle⟩):=Lib.hid (by unfold shiftP;rw [hdx])
 clear hp hq hv hk hdy
 go_enter Tryz.func93,Tryz.ntmps93
 go_wp2_with (first|(go_at_call 65;refine (valid_any h c p _ (hl _ xE)).mono ?_;rintro e w1 ⟨rfl,hb1⟩;obtain ⟨hc1,hf1⟩:=bcell hb1;(try simp only [World.size_alloc,World.size_drew,size_drewN,World.size_setCell] at hc1 hf1);have hz1:=hb1.size;(try simp only [World.size_alloc,World.size_drew,size_drewN,World.size_setCell] at hz1);have hz1':w.heap.size+1<w1.heap.size:=by omega)|(go_at_call 136;refine (later_any h c p dy _ (hl _ xE) HV.out.wf f1 f2 hd0 hd1).mono ?_;rintro e w2 ⟨x1,x2,rfl,ho2,hb2,hap2⟩;obtain ⟨xa1,xn1,xa2,xn2,rfl,rfl⟩:=ho2.form;obtain ⟨hc2,hf2⟩:=bcell hb2;(try simp only [World.size_alloc,World.size_drew,size_drewN,World.size_setCell] at hc2 hf2);have hz2:=hb2.size;(try simp only [World.size_alloc,World.size_drew,size_drewN,World.size_setCell] at hz2);have hz2':w.heap.size+1<w2.heap.size:=by omega))
 have hlen:=ho2.hd.len
 have hst:SI w (w.heap.size+1) w2.heap.size (.slice xa1 (laterP p dy).head.length xn1) (.slice xa2 (laterP p dy).cycle.length xn2) ((laterP p dy).frm+b) (laterP p dy).period (mkL (laterP p dy).head b 0) (laterP p dy).cycle w1.heap.size w2.heap.size
   (w2.alloc (.cells #[.slice xa1 (laterP p dy).head.length xn1,.int .i64 ((laterP p dy).frm+b),.int .i64 (laterP p dy).period,.slice xa2 (laterP p dy).cycle.length xn2] 39)):=
  ⟨by exact xE,(((Bxx.at (by simp)).upto hb1 (by simp)).upto hb2 (by omega)).alloc _,Bxx.new _ _ _,ho2.hd.oin.alloc _ (Nat.le_refl _),ho2.cy.oin.alloc _ (Nat.le_refl _),hap2,by omega,by omega,by omega⟩
 have HST:=Lib.hid hst
 clear hst hc1 hf1 hc2 hf2 hap2 hb1 hb2
 obtain ⟨L,hL⟩:∃ L,L=(laterP p dy).head:=⟨_,rfl⟩
 rw [← hL] at HST hlen ⊢
 have HLL:=Lib.hid hL
 have hLR:∀ i,i<L.length→0≤L.getD i 0∧L.getD i 0<4398046511104:=fun i hi=>by
  subst hL;have:=getD_bd HRW.out.head hi;omega
 have HLR:=Lib.hid hLR
 clear hL hLR ho2
 go_loopw [33] (fun i wr=>∃ k:Nat,k≤L.length∧i=.int .i64 k∧SI w (w.heap.size+1) w2.heap.size (.slice xa1 L.length xn1) (.slice xa2 (laterP p dy).cycle.length xn2) ((laterP p dy).frm+b) (laterP p dy).period (mkL L b k) (laterP p dy).cycle w1.heap.size w2.heap.size wr) (fun i _=>L.length-(intOf i).toNat)
 case atStart=>exact ⟨0,by omega,rfl,HST.out⟩
 case round=>
  obtain ⟨k,hk,rfl,hS⟩:=hrel
  have hq0:=(hS.obx.cells 0).1
  have HS:=Lib.hid hS
  clear hS
  by_cases hlt:k<L.length
  ·rcases (HS.out.own.own.row).2 with ⟨he,h9⟩|⟨g,cap,cur,he,hg1,hg2,_⟩
   ·rw [mkL_length] at h9;omega
   rw [show (Value.slice xa1 L.length xn1)=.slice xa1 (mkL L b k).length xn1 from by rw [mkL_length]] at he
   injection he with he1 he2 he3
   subst he1
   have hrow:=HS.out.own.own.row
   rw [mkL_length] at hrow
   have hcell:wr.cell? ⟨g,k,none⟩=some (.int .i64 (L.getD k 0)):=by
    rw [hrow.cellAt k (by omega),List.getElem?_map,mkL_get L b hlt];rfl
   have hfro:=hrow.frozenAt k
   have hbd:=HLR.out k hlt
   obtain ⟨y,hy⟩:∃ y,y=L.getD k 0:=⟨_,rfl⟩
   rw [← hy] at hcell hbd
   have HY:=Lib.hid hy
   have hnx:=HS.out.store (i:=k) (y:=y+b) (mkL_length L b k).symm ⟨by omega,by omega⟩
   rw [hy,mkL_set L b hlt,← hy] at hnx
   have HNX:=Lib.hid hnx
   have hkI:(k:Int)<L.length:=by omega
   clear hy hnx hrow he2 he3 hg2
   go_wp2_with fail
   go_roundw
   case rel=>exact ⟨k+1,by omega,by go_num,HNX.out⟩
   case measure=>simp [intOf];omega
  ·obtain rfl:k=L.length:=by omega
   have hfin:mkL L b L.length=(shiftP p b).head:=by
    rw [HSP.out];unfold mkL;simp [HLL.out]
   have hS:=HS.out
   rw [hfin] at hS
   have hq1:=(hS.obx.cells 1)
   have hq2:=(hS.obx.cells 2)
   have hq3:=(hS.obx.cells 3)
   have hq4:=(hS.obx.cells 0)
   have hlt9:=hS.obx.lt
   have hbw:=hS.below
   have HS':=Lib.hid hS
   have HCAN:Hid (∀ W,Below wr.heap.size wr W→Calls Tryz.prog 88 #[.agg #[.slice xa1 L.length xn1,.int .i64 ((laterP p dy).frm+b),.int .i64 (laterP p dy).period,.slice xa2 (laterP p dy).cycle.length xn2]] W (PerRes q W)):=Lib.hid (fun W hb=>by
    have hP:PerIs W (.slice xa1 L.length xn1) (.slice xa2 (laterP p dy).cycle.length xn2) (shiftP p b):=⟨hS.own.own.ints.ext hb,by rw [HSP.out];exact hS.cy.own.ints.ext hb⟩
    have h5:(shiftP p b).frm≤1125899906842624:=by rw [HSP.out];show (laterP p dy).frm+b≤_;omega
    have h6:(shiftP p b).period≤1125899906842624:=f2
    have h7:=canon_any _ _ (shiftP p b) q W hP HL.out.1 h5 h6 HQ.out
    have e1:(shiftP p b).frm=(laterP p dy).frm+b:=by rw [HSP.out]
    have e2:(shiftP p b).period=(laterP p dy).period:=rfl
    rw [e1,e2] at h7
    exact h7)
   have hrbx:=hS.rbx
   clear hS hfin
   by_cases hbig:q.frm≤1099511627776
   ·go_wp2_with (go_at_call 88;refine (HCAN.out _ (Er _)).mono ?_;rintro e w3 ⟨y1,y2,rfl,ho3,hb3⟩;obtain ⟨a1,n1,a2,n2,rfl,rfl⟩:=ho3.form;obtain ⟨hc3,hf3⟩:=bcell hb3;(try simp only [World.size_alloc,World.size_drew,size_drewN,World.size_setCell] at hc3 hf3);have hz3:=hb3.size;(try simp only [World.size_alloc,World.size_drew,size_drewN,World.size_setCell] at hz3);have hz5:w2.heap.size<w3.heap.size:=(by omega);have hr0:=(hrbx.upto hb3 (by omega)).cells 0;have hr1:=(hrbx.upto hb3 (by omega)).cells 1;have hr2:=(hrbx.upto hb3 (by omega)).cells 2;have hr3:=(hrbx.upto hb3 (by omega)).cells 3;have hne9:w2.heap.size≠w.heap.size+1:=(by omega);have hne8:w.heap.size+1≠w2.heap.size:=(by omega))
    refine bodyPost_ret (v:=.tuple #[perV (.slice a1 q.head.length n1) (.slice a2 q.cycle.length n2) q.frm q.period,.int .i64 0]) (by simp [results,Tryz.results93,go_sem, *]) rfl ⟨fun _=>⟨_,_,rfl,(ho3.above (by (repeat' (with_reducible first|exact Above.refl _ _|refine Above.alloc ?_ _|refine Above.drew ?_|refine Above.drewN ?_ _|refine Above.setCell ?_ (by first|(simp;done)|(simp;omega)|omega) _)))).mono (by omega),xE⟩,fun h=>absurd hbig (by omega)⟩
   ·have hbig':1099511627776<q.frm:=by omega
    go_wp2_with (go_at_call 88;refine (HCAN.out _ (Er _)).mono ?_;rintro e w3 ⟨y1,y2,rfl,ho3,hb3⟩;obtain ⟨a1,n1,a2,n2,rfl,rfl⟩:=ho3.form;obtain ⟨hc3,hf3⟩:=bcell hb3;(try simp only [World.size_alloc,World.size_drew,size_drewN,World.size_setCell] at hc3 hf3);have hz3:=hb3.size;(try simp only [World.size_alloc,World.size_drew,size_drewN,World.size_setCell] at hz3);have hz5:w2.heap.size<w3.heap.size:=(by omega);have hr0:=(hrbx.upto hb3 (by omega)).cells 0;have hr1:=(hrbx.upto hb3 (by omega)).cells 1;have hr2:=(hrbx.upto hb3 (by omega)).cells 2;have hr3:=(hrbx.upto hb3 (by omega)).cells 3;have hne9:w2.heap.size≠w.heap.size+1:=(by omega);have hne8:w.heap.size+1≠w2.heap.size:=(by omega))
    refine bodyPost_ret (v:=.tuple #[perV (.slice none 0 0) (.slice none 0 0) 0 0,.int .i64 2]) (by simp [results,Tryz.results93,go_sem, *]) rfl ⟨fun h=>absurd h (by omega),fun _=>⟨rfl,xE⟩⟩
end Go.Proofs.YthjnojbeimchdaaGreat
/- Walks: Residues (package periodic). -/
namespace Go.Proofs.YthjnojbeimchdaaGreat
open Go.RowKit Kal
end Go.Proofs.YthjnojbeimchdaaGreat
/- A map[int][]int that groups a list of ints by their residues: how it reads, how it is read, how it grows. -/
namespace Go.Proofs.YthjnojbeimchdaaGreat
open Go.RowKit Go.Maps Go.ChangeShapes Kal
open Go.WideElems (rd_val)
def grp (ys:List Int) (g r:Int):List Int:=ys.filter fun y=>decide (y % g=r)
noncomputable def dat (l:List Int):DataW Unit:=if l=[] then .nil else .slice (lits .i64 l) []
theorem lits_inj {a b:List Int} (h:(lits (H:=Unit) .i64 a)=lits .i64 b):a=b:=by
 unfold lits at h
 induction a generalizing b with
 | nil=>cases b with
  | nil=>rfl
  | cons y b=>simp at h
 | cons x a ih=>cases b with
  | nil=>simp at h
  | cons y b=>
   simp only [List.map_cons,List.cons.injEq] at h
   obtain ⟨h1,h2⟩:=h
   injection h1 with h1;injection h1 with h1 h3
   rw [h3,ih h2]
structure MapRd (D:DataW Unit) (g:Int) (ys:List Int):Prop where
 map:IsMap D
 rd:∀ r,D.atKey (.int .i64 r) .nil=dat (grp ys g r)
theorem MapRd.nil (g:Int):MapRd (.map []) g []:=⟨isMap_empty,fun r=>rfl⟩
theorem MapRd.got {D:DataW Unit} {g:Int} {ys:List Int} (h:MapRd D g ys) {w:World} {base:Nat} {e:TypeId} {v:Value} {zs:List Int} {r:Int} (hat:D.atKey (.int .i64 r) .nil=rowDatum .i64 v zs) (ho:w.ownsInts base e .i64 v zs):zs=grp ys g r:=by
 rw [h.rd] at hat
 unfold dat at hat
 rcases ho.datum (H:=Unit) with ⟨h1,h2⟩|h1
 ·rw [h1] at hat
  by_cases hg:grp ys g r=[]
  ·rw [h2,hg]
  ·rw [if_neg hg] at hat;cases hat
 ·rw [h1] at hat
  by_cases hg:grp ys g r=[]
  ·rw [if_pos hg] at hat;cases hat
  ·rw [if_neg hg] at hat
   injection hat with hat
   exact (lits_inj hat).symm
theorem MapRd.put {D:DataW Unit} {g:Int} {ys:List Int} (h:MapRd D g ys) {w:World} {base:Nat} {e:TypeId} {v:Value} {y:Int} (ho:w.ownsInts base e .i64 v (grp ys g (y % g) ++ [y])) :
  MapRd (D.put (.int .i64 (y % g)) (rowDatum .i64 v (grp ys g (y % g) ++ [y]))) g (ys ++ [y]):=by
 refine ⟨h.map.put _ _,fun r=>?_⟩
 by_cases hr:r=y % g
 ·subst hr
  rw [atKey_put_same h.map (by simp [WideAt.IsKeyLit]),ho.datum_pos (by simp)]
  unfold dat
  rw [show grp (ys ++ [y]) g (y % g)=grp ys g (y % g) ++ [y] from by unfold grp;simp,if_neg (by simp)]
 ·rw [atKey_put_other (by intro e;injection e with _ e;exact hr e),h.rd]
  congr 1
  unfold grp
  rw [List.filter_append]
  simp [show ¬ y % g=r from fun e=>hr e.symm]
def MapIn (w:World) (b hi:Nat) (g:Int) (ys:List Int):Prop:=
 ∃ (es:Array MapEntry) (clock n base:Nat) (D:DataW Unit),b<base∧w.heap[b]? = some (.map es clock)∧n≤17592186044416∧w.ownsGroups Tryz.prog 3 base 3 .i64 b n D∧MapRd D g ys∧b<hi∧∀ x∈es.toList,∀ k,x.val.ownBlock=some k→k<hi
theorem ownsInts_keep {w w':World} {base hi:Nat} {e:TypeId} {v:Value} {zs:List Int} (h:w.ownsInts base e .i64 v zs) (hlt:∀ k,v.ownBlock=some k→k<hi) (hk:∀ k,base≤k→k<hi→w'.heap[k]? = w.heap[k]?):w'.ownsInts base e .i64 v zs:=by
 obtain ⟨⟨h1,h2⟩,h3⟩:=h
 refine ⟨⟨h1,?_⟩,h3⟩
 rcases h2 with h2|⟨g,cap,cur,hv,hg,hh,hr⟩
 ·exact .inl h2
 ·exact .inr ⟨g,cap,cur,hv,hg,(hk g hg (hlt g (by rw [hv];rfl))).trans hh,hr⟩
theorem MapIn.of_blocks {w w':World} {b hi:Nat} {g:Int} {ys:List Int} (h:MapIn w b hi g ys) (hk:∀ k,b≤k→k<hi→w'.heap[k]? = w.heap[k]?):MapIn w' b hi g ys:=by
 obtain ⟨es,clock,n,base,D,hbs,hb,hn,⟨es2,clock2,hb2,F,hs,hD,hbb,hlen,hap⟩,hrd,hhi,hrow⟩:=h
 rw [hb] at hb2
 injection hb2 with hb2;injection hb2 with e1 e2
 subst e1;subst e2
 have hb':=(hk b (Nat.le_refl _) hhi).trans hb
 have key:∀ x∈es.toList,∀ z,rowElem (H:=Unit) w base 3 .i64 x.val=some z→rowElem (H:=Unit) w' base 3 .i64 x.val=some z:=by
  intro x hx z hz
  obtain ⟨zs,ho,rfl⟩:=rowElem_inv hz
  exact rowElem_mk (ownsInts_keep ho (hrow x hx) fun k h1 h2=>hk k (by omega) h2)
 have owned:∀ x∈es.toList,∃ zs,w.ownsInts base 3 .i64 x.val zs:=fun x hx=>by
  obtain ⟨y,hy⟩:=F.reads x hx
  obtain ⟨z,hz,_⟩:=rd_val hy
  obtain ⟨zs,ho,_⟩:=rowElem_inv hz
  exact ⟨zs,ho⟩
 obtain ⟨F',hm,_⟩:=F.stay (R':=rowElem (H:=Unit) w' base 3 .i64) key
 refine ⟨es,clock,n,base,D,hbs,hb',hn,⟨es,clock,hb',F',hs,by rw [hm];exact hD,hbb,fun x hx zs hz=>?_,hap⟩,hrd,hhi,hrow⟩
 obtain ⟨zs0,h0⟩:=owned x hx
 rw [(ownsInts_keep h0 (hrow x hx) fun k h1 h2=>hk k (by omega) h2).unique hz |>.symm]
 exact hlen x hx zs0 h0
theorem MapIn.of_groups {w:World} {b n base:Nat} {D:DataW Unit} {g:Int} {ys:List Int} (h:w.ownsGroups Tryz.prog 3 base 3 .i64 b n D) (hbs:b<base) (hn:n≤17592186044416) (hrd:MapRd D g ys):MapIn w b w.heap.size g ys:=by
 have h':=h
 obtain ⟨es,clock,hb,F,hs,hD,hbb,hlen,hap⟩:=h
 refine ⟨es,clock,n,base,D,hbs,hb,hn,h',hrd,(Array.getElem?_eq_some_iff.1 hb).1,fun x hx k hk=>?_⟩
 obtain ⟨y,hy⟩:=F.reads x hx
 obtain ⟨z,hz,_⟩:=rd_val hy
 obtain ⟨zs,ho,_⟩:=rowElem_inv hz
 exact (ho.1.lt k hk).2
theorem mapLaw:Keyed Tryz.prog 3:=int_keyed Tryz.underlying3
theorem mapZero (w:World):(zeroValue 37).run Tryz.prog w=.ok (.slice none 0 0) w:=by kernel_rfl
theorem mapKey {r:Int} (hr:InI r):keyOf Tryz.prog 3 (.int .i64 r)=some (.int .i64 r):=keyOf_int_mk Tryz.underlying3 (WalkArith.wf_i64 hr)
theorem wf_in {x:Int} (h:(Lit.int .i64 x).wf=true):InI x:=by
 simp [Lit.wf,IntKind.min,IntKind.max,IntKind.signed,IntKind.bits] at h
 unfold InI;omega
theorem MapIn.look {w:World} {b hi:Nat} {g r:Int} {ys:List Int} (h:MapIn w b hi g ys) (hr:InI r) :
  ∃ v,(Instr.lookup 137 (.map (some b)) (.int .i64 r) false).run Tryz.prog w=.ok v w∧IntsIn w (b+1) hi v (grp ys g r):=by
 obtain ⟨es,clock,n,base,D,hbs,hb,hn,⟨es2,clock2,hb2,F,hs,hD,hbb,hlen,hap⟩,hrd,hhi,hrow⟩:=h
 rw [hb] at hb2
 injection hb2 with hb2;injection hb2 with e1 e2
 subst e1;subst e2;subst hD
 rcases Maps.fit_look false mapLaw Tryz.underlying137 (mapZero w) hb F (mapKey hr) with ⟨hrun,_,hat⟩|⟨e0,y,hm0,h3,hrun,hR,hat,_⟩
 ·have hz:=hrd.got (v:=.slice none 0 0) (zs:=[]) (hat _) (World.ownsInts_nil w base 3 .i64)
  refine ⟨.slice none 0 0,hrun,?_⟩
  rw [← hz]
  exact ⟨Ints.nil w,fun h=>absurd rfl h⟩
 ·obtain ⟨zs,ho,rfl⟩:=rowElem_inv hR
  have hz:=hrd.got (hat _) ho
  refine ⟨e0.val,hrun,?_⟩
  rw [← hz]
  have hO:OwnI w base e0.val zs:=⟨ho.1,fun x hx=>wf_in (ho.2 x hx),by have:=hlen e0 hm0 zs ho;omega⟩
  exact ⟨hO.ints,fun _ k hk=>⟨by have:=(hO.lt k hk).1;omega,hrow e0 hm0 k hk⟩⟩
end Go.Proofs.YthjnojbeimchdaaGreat
/- The lookup in a map that groups a list of ints: its value is the same as long as the map's block is; append, at one operation. -/
namespace Go.Proofs.YthjnojbeimchdaaGreat
open Go.RowKit Go.Maps Go.ChangeShapes Kal
theorem key_unique {l:List MapEntry} (h:(l.map (·.key)).Nodup) {a b:MapEntry} (ha:a∈l) (hb:b∈l) (e:a.key=b.key):a=b:=by
 induction l with
 | nil=>simp at ha
 | cons x l ih=>
  rw [List.map_cons,List.nodup_cons] at h
  rcases List.mem_cons.1 ha with ha1|ha1 <;> rcases List.mem_cons.1 hb with hb1|hb1
  ·rw [ha1,hb1]
  ·exact absurd (List.mem_map.2 ⟨b,hb1,by rw [← ha1];exact e.symm⟩) h.1
  ·exact absurd (List.mem_map.2 ⟨a,ha1,by rw [← hb1];exact e⟩) h.1
  ·exact ih h.2 ha1 hb1
theorem ok_inj {v v':Value} {w w':World} (h:(Result.ok v w:Result Value)=Result.ok v' w'):v=v':=by cases h;rfl
theorem groups_at {w:World} {b n base:Nat} {D:DataW Unit} {r:Int} (h:w.ownsGroups Tryz.prog 3 base 3 .i64 b n D) (hn:n≤17592186044416) (hr:InI r) :
  ∃ v zs,(∀ W:World,W.heap[b]? = w.heap[b]?→(Instr.lookup 137 (.map (some b)) (.int .i64 r) false).run Tryz.prog W=.ok v W)∧D.atKey (.int .i64 r) .nil=rowDatum .i64 v zs∧w.ownsInts base 3 .i64 v zs∧zs.length≤n∧
   w.groupBack Tryz.prog 137 3 base 3 .i64 b n D (.int .i64 r) (.int .i64 r) v:=by
 obtain ⟨v,zs,hrun,hat,ho,hzl,hback⟩:=h.at mapLaw Tryz.underlying137 (mapZero w) (by unfold maxLen;omega) (mapKey hr)
 refine ⟨v,zs,fun W hW=>?_,hat,ho,hzl,hback⟩
 obtain ⟨es,clock,hb,F,_⟩:=h
 have hb':=hW.trans hb
 rcases Maps.fit_look false mapLaw Tryz.underlying137 (mapZero w) hb F (mapKey hr) with ⟨h1,h2,_⟩|⟨e0,y,hm0,h3,h1,_⟩
 ·have e1:=ok_inj (hrun.symm.trans h1)
  (try dsimp only at e1)
  rcases Maps.fit_look false mapLaw Tryz.underlying137 (mapZero W) hb' F (mapKey hr) with ⟨g1,_,_⟩|⟨e2,y1,hm1,g3,g1,_⟩
  ·rw [e1];exact g1
  ·exact absurd g3 (h2 e2 hm1)
 ·have e1:=ok_inj (hrun.symm.trans h1)
  (try dsimp only at e1)
  rcases Maps.fit_look false mapLaw Tryz.underlying137 (mapZero W) hb' F (mapKey hr) with ⟨g1,g2,_⟩|⟨e2,y1,hm1,g3,g1,_⟩
  ·exact absurd h3 (g2 e0 hm0)
  ·have:=key_unique F.stamped.2.2 hm0 hm1 (h3.trans g3.symm)
   subst this
   rw [e1];exact g1
theorem append_wp (w:World) {o:Oper} {a:Act} {K:Act→World→Prop} {Q:Exit→Act→World→Prop} (s x:Operand)
  (ho:o.op=.call { callee:=.builtin .append,args:=#[s,x],argTypes:=#[37,37] }) (base:Nat) (v:Value) (l:List Int) (y:Int) (hs:a.eval s=v) (hown:OwnI w base v l)
  (blk c:Nat) (hx:a.eval x=.slice (some ⟨blk,0,none⟩) 1 c) (hnew:w.cell? ⟨blk,0,none⟩=some (.int .i64 y)) (hy:InI y) (hlen:l.length+1≤17592186044416) (hbase:base≤w.heap.size)
  (h:∀ g cap w',OwnI w' base (.slice (some ⟨g,0,none⟩) (l.length+1) cap) (l ++ [y])→w.grownBy w' v.ownBlock→(v.ownBlock=some g∨g=w.heap.size)→K (a.put o.dst (.slice (some ⟨g,0,none⟩) (l.length+1) cap)) w') :
  Oper.wp Tryz.prog o a w K Q:=by
 obtain ⟨i,hi,h1,h2,h3⟩:=intInfo
 refine wp_append_lies w s x 37 ho base 3 i (.int .i64 0) 1 8 Tryz.underlying37 hi h1 h2 h3 rfl (by omega) v l.length (l.map (Value.int .i64)) hs hown.row ⟨blk,0,none⟩ 1 c [.int .i64 y] hx rfl ?_ (by simp [Value.oneCell']) (by omega) (by unfold maxLen;omega) (by omega) hbase _ rfl ?_
 ·intro j u hu
  match j,hu with
  | 0,hu=>simp at hu;subst hu;exact hnew
 ·intro g cap w' hown' hgrow hloc _
  exact h g cap w' (OwnI.appended hown.rng hy hlen hown') hgrow hloc
end Go.Proofs.YthjnojbeimchdaaGreat
/- A pair of sets (package periodic): how it lies in memory. -/
namespace Go.Proofs.YthjnojbeimchdaaGreat
open Go.RowKit Go.Maps Kal
abbrev pairV (h1 c1 h2 c2:Value) (qa qb:Per) (st:Int) (xv yv:Value) (g:Int) (mb:Nat):Value:=
 .agg #[h1,.int .i64 qa.frm,.int .i64 qa.period,c1,h2,.int .i64 qb.frm,.int .i64 qb.period,c2,.int .i64 st,xv,yv,.int .i64 g,.map (some mb)]
theorem wp_abs {P:Program} {c:Code} {Q:Exit→Act→World→Prop} {a:Act} {W:World} (F:World→Prop) (h:F W) (k:∀ W2,F W2→c.wp P Q a W2):c.wp P Q a W:=k W h
theorem at_abs {G:Act→World→Prop} {a:Act} {W:World} (F:World→Prop) (h:F W) (k:∀ W2,F W2→G a W2):G a W:=k W h
theorem obj_set {W:World} {b i k:Nat} {o:Obj} {v:Value} (h:W.heap[k]? = some o) (hne:k≠b):(W.setCell ⟨b,i,none⟩ v).heap[k]? = some o:=(Below.heap_setCell W ⟨b,i,none⟩ v k hne).trans h
theorem cell_set_off {w:World} {b o o':Nat} {x:Value} (h:w.cell? ⟨b,o,none⟩=some x) (hne:o'≠o) (v:Value):(w.setCell ⟨b,o',none⟩ v).cell? ⟨b,o,none⟩=some x:=(World.cell?_setCell_other _ _ _ _ (by simp [hne])).trans h
theorem set13 {W:World} {b:Nat} {x0 x1 x2 x3 x4 x5 x6 x7 x8 x9 x10 x11 x12 y0 y1 y2 y3 y4 y5 y6 y7 y8 y9 y10 y11 y12:Value} {t:TypeId} (h:Bxx W b #[x0,x1,x2,x3,x4,x5,x6,x7,x8,x9,x10,x11,x12] t) :
  Bxx (((((((((((((W.setCell ⟨b,0,none⟩ y0).setCell ⟨b,1,none⟩ y1).setCell ⟨b,2,none⟩ y2).setCell ⟨b,3,none⟩ y3).setCell ⟨b,4,none⟩ y4).setCell ⟨b,5,none⟩ y5).setCell ⟨b,6,none⟩ y6).setCell ⟨b,7,none⟩ y7).setCell ⟨b,8,none⟩ y8).setCell ⟨b,9,none⟩ y9).setCell ⟨b,10,none⟩ y10).setCell ⟨b,11,none⟩ y11).setCell ⟨b,12,none⟩ y12) b #[y0,y1,y2,y3,y4,y5,y6,y7,y8,y9,y10,y11,y12] t:=by
 have:=(heap_set_at 12 y12 (heap_set_at 11 y11 (heap_set_at 10 y10 (heap_set_at 9 y9 (heap_set_at 8 y8 (heap_set_at 7 y7 (heap_set_at 6 y6 (heap_set_at 5 y5 (heap_set_at 4 y4 (heap_set_at 3 y3 (heap_set_at 2 y2 (heap_set_at 1 y1 (heap_set_at 0 y0 h)))))))))))))
 simpa [Bxx] using this
theorem set13_ne {W:World} {b k:Nat} {y0 y1 y2 y3 y4 y5 y6 y7 y8 y9 y10 y11 y12:Value} (h:k≠b) :
  (((((((((((((W.setCell ⟨b,0,none⟩ y0).setCell ⟨b,1,none⟩ y1).setCell ⟨b,2,none⟩ y2).setCell ⟨b,3,none⟩ y3).setCell ⟨b,4,none⟩ y4).setCell ⟨b,5,none⟩ y5).setCell ⟨b,6,none⟩ y6).setCell ⟨b,7,none⟩ y7).setCell ⟨b,8,none⟩ y8).setCell ⟨b,9,none⟩ y9).setCell ⟨b,10,none⟩ y10).setCell ⟨b,11,none⟩ y11).setCell ⟨b,12,none⟩ y12).heap[k]? = W.heap[k]?:=by
 have st:∀ (W:World) (i:Nat) (y:Value),(W.setCell ⟨b,i,none⟩ y).heap[k]? = W.heap[k]?:=fun W i y=>Below.heap_setCell W ⟨b,i,none⟩ y k h
 simp only [st]
theorem set13_8 {W:World} {b:Nat} {x0 x1 x2 x3 x4 x5 x6 x7 x8 x9 x10 x11 x12 y:Value} {t:TypeId} (h:Bxx W b #[x0,x1,x2,x3,x4,x5,x6,x7,x8,x9,x10,x11,x12] t):Bxx (W.setCell ⟨b,8,none⟩ y) b #[x0,x1,x2,x3,x4,x5,x6,x7,y,x9,x10,x11,x12] t:=by
 have:=heap_set_at 8 y h
 simpa [Bxx] using this
theorem set13_9 {W:World} {b:Nat} {x0 x1 x2 x3 x4 x5 x6 x7 x8 x9 x10 x11 x12 y:Value} {t:TypeId} (h:Bxx W b #[x0,x1,x2,x3,x4,x5,x6,x7,x8,x9,x10,x11,x12] t):Bxx (W.setCell ⟨b,9,none⟩ y) b #[x0,x1,x2,x3,x4,x5,x6,x7,x8,y,x10,x11,x12] t:=by
 have:=heap_set_at 9 y h
 simpa [Bxx] using this
theorem set13_10 {W:World} {b:Nat} {x0 x1 x2 x3 x4 x5 x6 x7 x8 x9 x10 x11 x12 y:Value} {t:TypeId} (h:Bxx W b #[x0,x1,x2,x3,x4,x5,x6,x7,x8,x9,x10,x11,x12] t):Bxx (W.setCell ⟨b,10,none⟩ y) b #[x0,x1,x2,x3,x4,x5,x6,x7,x8,x9,y,x11,x12] t:=by
 have:=heap_set_at 10 y h
 simpa [Bxx] using this
theorem set13_11 {W:World} {b:Nat} {x0 x1 x2 x3 x4 x5 x6 x7 x8 x9 x10 x11 x12 y:Value} {t:TypeId} (h:Bxx W b #[x0,x1,x2,x3,x4,x5,x6,x7,x8,x9,x10,x11,x12] t):Bxx (W.setCell ⟨b,11,none⟩ y) b #[x0,x1,x2,x3,x4,x5,x6,x7,x8,x9,x10,y,x12] t:=by
 have:=heap_set_at 11 y h
 simpa [Bxx] using this
theorem run_field3 (a b c d:Value) (w:World):(Instr.field 39 (.agg #[a,b,c,d]) 3).run Tryz.prog w=.ok d w:=by kernel_rfl
abbrev pairZ:Array Value:=#[.slice none 0 0,.int .i64 0,.int .i64 0,.slice none 0 0,.slice none 0 0,.int .i64 0,.int .i64 0,.slice none 0 0,.int .i64 0,.slice none 0 0,.slice none 0 0,.int .i64 0,.map none]
theorem objKeep {w w':World} {b:Nat} {o:Obj} (h:w.heap[b]? = some o) (hb:Below w.heap.size w w'):w'.heap[b]? = some o:=(hb.block b (Array.getElem?_eq_some_iff.1 h).1).trans h
theorem MapIn.mono_hi {w:World} {b hi hi':Nat} {g:Int} {ys:List Int} (h:MapIn w b hi g ys) (hh:hi≤hi'):MapIn w b hi' g ys:=by
 obtain ⟨es,clock,n,base,D,h1,h2,h3,h4,h5,h6,h7⟩:=h
 exact ⟨es,clock,n,base,D,h1,h2,h3,h4,h5,by omega,fun x hx k hk=>by have:=h7 x hx k hk;omega⟩
structure PairIn (w:World) (lo hi:Nat) (h1 c1 h2 c2:Value) (qa qb:Per) (st:Int) (xv yv:Value) (mb:Nat):Prop where
 a:PerIn w lo hi h1 c1 qa
 b:PerIn w lo hi h2 c2 qb
 x:IntsIn w lo hi xv (isort (cycL qa st))
 y:IntsIn w lo hi yv (isort (cycL qb st))
 m:MapIn w mb hi (Int.gcd qa.period qb.period:Nat) (isort (cycL qb st))
 lom:lo≤mb
end Go.Proofs.YthjnojbeimchdaaGreat
namespace Go.Proofs.YthjnojbeimchdaaGreat
open Go.RowKit Kal
structure PV where
 h:Value
 c:Value
 p:Per
instance:Inhabited PV:=⟨⟨.slice none 0 0,.slice none 0 0,⟨[],0,0,[]⟩⟩⟩
def PV.enc (x:PV):List Value:=[x.h,.int .i64 x.p.frm,.int .i64 x.p.period,x.c]
abbrev PV.val (x:PV):Value:=perV x.h x.c x.p.frm x.p.period
theorem PV.enc_len (x:PV):x.enc.length=4:=rfl
structure PVok (W:World) (F:Nat→Prop) (x:PV):Prop where
 is:PerIs W x.h x.c x.p
 fr:InI x.p.frm
 pe:InI x.p.period
 bh:x.p.head≠[]→∀ k,x.h.ownBlock=some k→F k
 bc:x.p.cycle≠[]→∀ k,x.c.ownBlock=some k→F k
def KeepF (F:Nat→Prop) (W W':World):Prop:=∀ b,F b→b<W.heap.size→W'.heap[b]? = W.heap[b]?
theorem KeepF.refl {F:Nat→Prop} {W:World}:KeepF F W W:=fun _ _ _=>rfl
theorem KeepF.trans {F:Nat→Prop} {A B C:World} (h:KeepF F A B) (g:KeepF F B C) (hs:A.heap.size≤B.heap.size):KeepF F A C:=fun b hb hl=>(g b hb (by omega)).trans (h b hb hl)
theorem KeepF.below {F:Nat→Prop} {W W':World} (h:Below W.heap.size W W'):KeepF F W W':=fun b _ hl=>h.block b hl
theorem KeepF.mono {F G:Nat→Prop} {W W':World} (h:KeepF F W W') (hF:∀ b,G b→F b):KeepF G W W':=fun b hb hl=>h b (hF b hb) hl
theorem Ints.keep {F:Nat→Prop} {W W':World} {v:Value} {l:List Int} (h:Ints W v l) (hb:l≠[]→∀ k,v.ownBlock=some k→F k) (hk:KeepF F W W'):Ints W' v l:=by
 obtain ⟨⟨a,c,rfl,h1,h2,h3⟩,h4,h5⟩:=h
 refine ⟨⟨a,c,rfl,h1,h2,?_⟩,h4,h5⟩
 by_cases hl:l=[]
 ·exact .inl hl
 ·rcases h3 with h3|⟨b,o,rfl,hc⟩
  ·exact .inl h3
  ·have h0:=hc 0 (List.length_pos_iff.2 hl)
   exact .inr ⟨b,o,rfl,fun i hi=>(World.cell?_of_block (hk b (hb hl b rfl) (World.block_lt_of_cell? W _ h0))).trans (hc i hi)⟩
theorem PVok.keep {F:Nat→Prop} {W W':World} {x:PV} (h:PVok W F x) (hk:KeepF F W W'):PVok W' F x:=⟨⟨h.is.hd.keep h.bh hk,h.is.cy.keep h.bc hk⟩,h.fr,h.pe,h.bh,h.bc⟩
theorem PVok.mono {F G:Nat→Prop} {W:World} {x:PV} (h:PVok W F x) (hF:∀ b,F b→G b):PVok W G x:=⟨h.is,h.fr,h.pe,fun a k e=>hF k (h.bh a k e),fun a k e=>hF k (h.bc a k e)⟩
structure RowR (W:World) (F:Nat→Prop) (v:Value) (n:Nat) (cs:List Value):Prop where
 is:∃ a c,v=.slice a n c∧n≤c∧c≤9223372036854775807∧(n=0∨∃ b o,a=some ⟨b,o,none⟩∧F b∧b<W.heap.size∧∀ i u,cs[i]? = some u→W.cell? ⟨b,o+i,none⟩=some u)
theorem RowR.keep {F:Nat→Prop} {W W':World} {v:Value} {n:Nat} {cs:List Value} (h:RowR W F v n cs) (hk:KeepF F W W') (hs:W.heap.size≤W'.heap.size):RowR W' F v n cs:=by
 obtain ⟨a,c,rfl,h1,h2,h3⟩:=h
 refine ⟨a,c,rfl,h1,h2,h3.imp id ?_⟩
 rintro ⟨b,o,rfl,hF,hl,hc⟩
 exact ⟨b,o,rfl,hF,by omega,fun i u hi=>(World.cell?_of_block (hk b hF hl)).trans (hc i u hi)⟩
theorem RowR.mono {F G:Nat→Prop} {W:World} {v:Value} {n:Nat} {cs:List Value} (h:RowR W F v n cs) (hF:∀ b,F b→G b):RowR W G v n cs:=by
 obtain ⟨a,c,rfl,h1,h2,h3⟩:=h
 refine ⟨a,c,rfl,h1,h2,h3.imp id ?_⟩
 rintro ⟨b,o,rfl,hb,hl,hc⟩
 exact ⟨b,o,rfl,hF b hb,hl,hc⟩
structure TermL (W:World) (F:Nat→Prop) (v:Value) (L:List PV):Prop where
 row:RowR W F v L.length (L.flatMap PV.enc)
 len:L.length≤17592186044416
 all:∀ x∈L,PVok W F x
def TermR (W:World) (F:Nat→Prop) (v:Value) (t:List Per):Prop:=∃ L:List PV,L.map PV.p=t∧TermL W F v L
theorem TermL.keep {F:Nat→Prop} {W W':World} {v:Value} {L:List PV} (h:TermL W F v L) (hk:KeepF F W W') (hs:W.heap.size≤W'.heap.size):TermL W' F v L:=⟨h.row.keep hk hs,h.len,fun x hx=>(h.all x hx).keep hk⟩
theorem TermL.mono {F G:Nat→Prop} {W:World} {v:Value} {L:List PV} (h:TermL W F v L) (hF:∀ b,F b→G b):TermL W G v L:=⟨h.row.mono hF,h.len,fun x hx=>(h.all x hx).mono hF⟩
theorem TermR.keep {F:Nat→Prop} {W W':World} {v:Value} {t:List Per} (h:TermR W F v t) (hk:KeepF F W W') (hs:W.heap.size≤W'.heap.size):TermR W' F v t:=by
 obtain ⟨L,e,g⟩:=h;exact ⟨L,e,g.keep hk hs⟩
theorem TermR.mono {F G:Nat→Prop} {W:World} {v:Value} {t:List Per} (h:TermR W F v t) (hF:∀ b,F b→G b):TermR W G v t:=by
 obtain ⟨L,e,g⟩:=h;exact ⟨L,e,g.mono hF⟩
theorem TermR.ext {F:Nat→Prop} {W W':World} {v:Value} {t:List Per} (h:TermR W F v t) (hb:Below W.heap.size W W'):TermR W' F v t:=h.keep (KeepF.below hb) hb.size
structure MixL (W:World) (F:Nat→Prop) (v:Value) (L:List (Value × List Per)):Prop where
 row:RowR W F v L.length (L.map Prod.fst)
 len:L.length≤17592186044416
 all:∀ x∈L,TermR W F x.1 x.2
def MixR (W:World) (F:Nat→Prop) (v:Value) (m:List (List Per)):Prop:=∃ L:List (Value × List Per),L.map Prod.snd=m∧MixL W F v L
theorem MixL.keep {F:Nat→Prop} {W W':World} {v:Value} {L:List (Value × List Per)} (h:MixL W F v L) (hk:KeepF F W W') (hs:W.heap.size≤W'.heap.size):MixL W' F v L:=⟨h.row.keep hk hs,h.len,fun x hx=>(h.all x hx).keep hk hs⟩
theorem MixL.mono {F G:Nat→Prop} {W:World} {v:Value} {L:List (Value × List Per)} (h:MixL W F v L) (hF:∀ b,F b→G b):MixL W G v L:=⟨h.row.mono hF,h.len,fun x hx=>(h.all x hx).mono hF⟩
theorem MixR.keep {F:Nat→Prop} {W W':World} {v:Value} {m:List (List Per)} (h:MixR W F v m) (hk:KeepF F W W') (hs:W.heap.size≤W'.heap.size):MixR W' F v m:=by
 obtain ⟨L,e,g⟩:=h;exact ⟨L,e,g.keep hk hs⟩
theorem MixR.mono {F G:Nat→Prop} {W:World} {v:Value} {m:List (List Per)} (h:MixR W F v m) (hF:∀ b,F b→G b):MixR W G v m:=by
 obtain ⟨L,e,g⟩:=h;exact ⟨L,e,g.mono hF⟩
theorem MixR.ext {F:Nat→Prop} {W W':World} {v:Value} {m:List (List Per)} (h:MixR W F v m) (hb:Below W.heap.size W W'):MixR W' F v m:=h.keep (KeepF.below hb) hb.size
theorem flat_get {L:List PV}:∀ {j i:Nat} {u:Value},j<L.length→(L.getD j default).enc[i]? = some u→(L.flatMap PV.enc)[j*4+i]? = some u:=by
 induction L with
 | nil=>intro j i u h;simp at h
 | cons x L ih=>
  intro j i u hj hi
  rw [List.flatMap_cons]
  cases j with
  | zero=>
   have h4:i<x.enc.length:=(List.getElem?_eq_some_iff.1 hi).1
   rw [List.getElem?_append_left (by simpa using h4)]
   simpa using hi
  | succ j=>
   rw [List.getElem?_append_right (by rw [PV.enc_len];omega),PV.enc_len,show (j+1)*4+i-4=j*4+i by omega]
   exact ih (by simpa using hj) (by simpa using hi)
end Go.Proofs.YthjnojbeimchdaaGreat
namespace Go.Proofs.YthjnojbeimchdaaGreat
open Go.RowKit Go.Maps Kal
theorem getD_mem' {α:Type} {l:List α} {i:Nat} {d:α} (h:i<l.length):l.getD i d∈l:=by
 rw [List.getD_eq_getElem?_getD,List.getElem?_eq_getElem h];exact List.getElem_mem h
theorem any_take {α:Type} {l:List α} {k:Nat} {d:α} {p:α→Bool} (h:k<l.length):(l.take (k+1)).any p=((l.take k).any p || p (l.getD k d)):=by
 rw [List.take_succ_eq_append_getElem h,List.any_append,List.getD_eq_getElem?_getD,List.getElem?_eq_getElem h];simp
def PredP (g:Nat) (lb:Array Value) (L:List PV) (p:PV→Bool) (w:World):Prop:=
 ∀ (W:World) (x:PV),Below w.heap.size w W→x∈L→Calls Tryz.prog g (#[x.val] ++ lb) W fun e w'=>e=.returned (.bool (p x))∧Below w.heap.size w w'
set_option maxRecDepth 100000 in
set_option maxHeartbeats 2000000 in
theorem indexFuncP (F:Nat→Prop) (v:Value) (L:List PV) (p:PV→Bool) (g:Nat) (lb:Array Value) (eg:∀ args w,(callFunc g args).run Tryz.prog w=.ok (.enter g args) w) (w:World) (hv:RowR w F v L.length (L.flatMap PV.enc)) (hlen:L.length≤17592186044416) (hp:PredP g lb L p w) :
  Calls Tryz.prog 105 #[v,.func (.func g) #[] lb] w fun e w'=>∃ i:Int,e=.returned (.int .i64 i)∧decide (0≤i)=L.any p∧Below w.heap.size w w':=by
 have HPP:=Lib.hid hp
 obtain ⟨a1,c1,rfl,_,_,h3⟩:=hv
 have HC:=Lib.hid h3
 clear hp h3
 go_enter Tryz.func105,Tryz.ntmps105
 go_wp2_with fail
 go_loopw [5,8] (fun _ i wr=>∃ k:Nat,k≤L.length∧i=.int .i64 k∧(L.take k).any p=false∧Below w.heap.size w wr) (fun _ i _=>L.length-(intOf i).toNat)
 case atStart=>exact ⟨0,by omega,rfl,rfl,Below.refl _ _⟩
 case round=>
  obtain ⟨k,hk,rfl,hpre,hb⟩:=hrel
  have HB:=Lib.hid hb
  have HPRE:=Lib.hid hpre
  clear hpre
  by_cases hlt:k<L.length
  ·have hlI:(k:Int)<L.length:=by omega
   rcases HC.out with h0|⟨b8,f8,rfl,hF,hb8,hcell⟩
   ·omega
   have e0:wr.cell? ⟨b8,f8+k*4,none⟩=some (L.getD k default).h:=Below.cell' hb (hcell (k*4+0) _ (flat_get hlt rfl)) hb8
   have e1:wr.cell? ⟨b8,f8+k*4+1,none⟩=some (.int .i64 (L.getD k default).p.frm):=Below.cell' hb (hcell (k*4+1) _ (flat_get hlt rfl)) hb8
   have e2:wr.cell? ⟨b8,f8+k*4+2,none⟩=some (.int .i64 (L.getD k default).p.period):=Below.cell' hb (hcell (k*4+2) _ (flat_get hlt rfl)) hb8
   have e3:wr.cell? ⟨b8,f8+k*4+3,none⟩=some (L.getD k default).c:=Below.cell' hb (hcell (k*4+3) _ (flat_get hlt rfl)) hb8
   have hcall:=HPP.out wr (L.getD k default) hb (getD_mem' hlt)
   have HSU:Hid ((L.take (k+1)).any p=((L.take k).any p || p (L.getD k default))):=Lib.hid (any_take hlt)
   have HMEM:=Lib.hid (getD_mem' (d:=default) hlt)
   generalize L.getD k default=y at *
   clear hcell hb
   cases hq:p y with
   | true=>
    rw [hq] at hcall
    have HQ:=Lib.hid hq
    clear hq
    go_wp2_with (go_at_fn g;refine hcall.mono ?_;rintro e w' ⟨rfl,hb'⟩)
    go_ret
    refine ⟨_,rfl,?_,hb'⟩
    rw [decide_eq_true (by omega)]
    exact (List.any_eq_true.2 ⟨y,HMEM.out,HQ.out⟩).symm
   | false=>
    rw [hq] at hcall
    have HQ:=Lib.hid hq
    clear hq
    go_wp2_with (go_at_fn g;refine hcall.mono ?_;rintro e w' ⟨rfl,hb'⟩)
    go_roundw
    case rel=>exact ⟨k+1,by omega,by go_num,by rw [HSU.out,HPRE.out,HQ.out];rfl,hb'⟩
    case measure=>simp [intOf];omega
  ·obtain rfl:k=L.length:=by omega
   go_wp2_with fail
   go_ret
   refine ⟨_,rfl,?_,HB.out⟩
   have:=HPRE.out
   rw [List.take_length] at this
   rw [this];rfl
def PredT (g:Nat) (lb:Array Value) (L:List (Value × List Per)) (p:(Value × List Per)→Bool) (w:World):Prop:=
 ∀ (W:World) (x:(Value × List Per)),Below w.heap.size w W→x∈L→Calls Tryz.prog g (#[x.1] ++ lb) W fun e w'=>e=.returned (.bool (p x))∧Below w.heap.size w w'
set_option maxRecDepth 100000 in
set_option maxHeartbeats 2000000 in
theorem indexFuncT (F:Nat→Prop) (v:Value) (L:List (Value × List Per)) (p:(Value × List Per)→Bool) (g:Nat) (lb:Array Value) (eg:∀ args w,(callFunc g args).run Tryz.prog w=.ok (.enter g args) w) (w:World) (hv:RowR w F v L.length (L.map Prod.fst)) (hlen:L.length≤17592186044416) (hp:PredT g lb L p w) :
  Calls Tryz.prog 99 #[v,.func (.func g) #[] lb] w fun e w'=>∃ i:Int,e=.returned (.int .i64 i)∧decide (0≤i)=L.any p∧Below w.heap.size w w':=by
 have HPP:=Lib.hid hp
 obtain ⟨a1,c1,rfl,_,_,h3⟩:=hv
 have HC:=Lib.hid h3
 clear hp h3
 go_enter Tryz.func99,Tryz.ntmps99
 go_wp2_with fail
 go_loopw [5,8] (fun _ i wr=>∃ k:Nat,k≤L.length∧i=.int .i64 k∧(L.take k).any p=false∧Below w.heap.size w wr) (fun _ i _=>L.length-(intOf i).toNat)
 case atStart=>exact ⟨0,by omega,rfl,rfl,Below.refl _ _⟩
 case round=>
  obtain ⟨k,hk,rfl,hpre,hb⟩:=hrel
  have HB:=Lib.hid hb
  have HPRE:=Lib.hid hpre
  clear hpre
  by_cases hlt:k<L.length
  ·have hlI:(k:Int)<L.length:=by omega
   rcases HC.out with h0|⟨b8,f8,rfl,hF,hb8,hcell⟩
   ·omega
   have e0:wr.cell? ⟨b8,f8+k,none⟩=some (L.getD k (.slice none 0 0,[])).1:=Below.cell' hb (hcell k _ (by rw [List.getElem?_map,List.getD_eq_getElem?_getD,List.getElem?_eq_getElem hlt];rfl)) hb8
   have hcall:=HPP.out wr (L.getD k (.slice none 0 0,[])) hb (getD_mem' hlt)
   have HSU:Hid ((L.take (k+1)).any p=((L.take k).any p || p (L.getD k (.slice none 0 0,[])))):=Lib.hid (any_take hlt)
   have HMEM:=Lib.hid (getD_mem' (d:=(.slice none 0 0,[])) hlt)
   generalize L.getD k (.slice none 0 0,[])=y at *
   clear hcell hb
   cases hq:p y with
   | true=>
    rw [hq] at hcall
    have HQ:=Lib.hid hq
    clear hq
    go_wp2_with (go_at_fn g;refine hcall.mono ?_;rintro e w' ⟨rfl,hb'⟩)
    go_ret
    refine ⟨_,rfl,?_,hb'⟩
    rw [decide_eq_true (by omega)]
    exact (List.any_eq_true.2 ⟨y,HMEM.out,HQ.out⟩).symm
   | false=>
    rw [hq] at hcall
    have HQ:=Lib.hid hq
    clear hq
    go_wp2_with (go_at_fn g;refine hcall.mono ?_;rintro e w' ⟨rfl,hb'⟩)
    go_roundw
    case rel=>exact ⟨k+1,by omega,by go_num,by rw [HSU.out,HPRE.out,HQ.out];rfl,hb'⟩
    case measure=>simp [intOf];omega
  ·obtain rfl:k=L.length:=by omega
   go_wp2_with fail
   go_ret
   refine ⟨_,rfl,?_,HB.out⟩
   have:=HPRE.out
   rw [List.take_length] at this
   rw [this];rfl
set_option maxRecDepth 100000 in
set_option maxHeartbeats 2000000 in
theorem containsFuncP (F:Nat→Prop) (v:Value) (L:List PV) (p:PV→Bool) (g:Nat) (lb:Array Value) (eg:∀ args w,(callFunc g args).run Tryz.prog w=.ok (.enter g args) w) (w:World) (hv:RowR w F v L.length (L.flatMap PV.enc)) (hlen:L.length≤17592186044416) (hp:PredP g lb L p w) :
  Calls Tryz.prog 63 #[v,.func (.func g) #[] lb] w fun e w'=>e=.returned (.bool (L.any p))∧Below w.heap.size w w':=by
 have HV:=Lib.hid hv
 have HPP:=Lib.hid hp
 clear hp hv
 go_enter Tryz.func63,Tryz.ntmps63
 go_wp2_with (go_at_call 105;refine (indexFuncP F v L p g lb eg _ HV.out hlen HPP.out).mono ?_;rintro e w1 ⟨i,rfl,hi,hb1⟩;have HI:=Lib.hid hi;clear hi)
 go_ret
 exact ⟨ret_bool HI.out,hb1⟩
set_option maxRecDepth 100000 in
set_option maxHeartbeats 2000000 in
theorem containsFuncT (F:Nat→Prop) (v:Value) (L:List (Value × List Per)) (p:(Value × List Per)→Bool) (g:Nat) (lb:Array Value) (eg:∀ args w,(callFunc g args).run Tryz.prog w=.ok (.enter g args) w) (w:World) (hv:RowR w F v L.length (L.map Prod.fst)) (hlen:L.length≤17592186044416) (hp:PredT g lb L p w) :
  Calls Tryz.prog 57 #[v,.func (.func g) #[] lb] w fun e w'=>e=.returned (.bool (L.any p))∧Below w.heap.size w w':=by
 have HV:=Lib.hid hv
 have HPP:=Lib.hid hp
 clear hp hv
 go_enter Tryz.func57,Tryz.ntmps57
 go_wp2_with (go_at_call 99;refine (indexFuncT F v L p g lb eg _ HV.out hlen HPP.out).mono ?_;rintro e w1 ⟨i,rfl,hi,hb1⟩;have HI:=Lib.hid hi;clear hi)
 go_ret
 exact ⟨ret_bool HI.out,hb1⟩
end Go.Proofs.YthjnojbeimchdaaGreat
namespace Go.Proofs.YthjnojbeimchdaaGreat
open Go.RowKit Go.Maps Kal
def hasB (p:Per) (n:Int):Bool:=validB p && decide (0≤n) && memB p n
def inB (t:List Per) (n:Int):Bool:=t.all fun p=>hasB p n
def validT (t:List Per):Bool:=decide (1≤t.length) && decide (t.length≤4) && t.all validB
def validM (m:List (List Per)):Bool:=decide (m.length≤64) && m.all validT
def hasM (m:List (List Per)) (n:Int):Bool:=validM m && m.any fun t=>inB t n
theorem any_not {α:Type} (l:List α) (p:α→Bool):(!l.any fun x=>!p x)=l.all p:=by
 induction l with
 | nil=>rfl
 | cons a l ih=>simp only [List.any_cons,List.all_cons,← ih];cases p a <;> simp
set_option maxRecDepth 100000 in
set_option maxHeartbeats 1000000 in
theorem in1_any (F:Nat→Prop) (x:PV) (n:Int) (db:Nat) (w:World) (hx:PVok w F x) (hc:w.cell? ⟨db,0,none⟩=some (.int .i64 n)) (hn:InI n) :
  Calls Tryz.prog 100 #[x.val,.pointer (some ⟨db,0,none⟩)] w fun e w'=>e=.returned (.bool (!hasB x.p n))∧Below w.heap.size w w':=by
 have H:=fun W (h:Below w.heap.size w W)=>has_far x.h x.c x.p n W (hx.is.ext h) hn
 have hlt:=World.block_lt_of_cell? w _ hc
 have e0:∀ o,(w.alloc o).cell? ⟨db,0,none⟩=some (.int .i64 n):=fun o=>cell_alloc_at hc o
 change ∀ W,_→Calls _ _ _ _ fun e w'=>e=.returned (.bool (hasB x.p n))∧_ at H
 clear hc hx
 generalize hasB x.p n=b at H ⊢
 go_enter Tryz.func100,Tryz.ntmps100
 go_wp2_with (go_at_call 43;refine (H _ xE).mono ?_;rintro e w1 ⟨rfl,hb1⟩)
 go_ret
 exact ⟨rfl,xE⟩
theorem in1_pred (F:Nat→Prop) (L:List PV) (n:Int) (db:Nat) (w:World) (hL:∀ x∈L,PVok w F x) (hc:w.cell? ⟨db,0,none⟩=some (.int .i64 n)) (hn:InI n) :
  PredP 100 #[.pointer (some ⟨db,0,none⟩)] L (fun x=>!hasB x.p n) w:=fun W x hW hx=>by
 have h:=in1_any F x n db W ((hL x hx).keep (KeepF.below hW)) (Ext.cell hW hc) hn
 have e:(#[x.val] ++ #[Value.pointer (some ⟨db,0,none⟩)])=#[x.val,.pointer (some ⟨db,0,none⟩)]:=by simp
 rw [e]
 exact h.mono fun e w' ⟨h1,h2⟩=>⟨h1,hW.trans (h2.mono hW.size)⟩
set_option maxRecDepth 100000 in
set_option maxHeartbeats 1000000 in
theorem in_any (F:Nat→Prop) (v:Value) (t:List Per) (n:Int) (w:World) (ht:TermR w F v t) (hn:InI n) :
  Calls Tryz.prog 59 #[v,.int .i64 n] w fun e w'=>e=.returned (.bool (inB t n))∧Below w.heap.size w w':=by
 obtain ⟨L,rfl,hL⟩:=ht
 have hb0:Below w.heap.size w (w.alloc (.cells #[.int .i64 n] 3)):=by exact xE
 have h0:=containsFuncP F v L (fun x=>!hasB x.p n) 100 #[.pointer (some ⟨w.heap.size,0,none⟩)] (enters_of Tryz.func100 (by kernel_rfl) rfl) (w.alloc (.cells #[.int .i64 n] 3)) (hL.row.keep (KeepF.below hb0) hb0.size) hL.len
  (in1_pred F L n w.heap.size _ (fun x hx=>(hL.all x hx).keep (KeepF.below hb0)) (by simp) hn)
 have he:inB (L.map PV.p) n=!(L.any fun x=>!hasB x.p n):=by rw [any_not];unfold inB;rw [List.all_map];rfl
 rw [he]
 clear hL he hb0
 generalize (L.any fun x=>!hasB x.p n)=b at h0 ⊢
 go_enter Tryz.func59,Tryz.ntmps59
 go_wp2_with (go_at_call 63;refine h0.mono ?_;rintro e w1 ⟨rfl,hb1⟩)
 go_ret
 exact ⟨rfl,xE⟩
set_option maxRecDepth 100000 in
set_option maxHeartbeats 1000000 in
theorem valid1_any (F:Nat→Prop) (x:PV) (w:World) (hx:PVok w F x) :
  Calls Tryz.prog 64 #[x.val] w fun e w'=>e=.returned (.bool (!validB x.p))∧Below w.heap.size w w':=by
 have H:=fun W (h:Below w.heap.size w W)=>valid_any x.h x.c x.p W (hx.is.ext h)
 clear hx
 generalize validB x.p=b at H ⊢
 go_enter Tryz.func64,Tryz.ntmps64
 go_wp2_with (go_at_call 65;refine (H _ xE).mono ?_;rintro e w1 ⟨rfl,hb1⟩)
 go_ret
 exact ⟨rfl,xE⟩
theorem valid1_pred (F:Nat→Prop) (L:List PV) (w:World) (hL:∀ x∈L,PVok w F x):PredP 64 #[] L (fun x=>!validB x.p) w:=fun W x hW hx=>by
 have h:=valid1_any F x W ((hL x hx).keep (KeepF.below hW))
 have e:(#[x.val] ++ (#[]:Array Value))=#[x.val]:=by simp
 rw [e]
 exact h.mono fun e w' ⟨h1,h2⟩=>⟨h1,hW.trans (h2.mono hW.size)⟩
theorem bad_term (F:Nat→Prop) (v:Value) (t:List Per) (w:World) (ht:TermR w F v t) :
  Calls Tryz.prog 63 #[v,.func (.func 64) #[] #[]] w fun e w'=>e=.returned (.bool (!t.all validB))∧Below w.heap.size w w':=by
 obtain ⟨L,rfl,hL⟩:=ht
 have h:=containsFuncP F v L (fun x=>!validB x.p) 64 #[] (enters_of Tryz.func64 (by kernel_rfl) rfl) w hL.row hL.len (valid1_pred F L w hL.all)
 have he:(!(L.map PV.p).all validB)=L.any fun x=>!validB x.p:=by
  rw [List.all_map,← Bool.not_not (L.any _),any_not];rfl
 rw [he];exact h
theorem all_take {α:Type} {l:List α} {k:Nat} {d:α} {p:α→Bool} (h:k<l.length):(l.take (k+1)).all p=((l.take k).all p && p (l.getD k d)):=by
 rw [List.take_succ_eq_append_getElem h,List.all_append,List.getD_eq_getElem?_getD,List.getElem?_eq_getElem h];simp
theorem all_false {α:Type} {l:List α} {k:Nat} {d:α} {p:α→Bool} (h:k<l.length) (hp:p (l.getD k d)=false):l.all p=false:=by
 rw [List.all_eq_false];exact ⟨_,getD_mem' (d:=d) h,by rw [hp];decide⟩
theorem TermR.form {F:Nat→Prop} {W:World} {v:Value} {t:List Per} (h:TermR W F v t):∃ a c,v=.slice a t.length c∧t.length≤17592186044416:=by
 obtain ⟨L,rfl,hL⟩:=h
 obtain ⟨a,c,rfl,_⟩:=hL.row
 exact ⟨a,c,by rw [List.length_map],by rw [List.length_map];exact hL.len⟩
theorem MixL.get {F:Nat→Prop} {w:World} {a:Option Addr} {n c:Nat} {L:List (Value × List Per)} (h:MixL w F (.slice a n c) L) {k:Nat} (hk:k<L.length) :
  ∃ b o tv,a=some ⟨b,o,none⟩∧w.cell? ⟨b,o+k,none⟩=some tv∧TermR w F tv ((L.map Prod.snd).getD k []):=by
 obtain ⟨a',c',he,h1,h2,h3⟩:=h.row
 injection he with e1 _ e2
 subst e1;subst e2
 rcases h3 with h3|⟨b,o,rfl,hF,hl,hc⟩
 ·omega
 ·refine ⟨b,o,(L.getD k default).1,rfl,hc k _ ?_,?_⟩
  ·rw [List.getElem?_map,List.getD_eq_getElem?_getD,List.getElem?_eq_getElem hk];rfl
  ·have:=h.all _ (getD_mem' (d:=default) hk)
   rw [show (L.map Prod.snd).getD k []=(L.getD k default).2 by simp [List.getD_eq_getElem?_getD,hk]]
   exact this
set_option maxRecDepth 100000 in
set_option maxHeartbeats 2000000 in
theorem mvalid_any (F:Nat→Prop) (v:Value) (m:List (List Per)) (w:World) (hm:MixR w F v m) :
  Calls Tryz.prog 18 #[.agg #[v]] w fun e w'=>e=.returned (.bool (validM m))∧Below w.heap.size w w':=by
 obtain ⟨L,hLm,hL⟩:=hm
 obtain ⟨a,c,rfl,_⟩:=hL.row
 have HL:=Lib.hid hL
 have hlen:=hL.len
 have hml:m.length=L.length:=by rw [← hLm];exact List.length_map _
 have HLM:=Lib.hid hLm
 have HM:=Lib.hid hml
 clear hL hLm hml
 go_enter Tryz.func18,Tryz.ntmps18
 go_wp2_with fail
 ·rename_i hgt
  go_ret
  refine ⟨ret_bool ?_,xE⟩
  have:=HM.out
  unfold validM
  rw [decide_eq_false (by omega)];rfl
 ·rename_i hgt
  go_loopw [4,12] (fun _ i wr=>∃ k:Nat,k≤L.length∧i=.int .i64 k∧(m.take k).all validT=true∧Below w.heap.size w wr) (fun _ i _=>L.length-(intOf i).toNat)
  case atStart=>exact ⟨0,by omega,rfl,rfl,xE⟩
  case round=>
   obtain ⟨k,hk,rfl,hpre,hb⟩:=hrel
   have HB:=Lib.hid hb
   have HPRE:=Lib.hid hpre
   clear hpre
   by_cases hlt:k<L.length
   ·have hlI:(k:Int)<L.length:=by omega
    obtain ⟨b8,f8,tv,rfl,hcell,hT⟩:=(HL.out.keep (KeepF.below hb) hb.size).get hlt
    rw [HLM.out] at hT
    have HT:=Lib.hid hT
    have HSU:Hid ((m.take (k+1)).all validT=((m.take k).all validT && validT (m.getD k []))):=Lib.hid (all_take (by have:=HM.out;omega))
    have HF:Hid (validT (m.getD k [])=false→validM m=false):=Lib.hid fun h=>by unfold validM;rw [all_false (d:=[]) (by have:=HM.out;omega) h,Bool.and_false]
    generalize m.getD k []=t at *
    obtain ⟨a2,c2,rfl,ht44⟩:=hT.form
    have HBT:=fun W h=>bad_term F _ t W (HT.out.ext h)
    clear hT
    by_cases h1:t.length<1
    ·have h1I:(t.length:Int)<1:=by omega
     go_wp2_with fail
     go_ret
     refine ⟨ret_bool (HF.out ?_).symm,HB.out⟩
     unfold validT;rw [decide_eq_false (by omega)];rfl
    ·by_cases h2:4<t.length
     ·have h2I:4<(t.length:Int):=by omega
      go_wp2_with fail
      go_ret
      refine ⟨ret_bool (HF.out ?_).symm,HB.out⟩
      unfold validT;rw [decide_eq_false (p:=t.length≤4) (by omega),Bool.and_false];rfl
     ·have h1I:¬ (t.length:Int)<1:=by omega
      have h2I:¬ 4<(t.length:Int):=by omega
      cases hq:t.all validB with
      | false=>
       rw [hq] at HBT
       have HQ:=Lib.hid hq
       clear hq
       go_wp2_with (go_at_call 63;refine (HBT _ xE).mono ?_;rintro e w1 ⟨rfl,hb1⟩)
       go_ret
       refine ⟨ret_bool (HF.out ?_).symm,xE⟩
       unfold validT;rw [HQ.out,Bool.and_false]
      | true=>
       rw [hq] at HBT
       have HQ:=Lib.hid hq
       clear hq
       go_wp2_with (go_at_call 63;refine (HBT _ xE).mono ?_;rintro e w1 ⟨rfl,hb1⟩)
       go_roundw
       case rel=>
        refine ⟨k+1,by omega,by go_num,?_,xE⟩
        rw [HSU.out,HPRE.out]
        unfold validT;rw [HQ.out,decide_eq_true (by omega),decide_eq_true (by omega)];rfl
       case measure=>simp [intOf];omega
   ·obtain rfl:k=L.length:=by omega
    go_wp2_with fail
    go_ret
    refine ⟨ret_bool ?_,HB.out⟩
    have:=HPRE.out
    rw [← HM.out,List.take_length] at this
    unfold validM;rw [this,decide_eq_true (by have:=HM.out;omega)];rfl
end Go.Proofs.YthjnojbeimchdaaGreat
namespace Kal
theorem gcd_lcm_dvd {a b d:Nat} (hd0:0<d) (hd:d∣Nat.lcm a b):d∣Nat.lcm (Nat.gcd d a) (Nat.gcd d b):=by
 have hg:0<Nat.gcd (Nat.gcd d a) (Nat.gcd d b):=Nat.gcd_pos_of_pos_left _ (Nat.gcd_pos_of_pos_left _ hd0)
 have e1:Nat.gcd (Nat.gcd d a) (Nat.gcd d b)*Nat.lcm (Nat.gcd d a) (Nat.gcd d b)=Nat.gcd d a*Nat.gcd d b:=Nat.gcd_mul_lcm _ _
 refine Nat.dvd_of_mul_dvd_mul_left hg ?_
 rw [e1]
 have g1:Nat.gcd (Nat.gcd d a) (Nat.gcd d b)∣d:=Nat.dvd_trans (Nat.gcd_dvd_left _ _) (Nat.gcd_dvd_left _ _)
 have g2:Nat.gcd (Nat.gcd d a) (Nat.gcd d b)∣a:=Nat.dvd_trans (Nat.gcd_dvd_left _ _) (Nat.gcd_dvd_right _ _)
 have g3:Nat.gcd (Nat.gcd d a) (Nat.gcd d b)∣b:=Nat.dvd_trans (Nat.gcd_dvd_right _ _) (Nat.gcd_dvd_right _ _)
 generalize Nat.gcd (Nat.gcd d a) (Nat.gcd d b)=g at *
 rw [← Nat.gcd_mul_left]
 refine Nat.dvd_gcd ?_ ?_
 ·rw [Nat.mul_comm (Nat.gcd d a),Nat.mul_comm g]
  exact Nat.mul_dvd_mul_left _ (Nat.dvd_gcd g1 g2)
 ·rw [← Nat.gcd_mul_right]
  refine Nat.dvd_gcd ?_ ?_
  ·rw [Nat.mul_comm g];exact Nat.mul_dvd_mul_left _ g3
  ·have h:=Nat.mul_dvd_mul (Nat.dvd_gcd g2 g3) hd
   rwa [Nat.gcd_mul_lcm] at h
def lcmL (l:List Nat):Nat:=l.foldr Nat.lcm 1
theorem lcmL_pos:∀ {l:List Nat},(∀ a∈l,0<a)→0<lcmL l
 | [],_=>by decide
 | a :: l,h=>Nat.lcm_pos (h a (by simp)) (lcmL_pos fun b hb=>h b (by simp [hb]))
theorem lcmL_dvd:∀ {l:List Nat} {a:Nat},a∈l→a∣lcmL l
 | b :: l,a,h=>by
  rcases List.mem_cons.1 h with rfl|h
  ·exact Nat.dvd_lcm_left _ _
  ·exact Nat.dvd_trans (lcmL_dvd h) (Nat.dvd_lcm_right _ _)
theorem dvd_gcd_lcmL {m z:Nat} (hm:0<m):∀ {l:List Nat},(∀ a∈l,Nat.gcd m a∣z)→Nat.gcd m (lcmL l)∣z
 | [],_=>by simp [lcmL]
 | a :: l,h=>by
  have ih:=dvd_gcd_lcmL hm (l:=l) fun b hb=>h b (by simp [hb])
  have ha:=h a (by simp)
  have hd0:0<Nat.gcd m (lcmL (a :: l)):=Nat.gcd_pos_of_pos_left _ hm
  have hd:Nat.gcd m (lcmL (a :: l))∣Nat.lcm a (lcmL l):=Nat.gcd_dvd_right _ _
  have hdm:Nat.gcd m (lcmL (a :: l))∣m:=Nat.gcd_dvd_left _ _
  generalize Nat.gcd m (lcmL (a :: l))=d at *
  refine Nat.dvd_trans (gcd_lcm_dvd hd0 hd) (Nat.lcm_dvd (Nat.dvd_trans ?_ ha) (Nat.dvd_trans ?_ ih))
  ·exact Nat.dvd_gcd (Nat.dvd_trans (Nat.gcd_dvd_left _ _) hdm) (Nat.gcd_dvd_right _ _)
  ·exact Nat.dvd_gcd (Nat.dvd_trans (Nat.gcd_dvd_left _ _) hdm) (Nat.gcd_dvd_right _ _)
theorem dvd_sub_of_emod {m x y:Int} (h:x % m=y % m):m∣x-y:=Int.dvd_of_emod_eq_zero (Int.emod_eq_emod_iff_emod_sub_eq_zero.1 h)
theorem emod_of_dvd_sub {m x y:Int} (h:m∣x-y):x % m=y % m:=Int.emod_eq_emod_iff_emod_sub_eq_zero.2 (Int.emod_eq_zero_of_dvd h)
theorem crt_list:∀ (l:List (Int × Int)),(∀ x∈l,1≤x.1)→l.Pairwise (fun x y=>((Int.gcd x.1 y.1:Nat):Int)∣x.2-y.2)→∃ n:Int,∀ x∈l,n % x.1=x.2 % x.1
 | [],_,_=>⟨0,by simp⟩
 | (m,r) :: l,h,hp=>by
  obtain ⟨n,hn⟩:=crt_list l (fun x hx=>h x (by simp [hx])) (List.pairwise_cons.1 hp).2
  have hm:1≤m:=h (m,r) (by simp)
  have hL:0<lcmL (l.map fun x=>x.1.natAbs):=lcmL_pos fun a ha=>by
   obtain ⟨x,hx,rfl⟩:=List.mem_map.1 ha
   have:=h x (by simp [hx]);omega
  have key:Nat.gcd m.natAbs (lcmL (l.map fun x=>x.1.natAbs))∣(r-n).natAbs:=dvd_gcd_lcmL (by omega) fun a ha=>by
   obtain ⟨x,hx,rfl⟩:=List.mem_map.1 ha
   have h1:((Int.gcd m x.1:Nat):Int)∣r-x.2:=(List.pairwise_cons.1 hp).1 x hx
   have h2:x.1∣n-x.2:=dvd_sub_of_emod (hn x hx)
   have h3:((Int.gcd m x.1:Nat):Int)∣n-x.2:=Int.dvd_trans (Int.gcd_dvd_right _ _) h2
   have h4:((Int.gcd m x.1:Nat):Int)∣r-n:=by
    have:=Int.dvd_sub h1 h3
    rwa [show r-x.2-(n-x.2)=r-n from by omega] at this
   exact Int.natCast_dvd_natCast.1 (Int.dvd_natAbs.2 h4)
  have key2:r % (Int.gcd m (lcmL (l.map fun x=>x.1.natAbs)):Nat)=n % (Int.gcd m (lcmL (l.map fun x=>x.1.natAbs)):Nat):=emod_of_dvd_sub (Int.dvd_natAbs.1 (Int.natCast_dvd_natCast.2 (by simpa [Int.gcd] using key)))
  obtain ⟨v,hv⟩:∃ v,IsSol r m n (lcmL (l.map fun x=>x.1.natAbs)) v:=⟨_,isSol_exists hm (by omega) key2⟩
  refine ⟨v,fun x hx=>?_⟩
  rcases List.mem_cons.1 hx with rfl|hx
  ·exact hv.2.2.1
  ·rw [← hn x hx]
   have h5:((lcmL (l.map fun x=>x.1.natAbs):Nat):Int)∣v-n:=dvd_sub_of_emod hv.2.2.2
   have h6:x.1∣((lcmL (l.map fun x=>x.1.natAbs):Nat):Int):=by
    have h7:x.1.natAbs∣lcmL (l.map fun x=>x.1.natAbs):=lcmL_dvd (List.mem_map.2 ⟨x,hx,rfl⟩)
    exact Int.natAbs_dvd.1 (Int.natCast_dvd_natCast.2 h7)
   exact emod_of_dvd_sub (Int.dvd_trans h6 h5)
end Kal
namespace Kal
def tmem (t:List Per) (n:Int):Prop:=∀ p∈t,p.mem n
def mmem (m:List (List Per)) (n:Int):Prop:=∃ t∈m,tmem t n
def startF (a:Int) (t:List Per):Int:=t.foldl (fun a p=>max a p.frm) a
def startT (t:List Per):Int:=startF 0 t
theorem startF_ge:∀ (t:List Per) (a:Int),a≤startF a t∧∀ p∈t,p.frm≤startF a t
 | [],a=>⟨Int.le_refl _,by simp⟩
 | q :: t,a=>by
  obtain ⟨h1,h2⟩:=startF_ge t (max a q.frm)
  refine ⟨by show a≤startF (max a q.frm) t;omega,fun p hp=>?_⟩
  show p.frm≤startF (max a q.frm) t
  rcases List.mem_cons.1 hp with rfl|hp
  ·omega
  ·exact h2 p hp
theorem startF_is:∀ (t:List Per) (a:Int),startF a t=a∨∃ p∈t,startF a t=p.frm
 | [],a=>.inl rfl
 | q :: t,a=>by
  rcases startF_is t (max a q.frm) with h|⟨p,hp,h⟩
  ·by_cases hq:q.frm≤a
   ·left;show startF (max a q.frm) t=a;omega
   ·right;exact ⟨q,by simp,by show startF (max a q.frm) t=q.frm;omega⟩
  ·exact .inr ⟨p,by simp [hp],h⟩
theorem startT_ge {t:List Per}:0≤startT t∧∀ p∈t,p.frm≤startT t:=startF_ge t 0
theorem startF_le {t:List Per} {a b:Int} (h0:a≤b) (h:∀ p∈t,p.frm≤b):startF a t≤b:=by
 rcases startF_is t a with h1|⟨p,hp,h1⟩
 ·omega
 ·have:=h p hp;omega
def resP (p:Per) (c:Int):Int:=(p.frm % p.period+c) % p.period
theorem mem_resP {p:Per} (h:p.WF) {n:Int} (hn:p.frm≤n):p.mem n↔∃ c∈p.cycle,n % p.period=resP p c:=by
 have h0:=h.frm
 have h1:=h.per
 rw [Per.mem_hi (by omega) hn]
 constructor
 ·intro hm
  refine ⟨_,hm,?_⟩
  unfold resP
  rw [← Int.add_emod,show p.frm+(n-p.frm)=n from by omega]
 ·rintro ⟨c,hc,he⟩
  have hb:=h.cyc.2 c hc
  unfold resP at he
  rw [show (p.frm % p.period+c) % p.period=(p.frm+c) % p.period from by rw [Int.add_emod,Int.emod_emod,← Int.add_emod]] at he
  have hd:(n-p.frm) % p.period=c:=by
   have h2:p.period∣n-(p.frm+c):=dvd_sub_of_emod he
   have h3:(n-p.frm) % p.period=c % p.period:=emod_of_dvd_sub (by rw [show n-p.frm-c=n-(p.frm+c) from by omega];exact h2)
   rw [h3,Int.emod_eq_of_lt hb.1 hb.2]
  rw [hd];exact hc
theorem resP_lt {p:Per} (h:p.WF) (c:Int):0≤resP p c∧resP p c<p.period:=
 ⟨Int.emod_nonneg _ (by have:=h.per;omega),Int.emod_lt_of_pos _ (by have:=h.per;omega)⟩
def Agree (done:List (Int × Int)) (P r:Int):Prop:=∀ x∈done,(r-x.2) % ((Int.gcd P x.1:Nat):Int)=0
def Ext:List (Int × Int)→List Per→Prop
 | _,[]=>True
 | done,p :: t=>∃ c∈p.cycle,Agree done p.period (resP p c)∧Ext (done ++ [(p.period,resP p c)]) t
theorem ext_of {n:Int}:∀ (t:List Per) (done:List (Int × Int)),(∀ x∈done,x.2=n % x.1)→(∀ p∈t,p.WF∧p.frm≤n∧p.mem n)→Ext done t
 | [],_,_,_=>trivial
 | p :: t,done,hd,ht=>by
  obtain ⟨hw,hf,hm⟩:=ht p (by simp)
  obtain ⟨c,hc,he⟩:=(mem_resP hw hf).1 hm
  refine ⟨c,hc,fun x hx=>?_,ext_of t _ (fun x hx=>?_) (fun q hq=>ht q (by simp [hq]))⟩
  ·rw [hd x hx,← he]
   have h1:((Int.gcd p.period x.1:Nat):Int)∣n % p.period-n:=by
    have:=Int.emod_add_mul_ediv n p.period
    refine Int.dvd_trans (Int.gcd_dvd_left _ _) ⟨-(n / p.period),?_⟩
    rw [Int.mul_neg];omega
   have h2:((Int.gcd p.period x.1:Nat):Int)∣n % x.1-n:=by
    have:=Int.emod_add_mul_ediv n x.1
    refine Int.dvd_trans (Int.gcd_dvd_right _ _) ⟨-(n / x.1),?_⟩
    rw [Int.mul_neg];omega
   have:=Int.dvd_sub h1 h2
   exact Int.emod_eq_zero_of_dvd (by rwa [show n % p.period-n-(n % x.1-n)=n % p.period-n % x.1 from by omega] at this)
  ·rcases List.mem_append.1 hx with hx|hx
   ·exact hd x hx
   ·obtain rfl:x=(p.period,resP p c):=by simpa using hx
    exact he.symm
theorem of_ext:∀ (t:List Per) (done:List (Int × Int)),Ext done t→done.Pairwise (fun x y=>((Int.gcd x.1 y.1:Nat):Int)∣x.2-y.2)→(∀ x∈done,1≤x.1)→(∀ p∈t,1≤p.period)→
  ∃ L:List (Int × Int),L.Pairwise (fun x y=>((Int.gcd x.1 y.1:Nat):Int)∣x.2-y.2)∧(∀ x∈L,1≤x.1)∧(∀ x∈done,x∈L)∧∀ p∈t,∃ c∈p.cycle,(p.period,resP p c)∈L
 | [],done,_,hp,h1,_=>⟨done,hp,h1,fun x hx=>hx,by simp⟩
 | p :: t,done,⟨c,hc,ha,he⟩,hp,h1,h2=>by
  obtain ⟨L,l1,l2,l3,l4⟩:=of_ext t _ he (List.pairwise_append.2 ⟨hp,List.pairwise_singleton _ _,fun x hx y hy=>by
   obtain rfl:y=(p.period,resP p c):=by simpa using hy
   have h3:=Int.dvd_of_emod_eq_zero (ha x hx)
   rw [Int.gcd_comm]
   have h4:=Int.dvd_neg.2 h3
   rwa [show -(resP p c-x.2)=x.2-resP p c from by omega] at h4⟩) (fun x hx=>by
   rcases List.mem_append.1 hx with hx|hx
   ·exact h1 x hx
   ·obtain rfl:x=(p.period,resP p c):=by simpa using hx
    exact h2 p (by simp)) (fun q hq=>h2 q (by simp [hq]))
  refine ⟨L,l1,l2,fun x hx=>l3 x (by simp [hx]),fun q hq=>?_⟩
  rcases List.mem_cons.1 hq with rfl|hq
  ·exact ⟨c,hc,l3 _ (by simp)⟩
  ·exact l4 q hq
def recT (t:List Per):Prop:=∃ n,startT t≤n∧tmem t n
theorem rec_iff {t:List Per} (hw:∀ p∈t,p.WF):Ext [] t↔recT t:=by
 constructor
 ·intro h
  obtain ⟨L,l1,l2,_,l4⟩:=of_ext t [] h List.Pairwise.nil (by simp) (fun p hp=>(hw p hp).per)
  obtain ⟨n,hn⟩:=crt_list L l2 l1
  have hL:0<lcmL (L.map fun x=>x.1.natAbs):=lcmL_pos fun a ha=>by
   obtain ⟨x,hx,rfl⟩:=List.mem_map.1 ha
   have:=l2 x hx;omega
  obtain ⟨k,hk,_⟩:=exists_mul_ge (lcmL (L.map fun x=>x.1.natAbs)) (startT t-n) (by omega)
  refine ⟨n+k*(lcmL (L.map fun x=>x.1.natAbs):Nat),by omega,fun p hp=>?_⟩
  have hs:=(startT_ge (t:=t)).2 p hp
  obtain ⟨c,hc,hm⟩:=l4 p hp
  refine (mem_resP (hw p hp) (by omega)).2 ⟨c,hc,?_⟩
  have h1:=hn _ hm
  have h2:p.period∣((lcmL (L.map fun x=>x.1.natAbs):Nat):Int):=by
   have h7:p.period.natAbs∣lcmL (L.map fun x=>x.1.natAbs):=lcmL_dvd (List.mem_map.2 ⟨_,hm,rfl⟩)
   exact Int.natAbs_dvd.1 (Int.natCast_dvd_natCast.2 h7)
  have h3:=resP_lt (hw p hp) c
  rw [Int.emod_eq_of_lt h3.1 h3.2] at h1
  rw [← h1]
  exact emod_of_dvd_sub (by rw [show n+(k:Int)*(lcmL (L.map fun x=>x.1.natAbs):Nat)-n=k*(lcmL (L.map fun x=>x.1.natAbs):Nat) from by omega];exact Int.dvd_trans h2 (Int.dvd_mul_left _ _))
 ·rintro ⟨n,h1,h2⟩
  exact ext_of t [] (by simp) fun p hp=>⟨hw p hp,by have:=(startT_ge (t:=t)).2 p hp;omega,h2 p hp⟩
theorem tmem_nonneg {t:List Per} (hne:t≠[]) {n:Int} (h:tmem t n):0≤n:=by
 cases t with
 | nil=>exact absurd rfl hne
 | cons p t=>exact (h p (by simp)).1
theorem early_head {t:List Per} (hne:t≠[]) {n:Int} (h:tmem t n) (hn:n<startT t):∃ p∈t,n∈p.head:=by
 have h0:=tmem_nonneg hne h
 rcases startF_is t 0 with h1|⟨p,hp,h1⟩
 ·have:startT t=0:=h1
  omega
 ·have h2:startT t=p.frm:=h1
  exact ⟨p,hp,(Per.mem_lo h0 (by omega)).1 (h p hp)⟩
theorem head_early {t:List Per} (hw:∀ p∈t,p.WF) {p:Per} (hp:p∈t) {n:Int} (h:n∈p.head):n<startT t:=by
 have h1:=(hw p hp).head.2 n h
 have h2:=(startT_ge (t:=t)).2 p hp
 omega
def barrenT (t:List Per):Prop:=∀ n,¬ tmem t n
theorem barren_iff {t:List Per}:barrenT t↔(∀ n,n<startT t→¬ tmem t n)∧¬ recT t:=by
 constructor
 ·exact fun h=>⟨fun n _=>h n,fun ⟨n,_,hn⟩=>h n hn⟩
 ·rintro ⟨h1,h2⟩ n hn
  by_cases h:n<startT t
  ·exact h1 n h hn
  ·exact h2 ⟨n,by omega,hn⟩
end Kal
namespace Kal
instance:Inhabited Per:=⟨⟨[],0,0,[]⟩⟩
noncomputable def canonC (S:Int→Prop):Per:=Classical.epsilon fun c=>IsCanon c S
theorem canonC_is {S:Int→Prop} (h:∃ c,IsCanon c S):IsCanon (canonC S) S:=Classical.epsilon_spec h
theorem canonC_eq {S:Int→Prop} {c:Per} (h:IsCanon c S):canonC S=c:=(canonC_is ⟨c,h⟩).unique h
theorem canon_of_pfrom {S:Int→Prop} {f d:Int} (hf:0≤f) (hd:1≤d) (hS0:∀ n,S n→0≤n) (hp:PFrom S f d):∃ c,IsCanon c S:=by
 have h:=per_of_list (S:=S) (f:=f) (d:=d) (hl:=sel S 0 f) (cl:=sel (fun n=>S (f+n)) 0 d) hf hd hS0 hp (sel_rise (Int.le_refl _)) (sel_rise (Int.le_refl _))
  (fun n h1 h2=>by rw [sel_mem (Int.le_refl _)];exact ⟨fun h=>h.2.2,fun h=>⟨h1,h2,h⟩⟩) (fun n h1 h2=>by rw [sel_mem (Int.le_refl _)];exact ⟨fun h=>h.2.2,fun h=>⟨h1,h2,h⟩⟩)
 obtain ⟨q,hq⟩:=exists_canon h.1
 exact ⟨q,hq.congr h.2⟩
structure Fac (s:Int) (p:Per):Prop where
 wf:p.WF
 low:∀ n,p.mem n→s≤n
 frm:p.frm≤s+9
 dvd:p.period∣27720
theorem Fac.per {s:Int} {p:Per} (h:Fac s p):p.period≤27720:=Int.le_of_dvd (by decide) h.dvd
theorem fac_canon {s f d:Int} {S:Int→Prop} {c:Per} (h:IsCanon c S) (hlow:∀ n,S n→s≤n) (hf:0≤f) (hfs:f≤s+9) (hd:1≤d) (hdv:d∣27720) (hp:PFrom S f d):Fac s c:=
 ⟨h.wf,fun n hn=>hlow n ((h.mem n).1 hn),Int.le_trans (h.frm_le hf hd hp) hfs,Int.dvd_trans (h.dvd hd hp.ev) hdv⟩
theorem Fac.canon {s:Int} {p:Per} (h:Fac s p):IsCanon (canonC p.mem) p.mem∧Fac s (canonC p.mem):=by
 have h1:=canonC_is (exists_canon h.wf)
 exact ⟨h1,fac_canon h1 h.low h.wf.frm h.frm h.wf.per h.dvd h.wf.pfrom⟩
theorem Fac.op {s:Int} {p q:Per} (hp:Fac s p) (hq:Fac s q) {U:Int→Prop} (g:Prop→Prop→Prop) (hU:∀ n,U n↔g (p.mem n) (q.mem n)) (hlow:∀ n,U n→s≤n) (h0:∀ n,U n→0≤n):IsCanon (canonC U) U∧Fac s (canonC U)∧PFrom U (max p.frm q.frm) (lcmI p.period q.period)∧lcmI p.period q.period∣27720:=by
 have a1:=hp.wf.per
 have b1:=hq.wf.per
 have f1:=hp.wf.frm
 have hl:=lcmI_pos a1 b1
 have hdv:lcmI p.period q.period∣27720:=by
  rw [lcmI_eq a1 b1]
  have h1:p.period.natAbs∣27720:=Int.natAbs_dvd_natAbs.2 hp.dvd
  have h2:q.period.natAbs∣27720:=Int.natAbs_dvd_natAbs.2 hq.dvd
  exact Int.natCast_dvd_natCast.2 (Nat.lcm_dvd h1 h2)
 have hpf:PFrom U (max p.frm q.frm) (lcmI p.period q.period):=((hp.wf.pfrom.mono (show p.frm≤max p.frm q.frm by omega)).of_dvd a1 hl lcmI_dvd_left).op ((hq.wf.pfrom.mono (show q.frm≤max p.frm q.frm by omega)).of_dvd b1 hl lcmI_dvd_right) g (fun n _=>hU n) (by omega)
 have hc:=canonC_is (canon_of_pfrom (show 0≤max p.frm q.frm by omega) hl h0 hpf)
 exact ⟨hc,fac_canon hc hlow (by omega) (by have:=hp.frm;have:=hq.frm;omega) hl hdv hpf,hpf,hdv⟩
noncomputable def andP (p q:Per):Per:=canonC fun n=>p.mem n∧q.mem n
noncomputable def orP (p q:Per):Per:=canonC fun n=>p.mem n∨q.mem n
noncomputable def minusP (p q:Per):Per:=canonC fun n=>p.mem n∧¬ q.mem n
theorem Fac.and {s:Int} {p q:Per} (hp:Fac s p) (hq:Fac s q):IsCanon (andP p q) (fun n=>p.mem n∧q.mem n)∧Fac s (andP p q):=by
 have h:=hp.op hq And (fun n=>Iff.rfl) (fun n h=>hp.low n h.1) (fun n h=>h.1.1)
 exact ⟨h.1,h.2.1⟩
theorem Fac.or {s:Int} {p q:Per} (hp:Fac s p) (hq:Fac s q):IsCanon (orP p q) (fun n=>p.mem n∨q.mem n)∧Fac s (orP p q):=by
 have h:=hp.op hq Or (fun n=>Iff.rfl) (fun n h=>h.elim (hp.low n) (hq.low n)) (fun n h=>h.elim (fun h=>h.1) (fun h=>h.1))
 exact ⟨h.1,h.2.1⟩
theorem Fac.minus {s:Int} {p q:Per} (hp:Fac s p) (hq:Fac s q):IsCanon (minusP p q) (fun n=>p.mem n∧¬ q.mem n)∧Fac s (minusP p q):=by
 have h:=hp.op hq (fun a b=>a∧¬ b) (fun n=>Iff.rfl) (fun n h=>hp.low n h.1) (fun n h=>h.1.1)
 exact ⟨h.1,h.2.1⟩
structure FirstPair (P:Nat→Nat→Prop) (n i j:Nat):Prop where
 lt:i<j
 lim:j<n
 is:P i j
 rows:∀ i' j',i'<i→i'<j'→j'<n→¬ P i' j'
 row:∀ j',i<j'→j'<j→¬ P i j'
def NoPair (P:Nat→Nat→Prop) (n:Nat):Prop:=∀ i j,i<j→j<n→¬ P i j
theorem FirstPair.unique {P:Nat→Nat→Prop} {n i j i' j':Nat} (h:FirstPair P n i j) (g:FirstPair P n i' j'):i=i'∧j=j':=by
 have hi:i=i':=by
  rcases Nat.lt_trichotomy i i' with h1|h1|h1
  ·exact absurd h.is (g.rows i j h1 h.lt h.lim)
  ·exact h1
  ·exact absurd g.is (h.rows i' j' h1 g.lt g.lim)
 subst hi
 refine ⟨rfl,?_⟩
 rcases Nat.lt_trichotomy j j' with h1|h1|h1
 ·exact absurd h.is (g.row j h.lt h1)
 ·exact h1
 ·exact absurd g.is (h.row j' g.lt h1)
theorem FirstPair.no {P:Nat→Nat→Prop} {n i j:Nat} (h:FirstPair P n i j) (g:NoPair P n):False:=g i j h.lt h.lim h.is
def divB (p q:Per):Bool:=p.period % q.period == 0 || q.period % p.period == 0
def divAt (t:List Per) (i j:Nat):Prop:=divB (t.getD i default) (t.getD j default)=true
noncomputable def mergeAt (t:List Per) (i j:Nat):List Per:=(t.set i (andP (t.getD i default) (t.getD j default))).eraseIdx j
inductive MergeTo:List Per→List Per→Prop
 | done {t:List Per} (h:NoPair (divAt t) t.length):MergeTo t t
 | step {t u:List Per} {i j:Nat} (h:FirstPair (divAt t) t.length i j) (hu:MergeTo (mergeAt t i j) u):MergeTo t u
theorem MergeTo.unique {t u v:List Per} (h:MergeTo t u) (g:MergeTo t v):u=v:=by
 induction h generalizing v with
 | done h=>
  cases g with
  | done _=>rfl
  | step g _=>exact (g.no h).elim
 | step h _ ih=>
  cases g with
  | done g=>exact (h.no g).elim
  | step g gu=>
   obtain ⟨rfl,rfl⟩:=h.unique g
   exact ih gu
structure CFac (s:Int) (p:Per):Prop where
 fac:Fac s p
 can:IsCanon p p.mem
theorem CFac.canonC {s:Int} {p:Per} (h:CFac s p):Kal.canonC p.mem=p:=canonC_eq h.can
theorem Fac.ccanon {s:Int} {p:Per} (h:Fac s p):CFac s (Kal.canonC p.mem):=⟨h.canon.2,h.canon.1.congr fun n=>(h.canon.1.mem n).symm⟩
theorem Fac.cand {s:Int} {p q:Per} (hp:Fac s p) (hq:Fac s q):CFac s (andP p q):=⟨(hp.and hq).2,(hp.and hq).1.congr fun n=>((hp.and hq).1.mem n).symm⟩
theorem Fac.cor {s:Int} {p q:Per} (hp:Fac s p) (hq:Fac s q):CFac s (orP p q):=⟨(hp.or hq).2,(hp.or hq).1.congr fun n=>((hp.or hq).1.mem n).symm⟩
theorem mem_getD {α:Type} {l:List α} {i:Nat} {d:α} (h:i<l.length):l.getD i d∈l:=by
 rw [List.getD_eq_getElem?_getD,List.getElem?_eq_getElem h];exact List.getElem_mem h
theorem mem_erase_set {α:Type} {l:List α} {i j:Nat} {v x:α} (h:x∈(l.set i v).eraseIdx j):x=v∨x∈l:=by
 have h1:=List.mem_of_mem_eraseIdx h
 rcases List.mem_or_eq_of_mem_set h1 with h2|h2
 ·exact .inr h2
 ·exact .inl h2
theorem erase_split {α:Type} {l:List α} {i j:Nat} {d:α} (hij:i<j) (hj:j<l.length) (v:α) (x:α):x∈(l.set i v).eraseIdx j↔x=v∨∃ k,k<l.length∧k≠i∧k≠j∧x=l.getD k d:=by
 rw [List.mem_eraseIdx_iff_getElem]
 constructor
 ·rintro ⟨k,hk,hkj,rfl⟩
  rw [List.length_set] at hk
  by_cases e:k=i
  ·subst e;left;rw [List.getElem_set_self]
  ·right;exact ⟨k,hk,e,hkj,by rw [List.getElem_set_ne (fun h=>e h.symm),List.getD_eq_getElem?_getD,List.getElem?_eq_getElem hk];rfl⟩
 ·rintro (rfl|⟨k,hk,h1,h2,rfl⟩)
  ·exact ⟨i,by rw [List.length_set];omega,by omega,by rw [List.getElem_set_self]⟩
  ·exact ⟨k,by rw [List.length_set];exact hk,h2,by rw [List.getElem_set_ne (fun h=>h1 h.symm),List.getD_eq_getElem?_getD,List.getElem?_eq_getElem hk];rfl⟩
theorem mem_iff_getD {α:Type} {l:List α} {d x:α}:x∈l↔∃ k,k<l.length∧x=l.getD k d:=by
 rw [List.mem_iff_getElem]
 constructor
 ·rintro ⟨k,hk,rfl⟩;exact ⟨k,hk,by rw [List.getD_eq_getElem?_getD,List.getElem?_eq_getElem hk];rfl⟩
 ·rintro ⟨k,hk,rfl⟩;exact ⟨k,hk,by rw [List.getD_eq_getElem?_getD,List.getElem?_eq_getElem hk];rfl⟩
theorem mergeAt_length {t:List Per} {i j:Nat} (h:j<t.length):(mergeAt t i j).length=t.length-1:=by
 unfold mergeAt;rw [List.length_eraseIdx,List.length_set,if_pos h]
theorem mergeAt_mem {s:Int} {t:List Per} {i j:Nat} (hij:i<j) (hj:j<t.length) (hf:∀ p∈t,Fac s p) (n:Int):tmem (mergeAt t i j) n↔tmem t n:=by
 have fi:=hf _ (mem_getD (d:=default) (show i<t.length by omega))
 have fj:=hf _ (mem_getD (d:=default) hj)
 have hc:=(fi.and fj).1
 unfold tmem mergeAt
 constructor
 ·intro h p hp
  obtain ⟨k,hk,rfl⟩:=(mem_iff_getD (d:=default)).1 hp
  have h1:=(hc.mem n).1 (h _ ((erase_split (d:=default) hij hj _ _).2 (.inl rfl)))
  by_cases e1:k=i
  ·subst e1;exact h1.1
  ·by_cases e2:k=j
   ·subst e2;exact h1.2
   ·exact h _ ((erase_split (d:=default) hij hj _ _).2 (.inr ⟨k,hk,e1,e2,rfl⟩))
 ·intro h p hp
  rcases (erase_split (d:=default) hij hj _ _).1 hp with rfl|⟨k,hk,_,_,rfl⟩
  ·exact (hc.mem n).2 ⟨h _ (mem_getD (by omega)),h _ (mem_getD hj)⟩
  ·exact h _ (mem_getD hk)
theorem mergeAt_fac {s:Int} {t:List Per} {i j:Nat} (hij:i<j) (hj:j<t.length) (hf:∀ p∈t,CFac s p):∀ p∈mergeAt t i j,CFac s p:=fun p hp=>by
 rcases mem_erase_set hp with rfl|hp
 ·exact (hf _ (mem_getD (by omega))).fac.cand (hf _ (mem_getD hj)).fac
 ·exact hf p hp
theorem MergeTo.ok {s:Int} {t u:List Per} (h:MergeTo t u) (hf:∀ p∈t,CFac s p):(∀ p∈u,CFac s p)∧(∀ n,tmem u n↔tmem t n)∧u.length≤t.length∧(t≠[]→u≠[]):=by
 induction h with
 | done h=>exact ⟨hf,fun n=>Iff.rfl,Nat.le_refl _,id⟩
 | @step t u i j h _ ih=>
  have h1:=mergeAt_fac h.lt h.lim hf
  obtain ⟨a,b,c,d⟩:=ih h1
  have hl:=mergeAt_length (t:=t) (i:=i) h.lim
  refine ⟨a,fun n=>(b n).trans (mergeAt_mem h.lt h.lim (fun p hp=>(hf p hp).fac) n),by omega,fun _=>d fun e=>?_⟩
  rw [e] at hl
  have:=h.lt;have:=h.lim
  simp at hl;omega
end Kal
