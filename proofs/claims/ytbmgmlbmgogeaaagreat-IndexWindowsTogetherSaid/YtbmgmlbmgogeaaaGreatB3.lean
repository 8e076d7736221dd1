/- Part 3 of the proof of the laws. -/
import Derived.Test.YtbmgmlbmgogeaaaGreatB2
import Derived.Test.YtbmgmlbmgogeaaaGreatB1
import Derived.Maps.OwnIn
import Derived.OwnWalk
import Derived.Maps.OwnRows
import Derived.Maps.Views
set_option linter.unusedVariables false
set_option linter.unusedSimpArgs false
set_option maxRecDepth 100000
set_option maxHeartbeats 4000000
namespace Go.Proofs.YtbmgmlbmgogeaaaGreat
section
open Go.RowKit Kal
theorem fE {w:World} {n:Nat}:(w.drewN n).heap.size=w.heap.size:=rfl
structure IntsIn (w:World) (lo hi:Nat) (v:Value) (l:List Int):Prop where
 ints:Ints w v l
 blk:l≠[]->∀ k,v.ownBlock=some k->lo<=k/\k<hi
theorem IntsIn.mono {w:World} {lo hi lo' hi':Nat} {v:Value} {l:List Int} (h:IntsIn w lo hi v l) (h1:lo'<=lo) (h2:hi<=hi'):IntsIn w lo' hi' v l:=
 ⟨h.ints,λhl k hk=>by have:=h.blk hl k hk;omega⟩
theorem IntsIn.of_blocks {w w':World} {lo hi:Nat} {v:Value} {l:List Int} (h:IntsIn w lo hi v l) (hb:∀ k,lo<=k->k<hi->w'.heap[k]? = w.heap[k]?):IntsIn w' lo hi v l:=by
 obtain ⟨⟨⟨a,c,rfl,h1,h2,h3⟩,h4,h5⟩,h6⟩:=h;refine ⟨⟨⟨a,c,rfl,h1,h2,?_⟩,h4,h5⟩,h6⟩;rcases h3 with h3|⟨b,o,rfl,hc⟩
 .exact .inl h3
 by_cases hl:l=[]
 .exact .inl hl
 obtain ⟨g1,g2⟩:=h6 hl b rfl;exact .inr ⟨b,o,rfl,λi hi=>(World.cell?_of_block (hb b g1 g2)).trans (hc i hi)⟩
theorem IntsIn.set {w:World} {lo hi b i:Nat} {v:Value} {l:List Int} (h:IntsIn w lo hi v l) (u:Value) (hb:b<lo\/hi<=b):IntsIn (w.setCell ⟨b,i,none⟩ u) lo hi v l:=
 h.of_blocks λk h1 h2=>Below.heap_setCell w ⟨b,i,none⟩ u k aO
theorem IntsIn.drewN {w:World} {lo hi:Nat} {v:Value} {l:List Int} (h:IntsIn w lo hi v l) (n:Nat):IntsIn (w.drewN n) lo hi v l:=h.of_blocks λ_ _ _=>rfl
theorem IntsIn.below {w w':World} {lo hi B:Nat} {v:Value} {l:List Int} (h:IntsIn w lo hi v l) (hb:Below B w w') (hB:hi<=B):IntsIn w' lo hi v l:=h.of_blocks λk _ h2=>hb.block k aa
theorem IntsIn.alloc {w:World} {lo hi:Nat} {v:Value} {l:List Int} (h:IntsIn w lo hi v l) (o:Obj) (hw:hi<=w.heap.size):IntsIn (w.alloc o) lo hi v l:=
 h.of_blocks λk _ h2=>Below.heap_alloc w o k aa
theorem Ints.inn {w:World} {v:Value} {l:List Int} (h:Ints w v l):IntsIn w 0 w.heap.size v l:=by
 refine ⟨h,λhl k hk=>⟨Nat.zero_le _,?_⟩⟩;obtain ⟨⟨a,c,rfl,h1,h2,h3⟩,h4,h5⟩:=h;rcases h3 with h3|⟨b,o,rfl,hc⟩
 .exact absurd h3 hl
 obtain rfl:b=k:=by simpa [Value.ownBlock] using hk
 exact World.block_lt_of_cell? w _ (hc 0 (List.length_pos_iff.2 hl))
theorem ak.inn {w:World} {base:Nat} {v:Value} {l:List Int} (h:ak w base v l):IntsIn w base w.heap.size v l:=
 ⟨h.ints,λ_ k hk=>h.lt k hk⟩
structure cU (w:World) (lo hi:Nat) (h c:Value) (p:Per):Prop where
 hd:IntsIn w lo hi h p.head
 cy:IntsIn w lo hi c p.cycle
section
variable {w w':World} {lo hi B b i:Nat} {h c:Value} {p:Per}
theorem cU.is (hp:cU w lo hi h c p):bX w h c p:=⟨hp.hd.ints,hp.cy.ints⟩
theorem cU.mono {lo' hi':Nat} (hp:cU w lo hi h c p) (h1:lo'<=lo) (h2:hi<=hi'):cU w lo' hi' h c p:=⟨hp.hd.mono h1 h2,hp.cy.mono h1 h2⟩
theorem cU.of_blocks (hp:cU w lo hi h c p) (hb:∀ k,lo<=k->k<hi->w'.heap[k]? = w.heap[k]?):cU w' lo hi h c p:=⟨hp.hd.of_blocks hb,hp.cy.of_blocks hb⟩
theorem cU.set (hp:cU w lo hi h c p) (u:Value) (hb:b<lo\/hi<=b):cU (w.setCell ⟨b,i,none⟩ u) lo hi h c p:=⟨hp.hd.set u hb,hp.cy.set u hb⟩
theorem cU.drewN (hp:cU w lo hi h c p) (n:Nat):cU (w.drewN n) lo hi h c p:=⟨hp.hd.drewN n,hp.cy.drewN n⟩
theorem cU.below (hp:cU w lo hi h c p) (hb:Below B w w') (hB:hi<=B):cU w' lo hi h c p:=⟨hp.hd.below hb hB,hp.cy.below hb hB⟩
theorem bX.inn (hp:bX w h c p):cU w 0 w.heap.size h c p:=⟨hp.hd.inn,hp.cy.inn⟩
theorem jg.inn {base:Nat} (hp:jg w base h c p):cU w base w.heap.size h c p:=⟨hp.hd.inn,hp.cy.inn⟩
theorem cU.form (hp:cU w lo hi h c p):∃ a1 c1 a2 c2,h=.slice a1 p.head.length c1/\c=.slice a2 p.cycle.length c2:=by
 obtain ⟨⟨⟨⟨a1,c1,h1,_⟩,_,_⟩,_⟩,⟨⟨a2,c2,h2,_⟩,_,_⟩,_⟩:=hp;exact ⟨a1,c1,a2,c2,h1,h2⟩
end
theorem bF {w w':World} {a:Addr} {v:Value} (h:w.cell? a=some v) (hb:Below w.heap.size w w'):w'.cell? a=some v:=al.cell hb h
theorem Il {a:Option Addr} {c i:Nat} (l:List Int) (hi:i<=l.length) :
  ∃ a',(∀ W,(Instr.slice 35 (.slice a l.length c) (some (.int .i64 (i:Int))) none none).run Tryz.prog W=.ok (.slice a' (l.length-i) (c-i)) W)/\
   (∀ w,Ints w (.slice a l.length c) l->Ints w (.slice a' (l.length-i) (c-i)) (l.drop i))/\
   (i<l.length->l.length<=c->∀ b o,a=some ⟨b,o,none⟩->a'=some ⟨b,o+i,none⟩):=by
 refine ⟨if c=i then a else a.map (·.add (i*1)),λW=>?_,λw h=>?_,λh1 h2 b o hb=>?_⟩
 .rw [run_slice_l W 35 _ _ _ (by kernel_rfl) .i64 _ aa aa];have hz:(sizeOf (Tryz.prog.elem 35)).run Tryz.prog W=.ok 1 W:=by kernel_rfl
  rw [hz];simp only [Result.andThen,sliced]
  congr 2
 .obtain ⟨⟨a2,c2,he,h1,h2,h3⟩,h4,h5⟩:=h;injection he with e1 e2 e3
  subst e1;subst e3;refine ⟨⟨_,c-i,by rw [List.length_drop],by rw [List.length_drop];omega,aa,?_⟩,by rw [List.length_drop];omega,λx hx=>h5 x (List.mem_of_mem_drop hx)⟩;by_cases hl:l.drop i=[]
  .exact .inl hl
  have hlt:i<l.length:=by
   rcases Nat.lt_or_ge i l.length with h|h
   .exact h
   exact absurd (List.drop_of_length_le h) hl
  rcases h3 with rfl|⟨b,o,rfl,hc⟩
  .simp at hlt
  refine .inr ⟨b,o+i,by rw [if_neg aa];simp [Addr.add],λj hj=>?_⟩;rw [List.length_drop] at hj;rw [Nat.add_assoc,hc (i+j) aa];simp
 rw [if_neg aa,hb];simp [Addr.add]
structure j_ (w:World) (lo hi:Nat) (v:Value) (l:List Int):Prop where
 own:ak w lo v l
 lt:∀ k,v.ownBlock=some k->k<hi
theorem ak.oin {w:World} {base:Nat} {v:Value} {l:List Int} (h:ak w base v l):j_ w base w.heap.size v l:=⟨h,λk hk=>(h.lt k hk).2⟩
theorem j_.of_blocks {w w':World} {lo hi:Nat} {v:Value} {l:List Int} (h:j_ w lo hi v l) (hb:∀ k,lo<=k->k<hi->w'.heap[k]? = w.heap[k]?):j_ w' lo hi v l:=by
 obtain ⟨⟨⟨h1,h2⟩,h3,h4⟩,h5⟩:=h;refine ⟨⟨⟨h1,?_⟩,h3,h4⟩,h5⟩;rcases h2 with h2|⟨g,cap,cur,hv,hg,hh,hr⟩
 .exact .inl h2
 exact .inr ⟨g,cap,cur,hv,hg,(hb g hg (h5 g (by rw [hv];rfl))).trans hh,hr⟩
theorem j_.set {w:World} {lo hi b i:Nat} {v:Value} {l:List Int} (h:j_ w lo hi v l) (u:Value) (hb:b<lo\/hi<=b):j_ (w.setCell ⟨b,i,none⟩ u) lo hi v l:=
 h.of_blocks λk h1 h2=>Below.heap_setCell w ⟨b,i,none⟩ u k aO
theorem j_.below {w w':World} {lo hi B:Nat} {v:Value} {l:List Int} (h:j_ w lo hi v l) (hb:Below B w w') (hB:hi<=B):j_ w' lo hi v l:=h.of_blocks λk _ h2=>hb.block k aa
theorem j_.alloc {w:World} {lo hi:Nat} {v:Value} {l:List Int} (h:j_ w lo hi v l) (o:Obj) (hw:hi<=w.heap.size):j_ (w.alloc o) lo hi v l:=
 h.of_blocks λk _ h2=>Below.heap_alloc w o k aa
structure wG (w:World) (lo hi:Nat) (h c:Value) (p:Per):Prop where
 inn:cU w lo hi h c p
 le:hi<=w.heap.size
theorem wG.below {w w':World} {lo hi:Nat} {h c:Value} {p:Per} (hp:wG w lo hi h c p) (hb:Below w.heap.size w w'):wG w' lo hi h c p:=⟨hp.inn.below hb hp.le,Nat.le_trans hp.le hb.size⟩
theorem jg.at {w:World} {base:Nat} {h c:Value} {p:Per} (hp:jg w base h c p):wG w base w.heap.size h c p:=⟨hp.inn,Nat.le_refl _⟩
structure qT (w:World) (lo hi:Nat) (v:Value) (l:List Int):Prop where
 inn:j_ w lo hi v l
 le:hi<=w.heap.size
theorem qT.below {w w':World} {lo hi:Nat} {v:Value} {l:List Int} (hp:qT w lo hi v l) (hb:Below w.heap.size w w'):qT w' lo hi v l:=⟨hp.inn.below hb hp.le,Nat.le_trans hp.le hb.size⟩
theorem ak.at {w:World} {base:Nat} {v:Value} {l:List Int} (h:ak w base v l):qT w base w.heap.size v l:=⟨h.oin,Nat.le_refl _⟩
def af (w:World) (b:Nat) (c:Array Value) (t:TypeId):Prop:=w.heap[b]? = some (.cells c t (0,0))
theorem af.lt {w:World} {b:Nat} {c:Array Value} {t:TypeId} (h:af w b c t):b<w.heap.size:=(Array.getElem?_eq_some_iff.1 h).1
theorem af.below {w w':World} {b:Nat} {c:Array Value} {t:TypeId} (h:af w b c t) (hb:Below w.heap.size w w'):af w' b c t:=(hb.block b h.lt).trans h
theorem af.cells {w:World} {b:Nat} {c:Array Value} {t:TypeId} (h:af w b c t) (i:Nat):w.cell? ⟨b,i,none⟩=c[i]?/\w.frozen? ⟨b,i,none⟩=false:=ji h i
theorem af.alloc {w:World} {b:Nat} {c:Array Value} {t:TypeId} (h:af w b c t) (o:Obj):af (w.alloc o) b c t:=(Below.heap_alloc _ _ _ h.lt).trans h
theorem af.at {w:World} {b:Nat} {c:Array Value} {t:TypeId} (h:b=w.heap.size):af (w.alloc (.cells c t)) b c t:=by subst h;exact World.alloc_heap_new _ _
theorem xB {w:World} {b:Nat} {c:Array Value} {t:TypeId} (h:af w b c t:=by (repeat' (first|(refine af.at ?_;simp;done)|apply af.alloc))):af w b c t:=h
theorem af.new (w:World) (c:Array Value) (t:TypeId):af (w.alloc (.cells c t)) w.heap.size c t:=World.alloc_heap_new _ _
theorem VD (v1 v2:Value) (l1 l2:List Int) (w:World) (h1:Ints w v1 l1) (h2:Ints w v2 l2) :
  Calls Tryz.prog 191 #[v1,v2] w λe w'=>e=.returned (.bool (decide (l1=l2)))/\∃ n,w'=w.drewN n:=by
 obtain ⟨⟨a1,c1,rfl,g1,g2,g3⟩,g4,g5⟩:=h1;obtain ⟨⟨a2,c2,rfl,k1,k2,k3⟩,k4,k5⟩:=h2;by_cases hl:l1.length=l2.length
 .rcases g3 with rfl|⟨b1,o1,rfl,hc1⟩
  .refine (Tryz.slices_Equal_int_empty a1 a2 c1 l2.length c2 w aa).mono λe w' ⟨he,hw⟩=>⟨?_,0,hw⟩;rw [he];cases l2 with
   | nil=>simp
   | cons x l=>simp at hl
  rcases k3 with rfl|⟨b2,o2,rfl,hc2⟩
  .have:l1=[]:=List.eq_nil_of_length_eq_zero (by simpa using hl);subst this;exact (Tryz.slices_Equal_int_empty _ a2 c1 0 c2 w aa).mono λe w' ⟨he,hw⟩=>⟨by rw [he];simp,0,hw⟩
  refine (Tryz.slices_Equal_int b1 o1 l1.length c1 b2 o2 l2.length c2 l1 l2 w (Nat.le_refl _) (Nat.le_refl _) aa aa hc1 hc2).mono λe w' ⟨he,hw⟩=>⟨?_,hw⟩;rw [he,List.take_length,List.take_length]
  congr 2
  by_cases e:l1=l2 <;> simp [e]
 refine (Tryz.slices_Equal_int_lens a1 a2 l1.length c1 l2.length c2 w hl).mono λe w' ⟨he,hw⟩=>⟨?_,0,hw⟩;rw [he];have:l1≠l2:=λe=>hl (by rw [e]);simp [this]
def nR (p q:Per):Bool:=decide (p.frm=q.frm) && decide (p.period=q.period) && decide (p.head=q.head) && decide (p.cycle=q.cycle)
theorem VX (p q:Per):nR p q=true↔p=q:=by
 unfold nR;simp only [Bool.and_eq_true,decide_eq_true_eq];exact ⟨λ⟨⟨⟨h1,h2⟩,h3⟩,h4⟩=>Per.ext' h3 h1 h2 h4,λh=>by subst h;simp⟩
def bE (p:Per) (day:Int):Per:=⟨p.head.drop (p.head.countP λy=>decide (y<day)),max p.frm day,p.period,ar (aj p (max p.frm day))⟩
theorem PX {p:Per} (h:p.WF) {day:Int} (h0:0<=day):(bE p day).WF/\∀ n,(bE p day).mem n↔p.mem n/\day<=n:=
 xj_ h h0 (Jv (UZ h _)) λy=>Bx _ y
def Mx (c:Per) (w:World) (e:Ending) (w':World):Prop:=
 ∃ (h' c':Value),e=.returned (an h' c' c.frm c.period)/\jg w' w.heap.size h' c' c/\Below w.heap.size w w'/\∀ g,h'.ownBlock=some g->c'.ownBlock≠some g
structure LI (w:World) (ob:Nat) (p:Per) (hp cp:Value) (f:Int) (l4 h4:Nat) (hv:Value) (hl:List Int) (base:Nat) (cyv:Value) (l:List Int) (W:World):Prop where
 below:Below w.heap.size w W
 pb:af W w.heap.size #[hp,.int .i64 p.frm,.int .i64 p.period,cp] 80
 rb:af W (w.heap.size+1) #[.slice none 0 0,.int .i64 0,.int .i64 0,.slice none 0 0] 80
 obx:af W ob #[hv,.int .i64 f,.int .i64 p.period,cyv] 80
 own:ak W base cyv l
 hd:j_ W l4 h4 hv hl
 o1:w.heap.size+1<ob
 o2:ob<base
 o3:base<=W.heap.size
 o4:ob<l4\/h4<=ob
 o5:h4<=base
 o6:w.heap.size+1<l4
theorem af.setNe {W:World} {b k i:Nat} {c:Array Value} {t:TypeId} (h:af W b c t) (v:Value) (hne:b≠k):af (W.setCell ⟨k,i,none⟩ v) b c t:=(Below.heap_setCell W ⟨k,i,none⟩ v b hne).trans h
theorem af.upto {W W':World} {B b:Nat} {c:Array Value} {t:TypeId} (h:af W b c t) (hb:Below B W W') (hlt:b<B):af W' b c t:=(hb.block b hlt).trans h
theorem LI.step {w:World} {ob:Nat} {p:Per} {hp cp:Value} {f:Int} {l4 h4:Nat} {hv:Value} {hl:List Int} {base:Nat} {cyv:Value} {l:List Int} {W:World} (h:LI w ob p hp cp f l4 h4 hv hl base cyv l W)
  {W1:World} {v':Value} {l':List Int} (hb:Below base W W1) (ho:ak W1 base v' l'):LI w ob p hp cp f l4 h4 hv hl base v' l' (W1.setCell ⟨ob,3,none⟩ v'):=by
 have o1:=h.o1;have o2:=h.o2;have o3:=h.o3;have o4:=h.o4;have o5:=h.o5;have hz:=hb.size;exact ⟨(h.below.trans (hb.mono aa)).setCell (p:=⟨ob,3,none⟩) aO _,(h.pb.upto hb aa).setNe _ aa,(h.rb.upto hb aa).setNe _ aa,set4 (h.obx.upto hb aa),
  ho.above ((b7.refl base W1).setCell aO _),(h.hd.below hb aa).set _ o4,o1,o2,aO,o4,o5,h.o6⟩
theorem PY (h c:Value) (p:Per) (day:Int) (w:World) (hp:bX w h c p) (hw:p.WF) (h1:p.frm<=1125899906842624) (h2:p.period<=1125899906842624) (h0:0<=day) (hd:day<=1125899906842624) :
  Calls Tryz.prog 181 #[an h c p.frm p.period,.int .i64 day] w (Mx (bE p day) w):=by
 have f0:=hw.frm;have hs1:=hw.head.1;have hl:∀ W,Below w.heap.size w W->Ints W h p.head:=λW hb=>hp.hd.ext hb;have rz:∀ W,Below w.heap.size w W->Ints W c p.cycle:=λW hb=>hp.cy.ext hb;obtain ⟨⟨⟨ha,aQ,rfl,hlc,hcc,bY⟩,hlen,_⟩,⟨ca,aI,rfl,_,_,_⟩,ru,_⟩:=hp;have hk2:p.head.countP (λy=>decide (y<day))<=p.head.length:=List.countP_le_length;obtain ⟨i0,hi0⟩:∃ i0,i0=p.head.countP λy=>decide (y<day):=⟨_,rfl⟩;rw [<- hi0] at hk2;obtain ⟨a',hrun,hdr,_⟩:=Il (a:=ha) (c:=aQ) p.head hk2;have HI:=ad hi0;have HW:=ad hw;clear bY hi0 hw
 go_in
 go_wp2_with (go_at_call 216;(refine (sJ _ p.head day _ (hl _ xE) hs1).mono ?_);rintro e w' ⟨he,nq,rfl⟩;rw [<- HI.o] at he;subst he)
 generalize hW0:World.drewN _ nq=W0;have hE:Below w.heap.size w W0:=by rw [<- hW0];exact xE
 have bJ:af W0 w.heap.size #[.slice ha p.head.length aQ,.int .i64 p.frm,.int .i64 p.period,.slice ca p.cycle.length aI] 80:=by rw [<- hW0];exact (Below.heap_alloc _ _ _ ag).trans (World.alloc_heap_new _ _)
 have dY:af W0 (w.heap.size+1) #[.slice none 0 0,.int .i64 0,.int .i64 0,.slice none 0 0] 80:=by
  rw [<- hW0];have:=World.alloc_heap_new (w.alloc (.cells #[.slice ha p.head.length aQ,.int .i64 p.frm,.int .i64 p.period,.slice ca p.cycle.length aI] 80)) (.cells #[.slice none 0 0,.int .i64 0,.int .i64 0,.slice none 0 0] 80);rwa [World.size_alloc] at this
 clear hW0;have oS:W0.cell? ⟨w.heap.size,0,none⟩=some (.slice ha p.head.length aQ):=(bJ.cells 0).1;have sT:W0.cell? ⟨w.heap.size,1,none⟩=some (.int .i64 p.frm):=(bJ.cells 1).1;have qX:W0.cell? ⟨w.heap.size,2,none⟩=some (.int .i64 p.period):=(bJ.cells 2).1;have hz0:=dY.lt;refine oK (w0:=W0) [0,1,2,3,4,5,6,7,8,9,10,11,12] [13] (λv=>⟨#[an (.slice ha p.head.length aQ) (.slice ca p.cycle.length aI) p.frm p.period,.int .i64 day,.pointer (some ⟨w.heap.size,0,none⟩),undef,.pointer (some ⟨w.heap.size+1,0,none⟩),.int .i64 ↑i0,.bool (decide (day∈p.head)),v 12,undef,undef,.tuple #[.int .i64 ↑i0,.bool (decide (day∈p.head))],.pointer (some ⟨w.heap.size,0,none⟩),.slice ha p.head.length aQ,.int .i64 day,.tuple #[.int .i64 ↑i0,.bool (decide (day∈p.head))],.int .i64 ↑i0,.bool (decide (day∈p.head)),v 0,v 1,v 2,v 3,v 4,v 5,v 6,v 7,v 8,v 9,v 10,v 11,undef,undef,undef,undef,undef,undef,undef,undef,undef,undef,undef,undef,undef,undef,undef,undef,undef,undef,undef,undef,undef,undef,undef,undef,undef,undef,undef],[]⟩) [.pointer (some ⟨w.heap.size,0,none⟩),.slice ha p.head.length aQ,.int .i64 i0,.slice a' (p.head.length-i0) (aQ-i0),undef,.pointer (some ⟨w.heap.size,1,none⟩),.int .i64 p.frm,.int .i64 day,.int .i64 (max p.frm day),.pointer (some ⟨w.heap.size,2,none⟩),.int .i64 p.period,undef,undef] [4,11,12] (λi v lo hi W=>match i with|4=>(∃ a c,v 4=.slice a (p.head.drop i0).length c)/\qT W (lo 4) (hi 4) (v 4) (p.head.drop i0)|11=>v 11=.agg #[v 4,.int .i64 (max p.frm day),.int .i64 p.period,.slice none 0 0]|12=>v 12=.pointer (some ⟨lo 12,0,none⟩)/\lo 12<hi 12/\af W (lo 12) #[.slice none 0 0,.int .i64 0,.int .i64 0,.slice none 0 0] 80|_=>True) (λW=>Below w.heap.size w W/\W.cell? ⟨w.heap.size,0,none⟩=some (.slice ha p.head.length aQ)/\W.cell? ⟨w.heap.size,1,none⟩=some (.int .i64 p.frm)/\W.cell? ⟨w.heap.size,2,none⟩=some (.int .i64 p.period)) (λW hb=>⟨by exact xE,Below.cell' hb oS aa,Below.cell' hb sT aa,Below.cell' hb qX aa⟩) ?stab ?loc ?steps ?fin
 case stab=>
  refine ⟨?_,?_,?_,trivial⟩
  .intro v lo hi W W' h hb;exact ⟨h.1,h.2.below hb⟩
  .intro v lo hi W W' h hb;exact h
  intro v lo hi W W' h hb;exact ⟨h.1,h.2.1,h.2.2.below hb⟩
 case loc=>
  refine ⟨?_,?_,?_,trivial⟩
  .intro v v' lo lo' hi hi' W aC h;have q:=aC 4 (.inl rfl)
   (try dsimp only at h ⊢)
   simp only [q.1,q.2.1,q.2.2] at h;exact h
  .intro v v' lo lo' hi hi' W aC h;have q:=aC 11 (.inl rfl);have q4:=aC 4 (.inr (bI (by kernel_rfl)))
   (try dsimp only at h ⊢)
   simp only [q.1,q.2.1,q.2.2,q4.1,q4.2.1,q4.2.2] at h;exact h
  intro v v' lo lo' hi hi' W aC h;have q:=aC 12 (.inl rfl)
  (try dsimp only at h ⊢)
  simp only [q.1,q.2.1,q.2.2] at h;exact h
 case steps=>
  clear oS sT qX;refine .c [] [] rfl ?_ (.c [0] [] rfl ?_ (.c [] [] rfl ?_ (.c [1,2] [] rfl ?_ (.c [3] [] rfl ?_ (.c [] [] rfl ?_ (.c [5] [] rfl ?_ (.c [] [] rfl ?_ (.c [6,7] [] rfl ?_ (.c [] [] rfl ?_ (.c [9] [] rfl ?_ (.c [8,10] [4] rfl ?_ (.c [] [] rfl ?_ (.n)))))))))))));all_goals try exact pj
  .rintro v lo hi W hb ⟨pO,g0,g1,g2⟩ _;refine .inl ⟨rfl,λK hK=>?_⟩;simp only [ov,aD,Nat.reduceBEq,cond_true,cond_false];go_wp2_with (go_at_call 96;refine (Bw _ (p.head.drop i0) _ (hdr _ (hl _ xE))).mono ?_;rintro e w3 ⟨x,rfl,mg,hb3⟩);exact aU (hK x w3 hb3 ⟨mg.form,mg.at⟩) (by simp [ov,aD,upd])
  .rintro v lo hi W hb ⟨pO,g0,g1,g2⟩ ⟨⟨U8,U9,D4⟩,_⟩;refine .inl ⟨rfl,λK hK=>?_⟩;simp only [ov,aD,Nat.reduceBEq,cond_true,cond_false]
   (try dsimp only at D4)
   obtain ⟨⟨a9,c9,e4⟩,_⟩:=D4
   (try simp only [e4])
   go_wp2
   exact aU (hK (.agg #[v 4,.int .i64 (max p.frm day),.int .i64 p.period,.slice none 0 0]) W (Below.refl _ _) rfl) (by simp [ov,aD,upd,e4])
  rintro v lo hi W hb ⟨pO,g0,g1,g2⟩ _;refine .inl ⟨rfl,λK hK=>?_⟩;simp only [ov,aD,Nat.reduceBEq,cond_true,cond_false];go_wp2;exact hK (.pointer (some ⟨W.heap.size,0,none⟩)) _ (Ea (Er _) _) ⟨rfl,ag,af.new _ _ _⟩
 case fin=>
  rintro v lo hi W hb ⟨pO,_⟩ hf hap;show wpList _ _ _ [_] _ _;obtain ⟨l4a,m4,n4,⟨a9,c9,e4⟩,N1,_⟩:=hf 4 rfl;obtain ⟨sd,m12,n12,fL,iJ,jt⟩:=hf 12 rfl;have e11:v 11=.agg #[v 4,.int .i64 (max p.frm day),.int .i64 p.period,.slice none 0 0]:=(hf 11 rfl).2.2.2;have d:=hap 4 12 rfl rfl aa;have Aq:=bJ.below hb;have rR:=dY.below hb;clear hf hap oS sT qX bJ dY;rw [e4] at N1 e11;generalize lo 4=l4 at *;generalize hi 4=h4 at *;generalize lo 12=ob at *;generalize hi 12=nT at *;have q0:=jt.cells 0;have q1:=jt.cells 1;have q2:=jt.cells 2;have q3:=jt.cells 3;have q4:=Aq.cells 3;dsimp only;rw [e11,fL];generalize zT:max p.frm day=f at *;have HF:=ad zT.symm;have Tx:p.frm<=f:=aa;have hfd:f<=1125899906842624:=aa;clear zT;generalize v 0=v0,v 1=v1,v 2=v2,v 3=v3,v 4=v4,v 5=v5,v 6=v6,v 7=v7,v 8=v8,v 9=v9,v 10=v10;obtain ⟨hl,uZ⟩:∃ hl,hl=p.head.drop i0:=⟨_,rfl⟩;rw [<- uZ] at N1 ⊢;have pw:=ad uZ;clear uZ;have hst:=LI.mk (w:=w) (ob:=ob) (p:=p) (f:=f) (base:=W.heap.size) (cyv:=.slice none 0 0) (l:=[]) (W:=((((W.setCell ⟨ob,0,none⟩ (.slice a9 hl.length c9)).setCell ⟨ob,1,none⟩ (.int .i64 f)).setCell ⟨ob,2,none⟩ (.int .i64 p.period)).setCell ⟨ob,3,none⟩ (.slice none 0 0)))
   xE ((((Aq.setNe _ aa).setNe _ aa).setNe _ aa).setNe _ aa) ((((rR.setNe _ aa).setNe _ aa).setNe _ aa).setNe _ aa) (BI jt) (ak.nil _ _)
   ((((N1.set _ aa).set _ aa).set _ aa).set _ aa) aa aa ag aa aa aa
  have HST:=ad hst;clear hst Aq rR jt e11 fL e4;go_wp2_with fail;have vm:=(HW.o).per;go_loopw [32] (λi wr=>∃ (k:Nat) (cyv:Value),k<=p.cycle.length/\i=.int .i64 k/\LI w ob p (.slice ha p.head.length aQ) (.slice ca p.cycle.length aI) f l4 h4 (.slice a9 hl.length c9) hl W.heap.size cyv ((p.cycle.take k).map λc=>(p.frm+c-f) % p.period) wr) (λi _=>p.cycle.length-(intOf i).toNat)
  .exact ⟨0,_,aa,rfl,HST.o⟩
  obtain ⟨k,cyv,hk,rfl,jI⟩:=hrel;have s9:wr.cell? ⟨w.heap.size,1,none⟩=some (.int .i64 p.frm):=(jI.pb.cells 1).1;have F6:wr.cell? ⟨w.heap.size,2,none⟩=some (.int .i64 p.period):=(jI.pb.cells 2).1;have s_:wr.cell? ⟨ob,1,none⟩=some (.int .i64 f):=(jI.obx.cells 1).1;have Pf:wr.cell? ⟨ob,3,none⟩=some cyv:=(jI.obx.cells 3).1;have Jj:wr.frozen? ⟨ob,3,none⟩=false:=(jI.obx.cells 3).2;have o2:=jI.o2;have o3:=jI.o3;have hown:=jI.own;have yJ:=ad jI;have EF:=rz wr jI.below;clear jI;by_cases hlt:k<p.cycle.length
  .obtain ⟨⟨a8,c8,jM,_,_,dA⟩,_,_⟩:=EF;injection jM with cI eB dk
   subst cI;subst dk;rcases dA with dA|⟨b8,f8,rfl,hcell⟩
   .rw [dA] at hlt;simp at hlt
   have hcl:=hcell k hlt;clear hcell;have fM:(k:Int)<p.cycle.length:=aa;obtain ⟨y,hy⟩:∃ y,y=p.cycle.getD k 0:=⟨_,rfl⟩;have hr1:=(HW.o).cyc.2 (p.cycle.getD k 0) (kH hlt);rw [<- hy] at hcl hr1;have HY:=ad hy;clear hy;have hw1:IntKind.i64.wrap (p.frm+y)=p.frm+y:=AO ⟨aa,aa⟩;have hw2:IntKind.i64.wrap (p.frm+y-f)=p.frm+y-f:=AO ⟨aa,aa⟩;have hm1:=Int.emod_nonneg (p.frm+y-f) (show p.period≠0 by omega);have ic:=Int.emod_lt_of_pos (p.frm+y-f) (show 0<p.period by omega);obtain ⟨z,hz⟩:∃ z,z=(p.frm+y-f) % p.period:=⟨_,rfl⟩;rw [<- hz] at hm1 ic;have HZ:=ad hz;clear hz;go_wp2_with fail;refine oK (w0:=wr) [0,1,2,3,4,5,6,7,8,9,10,11,12] [13,14,15] (λv=>⟨#[an (.slice ha p.head.length aQ) (.slice (some ⟨b8,f8,none⟩) p.cycle.length aI) p.frm p.period,.int .i64 day,.pointer (some ⟨w.heap.size,0,none⟩),undef,.pointer (some ⟨w.heap.size+1,0,none⟩),.int .i64 ↑i0,.bool (decide (day∈p.head)),.pointer (some ⟨ob,0,none⟩),undef,.int .i64 y,.tuple #[.int .i64 ↑i0,.bool (decide (day∈p.head))],.pointer (some ⟨w.heap.size,0,none⟩),.slice ha p.head.length aQ,.int .i64 day,.tuple #[.int .i64 ↑i0,.bool (decide (day∈p.head))],.int .i64 ↑i0,.bool (decide (day∈p.head)),v0,v1,v2,v3,v4,v5,v6,v7,v8,v9,v10,.agg #[.slice a9 hl.length c9,.int .i64 f,.int .i64 p.period,.slice none 0 0],.pointer (some ⟨w.heap.size,3,none⟩),.slice (some ⟨b8,f8,none⟩) p.cycle.length aI,.int .i64 ↑p.cycle.length,.int .i64 ↑k,.bool true,.pointer (some ⟨b8,f8+k,none⟩),.int .i64 y,v 0,v 1,v 2,v 3,v 4,v 5,v 6,v 7,v 8,v 9,v 10,v 11,v 12,u49,u50,u51,undef,undef,undef,undef],[]⟩) [.pointer (some ⟨ob,3,none⟩),cyv,.pointer (some ⟨w.heap.size,1,none⟩),.int .i64 p.frm,.int .i64 y,.int .i64 (p.frm+y),.pointer (some ⟨ob,1,none⟩),.int .i64 f,.int .i64 (p.frm+y-f),.pointer (some ⟨w.heap.size,2,none⟩),.int .i64 p.period,.int .i64 z,undef] [12] (λi v lo hi W=>match i with|12=>v 12=.slice (some ⟨lo 12,0,none⟩) 1 1/\lo 12<hi 12/\af W (lo 12) #[.int .i64 z] 3|_=>True) (λW=>W.cell? ⟨w.heap.size,1,none⟩=some (.int .i64 p.frm)/\W.cell? ⟨w.heap.size,2,none⟩=some (.int .i64 p.period)/\W.cell? ⟨ob,1,none⟩=some (.int .i64 f)/\W.cell? ⟨ob,3,none⟩=some cyv) (λW9 hb=>⟨bF s9 hb,bF F6 hb,bF s_ hb,bF Pf hb⟩) ?stab ?loc ?steps ?fin (λj=>match j with|0=>u36|1=>u37|2=>u38|3=>u39|4=>u40|5=>u41|6=>u42|7=>u43|8=>u44|9=>u45|10=>u46|11=>u47|12=>u48|_=>undef)
   case stab=>
    refine ⟨?_,trivial⟩;intro v lo hi W W' h hb;exact ⟨h.1,h.2.1,h.2.2.below hb⟩
   case loc=>
    refine ⟨?_,trivial⟩;intro v v' lo lo' hi hi' W aC h;have q:=aC 12 (.inl rfl)
    (try dsimp only at h ⊢)
    simp only [q.1,q.2.1,q.2.2] at h;exact h
   case steps=>
    refine .c [] [] rfl ?_ (.c [0] [] rfl ?_ (.c [] [] rfl ?_ (.c [2] [] rfl ?_ (.c [] [] rfl ?_ (.c [3,4] [] rfl ?_ (.c [] [] rfl ?_ (.c [6] [] rfl ?_ (.c [5,7] [] rfl ?_ (.c [] [] rfl ?_ (.c [9] [] rfl ?_ (.c [8,10] [] rfl ?_ (.c [11] [] rfl ?_ (.n)))))))))))));all_goals try exact pj
    .rintro v lo hi W hb ⟨g0,g1,g2,g3⟩ _;refine .inl ⟨rfl,λK hK=>?_⟩;simp only [ov,aD,Nat.reduceBEq,cond_true,cond_false];go_wp2_with (go_at_call 217;refine (qh_ _ _ _ aa aa).mono ?_;rintro e w' ⟨he,rfl⟩;rw [<- HZ.o] at he;subst he);exact aU (hK _ (Below.refl _ _)) (by simp [ov,aD,upd])
    rintro v lo hi W hb ⟨g0,g1,g2,g3⟩ _;refine .inl ⟨rfl,λK hK=>?_⟩;simp only [ov,aD,Nat.reduceBEq,cond_true,cond_false];go_wp2;exact aU (hK (.slice (some ⟨W.heap.size,0,none⟩) 1 1) _ (Ea (Er _) _) ⟨rfl,ag,af.new _ _ _⟩) (by simp [ov,aD,upd])
   case fin=>
    rintro v lo hi W1 hb ⟨g0,g1,g2,g3⟩ hf hap;show wpList _ _ _ [_,_,_] _ _;have e1:v 1=cyv:=(hf 1 rfl).2.2.2;obtain ⟨sd,m12,n12,fL,iJ,jt⟩:=hf 12 rfl;have hqf1:=(Below.frozen hb (p:=⟨ob,3,none⟩) aO).trans Jj;have hown1:=hown.ext hb;have hz1:=hb.size;have hnew:W1.cell? ⟨lo 12,0,none⟩=some (.int .i64 z):=(jt.cells 0).1;clear hf hap g0 g1 g2;dsimp only;rw [e1,fL];generalize lo 12=bn at *;refine pA az _ _ az W.heap.size cyv _ z az hown1 _ _ az hnew ⟨aa,aa⟩ aO aa ?_;intro g cap W2 hown2 hgrow bQ;have gA:Below W.heap.size wr W2:=(hb.mono o3).trans bQ;have Ph:W2.frozen? ⟨ob,3,none⟩=false:=(Below.frozen gA (p:=⟨ob,3,none⟩) o2).trans Jj;have Pg:W2.cell? ⟨ob,3,none⟩=some cyv:=Below.cell' gA Pf o2;go_wp2;go_roundw
    .have hlen:((p.cycle.take k).map λc=>(p.frm+c-f) % p.period).length=k:=by simp;omega
     have oj:((p.cycle.take (k+1)).map λc=>(p.frm+c-f) % p.period)=((p.cycle.take k).map λc=>(p.frm+c-f) % p.period) ++ [z]:=by
      rw [List.take_succ_eq_append_getElem hlt,List.map_append,HZ.o,HY.o,List.getD_eq_getElem?_getD,List.getElem?_eq_getElem hlt];rfl
     rw [hlen] at hown2;refine ⟨k+1,.slice (some ⟨g,0,none⟩) (k+1) cap,aa,by go_num,?_⟩;rw [oj];exact yJ.o.step gA hown2
    simp [intOf];omega
  obtain rfl:k=p.cycle.length:=aa;obtain ⟨cl,hcl⟩:∃ cl,cl=((p.cycle.take p.cycle.length).map λc=>(p.frm+c-f) % p.period):=⟨_,rfl⟩;have zF:=yJ.o;rw [<- hcl] at hown zF;have kX:=ad zF;have dw:=ad hcl;clear zF hcl yJ;go_wp2_with fail
  go_at_call 69
  refine (JD _ _ W.heap.size _ hown).mono ?_;rintro e W2 ⟨rfl,hown2,hgrow⟩;have bQ:=hown.below_grown (W0:=wr) (.inr trivial) o3 hgrow;obtain ⟨ya,yc,rfl⟩:=hown.form;have o1:=kX.o.o1;have o4:=kX.o.o4;have o5:=kX.o.o5;have o6:=kX.o.o6;have eN:=kX.o.obx.upto bQ o2;have eu:=kX.o.rb.upto bQ aa;have hk0:W2.cell? ⟨ob,0,none⟩=some (.slice a9 hl.length c9):=(eN.cells 0).1;have Ac:W2.cell? ⟨ob,1,none⟩=some (.int .i64 f):=(eN.cells 1).1;have hk2:W2.cell? ⟨ob,2,none⟩=some (.int .i64 p.period):=(eN.cells 2).1;have hk3:W2.cell? ⟨ob,3,none⟩=some (.slice ya cl.length yc):=(eN.cells 3).1;have hj0:=eu.cells 0;have OS:=eu.cells 1;have FH:=eu.cells 2;have hj3:=eu.cells 3;have hdd:=kX.o.hd.below bQ o5;have nG:=ad eu;have hz2:=bQ.size;have wP:Below w.heap.size w W2:=kX.o.below.trans (bQ.mono aa);have Cv:Hid (∀ g,(Value.slice a9 hl.length c9).ownBlock=some g->(Value.slice ya cl.length yc).ownBlock≠some g):=ad (λg h1 h2=>by have:=hdd.lt g h1;have:=(hown2.lt g h2).1;omega);have xW:=ad (hown2.mono (base':=w.heap.size+1+1) aa).oin;clear eN eu hown2 hgrow bQ hown;go_wp2;refine bodyPost_ret (v:=an (.slice a9 hl.length c9) (.slice ya cl.length yc) f p.period) (by simp [results,Tryz.results181,go_sem, *]) rfl ⟨.slice a9 hl.length c9,.slice ya cl.length yc,?_,⟨?_,?_⟩,by exact xE,Cv.o⟩
  .simp only [bE,HF.o]
  .have h1:j_ _ _ _ (.slice a9 hl.length c9) hl:=(((hdd.set (b:=w.heap.size+1) (i:=0) (.slice a9 hl.length c9) aa).set (b:=w.heap.size+1) (i:=1) (.int .i64 f) aa).set (b:=w.heap.size+1) (i:=2) (.int .i64 p.period) aa).set (b:=w.heap.size+1) (i:=3) (.slice ya cl.length yc) aa;have h2:=h1.own.mono (base':=w.heap.size) aa;show ak _ _ _ (bE p day).head;rw [show (bE p day).head=hl from by rw [pw.o,HI.o];rfl];exact h2
  have h1:j_ _ _ _ (.slice ya cl.length yc) (ar cl):=(((xW.o.set (b:=w.heap.size+1) (i:=0) (.slice a9 hl.length c9) aa).set (b:=w.heap.size+1) (i:=1) (.int .i64 f) aa).set (b:=w.heap.size+1) (i:=2) (.int .i64 p.period) aa).set (b:=w.heap.size+1) (i:=3) (.slice ya cl.length yc) aa;have h2:=h1.own.mono (base':=w.heap.size) aa;show ak _ _ _ (bE p day).cycle;rw [show (bE p day).cycle=ar cl from by rw [dw.o,List.take_length,HF.o];rfl];exact h2
end
section
open Go.RowKit Go.Shelf Kal
attribute [local go_sem] Oper.semAt_some
theorem Wm (h c:Value) (p:Per) (lo:Int) (w:World) (hp:∃ a1 n1 c1 a2 n2 c2,h=.slice a1 n1 c1/\c=.slice a2 n2 c2) :
  Calls Tryz.prog 250 #[an h c p.frm p.period,.int .i64 lo] w λe w'=>e=.returned (.func (.func 259) #[] #[.pointer (some ⟨w.heap.size,0,none⟩),.pointer (some ⟨w.heap.size+1,0,none⟩)])/\
   (w.alloc (.cells #[h,.int .i64 p.frm,.int .i64 p.period,c] 80)).alloc (.cells #[.int .i64 lo] 3)=w':=by
 obtain ⟨a1,n1,c1,a2,n2,c2,rfl,rfl⟩:=hp
 go_in
 go_wp2;go_ret;exact ⟨rfl,rfl⟩
theorem Ints.kp {pb:Nat->Prop} {A B:World} {v:Value} {l:List Int} (h:Ints A v l) (hk:cX pb A B) (hp:l≠[]->∀ b o n c,v=.slice (some ⟨b,o,none⟩) n c->pb b):Ints B v l:=by
 obtain ⟨⟨a,c,rfl,h1,h2,h3⟩,h4,h5⟩:=h;refine ⟨⟨a,c,rfl,h1,h2,?_⟩,h4,h5⟩;by_cases hl:l=[]
 .exact .inl hl
 refine h3.imp id ?_;rintro ⟨b,o,rfl,hc⟩;exact ⟨b,o,rfl,λi hi=>hk.cell (hp hl b o _ _ rfl) (hc i hi)⟩
theorem Wn (h c:Value) (p:Per) (lo:Int) (pbx lbx:Nat) (w:World) (pb:Nat->Prop) (hp:bX w h c p) (hw:p.WF) (h1:p.frm<=1125899906842624) (h2:p.period<=1125899906842624) (h0:0<=lo) (h3:lo<=1125899906842624)
  (bJ:af w pbx #[h,.int .i64 p.frm,.int .i64 p.period,c] 80) (fQ:af w lbx #[.int .i64 lo] 3) (g1:pb pbx) (g2:pb lbx)
  (g3:p.head≠[]->∀ b o n c',h=.slice (some ⟨b,o,none⟩) n c'->pb b) (g4:p.cycle≠[]->∀ b o n c',c=.slice (some ⟨b,o,none⟩) n c'->pb b/\b≠lbx) (g5:pbx≠lbx) :
  yR Tryz.prog 259 #[.pointer (some ⟨pbx,0,none⟩),.pointer (some ⟨lbx,0,none⟩)] (λy:Int=>#[.int .i64 y]) (cX pb) (some lbx) (xN p.mem lo) (Ct p.mem lo) Yp w:=by
 intro l' J Jx W hW hJ zA hN hY qY;have hs1:=hw.head.1;have hs2:=hw.cyc.1;have f0:=hw.frm;have p0:=hw.per;have vo:=hp.ext hW;have wP:af W pbx _ _:=bJ.below hW;have TF:af W lbx _ _:=fQ.below hW;clear hp bJ fQ hW;obtain ⟨⟨⟨ha,aQ,rfl,hlc,hcc,bY⟩,hlen,_⟩,⟨ca,aI,rfl,Ot,_,ib⟩,ru,_⟩:=id vo;clear bY ib;have hk2:p.head.countP (λy=>decide (y<lo))<=p.head.length:=List.countP_le_length;have NR:=jU.start hw h0;obtain ⟨i0,hi0⟩:∃ i0,i0=p.head.countP λy=>decide (y<lo):=⟨_,rfl⟩;rw [<- hi0] at hk2 NR;obtain ⟨a',hrun,hdr,_⟩:=Il (a:=ha) (c:=aQ) p.head hk2;have HI:=ad hi0;have A7:=ad NR;have HW:=ad hw;have sB:=ad vo;clear hi0 NR hw;have SM:∀ (X:World) n,X.grownBy (X.drewN n) none:=λX n=>⟨rfl,rfl,rfl,Nat.le_refl _,λ_ _ _=>rfl⟩;have S1:∀ (pre:List Int) (X:World) n,J pre X->J pre (X.drewN n):=λpre X n h=>hJ pre X _ none h (SM X n) (λr e=>by cases e);have tE:=ad S1;have HJ:=ad hJ;have HY:=ad hY;have HN:=ad hN;clear S1 SM hY hN hJ;refine callsIn_of_wp Tryz.func259 rfl trivial ?_ rfl;simp only [Tryz.ntmps259,List.size_toArray,List.length_cons,List.length_nil,Nat.reduceAdd,Nat.reduceSub,Array.replicate_succ,Array.replicate_zero,List.push_toArray,List.append_toArray,List.nil_append,List.cons_append];have hb0:=(wP.cells 0).1;have hl0:=(TF.cells 0).1;gi_wp2_with (refine ⟨trivial,rfl,?_⟩;gi_at_call 216;refine (callsIn_wide.2 (sJ _ p.head lo _ (vo.hd.ext xE) hs1)).mono ?_;rintro e w' ⟨he,nq,rfl⟩;rw [<- HI.o] at he;subst he);clear hrun;gi_loopw [23] (λi wr=>∃ (k:Nat) (u:Int) (pre:List Int),k<=p.head.length-i0/\i=.int .i64 k/\jU p lo (i0+k) u pre/\J pre wr/\cX pb W wr) (λi _=>(p.head.length-i0)-(intOf i).toNat)
 .exact ⟨0,lo,[],aa,rfl,A7.o,tE.o _ _ _ qY,λ_ _=>rfl⟩
 obtain ⟨k,u,pre,hk,rfl,hA,dC,hK⟩:=hrel;have HA:=ad hA;have HK:=ad hK;have jd:=ad dC;have EI:Ints wr (.slice a' (p.head.length-i0) (aQ-i0)) (p.head.drop i0):=hdr wr (vo.hd.kp hK g3);clear hA hK dC;by_cases hlt:k<p.head.length-i0
 .obtain ⟨⟨a9,c9,zR,_,_,mW⟩,_,_⟩:=EI;injection zR with cI eB dk
  subst cI;rcases mW with mW|⟨b9,o9,rfl,hcell⟩
  .have:(p.head.drop i0).length=0:=by rw [mW];rfl
   rw [List.length_drop] at this;omega
  have hcl:=hcell k (by rw [List.length_drop];exact hlt);have hg:(p.head.drop i0).getD k 0=p.head.getD (i0+k) 0:=by
   simp [List.getD_eq_getElem?_getD]
  rw [hg] at hcl;have iE:=HA.o.next HW.o h0 (show i0+k<p.head.length by omega);have jK:=jl HW.o.head (show i0+k<p.head.length by omega);obtain ⟨y,hy⟩:∃ y,y=p.head.getD (i0+k) 0:=⟨_,rfl⟩;rw [<- hy] at hcl iE jK;have dZ:=ad iE;have zz:xN p.mem lo (pre ++ [y]):=⟨_,iE.1⟩;obtain ⟨fn,tmps,assign,body,iF,hR⟩:=HY.o pre y wr jd.o zz;have CR:=ad zz;have FR:(k:Int)<((p.head.length-i0:Nat):Int):=aa;clear hcell hg iE zz hy eB dk
  gi_wp2
  refine ⟨rfl,hR.mono ?_⟩;rintro e W' (⟨rfl,gz,eC⟩|⟨rfl,fh⟩)
  .gi_wp2
   go_roundw
   .exact ⟨k+1,y+1,pre ++ [y],aa,by go_num,dZ.o.2,gz,HK.o.trans eC⟩
   simp [intOf];omega
  gi_wp2
  refine bodyPost_ret (results_none rfl _ _ _) rfl ?_;exact ⟨⟨_,rfl⟩,.inr ⟨_,CR.o,fh⟩⟩
 have hd:=HA.o.done h0 (show p.head.length<=i0+k by omega);have HD:=ad hd;have cq:af wr pbx _ _:=(HK.o pbx g1).trans wP;have sX:af wr lbx _ _:=(HK.o lbx g2).trans TF;have Oi:=(cq.cells 3).1;clear hd EI;have OK:¬ (k:Int)<((p.head.length-i0:Nat):Int):=aa;by_cases uT:p.cycle=[]
 .have Oq:((p.cycle.length:Int) == 0)=true:=by rw [uT];rfl
  have xW:=ad uT;clear uT
  gi_wp2
  refine bodyPost_ret (results_none rfl _ _ _) rfl ?_;exact ⟨⟨_,rfl⟩,.inl ⟨pre,x0_ xW.o HD.o h0,jd.o⟩⟩
 have lr:1<=p.cycle.length:=by
  rcases Nat.eq_zero_or_pos p.cycle.length with h|h
  .exact absurd (List.eq_nil_of_length_eq_zero h) uT
  exact h
 have Oq:((p.cycle.length:Int) == 0)=false:=by rw [beq_eq_false_iff_ne];omega
 have Oj:=(cq.cells 1).1;have oV:=(cq.cells 2).1;have O3:=(sX.cells 0).1;have O5:=(sX.cells 0).2;obtain ⟨t,ht⟩:∃ t,t=max lo p.frm:=⟨_,rfl⟩;have oi:p.frm<=t:=aa;have xq:t<=1125899906842624:=aa;have rW:lo<=t:=aa;have HT:=ad ht;clear uT ht;have S0:Ints wr (.slice ca p.cycle.length aI) p.cycle:=vo.cy.kp HK.o (λhl b o n c' he=>(g4 hl b o n c' he).1);gi_wp2_with fail;rw [<- HT.o];have hJ2:J pre (wr.setCell ⟨lbx,0,none⟩ (.int .i64 t)):=HJ.o pre wr _ (some lbx) jd.o (grownBy_setCell' wr lbx _) (λr e=>by cases e;exact ⟨rfl,_,sX,rfl⟩);have hb2:af (wr.setCell ⟨lbx,0,none⟩ (.int .i64 t)) pbx _ _:=cq.setNe _ g5;have hl2:af (wr.setCell ⟨lbx,0,none⟩ (.int .i64 t)) lbx #[.int .i64 t] 3:=br 0 _ sX;have zZ:Ints (wr.setCell ⟨lbx,0,none⟩ (.int .i64 t)) (.slice ca p.cycle.length aI) p.cycle:=by
  obtain ⟨⟨a2,c2,he,h5,h6,h7⟩,h8,h9⟩:=S0;refine ⟨⟨a2,c2,he,h5,h6,h7.imp id ?_⟩,h8,h9⟩;rintro ⟨b,o,rfl,hc⟩;exact ⟨b,o,rfl,λi hi=>Bq (hc i hi) (g4 (λe=>by rw [e] at hi;simp at hi) b o _ _ he).2 _⟩
 generalize wr.setCell ⟨lbx,0,none⟩ (.int .i64 t)=W2 at *;clear cq sX Oi Oj oV O3 O5 S0;have x1:=(hb2.cells 1).1;have x2:=(hb2.cells 2).1;have x3:=(hb2.cells 3).1;have x4:=(hl2.cells 0).1;have xo:0<=t-p.frm:=aa;have hm0:=Int.emod_nonneg (t-p.frm) (show p.period≠0 by omega);have hm1:=Int.emod_lt_of_pos (t-p.frm) (show 0<p.period by omega);have ic:(t-p.frm) % p.period<=t-p.frm:=by
  have e1:=Int.emod_add_mul_ediv (t-p.frm) p.period;have e2:=Int.mul_nonneg (show 0<=p.period by omega) (Int.ediv_nonneg xo (show 0<=p.period by omega));omega
 have sU:=ig.start HW.o (lo:=lo) (t:=t) (pre:=pre) (by rw [HT.o];exact HD.o) rW rfl oi;refine wpIn_wide.2 ?_;go_quiet (fail);have hp3:0<=t-(t-p.frm) % p.period:=aa;obtain ⟨iy,hb0⟩:∃ b,b=t-(t-p.frm) % p.period:=⟨_,rfl⟩;rw [<- hb0] at sU ⊢;have uR:0<=t-iy/\iy<=t:=aa;have hk3:p.cycle.countP (λy=>decide (y<t-iy))<=p.cycle.length:=List.countP_le_length;obtain ⟨j0,hj0⟩:∃ j,j=p.cycle.countP (λy=>decide (y<t-iy)):=⟨_,rfl⟩;rw [<- hj0] at sU hk3;have YS:=ad hj0;have HST:=ad sU;have dD:iy<=1125899906842624:=aa;have Fk:0<=iy:=aa;clear hb0 hj0 sU hp3
 apply_assumption
 gi_wp2_with (refine ⟨trivial,rfl,?_⟩;gi_at_call 216;refine (callsIn_wide.2 (sJ _ p.cycle _ _ (zZ.ext xE) hs2)).mono ?_;rintro e w' ⟨he,QR,rfl⟩;rw [<- YS.o] at he;subst he)
 have hJ3:J pre (W2.drewN (nq+QR)):=tE.o _ _ _ hJ2;gi_loopw [4,8] (λvi vb wr=>∃ (j:Nat) (base u:Int) (pre:List Int),vi=.int .i64 j/\vb=.int .i64 base/\j<=p.cycle.length/\0<=base/\base<=5629499534213120/\(0<j->base<=1125899906842624)/\ig p lo base j u pre/\J pre wr/\cX pb W2 wr) (λ_ vb _=>(9007199254740992-intOf vb).toNat)
 .exact ⟨j0,iy,t,pre,rfl,rfl,hk3,Fk,aa,λ_=>dD,HST.o,hJ3,λ_ _=>rfl⟩
 obtain ⟨j,base,u',pre',rfl,rfl,hj,hbs0,hbs1,Fm,hC,Z5,NU⟩:=hrel;obtain ⟨a2,rU,Oz,_⟩:=Il (a:=ca) (c:=aI) p.cycle hj;have y3:=NU.cell (a:=⟨pbx,3,none⟩) g1 x3;have HC:=ad hC;have YX:=ad NU;clear hC NU;gi_wp2_with fail;clear rU;have dX:=HC.o.hi;have OJ:=HC.o.ge;have tS:Hid (j<p.cycle.length->lo<=base+p.cycle.getD j 0):=ad (λhlt=>by have:=dX j (Nat.le_refl _) hlt;omega);have Y2:Hid (j<p.cycle.length->p.mem (base+p.cycle.getD j 0)):=ad (λhlt=>by
  have jK:=jl HW.o.cyc hlt;have hfb:=HC.o.fb;rw [JA HW.o HC.o.fb HC.o.dv aa aa,show base+p.cycle.getD j 0-base=p.cycle.getD j 0 from by omega];exact kH hlt)
 clear dX OJ;obtain ⟨wo,rfl⟩:∃ wo:World,wo=wr:=⟨_,rfl⟩;gi_loopw [63] (λi wr=>∃ (k:Nat) (u:Int) (pre:List Int),k<=p.cycle.length-j/\i=.int .i64 k/\ig p lo base (j+k) u pre/\J pre wr/\cX pb W2 wr) (λi _=>(p.cycle.length-j)-(intOf i).toNat)
 .exact ⟨0,u',pre',aa,rfl,HC.o,Z5,YX.o⟩
 obtain ⟨k,u,pre,hk,rfl,hA,dC,hK⟩:=hrel;have HA:=ad hA;have HK:=ad hK;have jd:=ad dC;have EI:Ints wr (.slice a2 (p.cycle.length-j) (aI-j)) (p.cycle.drop j):=Oz wr (zZ.kp hK (λhl b o n c' he=>(g4 hl b o n c' he).1));have y2:=hK.cell (a:=⟨pbx,2,none⟩) g1 x2;clear hA hK dC;by_cases hlt:k<p.cycle.length-j
 .obtain ⟨⟨a9,c9,zR,_,_,mW⟩,_,_⟩:=EI;injection zR with cI eB dk
  subst cI;rcases mW with mW|⟨b9,o9,rfl,hcell⟩
  .have:(p.cycle.drop j).length=0:=by rw [mW];rfl
   rw [List.length_drop] at this;omega
  have hcl:=hcell k (by rw [List.length_drop];exact hlt);have hg:(p.cycle.drop j).getD k 0=p.cycle.getD (j+k) 0:=by
   simp [List.getD_eq_getElem?_getD]
  rw [hg] at hcl;have iE:=HA.o.next HW.o h0 (show j+k<p.cycle.length by omega);have jK:=jl HW.o.cyc (show j+k<p.cycle.length by omega);obtain ⟨y,hy⟩:∃ y,y=p.cycle.getD (j+k) 0:=⟨_,rfl⟩;rw [<- hy] at hcl iE jK;have dZ:=ad iE;have zz:xN p.mem lo (pre ++ [base+y]):=⟨_,iE.1⟩;obtain ⟨fn,tmps,assign,body,iF,hR⟩:=HY.o pre (base+y) wr jd.o zz;have CR:=ad zz;have FR:(k:Int)<((p.cycle.length-j:Nat):Int):=aa;clear hcell hg iE zz hy eB dk
  gi_wp2
  refine ⟨rfl,hR.mono ?_⟩;rintro e W' (⟨rfl,gz,eC⟩|⟨rfl,fh⟩)
  .gi_wp2
   go_roundw
   .exact ⟨k+1,base+y+1,pre ++ [base+y],aa,by go_num,dZ.o.2,gz,HK.o.trans eC⟩
   simp [intOf];omega
  gi_wp2
  refine bodyPost_ret (results_none rfl _ _ _) rfl ?_;exact ⟨⟨_,rfl⟩,.inr ⟨_,CR.o,fh⟩⟩
 have OK:¬ (k:Int)<((p.cycle.length-j:Nat):Int):=aa;have w_:=HA.o.round HW.o h0 (show p.cycle.length<=j+k by omega);have Dl:=ad w_;have hbnd:base<=4503599627370496:=by
  rcases Nat.lt_or_ge j p.cycle.length with dr|dr
  .have h9:=HN.o pre wr jd.o (base+p.cycle.getD j 0) (by
    rw [HA.o.is,dN h0];exact ⟨tS.o dr,HA.o.lo j aa dr,Y2.o dr⟩)
   have:=jl HW.o.cyc dr;omega
  have:=Fm aa;omega
 clear w_ EI Fm;gi_wp2_with fail;refine ⟨⟨0,base+p.period,base+p.period,pre,rfl,rfl,aa,aa,aa,aa,Dl.o,jd.o,HK.o⟩,by simp [intOf];omega⟩
end
section
open Go.RowKit Go.Shelf Kal
attribute [local go_sem] Oper.semAt_some
theorem ng_ {F:Fence} {nF:Nat} {w:World} {ops:Array Oper} {rest:List Oper} {o:Oper} {a:Act} {Q:Exit->Act->World->Prop} (hgd:o.guard=none) (s x:Operand)
  (ho:o.op=.call { callee:=.builtin .append,args:=#[s,x],argTypes:=#[35,35] }) (base:Nat) (v:Value) (l:List Int) (y:Int) (hs:a.eval s=v) (hown:ak w base v l)
  (blk c:Nat) (hx:a.eval x=.slice (some ⟨blk,0,none⟩) 1 c) (hnew:w.cell? ⟨blk,0,none⟩=some (.int .i64 y)) (hy:aP y) (hlen:l.length+1<=17592186044416) (hbase:base<=w.heap.size)
  (h:∀ g cap w',ak w' base (.slice (some ⟨g,0,none⟩) (l.length+1) cap) (l ++ [y])->w.grownBy w' v.ownBlock->Below base w w'->wpListIn F nF Tryz.prog ops Q rest (a.put o.dst (.slice (some ⟨g,0,none⟩) (l.length+1) cap)) w') :
  wpListIn F nF Tryz.prog ops Q (o :: rest) a w:=by
 obtain ⟨i,hi,h1,h2,h3⟩:=wB;refine wpListIn_append_own_at w hgd s x 35 ho base 3 i (.int .i64 0) 1 8 Tryz.underlying35 hi h1 h2 h3 rfl aa v l.length (l.map (Value.int .i64)) hs hown.row ⟨blk,0,none⟩ 1 c [.int .i64 y] hx rfl ?_ (by simp [Value.oneCell']) (by unfold maxLen;omega) aa hbase ?_
 .intro j u hu
  match j,hu with
  | 0,hu=>simp at hu;subst hu;exact hnew
 intro v' w' hown' hgrow _ _;obtain ⟨g,cap,rfl⟩:=ownsRow_succ hown';exact h g cap w' (ak.appended hown.rng hy hlen hown') hgrow (hown.below_grown (W0:=w) (.inr trivial) hbase hgrow)
def My (l:List Int) (w:World) (e:Ending) (w':World):Prop:=∃ v,e=.returned v/\ak w' w.heap.size v l/\Below w.heap.size w w'
theorem sK {B D:Nat} {w:World} (hB:B<=D) (hD:w.heap[D]? = some (.deferred (some []))):cL B [{ target:=.collected D,args:=#[] }] w:=
 ⟨[D],rfl,ag,λD' h=>by (obtain rfl:D'=D:=by simpa using h);exact ⟨hB,hD⟩⟩
theorem KeepsOthers.grown_cells {A B C:World} {row:Option Nat} (h:KeepsOthers A B) (hg:B.grownBy C row) (hr:∀ r,row=some r->∃ o:Obj,B.heap[r]? = some o/\o.isCells=true):KeepsOthers A C:=
 ⟨Nat.le_trans h.size hg.size,λk o hk ho=>by
  have h1:=h.same k o hk ho;refine (hg.block k (Array.getElem?_eq_some_iff.1 h1).1 λe=>?_).trans h1;obtain ⟨o2,h2,h3⟩:=hr k e.symm;rw [h1] at h2;cases h2;rw [ho] at h3;cases h3⟩
theorem ak.row_cells {W:World} {base:Nat} {v:Value} {l:List Int} (h:ak W base v l):∀ r,v.ownBlock=some r->∃ o:Obj,W.heap[r]? = some o/\o.isCells=true:=by
 intro r hr;rcases h.row.2 with ⟨rfl,_⟩|⟨g,cap,cur,rfl,_,hh,_⟩
 .cases hr
 obtain rfl:g=r:=by simpa [Value.ownBlock] using hr
 exact ⟨_,hh,rfl⟩
structure WI (w:World) (hi:Int) (hb ob base:Nat) (v:Value) (l:List Int) (W:World):Prop where
 below:Below w.heap.size w W
 hbx:af W hb #[.int .i64 hi] 3
 obx:af W ob #[v] 35
 own:ak W base v l
 sz:base<=W.heap.size
theorem WI.grow {w:World} {hi:Int} {hb ob base:Nat} {v:Value} {l:List Int} {W W':World} {row:Option Nat} (h:WI w hi hb ob base v l W) (hg:W.grownBy W' row)
  (hr:∀ r,row=some r->w.heap.size<=r/\((r≠hb/\r≠ob/\r<base)\/∃ o:Obj,W.heap[r]? = some o/\o.isCells=false)):WI w hi hb ob base v l W':=by
 have key:∀ {b:Nat} {c:Array Value} {t:TypeId},af W b c t->(b=hb\/b=ob)->af W' b c t:=λ{b c t} hx iW=>by
  refine (hg.block b hx.lt λe=>?_).trans hx;obtain ⟨_,h1|⟨o,ho,hc⟩⟩:=hr b e.symm
  .rcases iW with rfl|rfl <;> simp at h1
  rw [show W.heap[b]? = _ from hx] at ho;cases ho;cases hc
 refine ⟨h.below.grown hg h.below.size (λk e=>(hr k e).1),key h.hbx (.inl rfl),key h.obx (.inr rfl),h.own.kept hg ?_,Nat.le_trans h.sz hg.size⟩;rcases cG:v.ownBlock with _|g
 .exact .inl rfl
 refine .inr λe=>?_;have hlt:=h.own.lt g cG;obtain ⟨o2,h2,h3⟩:=h.own.row_cells g cG;obtain ⟨_,h1|⟨o,ho,hc⟩⟩:=hr g e.symm
 .omega
 rw [h2] at ho;cases ho;rw [hc] at h3;cases h3
theorem Iy {S:Int->Prop} {lo hi n:Int} (h0:0<=lo) (h1:∀ x∈bC S lo n,x<hi) (h2:∀ x,S x->lo<=x->x<hi->x<n):bC S lo n=bC S lo hi:=by
 refine (ff h0).ext (ff h0) λx=>?_;constructor
 .intro hx;have:=(dN h0 x).1 hx;exact (dN h0 x).2 ⟨this.1,h1 x hx,this.2.2⟩
 intro hx;have:=(dN h0 x).1 hx;exact (dN h0 x).2 ⟨this.1,h2 x this.2.2 this.1 this.2.1,this.2.2⟩
theorem Vq (h c:Value) (p:Per) (lo hi:Int) (w:World) (hp:bX w h c p) (hw:p.WF) (h1:p.frm<=1125899906842624) (h2:p.period<=1125899906842624) (h0:0<=lo) (h3:lo<=1125899906842624) (h4:0<=hi) (h5:hi<=8796093022208) :
  Calls Tryz.prog 228 #[an h c p.frm p.period,.int .i64 lo,.int .i64 hi] w (My (bC p.mem lo hi) w):=by
 obtain ⟨a1,c1,a2,c2,rfl,rfl⟩:=hp.inn.form;refine callsIn_wide (n:=0).1 ?_;refine callsIn_of_wp_marks Tryz.func228 rfl trivial ?_ rfl;simp only [Tryz.ntmps228,List.size_toArray,List.length_cons,List.length_nil,Nat.reduceAdd,Nat.reduceSub,Array.replicate_succ,Array.replicate_zero,List.push_toArray,List.append_toArray,List.nil_append,List.cons_append];gi_wp2_with (refine ⟨trivial,rfl,?_⟩;gi_at_call 250;refine (callsIn_wide.2 (Wm _ _ p lo _ ⟨_,_,_,_,_,_,rfl,rfl⟩)).mono ?_;rintro e w' ⟨rfl,rfl⟩);generalize hW0:((((w.alloc _).alloc _).alloc _).alloc _).alloc _=W0;have hE:Below w.heap.size w W0:=by rw [<- hW0];exact xE
 have hsz:W0.heap.size=w.heap.size+5:=by rw [<- hW0];simp
 have ly:af W0 (w.heap.size+1) #[.int .i64 hi] 3:=by rw [<- hW0];exact (((af.at ag).alloc _).alloc _).alloc _
 have cG:af W0 (w.heap.size+2) #[.slice none 0 0] 35:=by rw [<- hW0];exact ((af.at ag).alloc _).alloc _
 have bJ:af W0 (w.heap.size+3) #[.slice a1 p.head.length c1,.int .i64 p.frm,.int .i64 p.period,.slice a2 p.cycle.length c2] 80:=by rw [<- hW0];exact (af.at ag).alloc _
 have fQ:af W0 (w.heap.size+4) #[.int .i64 lo] 3:=by rw [<- hW0];exact af.at ag
 have hz1:W0.heap.size<=w.heap.size+5:=aa;have hz2:w.heap.size+5<=W0.heap.size:=aa;have vo:=hp.ext hE;have hin:=hp.inn;have sU:WI w hi (w.heap.size+1) (w.heap.size+2) W0.heap.size (.slice none 0 0) [] W0:=⟨hE,ly,cG,ak.nil _ _,Nat.le_refl _⟩;have HST:=ad sU;clear hW0 hsz sU ly cG;have mV:∀ (v:Value) (l:List Int),IntsIn w 0 w.heap.size v l->l≠[]->∀ b o n c',v=.slice (some ⟨b,o,none⟩) n c'->b<w.heap.size:=λv l hi hl b o n c' he=>(hi.blk hl b (by rw [he];rfl)).2;simp only [Nat.add_assoc,Nat.reduceAdd];refine Nx (x:=some (w.heap.size+4)) (gf:=259) (lb:=#[.pointer (some ⟨w.heap.size+3,0,none⟩),.pointer (some ⟨w.heap.size+4,0,none⟩)]) rfl (enters_of Tryz.func259 (by kernel_rfl) rfl)
  (Wn (.slice a1 p.head.length c1) (.slice a2 p.cycle.length c2) p lo (w.heap.size+3) (w.heap.size+4) W0 (λk=>k<w.heap.size\/k=w.heap.size+3\/k=w.heap.size+4) vo hw h1 h2 h0 h3 bJ fQ (.inr (.inl rfl)) (.inr (.inr rfl))
   (λhl b o n c' he=>.inl (mV _ _ hin.hd hl b o n c' he)) (λhl b o n c' he=>⟨.inl (mV _ _ hin.cy hl b o n c' he),by have:=mV _ _ hin.cy hl b o n c' he;omega⟩) aa)
  (λh k=>h.trans k) (cX.putObj (by intro k hk;omega)) (λy=>rfl)
  (λpre W'=>(∀ x∈pre,x<hi)/\∃ v,WI w hi (w.heap.size+1) (w.heap.size+2) W0.heap.size v pre W')
  (λc' _ W'=>c'=.exit 0/\∃ v,WI w hi (w.heap.size+1) (w.heap.size+2) W0.heap.size v (bC p.mem lo hi) W')
  (λpre A C row hI hg hr=>⟨hI.1,hI.2.choose,hI.2.choose_spec.grow hg λr e=>by
   rcases hr r e with ⟨h,_⟩|⟨h,h'⟩
   .injection h with h;exact ⟨aa,.inl ⟨aa,aa,aa⟩⟩
   exact ⟨aa,.inr h'⟩⟩)
  (λc' pre A C row hI hg hr=>⟨hI.1,hI.2.choose,hI.2.choose_spec.grow hg λr e=>by
   rcases hr r e with ⟨h,_⟩|⟨h,h'⟩
   .injection h with h;exact ⟨aa,.inl ⟨aa,aa,aa⟩⟩
   exact ⟨aa,.inr h'⟩⟩)
  (λpre W' hI x hx=>by have:=hI.1 x hx;omega) ⟨ag,_,HST.o⟩
  (λy=>⟨#[an (.slice a1 p.head.length c1) (.slice a2 p.cycle.length c2) p.frm p.period,.int .i64 lo,.int .i64 hi,.pointer (some ⟨w.heap.size,0,none⟩),undef,.pointer (some ⟨w.heap.size+1,0,none⟩),.slice none 0 0,.pointer (some ⟨w.heap.size+2,0,none⟩),(.int .i64 y),.agg #[.slice a1 p.head.length c1,.int .i64 p.frm,.int .i64 p.period,.slice a2 p.cycle.length c2],.int .i64 lo,.func (.func 259) #[] #[.pointer (some ⟨w.heap.size+3,0,none⟩),.pointer (some ⟨w.heap.size+4,0,none⟩)],(.int .i64 y),undef,undef,undef,undef,undef,undef,undef,undef],[]⟩) ?assign ?body ?done ?stop
 case assign=>
  intro l y W' K hK
  gi_wp2
  exact hK
 case body=>
  rintro l pre y W' ⟨hlt,v,jJ⟩ hen;obtain ⟨hy1,hy2,Gp,Gq⟩:=xN.last h0 hen;obtain ⟨va,vc,rfl⟩:=jJ.own.form;have q1:=(jJ.hbx.cells 0).1;have q2:=(jJ.obx.cells 0).1;have q3:=(jJ.obx.cells 0).2;have hown:=jJ.own;have hsz:=jJ.sz;have sG:=ad jJ;have H3:=ad Gp;have H4:=ad Gq;have ee:=jJ.below.size;clear Gp Gq jJ hen;by_cases hc:y<hi
  .have hlen:pre.length+1<=17592186044416:=by
    have:=(ff (S:=p.mem) (lo:=lo) (hi:=y) h0).length_le hy1;rw [<- H3.o] at this;omega
   gi_wp2_with (gi_at_builtin;refine ng_ az _ _ az W0.heap.size (.slice va pre.length vc) pre y az (ak.ext hown (Ea (Er _) _)) _ _ az ag ⟨aa,aa⟩ hlen aO ?_;intro g cap W2 hown2 hgrow bQ;have eN:=(sG.o.obx.alloc (.cells #[.int .i64 y] 3)).upto bQ aa;have hk2:=(eN.cells 0).1;have hk3:=(eN.cells 0).2)
   refine ⟨(KeepsOthers.trans (KeepsOthers.grown_cells (KeepsOthers.alloc W' _) hgrow (ak.row_cells (ak.ext hown (Ea (Er W') (.cells #[.int .i64 y] 3))))) (KeepsOthers.setCell W2 ⟨w.heap.size+2,0,none⟩ (.slice (some ⟨g,0,none⟩) (pre.length+1) cap))).from _,λk hk=>?_,λx hx=>?_,.slice (some ⟨g,0,none⟩) (pre.length+1) cap,?_⟩
   .rw [qN aa,bQ.block k aa];exact Below.heap_alloc _ _ _ aa
   .rcases List.mem_append.1 hx with hx|hx
    .exact hlt x hx
    obtain rfl:x=y:=by simpa using hx
    exact hc
   have hz3:=bQ.size;simp only [World.size_alloc] at hz3;refine ⟨((sG.o.below.alloc aa _).trans (bQ.mono aa)).setCell (p:=⟨w.heap.size+2,0,none⟩) ag _,((sG.o.hbx.alloc _).upto bQ aa).setNe _ aa,br 0 _ eN,?_,by simp [World.setCell];omega⟩;have e:(Value.slice (some ⟨g,0,none⟩) (pre.length+1) cap)=.slice (some ⟨g,0,none⟩) (pre ++ [y]).length cap:=by simp
   exact hown2.above ((b7.refl _ W2).setCell aO _)
  have hge:hi<=y:=aa
  gi_wp2
  refine ⟨KeepsFrom.refl _ _,rfl,.slice va pre.length vc,?_⟩;have e:pre=bC p.mem lo hi:=by
   rw [H3.o];exact Iy h0 (λx hx=>hlt x (by rw [H3.o];exact hx)) (λx _ _ hx=>aa)
  rw [<- e];exact sG.o
 case done=>
  rintro D xs W' hD ⟨n,hn,rfl⟩ ⟨hlt,v,jJ⟩ aJ;have e:=Iy h0 hlt (λx hx _ _=>hn x hx);rw [e] at jJ;clear e hlt;obtain ⟨va,vc,rfl⟩:=jJ.own.form;have q2:=(jJ.obx.cells 0).1;have sG:=ad jJ;have fC:=ad aJ;clear jJ aJ;gi_wp2_with fail;have hM:cL w.heap.size [{ target:=.collected D,args:=#[] }] W':=sK aa fC.o;refine jY (B:=w.heap.size) _ _ hM λw' hs=>⟨.slice va (bC p.mem lo hi).length vc,by simp [results,Tryz.results228,go_sem],.slice va (bC p.mem lo hi).length vc,rfl,?_,sG.o.below.trans hs.below⟩;exact (sG.o.own.shut hs).mono aa
 case stop=>
  rintro D c' pre W' hD _ ⟨rfl,v,jJ⟩ aJ;refine wpIn_exit ?_
  conv=>whnf
  apply_assumption
  obtain ⟨va,vc,rfl⟩:=jJ.own.form;have q2:=(jJ.obx.cells 0).1;have sG:=ad jJ;have fC:=ad aJ;clear jJ aJ;gi_wp2_with fail;have hM:cL w.heap.size [{ target:=.collected D,args:=#[] }] W':=sK aa fC.o;refine jY (B:=w.heap.size) _ _ hM λw' hs=>⟨.slice va (bC p.mem lo hi).length vc,by simp [results,Tryz.results228,go_sem],.slice va (bC p.mem lo hi).length vc,rfl,?_,sG.o.below.trans hs.below⟩;exact (sG.o.own.shut hs).mono aa
end
section
open Go.RowKit Kal
def zo (p:Per) (b:Int) (n:Int):Prop:=0<=n/\p.mem (n-b)
def pH (p:Per) (b:Int):Per:=⟨(bE p (max (-b) 0)).head.map (·+b),(bE p (max (-b) 0)).frm+b,p.period,(bE p (max (-b) 0)).cycle⟩
theorem vp_ {p:Per} (h:p.WF) (b:Int):(pH p b).WF/\∀ n,(pH p b).mem n↔zo p b n:=by
 obtain ⟨hw,hm⟩:=PX h (day:=max (-b) 0) aa;have hf:max p.frm (max (-b) 0)=(bE p (max (-b) 0)).frm:=rfl;have h0:0<=(bE p (max (-b) 0)).frm+b:=by rw [<- hf];omega
 refine Ic (S:=zo p b) h0 h.per (λn hn=>hn.1) ?_ ⟨?_,?_⟩ hw.cyc (λn h1 h2=>?_) (λn h1 h2=>?_)
 .intro n hn;have e:=hw.pfrom (n-b) aa;rw [hm,hm] at e;have hp:(bE p (max (-b) 0)).period=p.period:=rfl;rw [hp] at e;unfold zo;rw [show n+p.period-b=n-b+p.period from by omega];have:=h.per;constructor
  .rintro ⟨h1,h2⟩;exact ⟨aa,(e.1 ⟨h2,aa⟩).1⟩
  rintro ⟨h1,h2⟩;exact ⟨aa,(e.2 ⟨h2,aa⟩).1⟩
 .exact List.pairwise_map.2 (hw.head.1.imp λh=>aa)
 .intro x hx;obtain ⟨y,hy,rfl⟩:=List.mem_map.1 hx;have hb:=hw.head.2 y hy;have:=(hm y).1 ((Per.mem_lo hb.1 hb.2).2 hy);omega
 .unfold zo;rw [List.mem_map];constructor
  .rintro ⟨y,hy,rfl⟩;have hb:=hw.head.2 y hy;have:=(hm y).1 ((Per.mem_lo hb.1 hb.2).2 hy);exact ⟨h1,by rw [show y+b-b=y from by omega];exact this.1⟩
  rintro ⟨_,h3⟩;have hn:0<=n-b:=h3.1;exact ⟨n-b,(Per.mem_lo hn aa).1 ((hm _).2 ⟨h3,aa⟩),aa⟩
 unfold zo;have hc:=hw.cyc_mem n;rw [hm] at hc;have e:(bE p (max (-b) 0)).frm+b+n-b=(bE p (max (-b) 0)).frm+n:=aa;rw [e];have hp:(bE p (max (-b) 0)).period=p.period:=rfl;rw [hp] at hc;constructor
 .intro hx;have:=hc.1 hx;exact ⟨aa,this.2.2.1⟩
 rintro ⟨_,h3⟩;exact hc.2 ⟨h1,h2,h3,by rw [<- hf];omega⟩
structure SI (w:World) (rb ob:Nat) (hv cv:Value) (f d:Int) (l cl:List Int) (lo hi:Nat) (W:World):Prop where
 below:Below w.heap.size w W
 rbx:af W rb #[.slice none 0 0,.int .i64 0,.int .i64 0,.slice none 0 0] 80
 obx:af W ob #[hv,.int .i64 f,.int .i64 d,cv] 80
 own:j_ W lo hi hv l
 cy:j_ W lo hi cv cl
 ap:∀ g,hv.ownBlock=some g->cv.ownBlock≠some g
 o1:w.heap.size<rb
 o2:rb<lo
 o3:hi<=ob
theorem SI.store {w:World} {rb ob g n cap lo hi:Nat} {cv:Value} {f d:Int} {l cl:List Int} {W:World} (h:SI w rb ob (.slice (some ⟨g,0,none⟩) n cap) cv f d l cl lo hi W) (hn:n=l.length) {i:Nat} {y:Int} (hy:aP y) :
  SI w rb ob (.slice (some ⟨g,0,none⟩) n cap) cv f d (l.set i y) cl lo hi (W.setCell ⟨g,i,none⟩ (.int .i64 y)):=by
 subst hn;have hg:=h.own.own.lt g rfl;have hg2:=h.own.lt g rfl;have o1:=h.o1;have o2:=h.o2;have o3:=h.o3;refine ⟨h.below.setCell (p:=⟨g,i,none⟩) aO _,h.rbx.setNe _ aa,h.obx.setNe _ aa,⟨⟨?_,λx hx=>?_,by simpa using h.own.own.len⟩,h.own.lt⟩,?_,h.ap,o1,o2,o3⟩
 .have:=(h.own.own.row.stored i (.int .i64 y)).1;rw [List.length_set,List.map_set];exact this
 .rcases List.mem_or_eq_of_mem_set hx with hx|rfl
  .exact h.own.own.rng x hx
  exact hy
 obtain ⟨⟨⟨c1,c2⟩,c3,c4⟩,c5⟩:=h.cy;refine ⟨⟨⟨c1,?_⟩,c3,c4⟩,c5⟩;rcases c2 with c2|⟨g',cap',cur,hv,c6,c7,c8⟩
 .exact .inl c2
 refine .inr ⟨g',cap',cur,hv,c6,(Below.heap_setCell W ⟨g,i,none⟩ _ g' (λe=>?_)).trans c7,c8⟩;have e':g'=g:=e;subst e';exact h.ap g' rfl (by rw [hv];rfl)
def pW (L:List Int) (b:Int) (k:Nat):List Int:=(L.take k).map (·+b) ++ L.drop k
theorem Ij (L:List Int) (b:Int) (k:Nat):(pW L b k).length=L.length:=by
 unfold pW;simp;omega
theorem zo_ (L:List Int) (b:Int) {k:Nat} (h:k<L.length):(pW L b k)[k]? = some (L.getD k 0):=by
 unfold pW;rw [List.getElem?_append_right aO];simp [Nat.min_eq_left (Nat.le_of_lt h),h]
theorem zp_ (L:List Int) (b:Int) {k:Nat} (h:k<L.length):(pW L b k).set k (L.getD k 0+b)=pW L b (k+1):=by
 have hl:((L.take k).map (·+b)).length=k:=by simp;omega
 unfold pW;rw [List.set_append_right _ _ aa,hl,Nat.sub_self,List.drop_eq_getElem_cons h,List.set_cons_zero,List.take_succ_eq_append_getElem h,List.map_append,List.append_assoc];simp [h]
def wf_ (q:Per) (w:World) (e:Ending) (w':World):Prop:=(q.frm<=1099511627776->mO q w e w')/\(1099511627776<q.frm->QS 2 w e w')
theorem wh_ (h c:Value) (p q:Per) (b:Int) (w:World) (hp:bX w h c p) (hv:Valid p) (h0:-1099511627776<=b) (h1:b<=1099511627776) (hq:bP q (zo p b)) :
  Calls Tryz.prog 133 #[an h c p.frm p.period,.int .i64 b] w (wf_ q w):=by
 have hl:∀ W,Below w.heap.size w W->bX W h c p:=λW hb=>hp.ext hb;have te:=(oL p).2 hv;have f1:p.frm<=1125899906842624:=by have:=hv.frm;omega
 have f2:p.period<=1125899906842624:=by have:=hv.per;omega
 have hk:=vp_ hv.wf b;have HL:=ad hk;have HQ:Hid (bP q (pH p b).mem):=ad (hq.congr λn=>(hk.2 n).symm);have HV:=ad hv;obtain ⟨dy,ke⟩:∃ dy,dy=max (-b) 0:=⟨_,rfl⟩;have nY:0<=dy:=aa;have fm:dy<=1125899906842624:=aa;have HD:=ad ke;have me:max (-b) 0=dy:=ke.symm;have hR0:0<=(bE p dy).frm+b:=by show 0<=max p.frm dy+b;omega
 have hR1:(bE p dy).frm+b<=4398046511104:=by show max p.frm dy+b<=_;have:=hv.frm;omega
 have hR2:(bE p dy).frm<=4398046511104:=by show max p.frm dy<=_;have:=hv.frm;omega
 have yE:=ad (PX hv.wf nY).1;have Bi:Hid (pH p b=⟨(bE p dy).head.map (·+b),(bE p dy).frm+b,p.period,(bE p dy).cycle⟩):=ad (by unfold pH;rw [me]);clear hp hq hv hk ke
 go_in
 go_wp2_with (first|(go_at_call 92;refine (qO h c p _ (hl _ xE)).mono ?_;rintro e w1 ⟨rfl,hb1⟩;obtain ⟨hc1,gh⟩:=fJ hb1;(try simp only [World.size_alloc,World.size_drew,fE,World.size_setCell] at hc1 gh);have hz1:=hb1.size;(try simp only [World.size_alloc,World.size_drew,fE,World.size_setCell] at hz1);have Gr:w.heap.size+1<w1.heap.size:=aa)|(go_at_call 181;refine (PY h c p dy _ (hl _ xE) HV.o.wf f1 f2 nY fm).mono ?_;rintro e w2 ⟨x1,x2,rfl,ho2,hb2,Fc⟩;obtain ⟨pZ,vI,kR,AT,rfl,rfl⟩:=ho2.form;obtain ⟨hc2,hf2⟩:=fJ hb2;(try simp only [World.size_alloc,World.size_drew,fE,World.size_setCell] at hc2 hf2);have hz2:=hb2.size;(try simp only [World.size_alloc,World.size_drew,fE,World.size_setCell] at hz2);have hz2':w.heap.size+1<w2.heap.size:=aa))
 have hlen:=ho2.hd.len;have hst:SI w (w.heap.size+1) w2.heap.size (.slice pZ (bE p dy).head.length vI) (.slice kR (bE p dy).cycle.length AT) ((bE p dy).frm+b) (bE p dy).period (pW (bE p dy).head b 0) (bE p dy).cycle w1.heap.size w2.heap.size
   (w2.alloc (.cells #[.slice pZ (bE p dy).head.length vI,.int .i64 ((bE p dy).frm+b),.int .i64 (bE p dy).period,.slice kR (bE p dy).cycle.length AT] 80)):=
  ⟨by exact xE,(((af.at ag).upto hb1 ag).upto hb2 aa).alloc _,af.new _ _ _,ho2.hd.oin.alloc _ (Nat.le_refl _),ho2.cy.oin.alloc _ (Nat.le_refl _),Fc,aa,aa,aa⟩
 have HST:=ad hst;clear hst hc1 gh hc2 hf2 Fc hb1 hb2;obtain ⟨L,hL⟩:∃ L,L=(bE p dy).head:=⟨_,rfl⟩;rw [<- hL] at HST hlen ⊢;have mE:=ad hL;have uL:∀ i,i<L.length->0<=L.getD i 0/\L.getD i 0<4398046511104:=λi hi=>by
  subst hL;have:=jl yE.o.head hi;omega
 have vS:=ad uL;clear hL uL ho2;go_loopw [33] (λi wr=>∃ k:Nat,k<=L.length/\i=.int .i64 k/\SI w (w.heap.size+1) w2.heap.size (.slice pZ L.length vI) (.slice kR (bE p dy).cycle.length AT) ((bE p dy).frm+b) (bE p dy).period (pW L b k) (bE p dy).cycle w1.heap.size w2.heap.size wr) (λi _=>L.length-(intOf i).toNat)
 .exact ⟨0,aa,rfl,HST.o⟩
 obtain ⟨k,hk,rfl,hS⟩:=hrel;have mh:=(hS.obx.cells 0).1;have HS:=ad hS;clear hS;by_cases hlt:k<L.length
 .rcases (HS.o.own.own.row).2 with ⟨he,h9⟩|⟨g,cap,cur,he,hg1,hg2,_⟩
  .rw [Ij] at h9;omega
  rw [show (Value.slice pZ L.length vI)=.slice pZ (pW L b k).length vI from by rw [Ij]] at he;injection he with cI eB dk
  subst cI;have hrow:=HS.o.own.own.row;rw [Ij] at hrow;have hcell:wr.cell? ⟨g,k,none⟩=some (.int .i64 (L.getD k 0)):=by
   rw [hrow.cellAt k aa,List.getElem?_map,zo_ L b hlt];rfl
  have hfro:=hrow.frozenAt k;have jK:=vS.o k hlt;obtain ⟨y,hy⟩:∃ y,y=L.getD k 0:=⟨_,rfl⟩;rw [<- hy] at hcell jK;have HY:=ad hy;have iE:=HS.o.store (i:=k) (y:=y+b) (Ij L b k).symm ⟨aa,aa⟩;rw [hy,zp_ L b hlt,<- hy] at iE;have dZ:=ad iE;have fM:(k:Int)<L.length:=aa;clear hy iE hrow eB dk hg2;go_wp2;go_roundw
  .exact ⟨k+1,aa,by go_num,dZ.o⟩
  simp [intOf];omega
 obtain rfl:k=L.length:=aa;have aL:pW L b L.length=(pH p b).head:=by
  rw [Bi.o];unfold pW;simp [mE.o]
 have hS:=HS.o;rw [aL] at hS;have s9:=(hS.obx.cells 1);have F6:=(hS.obx.cells 2);have s_:=(hS.obx.cells 3);have Pf:=(hS.obx.cells 0);have O1:=hS.obx.lt;have cq:=hS.below;have HS':=ad hS;have CE:Hid (∀ W,Below wr.heap.size wr W->Calls Tryz.prog 129 #[.agg #[.slice pZ L.length vI,.int .i64 ((bE p dy).frm+b),.int .i64 (bE p dy).period,.slice kR (bE p dy).cycle.length AT]] W (Xw q W)):=ad (λW hb=>by
  have hP:bX W (.slice pZ L.length vI) (.slice kR (bE p dy).cycle.length AT) (pH p b):=⟨hS.own.own.ints.ext hb,by rw [Bi.o];exact hS.cy.own.ints.ext hb⟩;have h5:(pH p b).frm<=1125899906842624:=by rw [Bi.o];show (bE p dy).frm+b<=_;omega
  have h6:(pH p b).period<=1125899906842624:=f2;have h7:=Ee _ _ (pH p b) q W hP HL.o.1 h5 h6 HQ.o;have e1:(pH p b).frm=(bE p dy).frm+b:=by rw [Bi.o]
  have e2:(pH p b).period=(bE p dy).period:=rfl;rw [e1,e2] at h7;exact h7)
 have lE:=hS.rbx;clear hS aL;by_cases hbig:q.frm<=1099511627776
 .go_wp2_with (go_at_call 129;refine (CE.o _ (Er _)).mono ?_;rintro e w3 ⟨y1,y2,rfl,mg,hb3⟩;obtain ⟨a1,n1,a2,n2,rfl,rfl⟩:=mg.form;obtain ⟨hc3,hf3⟩:=fJ hb3;(try simp only [World.size_alloc,World.size_drew,fE,World.size_setCell] at hc3 hf3);have hz3:=hb3.size;(try simp only [World.size_alloc,World.size_drew,fE,World.size_setCell] at hz3);have nx:w2.heap.size<w3.heap.size:=aa;have iY:=(lE.upto hb3 aa).cells 0;have hr1:=(lE.upto hb3 aa).cells 1;have hr2:=(lE.upto hb3 aa).cells 2;have hr3:=(lE.upto hb3 aa).cells 3;have gi:w2.heap.size≠w.heap.size+1:=aa;have Pa:w.heap.size+1≠w2.heap.size:=aa)
  refine bodyPost_ret (v:=.tuple #[an (.slice a1 q.head.length n1) (.slice a2 q.cycle.length n2) q.frm q.period,.int .i64 0]) (by simp [results,Tryz.results133,go_sem, *]) rfl ⟨λ_=>⟨_,_,rfl,(mg.above (by (repeat' (with_reducible first|exact b7.refl _ _|refine b7.alloc ?_ _|refine b7.drew ?_|refine b7.drewN ?_ _|refine b7.setCell ?_ (by first|(simp;done)|(simp;omega)|omega) _)))).mono aa,xE⟩,λh=>absurd hbig aa⟩
 have Tk:1099511627776<q.frm:=aa;go_wp2_with (go_at_call 129;refine (CE.o _ (Er _)).mono ?_;rintro e w3 ⟨y1,y2,rfl,mg,hb3⟩;obtain ⟨a1,n1,a2,n2,rfl,rfl⟩:=mg.form;obtain ⟨hc3,hf3⟩:=fJ hb3;(try simp only [World.size_alloc,World.size_drew,fE,World.size_setCell] at hc3 hf3);have hz3:=hb3.size;(try simp only [World.size_alloc,World.size_drew,fE,World.size_setCell] at hz3);have nx:w2.heap.size<w3.heap.size:=aa;have iY:=(lE.upto hb3 aa).cells 0;have hr1:=(lE.upto hb3 aa).cells 1;have hr2:=(lE.upto hb3 aa).cells 2;have hr3:=(lE.upto hb3 aa).cells 3;have gi:w2.heap.size≠w.heap.size+1:=aa;have Pa:w.heap.size+1≠w2.heap.size:=aa);refine bodyPost_ret (v:=.tuple #[an (.slice none 0 0) (.slice none 0 0) 0 0,.int .i64 2]) (by simp [results,Tryz.results133,go_sem, *]) rfl ⟨λh=>absurd h aa,λ_=>⟨rfl,xE⟩⟩
def mQ (p:Per) (g:Int) (G k:Nat):List Bool:=(List.range G).map λ(i:Nat)=>(p.cycle.take k).any λc=>decide ((p.frm+c) % g=(i:Int))
def ez (p:Per) (g r:Int):Bool:=p.cycle.any λc=>decide ((p.frm+c) % g=r % g)
def lL (p:Per) (m:Int):List Int:=(upto m.toNat).filter (ez p (Int.gcd p.period m:Nat))
theorem pk_ (p:Per) (g:Int) (G k:Nat):(mQ p g G k).length=G:=by simp [mQ]
theorem te_ (p:Per) (g:Int) (G:Nat):(mQ p g G 0)=List.replicate G false:=by
 refine List.ext_getElem (by simp [mQ]) λi h1 h2=>?_;simp [mQ]
theorem vj_ (p:Per) (g:Int) (G k:Nat) (hk:k<p.cycle.length) (hg:1<=g) (hG:g=G):(mQ p g G k).set ((p.frm+p.cycle.getD k 0) % g).toNat true=mQ p g G (k+1):=by
 have h1:=Int.emod_nonneg (p.frm+p.cycle.getD k 0) (show g≠0 by omega);have h2:=Int.emod_lt_of_pos (p.frm+p.cycle.getD k 0) (show 0<g by omega);refine List.ext_getElem (by simp [mQ]) λi h3 h4=>?_;simp only [mQ,List.length_set,List.length_map,List.length_range] at h3 h4;rw [List.getElem_set];have e:p.cycle.take (k+1)=p.cycle.take k ++ [p.cycle.getD k 0]:=by
  rw [List.take_succ_eq_append_getElem hk];simp [hk]
 simp only [mQ,List.getElem_map,List.getElem_range,e,List.any_append,List.any_cons,List.any_nil,Bool.or_false]
 split
 .rename_i h5;have:(p.frm+p.cycle.getD k 0) % g=(i:Int):=aa;simp only [decide_eq_true this,Bool.or_true]
 rename_i h5;have:¬ (p.frm+p.cycle.getD k 0) % g=(i:Int):=aa;simp only [decide_eq_false this,Bool.or_false]
theorem vi_ (p:Per) (g r:Int) (G:Nat) (hg:1<=g) (hG:g=G):(mQ p g G p.cycle.length)[(r % g).toNat]? = some (ez p g r):=by
 have h1:=Int.emod_nonneg r (show g≠0 by omega);have h2:=Int.emod_lt_of_pos r (show 0<g by omega);unfold mQ ez;rw [List.getElem?_map,List.getElem?_range aa,List.take_length];simp [Int.toNat_of_nonneg h1]
theorem vk_ (p:Per) (g:Int) (k:Nat):(upto (k+1)).filter (ez p g)=(upto k).filter (ez p g) ++ (if ez p g k=true then [(k:Int)] else []):=by
 unfold upto;rw [List.range_succ,List.map_append,List.filter_append]
 congr 1
 by_cases h:ez p g k=true <;> simp [h]
theorem v6_ (G:Nat):(madeCells (Value.bool false).cells (G*1)).toList=(List.replicate G false).map Value.bool:=by
 refine List.ext_getElem (by simp [madeCells]) λi h1 h2=>?_;simp [madeCells,Value.cells,Nat.mod_one]
theorem wl_:∃ i,Tryz.prog.info? 4=some i/\i.zero=some (.bool false)/\i.size=1/\i.bytes=1:=by
 have h:(Tryz.prog.info? 4).map (λi=>(i.zero,i.size,i.bytes))=some (some (.bool false),1,1):=by kernel_rfl
 obtain ⟨i,hi,h1,h2,h3⟩:=info_parts h;exact ⟨i,hi,h1,h2,h3⟩
theorem pr_ (h c:Value) (p:Per) (m:Int) (w:World) (hp:bX w h c p) (hv:Valid p) (h0:1<=m) (h1:m<=1048576) :
  Calls Tryz.prog 128 #[an h c p.frm p.period,.int .i64 m] w λe w'=>∃ v,e=.returned (.tuple #[v,.int .i64 0])/\Ints w' v (lL p m)/\Below w.heap.size w w':=by
 have hl:∀ W,Below w.heap.size w W->bX W h c p:=λW hb=>hp.ext hb;have rz:∀ W,Below w.heap.size w W->Ints W c p.cycle:=λW hb=>hp.cy.ext hb;have te:=(oL p).2 hv;have f0:=hv.wf.frm;have f1:p.frm<=1099511627776:=hv.frm;have p0:=hv.wf.per;have p1:p.period<=1099511627776:=hv.per;have hg:=nL (b:=m) p0;have hg2:=wi (a:=p.period) h0;obtain ⟨g,hgd⟩:∃ g,g=((Int.gcd p.period m:Nat):Int):=⟨_,rfl⟩;rw [<- hgd] at hg hg2;obtain ⟨G,hG⟩:∃ G:Nat,g=G:=⟨g.toNat,aa⟩;have Kx:=ad hgd;have HG:=ad hG;have hG1:(G:Int)<=1048576:=aa;have SX:(1:Int)<=G:=aa;have iu:Hid (lL p m=(upto m.toNat).filter (ez p g)):=ad (by unfold lL;rw [hgd]);have HC:=ad hv.wf.cyc;obtain ⟨⟨ca,aI,rfl,Ot,hccc,_⟩,ru,_⟩:=hp.cy;obtain ⟨ha1,mf,Fp,rfl⟩:∃ a n c,h=.slice a n c:=by obtain ⟨⟨a,c,e,_⟩,_⟩:=hp.hd;exact ⟨a,_,c,e⟩
 subst hG;clear hp hv hgd;obtain ⟨bi,oU,kc,ju,hby⟩:=wl_
 go_in
 go_wp2_with (first|(go_at_call 92;refine (qO _ _ p _ (hl _ xE)).mono ?_;rintro e w1 ⟨rfl,hb1⟩;obtain ⟨hc1,gh⟩:=fJ hb1;(try simp only [World.size_alloc,World.size_drew,fE,World.size_setCell] at hc1 gh);have hz1:=hb1.size;(try simp only [World.size_alloc,World.size_drew,fE,World.size_setCell] at hz1);have Gr:w.heap.size<w1.heap.size:=aa)|(go_at_call 176;refine (zf _ _ _ p0 aa h0 aa).mono ?_;rintro e w' ⟨he,nq,rfl⟩;rw [<- Kx.o] at he;subst he)|(at_make;refine wpList_make_full _ rfl _ _ 214 rfl w1.heap.size 4 bi (.bool false) 1 Tryz.underlying214 oU kc ju .i64 .i64 _ _ G rfl rfl rfl rfl (by rw [hby];omega) (by unfold maxLen;omega) ag ?_;intro w3 cQ cO;have hb3:Below w1.heap.size w1 w3:=(Below.trans (Below.drewN (Below.refl _ _) nq) ((Below.refl (w1.drewN nq).heap.size (w1.drewN nq)).grown cO (Nat.le_refl _) (λk e=>by cases e)));have bJ:af w3 w.heap.size #[.slice ha1 mf Fp,.int .i64 p.frm,.int .i64 p.period,.slice ca p.cycle.length aI] 80:=((af.at rfl).upto hb1 ag).upto hb3 aa;have x3:=(bJ.cells 3).1))
 rw [v6_,<- te_ p G G] at cQ;have cq:Below w.heap.size w w3:=by exact xE
 have Hb:=ad cQ;have fV:=ad bJ;have cm:=ad hb3;clear cQ bJ cO x3 hc1 gh hb3;go_loopw [30] (λi wr=>∃ k:Nat,k<=p.cycle.length/\i=.int .i64 k/\wr.ownsRow w1.heap.size 4 1 (.slice (some ⟨w1.heap.size,0,none⟩) G G) G ((mQ p G G k).map Value.bool)/\af wr w.heap.size #[.slice ha1 mf Fp,.int .i64 p.frm,.int .i64 p.period,.slice ca p.cycle.length aI] 80/\Below w.heap.size w wr) (λi _=>p.cycle.length-(intOf i).toNat)
 .exact ⟨0,aa,rfl,Hb.o,fV.o,cq⟩
 obtain ⟨k,hk,rfl,hown,bJ,zN⟩:=hrel;have x1:=(bJ.cells 1).1;have EF:=rz wr zN;have aM:=ad hown;have Lf:=ad bJ;clear hown bJ;by_cases hlt:k<p.cycle.length
 .obtain ⟨⟨a8,c8,jM,_,_,dA⟩,_,_⟩:=EF;injection jM with cI eB dk
  subst cI;subst dk;rcases dA with dA|⟨b8,f8,rfl,hcell⟩
  .rw [dA] at hlt;simp at hlt
  have hcl:=hcell k hlt;have fM:(k:Int)<p.cycle.length:=aa;have jK:=HC.o.2 (p.cycle.getD k 0) (kH hlt);have cd:=vj_ p G G k hlt SX rfl;obtain ⟨y,hy⟩:∃ y,y=p.cycle.getD k 0:=⟨_,rfl⟩;rw [<- hy] at hcl jK cd;have yG:=ad cd;have hm0:=Int.emod_nonneg (p.frm+y) (show (G:Int)≠0 by omega);have hm1:=Int.emod_lt_of_pos (p.frm+y) (show 0<(G:Int) by omega);have hst:=aM.o.stored ((p.frm+y) % G).toNat (.bool true);have hce:wr.cell? ⟨w1.heap.size,((p.frm+y) % G).toNat,none⟩=((mQ p G G k).map Value.bool)[((p.frm+y) % G).toNat]?:=aM.o.cellAt _ aa;rw [List.getElem?_map,List.getElem?_eq_getElem (by rw [pk_];omega)] at hce;have hfr:=aM.o.frozenAt ((p.frm+y) % G).toNat;have HST:=ad hst;clear hcell hy cd hst;go_wp2;go_roundw
  .refine ⟨k+1,aa,by go_num,?_,Lf.o.setNe _ aa,zN.setCell (p:=⟨w1.heap.size,((p.frm+y) % (G:Int)).toNat,none⟩) aO _⟩;have:=HST.o.1;rw [<- List.map_set (f:=Value.bool),yG.o] at this;exact this
  simp [intOf];omega
 obtain rfl:k=p.cycle.length:=aa;have O1:w1.heap.size<wr.heap.size:=(aM.o.lt _ rfl).2;have hge:¬ ((p.cycle.length:Nat):Int)<(p.cycle.length:Nat):=aa;obtain ⟨M,hM⟩:∃ M:Nat,m=M:=⟨m.toNat,aa⟩;subst hM;go_wp2;go_loopw [44,10] (λi o wq=>∃ k:Nat,k<=M/\i=.int .i64 k/\ak wq (w1.heap.size+1) o ((upto k).filter (ez p G))/\wq.ownsRow w1.heap.size 4 1 (.slice (some ⟨w1.heap.size,0,none⟩) G G) G ((mQ p G G p.cycle.length).map Value.bool)/\Below w.heap.size w wq) (λi _ _=>M-(intOf i).toNat)
 .exact ⟨0,aa,rfl,ak.nil _ _,aM.o,zN⟩
 obtain ⟨k,hk,rfl,hown2,m_,oV⟩:=hrel;have eU:=ad hown2;have mA:=ad m_;have hlt8:w1.heap.size<wr.heap.size:=(m_.lt _ rfl).2;obtain ⟨va,vc,rfl⟩:=hown2.form;have rI:((upto k).filter (ez p G)).length<=1048576:=by
  have:=List.length_filter_le (ez p G) (upto k);have h2:(upto k).length=k:=by simp [upto]
  omega
 clear hown2 m_;by_cases hlt:k<M
 .have fM:(k:Int)<M:=aa;have hm0:=Int.emod_nonneg (k:Int) (show (G:Int)≠0 by omega);have hm1:=Int.emod_lt_of_pos (k:Int) (show 0<(G:Int) by omega);have hce:wr.cell? ⟨w1.heap.size,((k:Int) % G).toNat,none⟩=some (.bool (ez p G k)):=by
   rw [mA.o.cellAt _ aa,List.getElem?_map,vi_ p G k G SX rfl];rfl
  have e9:((k:Int) % (G:Int)).toNat=k % G:=by rw [<- Int.natCast_emod];rfl
  rw [e9] at hce;have ic:k % G<G:=Nat.mod_lt _ aa;clear e9;have xk:=vk_ p G k;have vY:=ad xk;clear xk;cases hb:ez p G k with
  | true=>
   rw [hb] at hce;have HB:=ad hb;clear hb;go_wp2_with (at_builtin;refine pA az _ _ az (w1.heap.size+1) (.slice va ((upto k).filter (ez p G)).length vc) ((upto k).filter (ez p G)) k az (eU.o.ext (Ea (Er _) _)) _ _ az ag ⟨aa,aa⟩ aa aO ?_;intro g cap w5 aw aH bU);go_roundw
   .refine ⟨k+1,aa,by go_num,?_,?_,?_⟩
    .rw [vY.o,HB.o,if_pos rfl];exact aw
    .have h1:=mA.o.alloc (.cells #[.int .i64 k] 3);exact h1.kept aH (.inr (λe=>by have h7:=(eU.o.lt w1.heap.size e.symm).1;omega))
    exact (oV.alloc (by have:=oV.size;omega) _).trans (bU.mono aa)
   simp [intOf];omega
  | false=>
   rw [hb] at hce;have HB:=ad hb;clear hb;go_wp2;go_roundw
   .refine ⟨k+1,aa,by go_num,?_,mA.o,oV⟩;rw [vY.o,HB.o,if_neg ag,List.append_nil];exact eU.o
   simp [intOf];omega
 obtain rfl:k=M:=aa;go_wp2;go_ret2;refine ⟨.slice va ((upto k).filter (ez p G)).length vc,rfl,?_,oV⟩;rw [iu.o];simpa using eU.o.ints
end
section
open Go.RowKit Go.Maps Go.ChangeShapes Kal
open Go.WideElems (rd_val)
def fZ (ys:List Int) (g r:Int):List Int:=ys.filter λy=>decide (y % g=r)
noncomputable def M7 (l:List Int):DataW Unit:=if l=[] then .nil else .slice (lits .i64 l) []
theorem xl_ {a b:List Int} (h:(lits (H:=Unit) .i64 a)=lits .i64 b):a=b:=by
 unfold lits at h;induction a generalizing b with
 | nil=>cases b with
  | nil=>rfl
  | cons y b=>simp at h
 | cons x a ih=>cases b with
  | nil=>simp at h
  | cons y b=>
   simp only [List.map_cons,List.cons.injEq] at h;obtain ⟨h1,h2⟩:=h;injection h1 with h1;injection h1 with h1 h3
   rw [h3,ih h2]
structure qS (D:DataW Unit) (g:Int) (ys:List Int):Prop where
 map:IsMap D
 rd:∀ r,D.atKey (.int .i64 r) .nil=M7 (fZ ys g r)
theorem qS.nil (g:Int):qS (.map []) g []:=⟨isMap_empty,λr=>rfl⟩
theorem qS.got {D:DataW Unit} {g:Int} {ys:List Int} (h:qS D g ys) {w:World} {base:Nat} {e:TypeId} {v:Value} {zs:List Int} {r:Int} (hat:D.atKey (.int .i64 r) .nil=rowDatum .i64 v zs) (ho:w.ownsInts base e .i64 v zs):zs=fZ ys g r:=by
 rw [h.rd] at hat;unfold M7 at hat;rcases ho.datum (H:=Unit) with ⟨h1,h2⟩|h1
 .rw [h1] at hat;by_cases hg:fZ ys g r=[]
  .rw [h2,hg]
  rw [if_neg hg] at hat;cases hat
 rw [h1] at hat;by_cases hg:fZ ys g r=[]
 .rw [if_pos hg] at hat;cases hat
 rw [if_neg hg] at hat;injection hat with hat
 exact (xl_ hat).symm
theorem qS.put {D:DataW Unit} {g:Int} {ys:List Int} (h:qS D g ys) {w:World} {base:Nat} {e:TypeId} {v:Value} {y:Int} (ho:w.ownsInts base e .i64 v (fZ ys g (y % g) ++ [y])) :
  qS (D.put (.int .i64 (y % g)) (rowDatum .i64 v (fZ ys g (y % g) ++ [y]))) g (ys ++ [y]):=by
 refine ⟨h.map.put _ _,λr=>?_⟩;by_cases hr:r=y % g
 .subst hr;rw [atKey_put_same h.map (by simp [WideAt.IsKeyLit]),ho.datum_pos ag];unfold M7;rw [show fZ (ys ++ [y]) g (y % g)=fZ ys g (y % g) ++ [y] from by unfold fZ;simp,if_neg ag]
 rw [atKey_put_other (by intro e;injection e with _ e;exact hr e),h.rd]
 congr 1
 unfold fZ;rw [List.filter_append];simp [show ¬ y % g=r from λe=>hr e.symm]
def nO (w:World) (b hi:Nat) (g:Int) (ys:List Int):Prop:=
 ∃ (es:Array MapEntry) (clock n base:Nat) (D:DataW Unit),b<base/\w.heap[b]? = some (.map es clock)/\n<=17592186044416/\w.ownsGroups Tryz.prog 3 base 3 .i64 b n D/\qS D g ys/\b<hi/\∀ x∈es.toList,∀ k,x.val.ownBlock=some k->k<hi
theorem Uo {w w':World} {base hi:Nat} {e:TypeId} {v:Value} {zs:List Int} (h:w.ownsInts base e .i64 v zs) (hlt:∀ k,v.ownBlock=some k->k<hi) (hk:∀ k,base<=k->k<hi->w'.heap[k]? = w.heap[k]?):w'.ownsInts base e .i64 v zs:=by
 obtain ⟨⟨h1,h2⟩,h3⟩:=h;refine ⟨⟨h1,?_⟩,h3⟩;rcases h2 with h2|⟨g,cap,cur,hv,hg,hh,hr⟩
 .exact .inl h2
 exact .inr ⟨g,cap,cur,hv,hg,(hk g hg (hlt g (by rw [hv];rfl))).trans hh,hr⟩
theorem nO.of_blocks {w w':World} {b hi:Nat} {g:Int} {ys:List Int} (h:nO w b hi g ys) (hk:∀ k,b<=k->k<hi->w'.heap[k]? = w.heap[k]?):nO w' b hi g ys:=by
 obtain ⟨es,clock,n,base,D,ju,hb,hn,⟨ZI,yU,hb2,F,hs,hD,dD,hlen,hap⟩,kO,ly,hrow⟩:=h;rw [hb] at hb2;injection hb2 with hb2;injection hb2 with e1 e2
 subst e1;subst e2;have hb':=(hk b (Nat.le_refl _) ly).trans hb;have key:∀ x∈es.toList,∀ z,rowElem (H:=Unit) w base 3 .i64 x.val=some z->rowElem (H:=Unit) w' base 3 .i64 x.val=some z:=by
  intro x hx z hz;obtain ⟨zs,ho,rfl⟩:=rowElem_inv hz;exact rowElem_mk (Uo ho (hrow x hx) λk h1 h2=>hk k aa h2)
 have owned:∀ x∈es.toList,∃ zs,w.ownsInts base 3 .i64 x.val zs:=λx hx=>by
  obtain ⟨y,hy⟩:=F.reads x hx;obtain ⟨z,hz,_⟩:=rd_val hy;obtain ⟨zs,ho,_⟩:=rowElem_inv hz;exact ⟨zs,ho⟩
 obtain ⟨F',hm,_⟩:=F.stay (R':=rowElem (H:=Unit) w' base 3 .i64) key;refine ⟨es,clock,n,base,D,ju,hb',hn,⟨es,clock,hb',F',hs,by rw [hm];exact hD,dD,λx hx zs hz=>?_,hap⟩,kO,ly,hrow⟩;obtain ⟨zs0,h0⟩:=owned x hx;rw [(Uo h0 (hrow x hx) λk h1 h2=>hk k aa h2).unique hz |>.symm];exact hlen x hx zs0 h0
theorem nO.of_groups {w:World} {b n base:Nat} {D:DataW Unit} {g:Int} {ys:List Int} (h:w.ownsGroups Tryz.prog 3 base 3 .i64 b n D) (ju:b<base) (hn:n<=17592186044416) (kO:qS D g ys):nO w b w.heap.size g ys:=by
 have h':=h;obtain ⟨es,clock,hb,F,hs,hD,dD,hlen,hap⟩:=h;refine ⟨es,clock,n,base,D,ju,hb,hn,h',kO,(Array.getElem?_eq_some_iff.1 hb).1,λx hx k hk=>?_⟩;obtain ⟨y,hy⟩:=F.reads x hx;obtain ⟨z,hz,_⟩:=rd_val hy;obtain ⟨zs,ho,_⟩:=rowElem_inv hz;exact (ho.1.lt k hk).2
theorem GE:Keyed Tryz.prog 3:=int_keyed Tryz.underlying3
theorem Fa (w:World):(zeroValue 35).run Tryz.prog w=.ok (.slice none 0 0) w:=by kernel_rfl
theorem mapKey {r:Int} (hr:aP r):keyOf Tryz.prog 3 (.int .i64 r)=some (.int .i64 r):=keyOf_int_mk Tryz.underlying3 (WalkArith.wf_i64 hr)
theorem X1 {x:Int} (h:(Lit.int .i64 x).wf=true):aP x:=by
 simp [Lit.wf,IntKind.min,IntKind.max,IntKind.signed,IntKind.bits] at h;unfold aP;omega
theorem nO.look {w:World} {b hi:Nat} {g r:Int} {ys:List Int} (h:nO w b hi g ys) (hr:aP r) :
  ∃ v,(Instr.lookup 250 (.map (some b)) (.int .i64 r) false).run Tryz.prog w=.ok v w/\IntsIn w (b+1) hi v (fZ ys g r):=by
 obtain ⟨es,clock,n,base,D,ju,hb,hn,⟨ZI,yU,hb2,F,hs,hD,dD,hlen,hap⟩,kO,ly,hrow⟩:=h;rw [hb] at hb2;injection hb2 with hb2;injection hb2 with e1 e2
 subst e1;subst e2;subst hD;rcases Maps.fit_look false GE Tryz.underlying250 (Fa w) hb F (mapKey hr) with ⟨hrun,_,hat⟩|⟨e0,y,hm0,h3,hrun,hR,hat,_⟩
 .have hz:=kO.got (v:=.slice none 0 0) (zs:=[]) (hat _) (World.ownsInts_nil w base 3 .i64);refine ⟨.slice none 0 0,hrun,?_⟩;rw [<- hz];exact ⟨Ints.nil w,λh=>absurd rfl h⟩
 obtain ⟨zs,ho,rfl⟩:=rowElem_inv hR;have hz:=kO.got (hat _) ho;refine ⟨e0.val,hrun,?_⟩;rw [<- hz];have hO:ak w base e0.val zs:=⟨ho.1,λx hx=>X1 (ho.2 x hx),by have:=hlen e0 hm0 zs ho;omega⟩;exact ⟨hO.ints,λ_ k hk=>⟨by have:=(hO.lt k hk).1;omega,hrow e0 hm0 k hk⟩⟩
end
section
open Go.RowKit Go.Maps Go.ChangeShapes Kal
theorem su_ {l:List MapEntry} (h:(l.map (·.key)).Nodup) {a b:MapEntry} (ha:a∈l) (hb:b∈l) (e:a.key=b.key):a=b:=by
 induction l with
 | nil=>simp at ha
 | cons x l ih=>
  rw [List.map_cons,List.nodup_cons] at h;rcases List.mem_cons.1 ha with ha1|ha1 <;> rcases List.mem_cons.1 hb with hb1|hb1
  .rw [ha1,hb1]
  .exact absurd (List.mem_map.2 ⟨b,hb1,by rw [<- ha1];exact e.symm⟩) h.1
  .exact absurd (List.mem_map.2 ⟨a,ha1,by rw [<- hb1];exact e⟩) h.1
  exact ih h.2 ha1 hb1
theorem QW {v v':Value} {w w':World} (h:(Result.ok v w:Result Value)=Result.ok v' w'):v=v':=by cases h;rfl
theorem PU {w:World} {b n base:Nat} {D:DataW Unit} {r:Int} (h:w.ownsGroups Tryz.prog 3 base 3 .i64 b n D) (hn:n<=17592186044416) (hr:aP r) :
  ∃ v zs,(∀ W:World,W.heap[b]? = w.heap[b]?->(Instr.lookup 250 (.map (some b)) (.int .i64 r) false).run Tryz.prog W=.ok v W)/\D.atKey (.int .i64 r) .nil=rowDatum .i64 v zs/\w.ownsInts base 3 .i64 v zs/\zs.length<=n/\
   w.groupBack Tryz.prog 250 3 base 3 .i64 b n D (.int .i64 r) (.int .i64 r) v:=by
 obtain ⟨v,zs,hrun,hat,ho,hzl,hback⟩:=h.at GE Tryz.underlying250 (Fa w) (by unfold maxLen;omega) (mapKey hr);refine ⟨v,zs,λW hW=>?_,hat,ho,hzl,hback⟩;obtain ⟨es,clock,hb,F,_⟩:=h;have hb':=hW.trans hb;rcases Maps.fit_look false GE Tryz.underlying250 (Fa w) hb F (mapKey hr) with ⟨h1,h2,_⟩|⟨e0,y,hm0,h3,h1,_⟩
 .have e1:=QW (hrun.symm.trans h1)
  (try dsimp only at e1)
  rcases Maps.fit_look false GE Tryz.underlying250 (Fa W) hb' F (mapKey hr) with ⟨g1,_,_⟩|⟨e2,y1,hm1,g3,g1,_⟩
  .rw [e1];exact g1
  exact absurd g3 (h2 e2 hm1)
 have e1:=QW (hrun.symm.trans h1)
 (try dsimp only at e1)
 rcases Maps.fit_look false GE Tryz.underlying250 (Fa W) hb' F (mapKey hr) with ⟨g1,g2,_⟩|⟨e2,y1,hm1,g3,g1,_⟩
 .exact absurd h3 (g2 e0 hm0)
 have:=su_ F.stamped.2.2 hm0 hm1 (h3.trans g3.symm);subst this;rw [e1];exact g1
theorem u0_ (w:World) {o:Oper} {a:Act} {K:Act->World->Prop} {Q:Exit->Act->World->Prop} (s x:Operand)
  (ho:o.op=.call { callee:=.builtin .append,args:=#[s,x],argTypes:=#[35,35] }) (base:Nat) (v:Value) (l:List Int) (y:Int) (hs:a.eval s=v) (hown:ak w base v l)
  (blk c:Nat) (hx:a.eval x=.slice (some ⟨blk,0,none⟩) 1 c) (hnew:w.cell? ⟨blk,0,none⟩=some (.int .i64 y)) (hy:aP y) (hlen:l.length+1<=17592186044416) (hbase:base<=w.heap.size)
  (h:∀ g cap w',ak w' base (.slice (some ⟨g,0,none⟩) (l.length+1) cap) (l ++ [y])->w.grownBy w' v.ownBlock->(v.ownBlock=some g\/g=w.heap.size)->K (a.put o.dst (.slice (some ⟨g,0,none⟩) (l.length+1) cap)) w') :
  Oper.wp Tryz.prog o a w K Q:=by
 obtain ⟨i,hi,h1,h2,h3⟩:=wB;refine wp_append_lies w s x 35 ho base 3 i (.int .i64 0) 1 8 Tryz.underlying35 hi h1 h2 h3 rfl aa v l.length (l.map (Value.int .i64)) hs hown.row ⟨blk,0,none⟩ 1 c [.int .i64 y] hx rfl ?_ (by simp [Value.oneCell']) aa (by unfold maxLen;omega) aa hbase _ rfl ?_
 .intro j u hu
  match j,hu with
  | 0,hu=>simp at hu;subst hu;exact hnew
 intro g cap w' hown' hgrow hloc _;exact h g cap w' (ak.appended hown.rng hy hlen hown') hgrow hloc
end
section
open Go.RowKit Go.Maps Kal
abbrev qU (h1 c1 h2 c2:Value) (qa qb:Per) (st:Int) (xv yv:Value) (g:Int) (mb:Nat):Value:=
 .agg #[h1,.int .i64 qa.frm,.int .i64 qa.period,c1,h2,.int .i64 qb.frm,.int .i64 qb.period,c2,.int .i64 st,xv,yv,.int .i64 g,.map (some mb)]
theorem iR {P:Program} {c:Code} {Q:Exit->Act->World->Prop} {a:Act} {W:World} (F:World->Prop) (h:F W) (k:∀ W2,F W2->c.wp P Q a W2):c.wp P Q a W:=k W h
theorem Xx {G:Act->World->Prop} {a:Act} {W:World} (F:World->Prop) (h:F W) (k:∀ W2,F W2->G a W2):G a W:=k W h
theorem Fs {W:World} {b i k:Nat} {o:Obj} {v:Value} (h:W.heap[k]? = some o) (hne:k≠b):(W.setCell ⟨b,i,none⟩ v).heap[k]? = some o:=(Below.heap_setCell W ⟨b,i,none⟩ v k hne).trans h
theorem od_ {w:World} {b o o':Nat} {x:Value} (h:w.cell? ⟨b,o,none⟩=some x) (hne:o'≠o) (v:Value):(w.setCell ⟨b,o',none⟩ v).cell? ⟨b,o,none⟩=some x:=(World.cell?_setCell_other _ _ _ _ (by simp [hne])).trans h
theorem X0 {W:World} {b:Nat} {x0 x1 x2 x3 x4 x5 x6 x7 x8 x9 po pq pr y0 y1 y2 y3 y4 y5 y6 y7 y8 y9 sl sm tk:Value} {t:TypeId} (h:af W b #[x0,x1,x2,x3,x4,x5,x6,x7,x8,x9,po,pq,pr] t) :
  af (((((((((((((W.setCell ⟨b,0,none⟩ y0).setCell ⟨b,1,none⟩ y1).setCell ⟨b,2,none⟩ y2).setCell ⟨b,3,none⟩ y3).setCell ⟨b,4,none⟩ y4).setCell ⟨b,5,none⟩ y5).setCell ⟨b,6,none⟩ y6).setCell ⟨b,7,none⟩ y7).setCell ⟨b,8,none⟩ y8).setCell ⟨b,9,none⟩ y9).setCell ⟨b,10,none⟩ sl).setCell ⟨b,11,none⟩ sm).setCell ⟨b,12,none⟩ tk) b #[y0,y1,y2,y3,y4,y5,y6,y7,y8,y9,sl,sm,tk] t:=by
 have:=(br 12 tk (br 11 sm (br 10 sl (br 9 y9 (br 8 y8 (br 7 y7 (br 6 y6 (br 5 y5 (br 4 y4 (br 3 y3 (br 2 y2 (br 1 y1 (br 0 y0 h)))))))))))));simpa [af] using this
theorem y6_ {W:World} {b k:Nat} {y0 y1 y2 y3 y4 y5 y6 y7 y8 y9 sl sm tk:Value} (h:k≠b) :
  (((((((((((((W.setCell ⟨b,0,none⟩ y0).setCell ⟨b,1,none⟩ y1).setCell ⟨b,2,none⟩ y2).setCell ⟨b,3,none⟩ y3).setCell ⟨b,4,none⟩ y4).setCell ⟨b,5,none⟩ y5).setCell ⟨b,6,none⟩ y6).setCell ⟨b,7,none⟩ y7).setCell ⟨b,8,none⟩ y8).setCell ⟨b,9,none⟩ y9).setCell ⟨b,10,none⟩ sl).setCell ⟨b,11,none⟩ sm).setCell ⟨b,12,none⟩ tk).heap[k]? = W.heap[k]?:=by
 have st:∀ (W:World) (i:Nat) (y:Value),(W.setCell ⟨b,i,none⟩ y).heap[k]? = W.heap[k]?:=λW i y=>Below.heap_setCell W ⟨b,i,none⟩ y k h;simp only [st]
theorem Mk {W:World} {b:Nat} {x0 x1 x2 x3 x4 x5 x6 x7 x8 x9 po pq pr y:Value} {t:TypeId} (h:af W b #[x0,x1,x2,x3,x4,x5,x6,x7,x8,x9,po,pq,pr] t):af (W.setCell ⟨b,8,none⟩ y) b #[x0,x1,x2,x3,x4,x5,x6,x7,y,x9,po,pq,pr] t:=by
 have:=br 8 y h;simpa [af] using this
theorem Ml {W:World} {b:Nat} {x0 x1 x2 x3 x4 x5 x6 x7 x8 x9 po pq pr y:Value} {t:TypeId} (h:af W b #[x0,x1,x2,x3,x4,x5,x6,x7,x8,x9,po,pq,pr] t):af (W.setCell ⟨b,9,none⟩ y) b #[x0,x1,x2,x3,x4,x5,x6,x7,x8,y,po,pq,pr] t:=by
 have:=br 9 y h;simpa [af] using this
theorem y4_ {W:World} {b:Nat} {x0 x1 x2 x3 x4 x5 x6 x7 x8 x9 po pq pr y:Value} {t:TypeId} (h:af W b #[x0,x1,x2,x3,x4,x5,x6,x7,x8,x9,po,pq,pr] t):af (W.setCell ⟨b,10,none⟩ y) b #[x0,x1,x2,x3,x4,x5,x6,x7,x8,x9,y,pq,pr] t:=by
 have:=br 10 y h;simpa [af] using this
theorem y5_ {W:World} {b:Nat} {x0 x1 x2 x3 x4 x5 x6 x7 x8 x9 po pq pr y:Value} {t:TypeId} (h:af W b #[x0,x1,x2,x3,x4,x5,x6,x7,x8,x9,po,pq,pr] t):af (W.setCell ⟨b,11,none⟩ y) b #[x0,x1,x2,x3,x4,x5,x6,x7,x8,x9,po,y,pr] t:=by
 have:=br 11 y h;simpa [af] using this
theorem tg_ (a b c d:Value) (w:World):(Instr.field 80 (.agg #[a,b,c,d]) 3).run Tryz.prog w=.ok d w:=by kernel_rfl
abbrev Ce:Array Value:=#[.slice none 0 0,.int .i64 0,.int .i64 0,.slice none 0 0,.slice none 0 0,.int .i64 0,.int .i64 0,.slice none 0 0,.int .i64 0,.slice none 0 0,.slice none 0 0,.int .i64 0,.map none]
theorem Xm {w w':World} {b:Nat} {o:Obj} (h:w.heap[b]? = some o) (hb:Below w.heap.size w w'):w'.heap[b]? = some o:=(hb.block b (Array.getElem?_eq_some_iff.1 h).1).trans h
theorem nO.mono_hi {w:World} {b hi hi':Nat} {g:Int} {ys:List Int} (h:nO w b hi g ys) (hh:hi<=hi'):nO w b hi' g ys:=by
 obtain ⟨es,clock,n,base,D,h1,h2,h3,h4,h5,h6,h7⟩:=h;exact ⟨es,clock,n,base,D,h1,h2,h3,h4,h5,aa,λx hx k hk=>by have:=h7 x hx k hk;omega⟩
structure uu (w:World) (lo hi:Nat) (h1 c1 h2 c2:Value) (qa qb:Per) (st:Int) (xv yv:Value) (mb:Nat):Prop where
 a:cU w lo hi h1 c1 qa
 b:cU w lo hi h2 c2 qb
 x:IntsIn w lo hi xv (ar (aj qa st))
 y:IntsIn w lo hi yv (ar (aj qb st))
 m:nO w mb hi (Int.gcd qa.period qb.period:Nat) (ar (aj qb st))
 lom:lo<=mb
theorem qc_ (h1 c1 h2 c2:Value) (p1 p2 qa qb:Per) (day:Int) (w:World) (fs:bX w h1 c1 p1) (eO:bX w h2 c2 p2) (hw1:p1.WF) (hw2:p2.WF)
  (f1:p1.frm<=562949953421312) (f2:p2.frm<=562949953421312) (t1:p1.period<=562949953421312) (t2:p2.period<=562949953421312) (eX:bP qa p1.mem) (ef:bP qb p2.mem) (h0:0<=day) (hd:day<=562949953421312) :
  Calls Tryz.prog 221 #[an h1 c1 p1.frm p1.period,an h2 c2 p2.frm p2.period,.int .i64 day] w λe w'=>∃ (x1 x2 x3 x4 xv yv:Value) (mb:Nat),
   e=.returned (qU x1 x2 x3 x4 qa qb (max (max qa.frm qb.frm) day) xv yv (Int.gcd qa.period qb.period:Nat) mb)/\uu w' w.heap.size w'.heap.size x1 x2 x3 x4 qa qb (max (max qa.frm qb.frm) day) xv yv mb/\Below w.heap.size w w':=by
 have fA:∀ W,Below w.heap.size w W->bX W h1 c1 p1:=λW hb=>fs.ext hb;have hl2:∀ W,Below w.heap.size w W->bX W h2 c2 p2:=λW hb=>eO.ext hb;have qD:=ad hw1;have LR:=ad hw2;have mF:=ad eX;have lT:=ad ef;obtain ⟨b1,b2,b3,b4,b5⟩:=eX.smaller hw1;obtain ⟨d1,d2,d3,d4,d5⟩:=ef.smaller hw2;have za0:=eX.wf.frm;have zb0:=ef.wf.frm;have AU:=eX.wf.per;have AV:=ef.wf.per;obtain ⟨a1,m1,a2,m2,rfl,rfl⟩:=fs.inn.form;obtain ⟨a3,m3,a4,m4,rfl,rfl⟩:=eO.inn.form;clear fs eO hw1 hw2 eX ef b3 d3;have hmm:=@run_makeMap Tryz.prog
 go_in
 go_wp2_with fail
 generalize hW0:((w.alloc _).alloc _).alloc _=W0;have hE:Below w.heap.size w W0:=by rw [<- hW0];exact xE
 have pS:af W0 w.heap.size #[.slice a1 p1.head.length m1,.int .i64 p1.frm,.int .i64 p1.period,.slice a2 p1.cycle.length m2] 80:=by rw [<- hW0];exact ((af.at rfl).alloc _).alloc _
 have bJ:af W0 (w.heap.size+1) #[.slice a3 p2.head.length m3,.int .i64 p2.frm,.int .i64 p2.period,.slice a4 p2.cycle.length m4] 80:=by rw [<- hW0];exact (af.at ag).alloc _
 have dY:af W0 (w.heap.size+2) Ce 252:=by rw [<- hW0];exact af.at ag
 have oS:=(pS.cells 0).1;have sT:=(pS.cells 1).1;have qX:=(pS.cells 2).1;have ED:=(pS.cells 3).1;have hB0:=(bJ.cells 0).1;have hB1:=(bJ.cells 1).1;have hB2:=(bJ.cells 2).1;have zu:=(bJ.cells 3).1;have hz0:=dY.lt;clear hW0 pS bJ;refine oK (w0:=W0) [0,1,2,3,4,5,6] [7] (λv=>⟨#[an (.slice a1 p1.head.length m1) (.slice a2 p1.cycle.length m2) p1.frm p1.period,an (.slice a3 p2.head.length m3) (.slice a4 p2.cycle.length m4) p2.frm p2.period,.int .i64 day,.pointer (some ⟨w.heap.size,0,none⟩),.pointer (some ⟨w.heap.size+1,0,none⟩),undef,.pointer (some ⟨w.heap.size+1+1,0,none⟩),v 6,undef,undef,v 0,v 1,v 2,v 3,v 4,v 5,undef,undef,undef,undef,undef,undef,undef,undef,undef,undef,undef,undef,undef,undef,undef,undef,undef,undef,undef,undef,undef,undef,undef,undef,undef,undef,undef,undef,undef,undef,undef,undef,undef,undef,undef,undef,undef,undef,undef,undef,undef,undef,undef,undef,undef,undef,undef,undef,undef,undef,undef,undef,undef,undef,undef,undef],[]⟩) [an (.slice a1 p1.head.length m1) (.slice a2 p1.cycle.length m2) p1.frm p1.period,undef,an (.slice a3 p2.head.length m3) (.slice a4 p2.cycle.length m4) p2.frm p2.period,undef,undef,undef,undef] [1,3,4,5,6] (λi v lo hi W=>match i with|1=>∃ x1 x2,v 1=an x1 x2 qa.frm qa.period/\wG W (lo 1) (hi 1) x1 x2 qa|3=>∃ x1 x2,v 3=an x1 x2 qb.frm qb.period/\wG W (lo 3) (hi 3) x1 x2 qb|4=>v 4=.map (some (lo 4))/\lo 4<hi 4/\W.heap[lo 4]? = some (.map #[] 0)|5=>∃ x1 x2 x3 x4,v 1=an x1 x2 qa.frm qa.period/\v 3=an x3 x4 qb.frm qb.period/\v 5=.agg #[x1,.int .i64 qa.frm,.int .i64 qa.period,x2,x3,.int .i64 qb.frm,.int .i64 qb.period,x4,.int .i64 0,.slice none 0 0,.slice none 0 0,.int .i64 0,.map (some (lo 4))]|6=>v 6=.pointer (some ⟨lo 6,0,none⟩)/\lo 6<hi 6/\af W (lo 6) Ce 252|_=>True) (λW=>Below w.heap.size w W/\(W.cell? ⟨w.heap.size,0,none⟩=some (.slice a1 p1.head.length m1)/\W.cell? ⟨w.heap.size,1,none⟩=some (.int .i64 p1.frm)/\W.cell? ⟨w.heap.size,2,none⟩=some (.int .i64 p1.period)/\W.cell? ⟨w.heap.size,3,none⟩=some (.slice a2 p1.cycle.length m2))/\(W.cell? ⟨w.heap.size+1,0,none⟩=some (.slice a3 p2.head.length m3)/\W.cell? ⟨w.heap.size+1,1,none⟩=some (.int .i64 p2.frm)/\W.cell? ⟨w.heap.size+1,2,none⟩=some (.int .i64 p2.period)/\W.cell? ⟨w.heap.size+1,3,none⟩=some (.slice a4 p2.cycle.length m4))) (λW hb=>⟨by exact xE,⟨bF oS hb,bF sT hb,bF qX hb,bF ED hb⟩,bF hB0 hb,bF hB1 hb,bF hB2 hb,bF zu hb⟩) ?stab ?loc ?steps ?fin
 case stab=>
  refine ⟨?_,?_,?_,?_,?_,trivial⟩
  .intro v lo hi W W' h hb;exact (let ⟨x1,x2,e,hp⟩:=h;⟨x1,x2,e,hp.below hb⟩)
  .intro v lo hi W W' h hb;exact (let ⟨x1,x2,e,hp⟩:=h;⟨x1,x2,e,hp.below hb⟩)
  .intro v lo hi W W' h hb;exact ⟨h.1,h.2.1,Xm h.2.2 hb⟩
  .intro v lo hi W W' h hb;exact h
  intro v lo hi W W' h hb;exact ⟨h.1,h.2.1,h.2.2.below hb⟩
 case loc=>
  refine ⟨?_,?_,?_,?_,?_,trivial⟩
  .intro v v' lo lo' hi hi' W aC h;have q:=aC 1 (.inl rfl)
   (try dsimp only at h ⊢)
   simp only [q.1,q.2.1,q.2.2] at h;exact h
  .intro v v' lo lo' hi hi' W aC h;have q:=aC 3 (.inl rfl)
   (try dsimp only at h ⊢)
   simp only [q.1,q.2.1,q.2.2] at h;exact h
  .intro v v' lo lo' hi hi' W aC h;have q:=aC 4 (.inl rfl)
   (try dsimp only at h ⊢)
   simp only [q.1,q.2.1,q.2.2] at h;exact h
  .intro v v' lo lo' hi hi' W aC h;have q:=aC 5 (.inl rfl);have q1:=aC 1 (.inr (bI (by kernel_rfl)));have q3:=aC 3 (.inr (bI (by kernel_rfl)));have q4:=aC 4 (.inr (bI (by kernel_rfl)))
   (try dsimp only at h ⊢)
   simp only [q.1,q.2.1,q.2.2,q1.1,q1.2.1,q1.2.2,q3.1,q3.2.1,q3.2.2,q4.1,q4.2.1,q4.2.2] at h;exact h
  intro v v' lo lo' hi hi' W aC h;have q:=aC 6 (.inl rfl)
  (try dsimp only at h ⊢)
  simp only [q.1,q.2.1,q.2.2] at h;exact h
 case steps=>
  clear oS sT qX ED hB0 hB1 hB2 zu;refine .c [] [] rfl ?_ (.c [0] [] rfl ?_ (.c [] [] rfl ?_ (.c [2] [1] rfl ?_ (.c [] [] rfl ?_ (.c [] [1,3,4] rfl ?_ (.c [] [] rfl ?_ (.n)))))));all_goals try exact pj
  .rintro v lo hi W hb ⟨pO,⟨g0,g1,g2,g3⟩,k0,k1,k2,k3⟩ _;refine .inl ⟨rfl,λK hK=>?_⟩;simp only [ov,aD,Nat.reduceBEq,cond_true,cond_false];go_wp2_with (go_at_call 129;refine (Ee _ _ p1 qa _ (fA _ xE) qD.o aa aa mF.o).mono ?_;rintro e w3 ⟨x1,x2,rfl,mg,hb3⟩);exact aU (hK (an x1 x2 qa.frm qa.period) w3 hb3 ⟨x1,x2,rfl,mg.at⟩) (by simp [ov,aD,upd])
  .rintro v lo hi W hb ⟨pO,⟨g0,g1,g2,g3⟩,k0,k1,k2,k3⟩ ⟨⟨U7,Qy,D1⟩,_⟩;refine .inl ⟨rfl,λK hK=>?_⟩;simp only [ov,aD,Nat.reduceBEq,cond_true,cond_false]
   (try dsimp only at D1)
   go_wp2_with (go_at_call 129;refine (Ee _ _ p2 qb _ (hl2 _ xE) LR.o aa aa lT.o).mono ?_;rintro e w3 ⟨x1,x2,rfl,mg,hb3⟩)
   exact aU (hK (an x1 x2 qb.frm qb.period) w3 hb3 ⟨x1,x2,rfl,mg.at⟩) (by simp [ov,aD,upd])
  .rintro v lo hi W hb ⟨pO,⟨g0,g1,g2,g3⟩,k0,k1,k2,k3⟩ _;refine .inl ⟨rfl,λK hK=>?_⟩;simp only [ov,aD,Nat.reduceBEq,cond_true,cond_false];go_wp2;exact hK (.map (some W.heap.size)) _ (Ea (Er _) _) ⟨rfl,ag,World.alloc_heap_new _ _⟩
  .rintro v lo hi W hb ⟨pO,⟨g0,g1,g2,g3⟩,k0,k1,k2,k3⟩ ⟨⟨U7,Qy,D1⟩,⟨la3,lb3,D3⟩,⟨U8,U9,D4⟩,_⟩;refine .inl ⟨rfl,λK hK=>?_⟩;simp only [ov,aD,Nat.reduceBEq,cond_true,cond_false]
   (try dsimp only at D1 D3 D4)
   obtain ⟨x1,x2,e1,P1⟩:=D1;obtain ⟨x3,x4,e3,P3⟩:=D3;obtain ⟨e4,_⟩:=D4;obtain ⟨r1,s1,r2,s2,rfl,rfl⟩:=P1.inn.form;obtain ⟨r3,s3,r4,s4,rfl,rfl⟩:=P3.inn.form
   (try simp only [e1,e3,e4])
   go_wp2
   exact aU (hK (.agg #[.slice r1 qa.head.length s1,.int .i64 qa.frm,.int .i64 qa.period,.slice r2 qa.cycle.length s2,.slice r3 qb.head.length s3,.int .i64 qb.frm,.int .i64 qb.period,.slice r4 qb.cycle.length s4,.int .i64 0,.slice none 0 0,.slice none 0 0,.int .i64 0,.map (some (lo 4))]) W (Below.refl _ _) ⟨_,_,_,_,e1,e3,rfl⟩) (by simp [ov,aD,upd,e1,e3,e4])
  rintro v lo hi W hb ⟨pO,⟨g0,g1,g2,g3⟩,k0,k1,k2,k3⟩ _;refine .inl ⟨rfl,λK hK=>?_⟩;simp only [ov,aD,Nat.reduceBEq,cond_true,cond_false];go_wp2;exact hK (.pointer (some ⟨W.heap.size,0,none⟩)) _ (Ea (Er _) _) ⟨rfl,ag,af.new _ _ _⟩
 case fin=>
  rintro v lo hi W hb ⟨pO,_⟩ hf hap;show wpList _ _ _ [_] _ _;obtain ⟨l1,l1',l1'',x1,x2,e1,P1,hle1⟩:=hf 1 rfl;obtain ⟨l3,l3',l3'',x3,x4,e3,P3,hle3⟩:=hf 3 rfl;obtain ⟨l4,l4',l4'',e4,lt4,hm4⟩:=hf 4 rfl;obtain ⟨l6,l6',l6'',e6,QD,bD⟩:=hf 6 rfl;obtain ⟨y1,y2,y3,y4,mS,lh,e5⟩:=(hf 5 rfl).2.2.2;rw [e1] at mS;rw [e3] at lh;injection mS with mS;injection mS with mS;injection mS with q1 mS;injection mS with _ mS;injection mS with _ mS;injection mS with q2 _
  injection lh with lh;injection lh with lh;injection lh with q3 lh;injection lh with _ lh;injection lh with _ lh;injection lh with q4 _
  subst q1;subst q2;subst q3;subst q4;have d13:=hap 1 3 rfl rfl aa;have d14:=hap 1 4 rfl rfl aa;have d16:=hap 1 6 rfl rfl aa;have d34:=hap 3 4 rfl rfl aa;have d36:=hap 3 6 rfl rfl aa;have d46:=hap 4 6 rfl rfl aa;have rR:=dY.below hb;have hzW:=hb.size;clear hf hap oS sT qX ED hB0 hB1 hB2 zu dY;obtain ⟨r1,s1,r2,s2,rfl,rfl⟩:=P1.form;obtain ⟨r3,s3,r4,s4,rfl,rfl⟩:=P3.form;generalize lo 1=JS at *;generalize hi 1=od at *;generalize lo 3=JT at *;generalize hi 3=gP at *;generalize lo 4=mb at *;generalize hi 4=BX at *;generalize lo 6=pb at *;generalize hi 6=hi6 at *;dsimp only;rw [e1,e3,e4,e5,e6];generalize v 0=v0,v 2=v2;have c0:=bD.cells 0;have c1:=bD.cells 1;have c2:=bD.cells 2;have c3:=bD.cells 3;have c4:=bD.cells 4;have c5:=bD.cells 5;have c6:=bD.cells 6;have c7:=bD.cells 7;have c8:=bD.cells 8;have c9:=bD.cells 9;have c10:=bD.cells 10;have c11:=bD.cells 11;have c12:=bD.cells 12;clear e1 e3 e4 e5 e6;obtain ⟨st,hst⟩:∃ st,st=max (max qa.frm qb.frm) day:=⟨_,rfl⟩;have mG:=ad hst;have hs0:qa.frm<=st/\qb.frm<=st/\day<=st/\st<=562949953421312:=aa;obtain ⟨hs1,hs2,hs3,hs4⟩:=hs0;have nH:Hid (st<=qa.frm\/st<=qb.frm\/st<=day):=ad aa;clear hst;go_upto_region 2 with (fail)
  refine iR (F:=λW2=>af W2 pb #[.slice r1 qa.head.length s1,.int .i64 qa.frm,.int .i64 qa.period,.slice r2 qa.cycle.length s2,.slice r3 qb.head.length s3,.int .i64 qb.frm,.int .i64 qb.period,.slice r4 qb.cycle.length s4,.int .i64 0,.slice none 0 0,.slice none 0 0,.int .i64 0,.map (some mb)] 252/\af W2 (w.heap.size+2) Ce 252/\cU W2 JS od (.slice r1 qa.head.length s1) (.slice r2 qa.cycle.length s2) qa/\cU W2 JT gP (.slice r3 qb.head.length s3) (.slice r4 qb.cycle.length s4) qb/\W2.heap[mb]? = some (.map #[] 0)/\Below w.heap.size w W2/\W.heap.size<=W2.heap.size)
   ⟨X0 bD,by (repeat' (with_reducible first|assumption|refine af.setNe ?_ _ ?_|omega)),by (repeat' (with_reducible first|assumption|refine cU.alloc ?_ _ ?_|refine cU.drew ?_|refine cU.drewN ?_ _|refine cU.set ?_ _ ?_|refine cU.below ?_ (by assumption) ?_|omega|(simp;done)|(simp;omega))),by (repeat' (with_reducible first|assumption|refine cU.alloc ?_ _ ?_|refine cU.drew ?_|refine cU.drewN ?_ _|refine cU.set ?_ _ ?_|refine cU.below ?_ (by assumption) ?_|omega|(simp;done)|(simp;omega))),by (repeat' (with_reducible first|assumption|refine Fs ?_ ?_|omega)),by exact xE,ag⟩ ?_
  rintro W2 ⟨hbx,eP,q_,re,gQ,cz,hzz⟩;have c1:=(hbx.cells 1).1;have c5:=(hbx.cells 5).1;have c8:=(hbx.cells 8);obtain ⟨QQ,Ta⟩:∃ QQ:Exit->Act->World->Prop,QQ=(λe a' W'=>e=.normal/\∃ (u16 u17 u18 u19 u20 u21 u22 u23 u24:Value),a'=⟨#[an (.slice a1 p1.head.length m1) (.slice a2 p1.cycle.length m2) p1.frm p1.period,an (.slice a3 p2.head.length m3) (.slice a4 p2.cycle.length m4) p2.frm p2.period,.int .i64 day,.pointer (some ⟨w.heap.size,0,none⟩),.pointer (some ⟨w.heap.size+1,0,none⟩),undef,.pointer (some ⟨w.heap.size+1+1,0,none⟩),.pointer (some ⟨pb,0,none⟩),undef,undef,v0,an (.slice r1 qa.head.length s1) (.slice r2 qa.cycle.length s2) qa.frm qa.period,v2,an (.slice r3 qb.head.length s3) (.slice r4 qb.cycle.length s4) qb.frm qb.period,.map (some mb),.agg #[.slice r1 qa.head.length s1,.int .i64 qa.frm,.int .i64 qa.period,.slice r2 qa.cycle.length s2,.slice r3 qb.head.length s3,.int .i64 qb.frm,.int .i64 qb.period,.slice r4 qb.cycle.length s4,.int .i64 0,.slice none 0 0,.slice none 0 0,.int .i64 0,.map (some mb)],u16,u17,u18,u19,u20,u21,u22,u23,u24,undef,undef,undef,undef,undef,undef,undef,undef,undef,undef,undef,undef,undef,undef,undef,undef,undef,undef,undef,undef,undef,undef,undef,undef,undef,undef,undef,undef,undef,undef,undef,undef,undef,undef,undef,undef,undef,undef,undef,undef,undef,undef,undef,undef,undef,undef,undef],[]⟩/\W'=W2.setCell ⟨pb,8,none⟩ (.int .i64 st)):=⟨_,rfl⟩;have Dz:=ad Ta;clear Ta;refine Code.wp_mono (Q:=QQ) ?imp ?reg
  case reg=>
   clear bD P1 P3 hm4 rR;go_wp2_with fail;all_goals first
    | (
     obtain rfl:st=qa.frm:=by have:=nH.o;omega
     rw [Dz.o];exact ⟨rfl,_,_,_,_,_,_,_,_,_,rfl,rfl⟩)
    | (
     obtain rfl:st=qb.frm:=by have:=nH.o;omega
     rw [Dz.o];exact ⟨rfl,_,_,_,_,_,_,_,_,_,rfl,rfl⟩)
    | (
     obtain rfl:st=day:=by have:=nH.o;omega
     rw [Dz.o];exact ⟨rfl,_,_,_,_,_,_,_,_,_,rfl,rfl⟩)
  case imp=>
   intro e a' W3 hq;rw [Dz.o] at hq;obtain ⟨rfl,u16,u17,u18,u19,u20,u21,u22,u23,u24,rfl,rfl⟩:=hq;go_wp2_with fail;refine iR (F:=λW3=>af W3 pb #[.slice r1 qa.head.length s1,.int .i64 qa.frm,.int .i64 qa.period,.slice r2 qa.cycle.length s2,.slice r3 qb.head.length s3,.int .i64 qb.frm,.int .i64 qb.period,.slice r4 qb.cycle.length s4,.int .i64 st,.slice none 0 0,.slice none 0 0,.int .i64 0,.map (some mb)] 252/\af W3 (w.heap.size+2) Ce 252/\cU W3 JS od (.slice r1 qa.head.length s1) (.slice r2 qa.cycle.length s2) qa/\cU W3 JT gP (.slice r3 qb.head.length s3) (.slice r4 qb.cycle.length s4) qb/\W3.heap[mb]? = some (.map #[] 0)/\Below w.heap.size w W3/\W.heap.size<=W3.heap.size)
    ⟨Mk hbx,eP.setNe _ aa,q_.set _ aa,re.set _ aa,Fs gQ aa,by exact xE,by simpa using hzz⟩ ?_
   clear c1 c5 c8 hbx eP q_ re gQ cz hzz Dz QQ bD P1 P3 hm4 rR;rintro W3 ⟨hbx,eP,q_,re,gQ,wK,hzz⟩;have oS:W3.cell? ⟨pb,0,none⟩=some (.slice r1 qa.head.length s1):=(hbx.cells 0).1;have sT:W3.cell? ⟨pb,1,none⟩=some (.int .i64 qa.frm):=(hbx.cells 1).1;have qX:W3.cell? ⟨pb,2,none⟩=some (.int .i64 qa.period):=(hbx.cells 2).1;have ED:W3.cell? ⟨pb,3,none⟩=some (.slice r2 qa.cycle.length s2):=(hbx.cells 3).1;have hB0:W3.cell? ⟨pb,4,none⟩=some (.slice r3 qb.head.length s3):=(hbx.cells 4).1;have hB1:W3.cell? ⟨pb,5,none⟩=some (.int .i64 qb.frm):=(hbx.cells 5).1;have hB2:W3.cell? ⟨pb,6,none⟩=some (.int .i64 qb.period):=(hbx.cells 6).1;have zu:W3.cell? ⟨pb,7,none⟩=some (.slice r4 qb.cycle.length s4):=(hbx.cells 7).1;have ZY:W3.cell? ⟨pb,8,none⟩=some (.int .i64 st):=(hbx.cells 8).1;have hpbl:=hbx.lt;have tP:=ad q_;have oE:=ad re;clear q_ re;have hfld:=tg_;have ZZ:W3.cell? ⟨pb,9,none⟩=some (.slice none 0 0):=(hbx.cells 9).1;have Z4:W3.frozen? ⟨pb,9,none⟩=false:=(hbx.cells 9).2;have uE:W3.cell? ⟨pb,10,none⟩=some (.slice none 0 0):=(hbx.cells 10).1;have NL:W3.frozen? ⟨pb,10,none⟩=false:=(hbx.cells 10).2;go_region_held3 (λw'=>w'.cell? ⟨pb,0,none⟩=some (.slice r1 qa.head.length s1)/\w'.cell? ⟨pb,1,none⟩=some (.int .i64 qa.frm)/\w'.cell? ⟨pb,2,none⟩=some (.int .i64 qa.period)/\w'.cell? ⟨pb,3,none⟩=some (.slice r2 qa.cycle.length s2)/\w'.cell? ⟨pb,4,none⟩=some (.slice r3 qb.head.length s3)/\w'.cell? ⟨pb,5,none⟩=some (.int .i64 qb.frm)/\w'.cell? ⟨pb,6,none⟩=some (.int .i64 qb.period)/\w'.cell? ⟨pb,7,none⟩=some (.slice r4 qb.cycle.length s4)/\w'.cell? ⟨pb,8,none⟩=some (.int .i64 st)) ((go_split_ands;repeat' (with_reducible first|assumption|refine od_ ?_ ?_ _|refine Bq ?_ ?_ _|refine fy ?_ _|refine Bv ?_|exact al.cell (by assumption) (by assumption)|apply And.intro|(exact Below.cell' (by assumption) (by assumption) (by first|(simp;done)|(simp;omega)|omega))|(refine Below.cell' (by assumption) ?_ (by first|(simp;done)|(simp;omega)|omega))|omega|(simp;done)|(simp;omega))))
    ((go_at_call 181;first|((with_reducible refine (PY _ _ qa st _ (tP.o.is.ext xE) mF.o.wf aa aa aa aa).mono ?_);rintro e w5 ⟨z1,z2,Tt,oY,hb5,_⟩;obtain ⟨Xr,Xs,se,si,rfl,rfl⟩:=oY.form;have OB:e=.returned (.agg #[.slice Xr (bE qa st).head.length Xs,.int .i64 (bE qa st).frm,.int .i64 (bE qa st).period,.slice se (bE qa st).cycle.length si]):=Tt;clear Tt;subst OB;obtain ⟨hc5,FA⟩:=fJ hb5;(try simp only [World.size_alloc,World.size_drew,fE,World.size_setCell] at hc5 FA);have nx:=hb5.size;(try simp only [World.size_alloc,World.size_drew,fE,World.size_setCell] at nx);have hz5':pb<w5.heap.size:=aa)|((with_reducible refine (PY _ _ qb st _ (oE.o.is.ext xE) lT.o.wf aa aa aa aa).mono ?_);rintro e w6 ⟨z3,z4,Tu,An,uQ,_⟩;obtain ⟨Xt,Xu,sj,ou,rfl,rfl⟩:=An.form;have OC:e=.returned (.agg #[.slice Xt (bE qb st).head.length Xu,.int .i64 (bE qb st).frm,.int .i64 (bE qb st).period,.slice sj (bE qb st).cycle.length ou]):=Tu;clear Tu;subst OC;obtain ⟨Tm,Tw⟩:=fJ uQ;(try simp only [World.size_alloc,World.size_drew,fE,World.size_setCell] at Tm Tw);have AM:=uQ.size;(try simp only [World.size_alloc,World.size_drew,fE,World.size_setCell] at AM);have hz6':pb<w6.heap.size:=aa)))
   have IP:Below W3.heap.size W3 w5:=by exact xE
   have BQ:Below W3.heap.size W3 w6:=by exact xE
   have Ca:=oY.cy.inn.below uQ (Nat.le_refl _);have T4:=An.cy.inn;have vm:=tP.o.below BQ aa;have TL:=oE.o.below BQ aa;refine Xx (F:=λW4=>af W4 pb #[.slice r1 qa.head.length s1,.int .i64 qa.frm,.int .i64 qa.period,.slice r2 qa.cycle.length s2,.slice r3 qb.head.length s3,.int .i64 qb.frm,.int .i64 qb.period,.slice r4 qb.cycle.length s4,.int .i64 st,.slice se (bE qa st).cycle.length si,.slice sj (bE qb st).cycle.length ou,.int .i64 0,.map (some mb)] 252/\af W4 (w.heap.size+2) Ce 252/\cU W4 JS od (.slice r1 qa.head.length s1) (.slice r2 qa.cycle.length s2) qa/\cU W4 JT gP (.slice r3 qb.head.length s3) (.slice r4 qb.cycle.length s4) qb/\IntsIn W4 W3.heap.size W4.heap.size (.slice se (bE qa st).cycle.length si) (bE qa st).cycle/\IntsIn W4 W3.heap.size W4.heap.size (.slice sj (bE qb st).cycle.length ou) (bE qb st).cycle/\W4.heap[mb]? = some (.map #[] 0)/\Below w.heap.size w W4/\W.heap.size<=W4.heap.size)
    ⟨y4_ (Ml (hbx.below BQ)),((eP.below BQ).setNe _ aa).setNe _ aa,(vm.set _ aa).set _ aa,(TL.set _ aa).set _ aa,((Ca.mono ag aO).set _ aa).set _ aa,((T4.mono aa ag).set _ aa).set _ aa,Fs (Fs (Xm gQ BQ) aa) aa,by exact xE,aO⟩ ?_
   clear Ca T4 vm TL IP BQ hb5 uQ oY An hc5 FA Tm Tw oS sT qX ED hB0 hB1 hB2 zu ZY ZZ Z4 uE NL hbx eP gQ tP oE;rintro W4 ⟨hbx,eP,q_,re,E8,rh,gQ,hE4,hzz4⟩;have qX:W4.cell? ⟨pb,2,none⟩=some (.int .i64 qa.period):=(hbx.cells 2).1;have hB2:W4.cell? ⟨pb,6,none⟩=some (.int .i64 qb.period):=(hbx.cells 6).1;have NG:W4.cell? ⟨pb,11,none⟩=some (.int .i64 0):=(hbx.cells 11).1;have uE:W4.cell? ⟨pb,10,none⟩=some (.slice sj (bE qb st).cycle.length ou):=(hbx.cells 10).1;have NM:W4.frozen? ⟨pb,11,none⟩=false:=(hbx.cells 11).2;go_wp2_with fail
   go_at_call 176
   refine (zf _ _ _ (by have:=mF.o.wf.per;omega) aa (by have:=lT.o.wf.per;omega) aa).mono ?_;rintro e w7 ⟨rfl,n,rfl⟩;go_wp2_with fail;refine iR (F:=λW5=>af W5 pb #[.slice r1 qa.head.length s1,.int .i64 qa.frm,.int .i64 qa.period,.slice r2 qa.cycle.length s2,.slice r3 qb.head.length s3,.int .i64 qb.frm,.int .i64 qb.period,.slice r4 qb.cycle.length s4,.int .i64 st,.slice se (bE qa st).cycle.length si,.slice sj (bE qb st).cycle.length ou,.int .i64 (Int.gcd qa.period qb.period:Nat),.map (some mb)] 252/\af W5 (w.heap.size+2) Ce 252/\cU W5 JS od (.slice r1 qa.head.length s1) (.slice r2 qa.cycle.length s2) qa/\cU W5 JT gP (.slice r3 qb.head.length s3) (.slice r4 qb.cycle.length s4) qb/\IntsIn W5 W3.heap.size W4.heap.size (.slice se (bE qa st).cycle.length si) (bE qa st).cycle/\IntsIn W5 W3.heap.size W4.heap.size (.slice sj (bE qb st).cycle.length ou) (bE qb st).cycle/\W5.heap[mb]? = some (.map #[] 0)/\Below w.heap.size w W5/\W4.heap.size<=W5.heap.size)
    ⟨y5_ hbx,eP.setNe _ aa,(q_.drewN _).set _ aa,(re.drewN _).set _ aa,(E8.drewN _).set _ aa,(rh.drewN _).set _ aa,Fs gQ aa,by exact xE,ag⟩ ?_
   clear qX hB2 uE NG NM hbx eP q_ re E8 rh gQ;rintro W5 ⟨hbx,eP,q_,re,E8,rh,gQ,BL,hzz5⟩;have hGa:=nL (b:=qb.period) AU;have hGb:=wi (a:=qa.period) AV;generalize hG:((Int.gcd qa.period qb.period:Nat):Int)=G at *;have HG:=ad hG;clear hG;generalize vF:(bE qb st).cycle=ys at *;have L6:=ad vF;clear vF;have wZ:mb<W5.heap.size:=(Array.getElem?_eq_some_iff.1 gQ).1;have Pe:pb<W5.heap.size:=hbx.lt;have uE:W5.cell? ⟨pb,10,none⟩=some (.slice sj ys.length ou):=(hbx.cells 10).1;have hmbW:mb<W3.heap.size:=aa;have T6:ys.length<=17592186044416:=rh.ints.len;have eV:W5.ownsGroups Tryz.prog 3 W5.heap.size 3 .i64 mb 0 (.map []:DataW Unit):=⟨#[],0,gQ,⟨ag,MapKept.stamped_empty 0,ag⟩,Nat.le_refl _,rfl,wZ,ag,ag⟩;have tX:=ad rh;have cw:=ad hbx;have Dj:=ad eV;have Hf:=ad eP;have tP:=ad q_;have oE:=ad re;have Zu:=ad E8;clear rh hbx eV gQ eP q_ re E8;go_wp2;go_loopw [50] (λi wr=>∃ (k n:Nat) (D:DataW Unit),k<=ys.length/\n<=k/\i=.int .i64 k/\wr.ownsGroups Tryz.prog 3 W5.heap.size 3 .i64 mb n D/\qS D G (ys.take k)/\W5.grownBy wr (some mb)) (λi _=>ys.length-(intOf i).toNat)
   .exact ⟨0,0,.map [],aa,aa,rfl,Dj.o,qS.nil G,World.grownBy.refl _ _⟩
   obtain ⟨k,n,D,hk,hn,rfl,hown,kO,hgr⟩:=hrel;have hbx:af wr pb _ _:=(hgr.block pb Pe aO).trans cw.o;have rh:=tX.o.of_blocks (w':=wr) λj h1 h2=>hgr.block j aa aO;by_cases hlt:k<ys.length
   .have ND:wr.cell? ⟨pb,12,none⟩=some (.map (some mb)):=(hbx.cells 12).1;have NC:wr.cell? ⟨pb,11,none⟩=some (.int .i64 G):=(hbx.cells 11).1;have Cc:=rh.ints.rng (ys.getD k 0) (kH hlt);obtain ⟨⟨⟨a8,c8,jM,_,_,dA⟩,_,_⟩,_⟩:=rh;injection jM with cI eB dk
    subst cI;subst dk;rcases dA with dA|⟨b8,f8,rfl,hcell⟩
    .rw [dA] at hlt;simp at hlt
    have hcl:=hcell k hlt;have fM:(k:Int)<ys.length:=aa;obtain ⟨y,hy⟩:∃ y,y=ys.getD k 0:=⟨_,rfl⟩;rw [<- hy] at hcl Cc;have xz:0<=y:=by
     have:=(PX lT.o.wf (day:=st) aa).1.cyc.2 y (by rw [L6.o,hy];exact kH hlt);exact this.1
    have hm0:=Int.emod_nonneg y (show G≠0 by omega);have hm1:=Int.emod_lt_of_pos y (show 0<G by omega);obtain ⟨rv,zs,hlk,hat,ho,hzl,hback⟩:=PU hown aa (r:=y % G) ⟨aa,aa⟩;have hz:=kO.got hat ho;have kh:∀ j,rv.ownBlock=some j->W5.heap.size<=j/\j<wr.heap.size:=λj hj=>ho.1.lt j hj;have rQ:some pb≠rv.ownBlock:=λe=>by have:=kh pb e.symm;omega
    have Ag:some mb≠rv.ownBlock:=λe=>by have:=kh mb e.symm;omega
    have hO:ak wr W5.heap.size rv zs:=⟨ho.1,λx hx=>X1 (ho.2 x hx),aa⟩;have FW:mb<wr.heap.size:=by have:=hgr.size;omega
    have TZ:=hgr.size;have Gs:zs.length+1<=17592186044416:=aa;have HO:=ad hO;have Cy:=ad hback;have HHO:=ad ho;have HZ:=ad hz;have Lu:=ad kO;have CB:=ad hbx;have A6:=ad hgr;have HY:=ad hy;clear hO hback ho hz kO hbx hgr hat hown hcell hy;go_wp2_with fail;refine Ni (w0:=wr) (rv.ownBlock) 15 [0,1,2,3,4,5,6,7,8,9,10,11,12,13,14,15] [16] (λv=>⟨#[an (.slice a1 p1.head.length m1) (.slice a2 p1.cycle.length m2) p1.frm p1.period,an (.slice a3 p2.head.length m3) (.slice a4 p2.cycle.length m4) p2.frm p2.period,.int .i64 day,.pointer (some ⟨w.heap.size,0,none⟩),.pointer (some ⟨w.heap.size+1,0,none⟩),undef,.pointer (some ⟨w.heap.size+1+1,0,none⟩),.pointer (some ⟨pb,0,none⟩),undef,.int .i64 y,v0,an (.slice r1 qa.head.length s1) (.slice r2 qa.cycle.length s2) qa.frm qa.period,v2,an (.slice r3 qb.head.length s3) (.slice r4 qb.cycle.length s4) qb.frm qb.period,.map (some mb),.agg #[.slice r1 qa.head.length s1,.int .i64 qa.frm,.int .i64 qa.period,.slice r2 qa.cycle.length s2,.slice r3 qb.head.length s3,.int .i64 qb.frm,.int .i64 qb.period,.slice r4 qb.cycle.length s4,.int .i64 0,.slice none 0 0,.slice none 0 0,.int .i64 0,.map (some mb)],u16,u17,u18,u19,u20,u21,u22,u23,u24,.pointer (some ⟨pb,0,none⟩),.agg #[.slice r1 qa.head.length s1,.int .i64 qa.frm,.int .i64 qa.period,.slice r2 qa.cycle.length s2],.pointer (some ⟨pb,8,none⟩),.int .i64 st,.agg #[.slice Xr (bE qa st).head.length Xs,.int .i64 (bE qa st).frm,.int .i64 (bE qa st).period,.slice se (bE qa st).cycle.length si],.slice se (bE qa st).cycle.length si,.pointer (some ⟨pb,4,none⟩),.agg #[.slice r3 qb.head.length s3,.int .i64 qb.frm,.int .i64 qb.period,.slice r4 qb.cycle.length s4],.pointer (some ⟨pb,8,none⟩),.int .i64 st,.agg #[.slice Xt (bE qb st).head.length Xu,.int .i64 (bE qb st).frm,.int .i64 (bE qb st).period,.slice (some ⟨b8,f8,none⟩) ys.length ou],.slice (some ⟨b8,f8,none⟩) ys.length ou,.pointer (some ⟨pb,9,none⟩),.pointer (some ⟨pb,10,none⟩),.pointer (some ⟨pb,0,none⟩),.pointer (some ⟨pb,2,none⟩),.int .i64 qa.period,.pointer (some ⟨pb,4,none⟩),.pointer (some ⟨pb,6,none⟩),.int .i64 qb.period,.int .i64 G,.pointer (some ⟨pb,11,none⟩),.pointer (some ⟨pb,10,none⟩),.slice (some ⟨b8,f8,none⟩) ys.length ou,.int .i64 ↑ys.length,.int .i64 ↑k,.bool true,.pointer (some ⟨b8,f8+k,none⟩),.int .i64 y,v 0,v 1,v 2,v 3,v 4,v 5,v 6,v 7,v 8,v 9,v 10,v 11,v 12,v 13,v 14,v 15,u70,undef],[]⟩) (λj=>match j with|0=>u54|1=>u55|2=>u56|3=>u57|4=>u58|5=>u59|6=>u60|7=>u61|8=>u62|9=>u63|10=>u64|11=>u65|12=>u66|13=>u67|14=>u68|15=>u69|_=>undef)
     (λi v lo hi W=>match i with
      | 0=>v 0=.pointer (some ⟨pb,12,none⟩)
      | 1=>v 1=.map (some mb)
      | 2=>v 2=.int .i64 y
      | 3=>v 3=.pointer (some ⟨pb,11,none⟩)
      | 4=>v 4=.int .i64 G
      | 5=>v 5=.int .i64 (y % G)
      | 6=>v 6=.pointer (some ⟨pb,12,none⟩)
      | 7=>v 7=.map (some mb)
      | 8=>v 8=.int .i64 y
      | 9=>v 9=.pointer (some ⟨pb,11,none⟩)
      | 10=>v 10=.int .i64 G
      | 11=>v 11=.int .i64 (y % G)
      | 12=>v 12=rv
      | 13=>v 13=.int .i64 y
      | 14=>v 14=.slice (some ⟨lo 14,0,none⟩) 1 1/\lo 14<hi 14/\wr.heap.size<=lo 14/\hi 14<=W.heap.size/\af W (lo 14) #[.int .i64 y] 3
      | 15=>∃ g cap,v 15=.slice (some ⟨g,0,none⟩) (zs.length+1) cap/\ak W W5.heap.size (v 15) (zs ++ [y])/\(rv.ownBlock=some g\/wr.heap.size<=g)
      | _=>True)
     (λW=>W.cell? ⟨pb,12,none⟩=some (.map (some mb))/\W.cell? ⟨pb,11,none⟩=some (.int .i64 G)/\W.heap[mb]? = wr.heap[mb]?) rfl (by kernel_rfl) aF rfl ?stab ?loc (λW hb=>⟨hb.cell ND rQ,hb.cell NC rQ,hb.block mb FW Ag⟩) ?steps ?fin
    case stab=>
     rintro (_|_|_|_|_|_|_|_|_|_|_|_|_|_|_|_|i) v lo hi W W' h hb
     .exact h
     .exact h
     .exact h
     .exact h
     .exact h
     .exact h
     .exact h
     .exact h
     .exact h
     .exact h
     .exact h
     .exact h
     .exact h
     .exact h
     .rw [if_neg aF] at hb;exact ⟨h.1,h.2.1,h.2.2.1,Nat.le_trans h.2.2.2.1 hb.size,(hb.block (lo 14) (by have:=h.2.1;have:=h.2.2.2.1;omega) (λe=>by have:=kh _ e.symm;have:=h.2.2.1;omega)).trans h.2.2.2.2⟩
     .rw [if_pos rfl] at hb;exact (let ⟨g,cap,e,ho,hl⟩:=h;⟨g,cap,e,ho.ext hb,hl⟩)
     trivial
    case loc=>
     rintro (_|_|_|_|_|_|_|_|_|_|_|_|_|_|_|_|i) v v' lo lo' hi hi' W aC h
     .have q:=aC 0 (.inl rfl)
      (try dsimp only at h ⊢);(try simp only [q.1,q.2.1,q.2.2] at h);exact h
     .have q:=aC 1 (.inl rfl);have q0:=aC 0 (.inr (bI (by kernel_rfl)))
      (try dsimp only at h ⊢);(try simp only [q.1,q.2.1,q.2.2,q0.1,q0.2.1,q0.2.2] at h);exact h
     .have q:=aC 2 (.inl rfl)
      (try dsimp only at h ⊢);(try simp only [q.1,q.2.1,q.2.2] at h);exact h
     .have q:=aC 3 (.inl rfl)
      (try dsimp only at h ⊢);(try simp only [q.1,q.2.1,q.2.2] at h);exact h
     .have q:=aC 4 (.inl rfl);have q3:=aC 3 (.inr (bI (by kernel_rfl)))
      (try dsimp only at h ⊢);(try simp only [q.1,q.2.1,q.2.2,q3.1,q3.2.1,q3.2.2] at h);exact h
     .have q:=aC 5 (.inl rfl);have q2:=aC 2 (.inr (bI (by kernel_rfl)));have q4:=aC 4 (.inr (bI (by kernel_rfl)))
      (try dsimp only at h ⊢);(try simp only [q.1,q.2.1,q.2.2,q2.1,q2.2.1,q2.2.2,q4.1,q4.2.1,q4.2.2] at h);exact h
     .have q:=aC 6 (.inl rfl)
      (try dsimp only at h ⊢);(try simp only [q.1,q.2.1,q.2.2] at h);exact h
     .have q:=aC 7 (.inl rfl);have q6:=aC 6 (.inr (bI (by kernel_rfl)))
      (try dsimp only at h ⊢);(try simp only [q.1,q.2.1,q.2.2,q6.1,q6.2.1,q6.2.2] at h);exact h
     .have q:=aC 8 (.inl rfl)
      (try dsimp only at h ⊢);(try simp only [q.1,q.2.1,q.2.2] at h);exact h
     .have q:=aC 9 (.inl rfl)
      (try dsimp only at h ⊢);(try simp only [q.1,q.2.1,q.2.2] at h);exact h
     .have q:=aC 10 (.inl rfl);have q9:=aC 9 (.inr (bI (by kernel_rfl)))
      (try dsimp only at h ⊢);(try simp only [q.1,q.2.1,q.2.2,q9.1,q9.2.1,q9.2.2] at h);exact h
     .have q:=aC 11 (.inl rfl);have q8:=aC 8 (.inr (bI (by kernel_rfl)));have pX:=aC 10 (.inr (bI (by kernel_rfl)))
      (try dsimp only at h ⊢);(try simp only [q.1,q.2.1,q.2.2,q8.1,q8.2.1,q8.2.2,pX.1,pX.2.1,pX.2.2] at h);exact h
     .have q:=aC 12 (.inl rfl);have q7:=aC 7 (.inr (bI (by kernel_rfl)));have nz:=aC 11 (.inr (bI (by kernel_rfl)))
      (try dsimp only at h ⊢);(try simp only [q.1,q.2.1,q.2.2,q7.1,q7.2.1,q7.2.2,nz.1,nz.2.1,nz.2.2] at h);exact h
     .have q:=aC 13 (.inl rfl)
      (try dsimp only at h ⊢);(try simp only [q.1,q.2.1,q.2.2] at h);exact h
     .have q:=aC 14 (.inl rfl);have pY:=aC 13 (.inr (bI (by kernel_rfl)))
      (try dsimp only at h ⊢);(try simp only [q.1,q.2.1,q.2.2,pY.1,pY.2.1,pY.2.2] at h);exact h
     .have q:=aC 15 (.inl rfl);have th:=aC 12 (.inr (bI (by kernel_rfl)));have QZ:=aC 14 (.inr (bI (by kernel_rfl)))
      (try dsimp only at h ⊢);(try simp only [q.1,q.2.1,q.2.2,th.1,th.2.1,th.2.2,QZ.1,QZ.2.1,QZ.2.2] at h);exact h
     trivial
    case steps=>
     refine cg.cons rfl ?_ (cg.cons rfl ?_ (cg.cons rfl ?_ (cg.cons rfl ?_ (cg.cons rfl ?_ (cg.cons rfl ?_ (cg.cons rfl ?_ (cg.cons rfl ?_ (cg.cons rfl ?_ (cg.cons rfl ?_ (cg.cons rfl ?_ (cg.cons rfl ?_ (cg.cons rfl ?_ (cg.cons rfl ?_ (cg.cons rfl ?_ (cg.cons rfl ?_ cg.nil)))))))))))))))
     .rintro v lo hi W hb aW ⟨g12,g11,lj⟩ hd K hK;replace hK:=λx W' (h:Below W.heap.size W W')=>hK x W' (by rw [if_neg aF];exact h);clear aW;clear hd;dsimp only;go_wp2;exact aU (hK (.pointer (some ⟨pb,12,none⟩)) W (Below.refl _ _) rfl) ag
     .rintro v lo hi W hb aW ⟨g12,g11,lj⟩ hd K hK;replace hK:=λx W' (h:Below W.heap.size W W')=>hK x W' (by rw [if_neg aF];exact h);clear aW;have e0:v 0=.pointer (some ⟨pb,12,none⟩):=(hd 0 (bI (by kernel_rfl))).2.2;clear hd;dsimp only
      (try simp only [e0])
      go_wp2
      exact aU (hK (.map (some mb)) W (Below.refl _ _) rfl) (by simp [e0])
     .rintro v lo hi W hb aW ⟨g12,g11,lj⟩ hd K hK;replace hK:=λx W' (h:Below W.heap.size W W')=>hK x W' (by rw [if_neg aF];exact h);clear aW;clear hd;dsimp only;go_wp2;exact aU (hK (.int .i64 y) W (Below.refl _ _) rfl) ag
     .rintro v lo hi W hb aW ⟨g12,g11,lj⟩ hd K hK;replace hK:=λx W' (h:Below W.heap.size W W')=>hK x W' (by rw [if_neg aF];exact h);clear aW;clear hd;dsimp only;go_wp2;exact aU (hK (.pointer (some ⟨pb,11,none⟩)) W (Below.refl _ _) rfl) ag
     .rintro v lo hi W hb aW ⟨g12,g11,lj⟩ hd K hK;replace hK:=λx W' (h:Below W.heap.size W W')=>hK x W' (by rw [if_neg aF];exact h);clear aW;have e3:v 3=.pointer (some ⟨pb,11,none⟩):=(hd 3 (bI (by kernel_rfl))).2.2;clear hd;dsimp only
      (try simp only [e3])
      go_wp2
      exact aU (hK (.int .i64 G) W (Below.refl _ _) rfl) (by simp [e3])
     .rintro v lo hi W hb aW ⟨g12,g11,lj⟩ hd K hK;replace hK:=λx W' (h:Below W.heap.size W W')=>hK x W' (by rw [if_neg aF];exact h);clear aW;have e2:v 2=.int .i64 y:=(hd 2 (bI (by kernel_rfl))).2.2;have e4:v 4=.int .i64 G:=(hd 4 (bI (by kernel_rfl))).2.2;clear hd;dsimp only
      (try simp only [e2,e4])
      go_wp2
      exact aU (hK (.int .i64 (y % G)) W (Below.refl _ _) rfl) (by simp [e2,e4])
     .rintro v lo hi W hb aW ⟨g12,g11,lj⟩ hd K hK;replace hK:=λx W' (h:Below W.heap.size W W')=>hK x W' (by rw [if_neg aF];exact h);clear aW;clear hd;dsimp only;go_wp2;exact aU (hK (.pointer (some ⟨pb,12,none⟩)) W (Below.refl _ _) rfl) ag
     .rintro v lo hi W hb aW ⟨g12,g11,lj⟩ hd K hK;replace hK:=λx W' (h:Below W.heap.size W W')=>hK x W' (by rw [if_neg aF];exact h);clear aW;have e6:v 6=.pointer (some ⟨pb,12,none⟩):=(hd 6 (bI (by kernel_rfl))).2.2;clear hd;dsimp only
      (try simp only [e6])
      go_wp2
      exact aU (hK (.map (some mb)) W (Below.refl _ _) rfl) (by simp [e6])
     .rintro v lo hi W hb aW ⟨g12,g11,lj⟩ hd K hK;replace hK:=λx W' (h:Below W.heap.size W W')=>hK x W' (by rw [if_neg aF];exact h);clear aW;clear hd;dsimp only;go_wp2;exact aU (hK (.int .i64 y) W (Below.refl _ _) rfl) ag
     .rintro v lo hi W hb aW ⟨g12,g11,lj⟩ hd K hK;replace hK:=λx W' (h:Below W.heap.size W W')=>hK x W' (by rw [if_neg aF];exact h);clear aW;clear hd;dsimp only;go_wp2;exact aU (hK (.pointer (some ⟨pb,11,none⟩)) W (Below.refl _ _) rfl) ag
     .rintro v lo hi W hb aW ⟨g12,g11,lj⟩ hd K hK;replace hK:=λx W' (h:Below W.heap.size W W')=>hK x W' (by rw [if_neg aF];exact h);clear aW;have e9:v 9=.pointer (some ⟨pb,11,none⟩):=(hd 9 (bI (by kernel_rfl))).2.2;clear hd;dsimp only
      (try simp only [e9])
      go_wp2
      exact aU (hK (.int .i64 G) W (Below.refl _ _) rfl) (by simp [e9])
     .rintro v lo hi W hb aW ⟨g12,g11,lj⟩ hd K hK;replace hK:=λx W' (h:Below W.heap.size W W')=>hK x W' (by rw [if_neg aF];exact h);clear aW;have e8:v 8=.int .i64 y:=(hd 8 (bI (by kernel_rfl))).2.2;have h_:v 10=.int .i64 G:=(hd 10 (bI (by kernel_rfl))).2.2;clear hd;dsimp only
      (try simp only [e8,h_])
      go_wp2
      exact aU (hK (.int .i64 (y % G)) W (Below.refl _ _) rfl) (by simp [e8,h_])
     .rintro v lo hi W hb aW ⟨g12,g11,lj⟩ hd K hK;replace hK:=λx W' (h:Below W.heap.size W W')=>hK x W' (by rw [if_neg aF];exact h);clear aW;have e7:v 7=.map (some mb):=(hd 7 (bI (by kernel_rfl))).2.2;have e11:v 11=.int .i64 (y % G):=(hd 11 (bI (by kernel_rfl))).2.2;clear hd;dsimp only
      (try simp only [e7,e11])
      have hlk9:=hlk W lj;go_wp2;exact aU (hK rv W (Below.refl _ _) rfl) (by simp [e7,e11])
     .rintro v lo hi W hb aW ⟨g12,g11,lj⟩ hd K hK;replace hK:=λx W' (h:Below W.heap.size W W')=>hK x W' (by rw [if_neg aF];exact h);clear aW;clear hd;dsimp only;go_wp2;exact aU (hK (.int .i64 y) W (Below.refl _ _) rfl) ag
     .rintro v lo hi W hb aW ⟨g12,g11,lj⟩ hd K hK;replace hK:=λx W' (h:Below W.heap.size W W')=>hK x W' (by rw [if_neg aF];exact h);clear aW;have mT:v 13=.int .i64 y:=(hd 13 (bI (by kernel_rfl))).2.2;clear hd;dsimp only
      (try simp only [mT])
      go_wp2
      exact aU (hK (.slice (some ⟨W.heap.size,0,none⟩) 1 1) _ (Ea (Er _) _) ⟨rfl,ag,hb.size,ag,af.new _ _ _⟩) (by simp [mT])
     rintro v lo hi W hb aW ⟨g12,g11,lj⟩ hd K hK;replace hK:=λx W' (h:W.grownBy W' (rv.ownBlock))=>hK x W' (by rw [if_pos rfl];exact h);replace aW:=aW rfl;have fL:v 12=rv:=(hd 12 (bI (by kernel_rfl))).2.2;obtain ⟨Qx,QA,GS⟩:=hd 14 (bI (by kernel_rfl));clear hd;dsimp only
     (try simp only [fL])
     obtain ⟨nS,Nu,Ew,Ex,zt⟩:=GS;refine u0_ W _ _ az W5.heap.size rv zs y (by first|rfl|exact fL) (HO.o.ext aW) (lo 14) 1 (by first|exact nS|(simp [nS];done)) (zt.cells 0).1 Cc Gs (by have h8:=aW.size;omega) ?_;intro g cap w1 hown1 zX FQ;exact aU (hK (.slice (some ⟨g,0,none⟩) (zs.length+1) cap) w1 zX ⟨g,cap,rfl,hown1,FQ.imp id (λe=>by rw [e];exact hb.size)⟩) (by simp only [fL];rfl)
    case fin=>
     rintro v lo hi W hb ⟨g12,g11,lj⟩ hf hap;show wpList _ _ _ [_] _ _;have e1:v 1=.map (some mb):=(hf 1 rfl).2.2.2;have e5:v 5=.int .i64 (y % G):=(hf 5 rfl).2.2.2;obtain ⟨_,_,_,gb,cap,oR,vk,FL⟩:=hf 15 rfl;clear hf hap;rw [oR] at vk;have hown':W.ownsInts W5.heap.size 3 .i64 (.slice (some ⟨gb,0,none⟩) (zs.length+1) cap) (zs ++ [y]):=⟨vk.row,λz hz=>WalkArith.wf_i64 (vk.rng z hz)⟩;have hput:=Lu.o.put (y:=y) (v:=.slice (some ⟨gb,0,none⟩) (zs.length+1) cap) (w:=W) (base:=W5.heap.size) (e:=3) (by rw [<- HZ.o];exact hown');rw [<- HZ.o] at hput;have HOWN':=ad hown';have Lo:=ad hput;have HLOC:Hid ((Value.slice (some ⟨gb,0,none⟩) (zs.length+1) cap).ownBlock=rv.ownBlock\/∃ g,(Value.slice (some ⟨gb,0,none⟩) (zs.length+1) cap).ownBlock=some g/\wr.heap.size<=g):=ad (FL.elim (λe=>.inl e.symm) (λh=>.inr ⟨gb,rfl,h⟩));have HB:=ad hb;clear hown' hput FL vk hb;dsimp only;rw [e1,e5,oR];clear e1 e5 oR;refine wpList_mapUpdate_back _ rfl _ _ _ 250 rfl Cy.o rfl rfl rfl HB.o HOWN'.o aO HLOC.o ?_;intro w2 hown2 hgrow2;go_wp2;go_roundw
     .refine ⟨k+1,n+1,_,aa,aa,by go_num,hown2,?_,(A6.o.andThen HB.o (λj hj=>.inl (kh j hj).1)).trans hgrow2⟩;have ht:ys.take (k+1)=ys.take k ++ [y]:=by rw [List.take_succ_eq_append_getElem hlt,HY.o];simp [hlt]
      rw [ht];exact Lo.o
     simp [intOf];omega
   obtain rfl:k=ys.length:=aa;have hszg:=hgr.size;have ER:=tP.o.of_blocks (w':=wr) λj h1 h2=>hgr.block j aa aO;have ES:=oE.o.of_blocks (w':=wr) λj h1 h2=>hgr.block j aa aO;have E_:=Zu.o.of_blocks (w':=wr) λj h1 h2=>hgr.block j aa aO;rw [List.take_length] at kO;have IK:=nO.of_groups hown wZ aa kO;have eP:af wr (w.heap.size+2) _ _:=(hgr.block (w.heap.size+2) Hf.o.lt aO).trans Hf.o;have dH:Below w.heap.size w wr:=⟨hgr.os.trans BL.os,hgr.tape.trans BL.tape,hgr.output.trans BL.output,by have:=BL.size;omega,λj hj=>(hgr.block j (by have:=BL.size;omega) aO).trans (BL.block j hj)⟩;have c0:=(hbx.cells 0).1;have c1:=(hbx.cells 1).1;have c2:=(hbx.cells 2).1;have c3:=(hbx.cells 3).1;have c4:=(hbx.cells 4).1;have c5:=(hbx.cells 5).1;have c6:=(hbx.cells 6).1;have c7:=(hbx.cells 7).1;have c8:=(hbx.cells 8).1;have c9:=(hbx.cells 9).1;have c10:=(hbx.cells 10).1;have c11:=(hbx.cells 11).1;have c12:=(hbx.cells 12).1;have k0:=(eP.cells 0);have k1:=(eP.cells 1);have k2:=(eP.cells 2);have k3:=(eP.cells 3);have k4:=(eP.cells 4);have k5:=(eP.cells 5);have k6:=(eP.cells 6);have k7:=(eP.cells 7);have k8:=(eP.cells 8);have k9:=(eP.cells 9);have US:=(eP.cells 10);have UT:=(eP.cells 11);have UU:=(eP.cells 12);have Lm:=ad ER;have Ln:=ad ES;have LX:=ad E_;have LY:=ad rh;have vT:=ad IK;have Lw:=ad eP;have CS:=ad dH;clear ER ES E_ rh IK eP dH hown kO hgr hbx;go_wp2_with fail;refine Xx (F:=λWf=>af Wf (w.heap.size+2) #[.slice r1 qa.head.length s1,.int .i64 qa.frm,.int .i64 qa.period,.slice r2 qa.cycle.length s2,.slice r3 qb.head.length s3,.int .i64 qb.frm,.int .i64 qb.period,.slice r4 qb.cycle.length s4,.int .i64 st,.slice se (bE qa st).cycle.length si,.slice sj ys.length ou,.int .i64 G,.map (some mb)] 252/\(∀ k,k≠w.heap.size+2->Wf.heap[k]? = wr.heap[k]?)/\Below w.heap.size w Wf/\wr.heap.size<=Wf.heap.size)
    ⟨X0 Lw.o,λk hk=>y6_ hk,by have dH:=CS.o;exact xE,ag⟩ ?_
   clear c0 c1 c2 c3 c4 c5 c6 c7 c8 c9 c10 c11 c12 k0 k1 k2 k3 k4 k5 k6 k7 k8 k9 US UT UU;rintro Wf ⟨jL,FK,Z2,hzf⟩;have k0:=(jL.cells 0).1;have k1:=(jL.cells 1).1;have k2:=(jL.cells 2).1;have k3:=(jL.cells 3).1;have k4:=(jL.cells 4).1;have k5:=(jL.cells 5).1;have k6:=(jL.cells 6).1;have k7:=(jL.cells 7).1;have k8:=(jL.cells 8).1;have k9:=(jL.cells 9).1;have US:=(jL.cells 10).1;have UT:=(jL.cells 11).1;have UU:=(jL.cells 12).1;have uU:∀ (q:Per),q.frm<=st->(bE q st).cycle=ar (aj q st):=λq hq=>by show ar (aj q (max q.frm st))=_;rw [Int.max_eq_right hq]
   have g1:cU Wf w.heap.size Wf.heap.size (.slice r1 qa.head.length s1) (.slice r2 qa.cycle.length s2) qa:=(Lm.o.of_blocks λj h1 h2=>FK j aa).mono aa aa;have g2:cU Wf w.heap.size Wf.heap.size (.slice r3 qb.head.length s3) (.slice r4 qb.cycle.length s4) qb:=(Ln.o.of_blocks λj h1 h2=>FK j aa).mono aa aa;have g3:IntsIn Wf w.heap.size Wf.heap.size (.slice se (bE qa st).cycle.length si) (bE qa st).cycle:=(LX.o.of_blocks λj h1 h2=>FK j aa).mono aa aa;have g4:IntsIn Wf w.heap.size Wf.heap.size (.slice sj ys.length ou) ys:=(LY.o.of_blocks λj h1 h2=>FK j aa).mono aa aa;have g5:=(vT.o.of_blocks (w':=Wf) λj h1 h2=>FK j aa).mono_hi hzf;rw [uU qa aa] at g3;rw [<- L6.o,uU qb aa] at g4 g5;rw [<- HG.o] at g5;exact bodyPost_ret (v:=qU (.slice r1 qa.head.length s1) (.slice r2 qa.cycle.length s2) (.slice r3 qb.head.length s3) (.slice r4 qb.cycle.length s4) qa qb st (.slice se (bE qa st).cycle.length si) (.slice sj ys.length ou) G mb) (by simp [results,Tryz.results221,go_sem, *]) rfl
    ⟨_,_,_,_,.slice se (ar (aj qa st)).length si,.slice sj (ar (aj qb st)).length ou,mb,by rw [HG.o,<- mG.o,<- uU qa aa,<- uU qb aa,L6.o],by rw [<- mG.o];exact ⟨g1,g2,g3,g4,g5,aa⟩,Z2⟩
end
end Go.Proofs.YtbmgmlbmgogeaaaGreat
