/- Part 3 of the proof of the laws. -/
import Derived.Test.YtbmgmlbmgogeaaaGreatW2
import Derived.Test.YtbmgmlbmgogeaaaGreatW1
import Derived.Maps.OwnIn
import Derived.OwnWalk
import Derived.Maps.OwnRows
import Derived.Maps.Views
set_option linter.unusedVariables false
set_option linter.unusedSimpArgs false
set_option maxRecDepth 100000
set_option maxHeartbeats 4000000
set_option linter.defProp false
abbrev YA:=@List.length_pos_iff
abbrev S2:=@List.length_drop
abbrev rX:=@List.mem_of_mem_drop
abbrev N5:=@List.drop_of_length_le
abbrev OF:=@List.length_set
abbrev yg:=@List.map_set
abbrev YM:=@List.mem_or_eq_of_mem_set
abbrev q7y:=@List.set_append_right
abbrev QL:=@List.append_assoc
abbrev O1:=@Go.World.size_setCell
abbrev OA:=@List.getElem?_map
abbrev P9:=@decide_eq_false
abbrev q7x:=@List.range_succ
abbrev MG:=@List.filter_append
abbrev q8h:=@Go.wpList_make_full
abbrev T4:=@Go.Maps.keyOf_int_mk
abbrev q7z:=@Go.Maps.fit_look
abbrev P7:=@Go.World.grownBy.refl
namespace Go.Proofs.YtbmgmlbmgogeaaaGreat
section
open Go.RowKit Kal
theorem fZ {w:World} {n:Nat}:(w.drewN n).heap.size=w.heap.size:=rfl
structure IntsIn (w:World) (lo hi:Nat) (v:Value) (l:List Int):Prop where
 ints:Ints w v l
 blk:l≠[]->∀ k,v.ownBlock=some k->lo<=k/\k<hi
theorem IntsIn.mono {w:World} {lo hi lo' hi':Nat} {v:Value} {l:List Int} (h:IntsIn w lo hi v l) (h1:lo'<=lo) (h2:hi<=hi'):IntsIn w lo' hi' v l:=
 ⟨h.ints,λhl k hk=>by have:=h.blk hl k hk;omega⟩
theorem IntsIn.of_blocks {w w':World} {lo hi:Nat} {v:Value} {l:List Int} (h:IntsIn w lo hi v l) (hb:∀ k,lo<=k->k<hi->w'.heap[k]? = w.heap[k]?):IntsIn w' lo hi v l:=by
 obtain ⟨⟨⟨a,c,rfl,h1,h2,h3⟩,h4,h5⟩,h6⟩:=h;refine ⟨⟨⟨a,c,rfl,h1,h2,?_⟩,h4,h5⟩,h6⟩;rcases h3 with h3|⟨b,o,rfl,hc⟩
 .exact .inl h3
 by_cases hl:l=[]
 .exact .inl hl
 obtain ⟨g1,g2⟩:=h6 hl b rfl;exact .inr ⟨b,o,rfl,λi hi=>(QM (hb b g1 g2)).trans (hc i hi)⟩
theorem IntsIn.set {w:World} {lo hi b i:Nat} {v:Value} {l:List Int} (h:IntsIn w lo hi v l) (u:Value) (hb:b<lo\/hi<=b):IntsIn (w.setCell ⟨b,i,none⟩ u) lo hi v l:=
 h.of_blocks λk h1 h2=>DO w ⟨b,i,none⟩ u k aR
theorem IntsIn.drewN {w:World} {lo hi:Nat} {v:Value} {l:List Int} (h:IntsIn w lo hi v l) (n:Nat):IntsIn (w.drewN n) lo hi v l:=h.of_blocks λ_ _ _=>rfl
theorem IntsIn.below {w w':World} {lo hi B:Nat} {v:Value} {l:List Int} (h:IntsIn w lo hi v l) (hb:Below B w w') (hB:hi<=B):IntsIn w' lo hi v l:=h.of_blocks λk _ h2=>hb.block k ad
theorem IntsIn.alloc {w:World} {lo hi:Nat} {v:Value} {l:List Int} (h:IntsIn w lo hi v l) (o:Obj) (hw:hi<=w.heap.size):IntsIn (w.alloc o) lo hi v l:=
 h.of_blocks λk _ h2=>DN w o k ad
theorem Ints.inn {w:World} {v:Value} {l:List Int} (h:Ints w v l):IntsIn w 0 w.heap.size v l:=by
 refine ⟨h,λhl k hk=>⟨T8 _,?_⟩⟩;obtain ⟨⟨a,c,rfl,h1,h2,h3⟩,h4,h5⟩:=h;rcases h3 with h3|⟨b,o,rfl,hc⟩
 .exact absurd h3 hl
 obtain rfl:b=k:=by simpa [Value.ownBlock] using hk
 exact N8 w _ (hc 0 (YA.2 hl))
theorem al.inn {w:World} {base:Nat} {v:Value} {l:List Int} (h:al w base v l):IntsIn w base w.heap.size v l:=
 ⟨h.ints,λ_ k hk=>h.lt k hk⟩
structure dg (w:World) (lo hi:Nat) (h c:Value) (p:Per):Prop where
 hd:IntsIn w lo hi h p.head
 cy:IntsIn w lo hi c p.cycle
section
variable {w w':World} {lo hi B b i:Nat} {h c:Value} {p:Per}
theorem dg.is (hp:dg w lo hi h c p):cj w h c p:=⟨hp.hd.ints,hp.cy.ints⟩
theorem dg.mono {lo' hi':Nat} (hp:dg w lo hi h c p) (h1:lo'<=lo) (h2:hi<=hi'):dg w lo' hi' h c p:=⟨hp.hd.mono h1 h2,hp.cy.mono h1 h2⟩
theorem dg.of_blocks (hp:dg w lo hi h c p) (hb:∀ k,lo<=k->k<hi->w'.heap[k]? = w.heap[k]?):dg w' lo hi h c p:=⟨hp.hd.of_blocks hb,hp.cy.of_blocks hb⟩
theorem dg.set (hp:dg w lo hi h c p) (u:Value) (hb:b<lo\/hi<=b):dg (w.setCell ⟨b,i,none⟩ u) lo hi h c p:=⟨hp.hd.set u hb,hp.cy.set u hb⟩
theorem dg.drewN (hp:dg w lo hi h c p) (n:Nat):dg (w.drewN n) lo hi h c p:=⟨hp.hd.drewN n,hp.cy.drewN n⟩
theorem dg.below (hp:dg w lo hi h c p) (hb:Below B w w') (hB:hi<=B):dg w' lo hi h c p:=⟨hp.hd.below hb hB,hp.cy.below hb hB⟩
theorem cj.inn (hp:cj w h c p):dg w 0 w.heap.size h c p:=⟨hp.hd.inn,hp.cy.inn⟩
theorem jC.inn {base:Nat} (hp:jC w base h c p):dg w base w.heap.size h c p:=⟨hp.hd.inn,hp.cy.inn⟩
theorem dg.form (hp:dg w lo hi h c p):∃ a1 c1 a2 c2,h=.slice a1 p.head.length c1/\c=.slice a2 p.cycle.length c2:=by
 obtain ⟨⟨⟨⟨a1,c1,h1,_⟩,_,_⟩,_⟩,⟨⟨a2,c2,h2,_⟩,_,_⟩,_⟩:=hp;exact ⟨a1,c1,a2,c2,h1,h2⟩
end
theorem bJ {w w':World} {a:Addr} {v:Value} (h:w.cell? a=some v) (hb:Below w.heap.size w w'):w'.cell? a=some v:=an.cell hb h
theorem Jn {a:Option Addr} {c i:Nat} (l:List Int) (hi:i<=l.length) :
  ∃ a',(∀ W,(Instr.slice 35 (.slice a l.length c) (some (.int .i64 (i:Int))) none none).run Tryz.prog W=.ok (.slice a' (l.length-i) (c-i)) W)/\
   (∀ w,Ints w (.slice a l.length c) l->Ints w (.slice a' (l.length-i) (c-i)) (l.drop i))/\
   (i<l.length->l.length<=c->∀ b o,a=some ⟨b,o,none⟩->a'=some ⟨b,o+i,none⟩):=by
 refine ⟨if c=i then a else a.map (·.add (i*1)),λW=>?_,λw h=>?_,λh1 h2 b o hb=>?_⟩
 .rw [run_slice_l W 35 _ _ _ (by kernel_rfl) .i64 _ ad ad];have hz:(sizeOf (Tryz.prog.elem 35)).run Tryz.prog W=.ok 1 W:=by kernel_rfl
  rw [hz];simp only [Result.andThen,sliced]
  congr 2
 .obtain ⟨⟨a2,c2,he,h1,h2,h3⟩,h4,h5⟩:=h;injection he with e1 e2 e3
  subst e1;subst e3;refine ⟨⟨_,c-i,by rw [S2],by rw [S2];omega,ad,?_⟩,by rw [S2];omega,λx hx=>h5 x (rX hx)⟩;by_cases hl:l.drop i=[]
  .exact .inl hl
  have hlt:i<l.length:=by
   rcases PZ i l.length with h|h
   .exact h
   exact absurd (N5 h) hl
  rcases h3 with rfl|⟨b,o,rfl,hc⟩
  .simp at hlt
  refine .inr ⟨b,o+i,by rw [if_neg ad];simp [Addr.add],λj hj=>?_⟩;rw [S2] at hj;rw [OE,hc (i+j) ad];simp
 rw [if_neg ad,hb];simp [Addr.add]
structure kH (w:World) (lo hi:Nat) (v:Value) (l:List Int):Prop where
 own:al w lo v l
 lt:∀ k,v.ownBlock=some k->k<hi
theorem al.oin {w:World} {base:Nat} {v:Value} {l:List Int} (h:al w base v l):kH w base w.heap.size v l:=⟨h,λk hk=>(h.lt k hk).2⟩
theorem kH.of_blocks {w w':World} {lo hi:Nat} {v:Value} {l:List Int} (h:kH w lo hi v l) (hb:∀ k,lo<=k->k<hi->w'.heap[k]? = w.heap[k]?):kH w' lo hi v l:=by
 obtain ⟨⟨⟨h1,h2⟩,h3,h4⟩,h5⟩:=h;refine ⟨⟨⟨h1,?_⟩,h3,h4⟩,h5⟩;rcases h2 with h2|⟨g,cap,cur,hv,hg,hh,hr⟩
 .exact .inl h2
 exact .inr ⟨g,cap,cur,hv,hg,(hb g hg (h5 g (by rw [hv];rfl))).trans hh,hr⟩
theorem kH.set {w:World} {lo hi b i:Nat} {v:Value} {l:List Int} (h:kH w lo hi v l) (u:Value) (hb:b<lo\/hi<=b):kH (w.setCell ⟨b,i,none⟩ u) lo hi v l:=
 h.of_blocks λk h1 h2=>DO w ⟨b,i,none⟩ u k aR
theorem kH.below {w w':World} {lo hi B:Nat} {v:Value} {l:List Int} (h:kH w lo hi v l) (hb:Below B w w') (hB:hi<=B):kH w' lo hi v l:=h.of_blocks λk _ h2=>hb.block k ad
theorem kH.alloc {w:World} {lo hi:Nat} {v:Value} {l:List Int} (h:kH w lo hi v l) (o:Obj) (hw:hi<=w.heap.size):kH (w.alloc o) lo hi v l:=
 h.of_blocks λk _ h2=>DN w o k ad
structure xO (w:World) (lo hi:Nat) (h c:Value) (p:Per):Prop where
 inn:dg w lo hi h c p
 le:hi<=w.heap.size
theorem xO.below {w w':World} {lo hi:Nat} {h c:Value} {p:Per} (hp:xO w lo hi h c p) (hb:Below w.heap.size w w'):xO w' lo hi h c p:=⟨hp.inn.below hb hp.le,NN hp.le hb.size⟩
theorem jC.at {w:World} {base:Nat} {h c:Value} {p:Per} (hp:jC w base h c p):xO w base w.heap.size h c p:=⟨hp.inn,TZ _⟩
structure rK (w:World) (lo hi:Nat) (v:Value) (l:List Int):Prop where
 inn:kH w lo hi v l
 le:hi<=w.heap.size
theorem rK.below {w w':World} {lo hi:Nat} {v:Value} {l:List Int} (hp:rK w lo hi v l) (hb:Below w.heap.size w w'):rK w' lo hi v l:=⟨hp.inn.below hb hp.le,NN hp.le hb.size⟩
theorem al.at {w:World} {base:Nat} {v:Value} {l:List Int} (h:al w base v l):rK w base w.heap.size v l:=⟨h.oin,TZ _⟩
def ag (w:World) (b:Nat) (c:Array Value) (t:TypeId):Prop:=w.heap[b]? = some (.cells c t (0,0))
theorem ag.lt {w:World} {b:Nat} {c:Array Value} {t:TypeId} (h:ag w b c t):b<w.heap.size:=(Q0.1 h).1
theorem ag.below {w w':World} {b:Nat} {c:Array Value} {t:TypeId} (h:ag w b c t) (hb:Below w.heap.size w w'):ag w' b c t:=(hb.block b h.lt).trans h
theorem ag.cells {w:World} {b:Nat} {c:Array Value} {t:TypeId} (h:ag w b c t) (i:Nat):w.cell? ⟨b,i,none⟩=c[i]?/\w.frozen? ⟨b,i,none⟩=false:=jF h i
theorem ag.alloc {w:World} {b:Nat} {c:Array Value} {t:TypeId} (h:ag w b c t) (o:Obj):ag (w.alloc o) b c t:=(DN _ _ _ h.lt).trans h
theorem ag.at {w:World} {b:Nat} {c:Array Value} {t:TypeId} (h:b=w.heap.size):ag (w.alloc (.cells c t)) b c t:=by subst h;exact DP _ _
theorem xB {w:World} {b:Nat} {c:Array Value} {t:TypeId} (h:ag w b c t:=by (repeat' (first|(refine ag.at ?_;simp;done)|apply ag.alloc))):ag w b c t:=h
theorem ag.new (w:World) (c:Array Value) (t:TypeId):ag (w.alloc (.cells c t)) w.heap.size c t:=DP _ _
theorem XJ (v1 v2:Value) (l1 l2:List Int) (w:World) (h1:Ints w v1 l1) (h2:Ints w v2 l2) :
  Calls Tryz.prog 191 #[v1,v2] w λe w'=>e=.returned (.bool (decide (l1=l2)))/\∃ n,w'=w.drewN n:=by
 obtain ⟨⟨a1,c1,rfl,g1,g2,g3⟩,g4,g5⟩:=h1;obtain ⟨⟨a2,c2,rfl,k1,k2,k3⟩,k4,k5⟩:=h2;by_cases hl:l1.length=l2.length
 .rcases g3 with rfl|⟨b1,o1,rfl,hc1⟩
  .refine (Tryz.slices_Equal_int_empty a1 a2 c1 l2.length c2 w ad).mono λe w' ⟨he,hw⟩=>⟨?_,0,hw⟩;rw [he];cases l2 with
   | nil=>simp
   | cons x l=>simp at hl
  rcases k3 with rfl|⟨b2,o2,rfl,hc2⟩
  .have:l1=[]:=NL (by simpa using hl);subst this;exact (Tryz.slices_Equal_int_empty _ a2 c1 0 c2 w ad).mono λe w' ⟨he,hw⟩=>⟨by rw [he];simp,0,hw⟩
  refine (Tryz.slices_Equal_int b1 o1 l1.length c1 b2 o2 l2.length c2 l1 l2 w (TZ _) (TZ _) ad ad hc1 hc2).mono λe w' ⟨he,hw⟩=>⟨?_,hw⟩;rw [he,OC,OC]
  congr 2
  by_cases e:l1=l2 <;> simp [e]
 refine (Tryz.slices_Equal_int_lens a1 a2 l1.length c1 l2.length c2 w hl).mono λe w' ⟨he,hw⟩=>⟨?_,0,hw⟩;rw [he];have:l1≠l2:=λe=>hl (by rw [e]);simp [this]
def oF (p q:Per):Bool:=decide (p.frm=q.frm) && decide (p.period=q.period) && decide (p.head=q.head) && decide (p.cycle=q.cycle)
theorem X1 (p q:Per):oF p q=true↔p=q:=by
 unfold oF;simp only [NU,OB];exact ⟨λ⟨⟨⟨h1,h2⟩,h3⟩,h4⟩=>Per.ext' h3 h1 h2 h4,λh=>by subst h;simp⟩
def bI (p:Per) (day:Int):Per:=⟨p.head.drop (p.head.countP λy=>decide (y<day)),max p.frm day,p.period,aw (ak p (max p.frm day))⟩
theorem RI {p:Per} (h:p.WF) {day:Int} (h0:0<=day):(bI p day).WF/\∀ n,(bI p day).mem n↔p.mem n/\day<=n:=
 yc_ h h0 (Kq (WW h _)) λy=>Cp _ y
def Od (c:Per) (w:World) (e:Ending) (w':World):Prop:=
 ∃ (h' c':Value),e=.returned (ar h' c' c.frm c.period)/\jC w' w.heap.size h' c' c/\Below w.heap.size w w'/\∀ g,h'.ownBlock=some g->c'.ownBlock≠some g
structure LI (w:World) (ob:Nat) (p:Per) (hp cp:Value) (f:Int) (l4 h4:Nat) (hv:Value) (hl:List Int) (base:Nat) (cyv:Value) (l:List Int) (W:World):Prop where
 below:Below w.heap.size w W
 pb:ag W w.heap.size #[hp,.int .i64 p.frm,.int .i64 p.period,cp] 80
 rb:ag W (w.heap.size+1) #[.slice none 0 0,.int .i64 0,.int .i64 0,.slice none 0 0] 80
 obx:ag W ob #[hv,.int .i64 f,.int .i64 p.period,cyv] 80
 own:al W base cyv l
 hd:kH W l4 h4 hv hl
 o1:w.heap.size+1<ob
 o2:ob<base
 o3:base<=W.heap.size
 o4:ob<l4\/h4<=ob
 o5:h4<=base
 o6:w.heap.size+1<l4
theorem ag.setNe {W:World} {b k i:Nat} {c:Array Value} {t:TypeId} (h:ag W b c t) (v:Value) (hne:b≠k):ag (W.setCell ⟨k,i,none⟩ v) b c t:=(DO W ⟨k,i,none⟩ v b hne).trans h
theorem ag.upto {W W':World} {B b:Nat} {c:Array Value} {t:TypeId} (h:ag W b c t) (hb:Below B W W') (hlt:b<B):ag W' b c t:=(hb.block b hlt).trans h
theorem LI.step {w:World} {ob:Nat} {p:Per} {hp cp:Value} {f:Int} {l4 h4:Nat} {hv:Value} {hl:List Int} {base:Nat} {cyv:Value} {l:List Int} {W:World} (h:LI w ob p hp cp f l4 h4 hv hl base cyv l W)
  {W1:World} {v':Value} {l':List Int} (hb:Below base W W1) (ho:al W1 base v' l'):LI w ob p hp cp f l4 h4 hv hl base v' l' (W1.setCell ⟨ob,3,none⟩ v'):=by
 have o1:=h.o1;have o2:=h.o2;have o3:=h.o3;have o4:=h.o4;have o5:=h.o5;have hz:=hb.size;exact ⟨(h.below.trans (hb.mono ad)).setCell (p:=⟨ob,3,none⟩) aR _,(h.pb.upto hb ad).setNe _ ad,(h.rb.upto hb ad).setNe _ ad,set4 (h.obx.upto hb ad),
  ho.above ((cm.refl base W1).setCell aR _),(h.hd.below hb ad).set _ o4,o1,o2,aR,o4,o5,h.o6⟩
theorem RJ (h c:Value) (p:Per) (day:Int) (w:World) (hp:cj w h c p) (hw:p.WF) (h1:p.frm<=1125899906842624) (h2:p.period<=1125899906842624) (h0:0<=day) (hd:day<=1125899906842624) :
  Calls Tryz.prog 181 #[ar h c p.frm p.period,.int .i64 day] w (Od (bI p day) w):=by
 have f0:=hw.frm;have hs1:=hw.head.1;have hl:∀ W,Below w.heap.size w W->Ints W h p.head:=λW hb=>hp.hd.ext hb;have si:∀ W,Below w.heap.size w W->Ints W c p.cycle:=λW hb=>hp.cy.ext hb;obtain ⟨⟨⟨ha,aT,rfl,hlc,hcc,ck⟩,hlen,_⟩,⟨ca,aK,rfl,_,_,_⟩,sd,_⟩:=hp;have hk2:p.head.countP (λy=>decide (y<day))<=p.head.length:=q7u;obtain ⟨i0,hi0⟩:∃ i0,i0=p.head.countP λy=>decide (y<day):=⟨_,rfl⟩;rw [<- hi0] at hk2;obtain ⟨a',hrun,hdr,_⟩:=Jn (a:=ha) (c:=aT) p.head hk2;have HI:=af hi0;have HW:=af hw;clear ck hi0 hw
 go_in
 go_wp2_with (go_at_call 216;(refine (tt _ p.head day _ (hl _ xE) hs1).mono ?_);rintro e w' ⟨he,nq,rfl⟩;rw [<- HI.o] at he;subst he)
 generalize hW0:World.drewN _ nq=W0;have hE:Below w.heap.size w W0:=by rw [<- hW0];exact xE
 have bN:ag W0 w.heap.size #[.slice ha p.head.length aT,.int .i64 p.frm,.int .i64 p.period,.slice ca p.cycle.length aK] 80:=by rw [<- hW0];exact (DN _ _ _ aj).trans (DP _ _)
 have eu:ag W0 (w.heap.size+1) #[.slice none 0 0,.int .i64 0,.int .i64 0,.slice none 0 0] 80:=by
  rw [<- hW0];have:=DP (w.alloc (.cells #[.slice ha p.head.length aT,.int .i64 p.frm,.int .i64 p.period,.slice ca p.cycle.length aK] 80)) (.cells #[.slice none 0 0,.int .i64 0,.int .i64 0,.slice none 0 0] 80);rwa [U7] at this
 clear hW0;have pr:W0.cell? ⟨w.heap.size,0,none⟩=some (.slice ha p.head.length aT):=(bN.cells 0).1;have tE:W0.cell? ⟨w.heap.size,1,none⟩=some (.int .i64 p.frm):=(bN.cells 1).1;have rO:W0.cell? ⟨w.heap.size,2,none⟩=some (.int .i64 p.period):=(bN.cells 2).1;have hz0:=eu.lt;refine oz (w0:=W0) [0,1,2,3,4,5,6,7,8,9,10,11,12] [13] (λv=>⟨#[ar (.slice ha p.head.length aT) (.slice ca p.cycle.length aK) p.frm p.period,.int .i64 day,.pointer (some ⟨w.heap.size,0,none⟩),undef,.pointer (some ⟨w.heap.size+1,0,none⟩),.int .i64 ↑i0,.bool (decide (day∈p.head)),v 12,undef,undef,.tuple #[.int .i64 ↑i0,.bool (decide (day∈p.head))],.pointer (some ⟨w.heap.size,0,none⟩),.slice ha p.head.length aT,.int .i64 day,.tuple #[.int .i64 ↑i0,.bool (decide (day∈p.head))],.int .i64 ↑i0,.bool (decide (day∈p.head)),v 0,v 1,v 2,v 3,v 4,v 5,v 6,v 7,v 8,v 9,v 10,v 11,undef,undef,undef,undef,undef,undef,undef,undef,undef,undef,undef,undef,undef,undef,undef,undef,undef,undef,undef,undef,undef,undef,undef,undef,undef,undef,undef],[]⟩) [.pointer (some ⟨w.heap.size,0,none⟩),.slice ha p.head.length aT,.int .i64 i0,.slice a' (p.head.length-i0) (aT-i0),undef,.pointer (some ⟨w.heap.size,1,none⟩),.int .i64 p.frm,.int .i64 day,.int .i64 (max p.frm day),.pointer (some ⟨w.heap.size,2,none⟩),.int .i64 p.period,undef,undef] [4,11,12] (λi v lo hi W=>match i with|4=>(∃ a c,v 4=.slice a (p.head.drop i0).length c)/\rK W (lo 4) (hi 4) (v 4) (p.head.drop i0)|11=>v 11=.agg #[v 4,.int .i64 (max p.frm day),.int .i64 p.period,.slice none 0 0]|12=>v 12=.pointer (some ⟨lo 12,0,none⟩)/\lo 12<hi 12/\ag W (lo 12) #[.slice none 0 0,.int .i64 0,.int .i64 0,.slice none 0 0] 80|_=>True) (λW=>Below w.heap.size w W/\W.cell? ⟨w.heap.size,0,none⟩=some (.slice ha p.head.length aT)/\W.cell? ⟨w.heap.size,1,none⟩=some (.int .i64 p.frm)/\W.cell? ⟨w.heap.size,2,none⟩=some (.int .i64 p.period)) (λW hb=>⟨by exact xE,Below.cell' hb pr ad,Below.cell' hb tE ad,Below.cell' hb rO ad⟩) ?stab ?loc ?steps ?fin
 case stab=>
  refine ⟨?_,?_,?_,trivial⟩
  .intro v lo hi W W' h hb;exact ⟨h.1,h.2.below hb⟩
  .intro v lo hi W W' h hb;exact h
  intro v lo hi W W' h hb;exact ⟨h.1,h.2.1,h.2.2.below hb⟩
 case loc=>
  refine ⟨?_,?_,?_,trivial⟩
  .intro v v' lo lo' hi hi' W aA h;have q:=aA 4 (.inl rfl)
   (try dsimp only at h ⊢)
   simp only [q.1,q.2.1,q.2.2] at h;exact h
  .intro v v' lo lo' hi hi' W aA h;have q:=aA 11 (.inl rfl);have q4:=aA 4 (.inr (bM (by kernel_rfl)))
   (try dsimp only at h ⊢)
   simp only [q.1,q.2.1,q.2.2,q4.1,q4.2.1,q4.2.2] at h;exact h
  intro v v' lo lo' hi hi' W aA h;have q:=aA 12 (.inl rfl)
  (try dsimp only at h ⊢)
  simp only [q.1,q.2.1,q.2.2] at h;exact h
 case steps=>
  clear pr tE rO;refine .c [] [] rfl ?_ (.c [0] [] rfl ?_ (.c [] [] rfl ?_ (.c [1,2] [] rfl ?_ (.c [3] [] rfl ?_ (.c [] [] rfl ?_ (.c [5] [] rfl ?_ (.c [] [] rfl ?_ (.c [6,7] [] rfl ?_ (.c [] [] rfl ?_ (.c [9] [] rfl ?_ (.c [8,10] [4] rfl ?_ (.c [] [] rfl ?_ (.n)))))))))))));all_goals try exact oh
  .rintro v lo hi W hb ⟨qv,g0,g1,g2⟩ _;refine .inl ⟨rfl,λK hK=>?_⟩;simp only [ov,aD,Nat.reduceBEq,cond_true,cond_false];go_wp2_with (go_at_call 96;refine (Cn _ (p.head.drop i0) _ (hdr _ (hl _ xE))).mono ?_;rintro e w3 ⟨x,rfl,mT,hb3⟩);exact aQ (hK x w3 hb3 ⟨mT.form,mT.at⟩) (by simp [ov,aD,upd])
  .rintro v lo hi W hb ⟨qv,g0,g1,g2⟩ ⟨⟨WR,WU,D4⟩,_⟩;refine .inl ⟨rfl,λK hK=>?_⟩;simp only [ov,aD,Nat.reduceBEq,cond_true,cond_false]
   (try dsimp only at D4)
   obtain ⟨⟨a9,c9,e4⟩,_⟩:=D4
   (try simp only [e4])
   go_wp2
   exact aQ (hK (.agg #[v 4,.int .i64 (max p.frm day),.int .i64 p.period,.slice none 0 0]) W (JV _ _) rfl) (by simp [ov,aD,upd,e4])
  rintro v lo hi W hb ⟨qv,g0,g1,g2⟩ _;refine .inl ⟨rfl,λK hK=>?_⟩;simp only [ov,aD,Nat.reduceBEq,cond_true,cond_false];go_wp2;exact hK (.pointer (some ⟨W.heap.size,0,none⟩)) _ (Ea (Er _) _) ⟨rfl,aj,ag.new _ _ _⟩
 case fin=>
  rintro v lo hi W hb ⟨qv,_⟩ hf hap;show wpList _ _ _ [_] _ _;obtain ⟨l4a,m4,n4,⟨a9,c9,e4⟩,PJ,_⟩:=hf 4 rfl;obtain ⟨sR,m12,n12,gi,jc,jO⟩:=hf 12 rfl;have e11:v 11=.agg #[v 4,.int .i64 (max p.frm day),.int .i64 p.period,.slice none 0 0]:=(hf 11 rfl).2.2.2;have d:=hap 4 12 rfl rfl ad;have Bi:=bN.below hb;have sG:=eu.below hb;clear hf hap pr tE rO bN eu;rw [e4] at PJ e11;generalize lo 4=l4 at *;generalize hi 4=h4 at *;generalize lo 12=ob at *;generalize hi 12=oG at *;have q0:=jO.cells 0;have q1:=jO.cells 1;have q2:=jO.cells 2;have q3:=jO.cells 3;have q4:=Bi.cells 3;dsimp only;rw [e11,gi];generalize AV:max p.frm day=f at *;have HF:=af AV.symm;have Ve:p.frm<=f:=ad;have hfd:f<=1125899906842624:=ad;clear AV;generalize v 0=v0,v 1=v1,v 2=v2,v 3=v3,v 4=v4,v 5=v5,v 6=v6,v 7=v7,v 8=v8,v 9=v9,v 10=v10;obtain ⟨hl,we⟩:∃ hl,hl=p.head.drop i0:=⟨_,rfl⟩;rw [<- we] at PJ ⊢;have pU:=af we;clear we;have hst:=LI.mk (w:=w) (ob:=ob) (p:=p) (f:=f) (base:=W.heap.size) (cyv:=.slice none 0 0) (l:=[]) (W:=((((W.setCell ⟨ob,0,none⟩ (.slice a9 hl.length c9)).setCell ⟨ob,1,none⟩ (.int .i64 f)).setCell ⟨ob,2,none⟩ (.int .i64 p.period)).setCell ⟨ob,3,none⟩ (.slice none 0 0)))
   xE ((((Bi.setNe _ ad).setNe _ ad).setNe _ ad).setNe _ ad) ((((sG.setNe _ ad).setNe _ ad).setNe _ ad).setNe _ ad) (CB jO) (al.nil _ _)
   ((((PJ.set _ ad).set _ ad).set _ ad).set _ ad) ad ad aj ad ad ad
  have HST:=af hst;clear hst Bi sG jO e11 gi e4;go_wp2_with fail;have wy:=(HW.o).per;go_loopw [32] (λi wr=>∃ (k:Nat) (cyv:Value),k<=p.cycle.length/\i=.int .i64 k/\LI w ob p (.slice ha p.head.length aT) (.slice ca p.cycle.length aK) f l4 h4 (.slice a9 hl.length c9) hl W.heap.size cyv ((p.cycle.take k).map λc=>(p.frm+c-f) % p.period) wr) (λi _=>p.cycle.length-(intOf i).toNat)
  .exact ⟨0,_,ad,rfl,HST.o⟩
  obtain ⟨k,cyv,hk,rfl,ke⟩:=hrel;have qD:wr.cell? ⟨w.heap.size,1,none⟩=some (.int .i64 p.frm):=(ke.pb.cells 1).1;have GW:wr.cell? ⟨w.heap.size,2,none⟩=some (.int .i64 p.period):=(ke.pb.cells 2).1;have tQ:wr.cell? ⟨ob,1,none⟩=some (.int .i64 f):=(ke.obx.cells 1).1;have Q2:wr.cell? ⟨ob,3,none⟩=some cyv:=(ke.obx.cells 3).1;have J_:wr.frozen? ⟨ob,3,none⟩=false:=(ke.obx.cells 3).2;have o2:=ke.o2;have o3:=ke.o3;have hown:=ke.own;have zN:=af ke;have Fx:=si wr ke.below;clear ke;by_cases hlt:k<p.cycle.length
  .obtain ⟨⟨a8,c8,kj,_,_,dJ⟩,_,_⟩:=Fx;injection kj with cN eP dz
   subst cN;subst dz;rcases dJ with dJ|⟨b8,f8,rfl,hcell⟩
   .rw [dJ] at hlt;simp at hlt
   have hcl:=hcell k hlt;clear hcell;have fg:(k:Int)<p.cycle.length:=ad;obtain ⟨y,hy⟩:∃ y,y=p.cycle.getD k 0:=⟨_,rfl⟩;have hr1:=(HW.o).cyc.2 (p.cycle.getD k 0) (lg hlt);rw [<- hy] at hcl hr1;have HY:=af hy;clear hy;have hw1:IntKind.i64.wrap (p.frm+y)=p.frm+y:=BG ⟨ad,ad⟩;have hw2:IntKind.i64.wrap (p.frm+y-f)=p.frm+y-f:=BG ⟨ad,ad⟩;have hm1:=VK (p.frm+y-f) (show p.period≠0 by omega);have ix:=VM (p.frm+y-f) (show 0<p.period by omega);obtain ⟨z,hz⟩:∃ z,z=(p.frm+y-f) % p.period:=⟨_,rfl⟩;rw [<- hz] at hm1 ix;have HZ:=af hz;clear hz;go_wp2_with fail;refine oz (w0:=wr) [0,1,2,3,4,5,6,7,8,9,10,11,12] [13,14,15] (λv=>⟨#[ar (.slice ha p.head.length aT) (.slice (some ⟨b8,f8,none⟩) p.cycle.length aK) p.frm p.period,.int .i64 day,.pointer (some ⟨w.heap.size,0,none⟩),undef,.pointer (some ⟨w.heap.size+1,0,none⟩),.int .i64 ↑i0,.bool (decide (day∈p.head)),.pointer (some ⟨ob,0,none⟩),undef,.int .i64 y,.tuple #[.int .i64 ↑i0,.bool (decide (day∈p.head))],.pointer (some ⟨w.heap.size,0,none⟩),.slice ha p.head.length aT,.int .i64 day,.tuple #[.int .i64 ↑i0,.bool (decide (day∈p.head))],.int .i64 ↑i0,.bool (decide (day∈p.head)),v0,v1,v2,v3,v4,v5,v6,v7,v8,v9,v10,.agg #[.slice a9 hl.length c9,.int .i64 f,.int .i64 p.period,.slice none 0 0],.pointer (some ⟨w.heap.size,3,none⟩),.slice (some ⟨b8,f8,none⟩) p.cycle.length aK,.int .i64 ↑p.cycle.length,.int .i64 ↑k,.bool true,.pointer (some ⟨b8,f8+k,none⟩),.int .i64 y,v 0,v 1,v 2,v 3,v 4,v 5,v 6,v 7,v 8,v 9,v 10,v 11,v 12,u49,u50,u51,undef,undef,undef,undef],[]⟩) [.pointer (some ⟨ob,3,none⟩),cyv,.pointer (some ⟨w.heap.size,1,none⟩),.int .i64 p.frm,.int .i64 y,.int .i64 (p.frm+y),.pointer (some ⟨ob,1,none⟩),.int .i64 f,.int .i64 (p.frm+y-f),.pointer (some ⟨w.heap.size,2,none⟩),.int .i64 p.period,.int .i64 z,undef] [12] (λi v lo hi W=>match i with|12=>v 12=.slice (some ⟨lo 12,0,none⟩) 1 1/\lo 12<hi 12/\ag W (lo 12) #[.int .i64 z] 3|_=>True) (λW=>W.cell? ⟨w.heap.size,1,none⟩=some (.int .i64 p.frm)/\W.cell? ⟨w.heap.size,2,none⟩=some (.int .i64 p.period)/\W.cell? ⟨ob,1,none⟩=some (.int .i64 f)/\W.cell? ⟨ob,3,none⟩=some cyv) (λW9 hb=>⟨bJ qD hb,bJ GW hb,bJ tQ hb,bJ Q2 hb⟩) ?stab ?loc ?steps ?fin (λj=>match j with|0=>u36|1=>u37|2=>u38|3=>u39|4=>u40|5=>u41|6=>u42|7=>u43|8=>u44|9=>u45|10=>u46|11=>u47|12=>u48|_=>undef)
   case stab=>
    refine ⟨?_,trivial⟩;intro v lo hi W W' h hb;exact ⟨h.1,h.2.1,h.2.2.below hb⟩
   case loc=>
    refine ⟨?_,trivial⟩;intro v v' lo lo' hi hi' W aA h;have q:=aA 12 (.inl rfl)
    (try dsimp only at h ⊢)
    simp only [q.1,q.2.1,q.2.2] at h;exact h
   case steps=>
    refine .c [] [] rfl ?_ (.c [0] [] rfl ?_ (.c [] [] rfl ?_ (.c [2] [] rfl ?_ (.c [] [] rfl ?_ (.c [3,4] [] rfl ?_ (.c [] [] rfl ?_ (.c [6] [] rfl ?_ (.c [5,7] [] rfl ?_ (.c [] [] rfl ?_ (.c [9] [] rfl ?_ (.c [8,10] [] rfl ?_ (.c [11] [] rfl ?_ (.n)))))))))))));all_goals try exact oh
    .rintro v lo hi W hb ⟨g0,g1,g2,g3⟩ _;refine .inl ⟨rfl,λK hK=>?_⟩;simp only [ov,aD,Nat.reduceBEq,cond_true,cond_false];go_wp2_with (go_at_call 217;refine (r1_ _ _ _ ad ad).mono ?_;rintro e w' ⟨he,rfl⟩;rw [<- HZ.o] at he;subst he);exact aQ (hK _ (JV _ _)) (by simp [ov,aD,upd])
    rintro v lo hi W hb ⟨g0,g1,g2,g3⟩ _;refine .inl ⟨rfl,λK hK=>?_⟩;simp only [ov,aD,Nat.reduceBEq,cond_true,cond_false];go_wp2;exact aQ (hK (.slice (some ⟨W.heap.size,0,none⟩) 1 1) _ (Ea (Er _) _) ⟨rfl,aj,ag.new _ _ _⟩) (by simp [ov,aD,upd])
   case fin=>
    rintro v lo hi W1 hb ⟨g0,g1,g2,g3⟩ hf hap;show wpList _ _ _ [_,_,_] _ _;have e1:v 1=cyv:=(hf 1 rfl).2.2.2;obtain ⟨sR,m12,n12,gi,jc,jO⟩:=hf 12 rfl;have hqf1:=(Below.frozen hb (p:=⟨ob,3,none⟩) aR).trans J_;have hown1:=hown.ext hb;have hz1:=hb.size;have hnew:W1.cell? ⟨lo 12,0,none⟩=some (.int .i64 z):=(jO.cells 0).1;clear hf hap g0 g1 g2;dsimp only;rw [e1,gi];generalize lo 12=bn at *;refine qc aC _ _ aC W.heap.size cyv _ z aC hown1 _ _ aC hnew ⟨ad,ad⟩ aR ad ?_;intro g cap W2 hown2 hgrow bY;have gT:Below W.heap.size wr W2:=(hb.mono o3).trans bY;have q3t:W2.frozen? ⟨ob,3,none⟩=false:=(Below.frozen gT (p:=⟨ob,3,none⟩) o2).trans J_;have q2s:W2.cell? ⟨ob,3,none⟩=some cyv:=Below.cell' gT Q2 o2;go_wp2;go_roundw
    .have hlen:((p.cycle.take k).map λc=>(p.frm+c-f) % p.period).length=k:=by simp;omega
     have oP:((p.cycle.take (k+1)).map λc=>(p.frm+c-f) % p.period)=((p.cycle.take k).map λc=>(p.frm+c-f) % p.period) ++ [z]:=by
      rw [LF hlt,UZ,HZ.o,HY.o,VS,U2 hlt];rfl
     rw [hlen] at hown2;refine ⟨k+1,.slice (some ⟨g,0,none⟩) (k+1) cap,ad,by go_num,?_⟩;rw [oP];exact zN.o.step gT hown2
    simp [intOf];omega
  obtain rfl:k=p.cycle.length:=ad;obtain ⟨cl,hcl⟩:∃ cl,cl=((p.cycle.take p.cycle.length).map λc=>(p.frm+c-f) % p.period):=⟨_,rfl⟩;have AH:=zN.o;rw [<- hcl] at hown AH;have lJ:=af AH;have cS:=af hcl;clear AH hcl zN;go_wp2_with fail
  go_at_call 69
  refine (Kw _ _ W.heap.size _ hown).mono ?_;rintro e W2 ⟨rfl,hown2,hgrow⟩;have bY:=hown.below_grown (W0:=wr) (.inr trivial) o3 hgrow;obtain ⟨ya,yc,rfl⟩:=hown.form;have o1:=lJ.o.o1;have o4:=lJ.o.o4;have o5:=lJ.o.o5;have o6:=lJ.o.o6;have fh:=lJ.o.obx.upto bY o2;have eK:=lJ.o.rb.upto bY ad;have hk0:W2.cell? ⟨ob,0,none⟩=some (.slice a9 hl.length c9):=(fh.cells 0).1;have sq:W2.cell? ⟨ob,1,none⟩=some (.int .i64 f):=(fh.cells 1).1;have hk2:W2.cell? ⟨ob,2,none⟩=some (.int .i64 p.period):=(fh.cells 2).1;have hk3:W2.cell? ⟨ob,3,none⟩=some (.slice ya cl.length yc):=(fh.cells 3).1;have hj0:=eK.cells 0;have QD:=eK.cells 1;have CR:=eK.cells 2;have hj3:=eK.cells 3;have hdd:=lJ.o.hd.below bY o5;have oo:=af eK;have hz2:=bY.size;have xX:Below w.heap.size w W2:=lJ.o.below.trans (bY.mono ad);have Dh:Hid (∀ g,(Value.slice a9 hl.length c9).ownBlock=some g->(Value.slice ya cl.length yc).ownBlock≠some g):=af (λg h1 h2=>by have:=hdd.lt g h1;have:=(hown2.lt g h2).1;omega);have ze:=af (hown2.mono (base':=w.heap.size+1+1) ad).oin;clear fh eK hown2 hgrow bY hown;go_wp2;refine VN (v:=ar (.slice a9 hl.length c9) (.slice ya cl.length yc) f p.period) (by simp [results,Tryz.results181,go_sem, *]) rfl ⟨.slice a9 hl.length c9,.slice ya cl.length yc,?_,⟨?_,?_⟩,by exact xE,Dh.o⟩
  .simp only [bI,HF.o]
  .have h1:kH _ _ _ (.slice a9 hl.length c9) hl:=(((hdd.set (b:=w.heap.size+1) (i:=0) (.slice a9 hl.length c9) ad).set (b:=w.heap.size+1) (i:=1) (.int .i64 f) ad).set (b:=w.heap.size+1) (i:=2) (.int .i64 p.period) ad).set (b:=w.heap.size+1) (i:=3) (.slice ya cl.length yc) ad;have h2:=h1.own.mono (base':=w.heap.size) ad;show al _ _ _ (bI p day).head;rw [show (bI p day).head=hl from by rw [pU.o,HI.o];rfl];exact h2
  have h1:kH _ _ _ (.slice ya cl.length yc) (aw cl):=(((ze.o.set (b:=w.heap.size+1) (i:=0) (.slice a9 hl.length c9) ad).set (b:=w.heap.size+1) (i:=1) (.int .i64 f) ad).set (b:=w.heap.size+1) (i:=2) (.int .i64 p.period) ad).set (b:=w.heap.size+1) (i:=3) (.slice ya cl.length yc) ad;have h2:=h1.own.mono (base':=w.heap.size) ad;show al _ _ _ (bI p day).cycle;rw [show (bI p day).cycle=aw cl from by rw [cS.o,OC,HF.o];rfl];exact h2
end
section
open Go.RowKit Go.Shelf Kal
attribute [local go_sem] GC
theorem Yw (h c:Value) (p:Per) (lo:Int) (w:World) (hp:∃ a1 n1 c1 a2 n2 c2,h=.slice a1 n1 c1/\c=.slice a2 n2 c2) :
  Calls Tryz.prog 250 #[ar h c p.frm p.period,.int .i64 lo] w λe w'=>e=.returned (.func (.func 259) #[] #[.pointer (some ⟨w.heap.size,0,none⟩),.pointer (some ⟨w.heap.size+1,0,none⟩)])/\
   (w.alloc (.cells #[h,.int .i64 p.frm,.int .i64 p.period,c] 80)).alloc (.cells #[.int .i64 lo] 3)=w':=by
 obtain ⟨a1,n1,c1,a2,n2,c2,rfl,rfl⟩:=hp
 go_in
 go_wp2;go_ret;exact ⟨rfl,rfl⟩
theorem Ints.kp {pb:Nat->Prop} {A B:World} {v:Value} {l:List Int} (h:Ints A v l) (hk:de pb A B) (hp:l≠[]->∀ b o n c,v=.slice (some ⟨b,o,none⟩) n c->pb b):Ints B v l:=by
 obtain ⟨⟨a,c,rfl,h1,h2,h3⟩,h4,h5⟩:=h;refine ⟨⟨a,c,rfl,h1,h2,?_⟩,h4,h5⟩;by_cases hl:l=[]
 .exact .inl hl
 refine h3.imp id ?_;rintro ⟨b,o,rfl,hc⟩;exact ⟨b,o,rfl,λi hi=>hk.cell (hp hl b o _ _ rfl) (hc i hi)⟩
theorem Yx (h c:Value) (p:Per) (lo:Int) (pbx lbx:Nat) (w:World) (pb:Nat->Prop) (hp:cj w h c p) (hw:p.WF) (h1:p.frm<=1125899906842624) (h2:p.period<=1125899906842624) (h0:0<=lo) (h3:lo<=1125899906842624)
  (bN:ag w pbx #[h,.int .i64 p.frm,.int .i64 p.period,c] 80) (gw:ag w lbx #[.int .i64 lo] 3) (g1:pb pbx) (g2:pb lbx)
  (g3:p.head≠[]->∀ b o n c',h=.slice (some ⟨b,o,none⟩) n c'->pb b) (g4:p.cycle≠[]->∀ b o n c',c=.slice (some ⟨b,o,none⟩) n c'->pb b/\b≠lbx) (g5:pbx≠lbx) :
  zW Tryz.prog 259 #[.pointer (some ⟨pbx,0,none⟩),.pointer (some ⟨lbx,0,none⟩)] (λy:Int=>#[.int .i64 y]) (de pb) (some lbx) (yS p.mem lo) (Dg p.mem lo) BdS w:=by
 intro l' J Jx W hW hJ AC hN hY rP;have hs1:=hw.head.1;have hs2:=hw.cyc.1;have f0:=hw.frm;have p0:=hw.per;have wz:=hp.ext hW;have xX:ag W pbx _ _:=bN.below hW;have Vq:ag W lbx _ _:=gw.below hW;clear hp bN gw hW;obtain ⟨⟨⟨ha,aT,rfl,hlc,hcc,ck⟩,hlen,_⟩,⟨ca,aK,rfl,Qd,_,iw⟩,sd,_⟩:=id wz;clear ck iw;have hk2:p.head.countP (λy=>decide (y<lo))<=p.head.length:=q7u;have Pw:=kB.start hw h0;obtain ⟨i0,hi0⟩:∃ i0,i0=p.head.countP λy=>decide (y<lo):=⟨_,rfl⟩;rw [<- hi0] at hk2 Pw;obtain ⟨a',hrun,hdr,_⟩:=Jn (a:=ha) (c:=aT) p.head hk2;have HI:=af hi0;have BX:=af Pw;have HW:=af hw;have ti:=af wz;clear hi0 Pw hw;have Uv:∀ (X:World) n,X.grownBy (X.drewN n) none:=λX n=>⟨rfl,rfl,rfl,TZ _,λ_ _ _=>rfl⟩;have UJ:∀ (pre:List Int) (X:World) n,J pre X->J pre (X.drewN n):=λpre X n h=>hJ pre X _ none h (Uv X n) (λr e=>by cases e);have uz:=af UJ;have HJ:=af hJ;have HY:=af hY;have HN:=af hN;clear UJ Uv hY hN hJ;refine K6 Tryz.func259 rfl trivial ?_ rfl;simp only [Tryz.ntmps259,NG,MH,M4,Nat.reduceAdd,Nat.reduceSub,N0,K7,Q3,QG,L4,S5];have hb0:=(xX.cells 0).1;have hl0:=(Vq.cells 0).1;gi_wp2_with (refine ⟨trivial,rfl,?_⟩;gi_at_call 216;refine (VL.2 (tt _ p.head lo _ (wz.hd.ext xE) hs1)).mono ?_;rintro e w' ⟨he,nq,rfl⟩;rw [<- HI.o] at he;subst he);clear hrun;gi_loopw [23] (λi wr=>∃ (k:Nat) (u:Int) (pre:List Int),k<=p.head.length-i0/\i=.int .i64 k/\kB p lo (i0+k) u pre/\J pre wr/\de pb W wr) (λi _=>(p.head.length-i0)-(intOf i).toNat)
 .exact ⟨0,lo,[],ad,rfl,BX.o,uz.o _ _ _ rP,λ_ _=>rfl⟩
 obtain ⟨k,u,pre,hk,rfl,hA,dK,hK⟩:=hrel;have HA:=af hA;have HK:=af hK;have jy:=af dK;have FA:Ints wr (.slice a' (p.head.length-i0) (aT-i0)) (p.head.drop i0):=hdr wr (wz.hd.kp hK g3);clear hA hK dK;by_cases hlt:k<p.head.length-i0
 .obtain ⟨⟨a9,c9,AU,_,_,nN⟩,_,_⟩:=FA;injection AU with cN eP dz
  subst cN;rcases nN with nN|⟨b9,o9,rfl,hcell⟩
  .have:(p.head.drop i0).length=0:=by rw [nN];rfl
   rw [S2] at this;omega
  have hcl:=hcell k (by rw [S2];exact hlt);have hg:(p.head.drop i0).getD k 0=p.head.getD (i0+k) 0:=by
   simp [VS]
  rw [hg] at hcl;have iy:=HA.o.next HW.o h0 (show i0+k<p.head.length by omega);have kg:=jH HW.o.head (show i0+k<p.head.length by omega);obtain ⟨y,hy⟩:∃ y,y=p.head.getD (i0+k) 0:=⟨_,rfl⟩;rw [<- hy] at hcl iy kg;have fu:=af iy;have AB:yS p.mem lo (pre ++ [y]):=⟨_,iy.1⟩;obtain ⟨fn,tmps,assign,body,i_,hR⟩:=HY.o pre y wr jy.o AB;have DF:=af AB;have GF:(k:Int)<((p.head.length-i0:Nat):Int):=ad;clear hcell hg iy AB hy eP dz
  gi_wp2
  refine ⟨rfl,hR.mono ?_⟩;rintro e W' (⟨rfl,gS,eQ⟩|⟨rfl,fK⟩)
  .gi_wp2
   go_roundw
   .exact ⟨k+1,y+1,pre ++ [y],ad,by go_num,fu.o.2,gS,HK.o.trans eQ⟩
   simp [intOf];omega
  gi_wp2
  refine VN (QX rfl _ _ _) rfl ?_;exact ⟨⟨_,rfl⟩,.inr ⟨_,DF.o,fK⟩⟩
 have hd:=HA.o.done h0 (show p.head.length<=i0+k by omega);have HD:=af hd;have cB:ag wr pbx _ _:=(HK.o pbx g1).trans xX;have tM:ag wr lbx _ _:=(HK.o lbx g2).trans Vq;have q4z:=(cB.cells 3).1;clear hd FA;have Qv:¬ (k:Int)<((p.head.length-i0:Nat):Int):=ad;by_cases vW:p.cycle=[]
 .have Qc:((p.cycle.length:Int) == 0)=true:=by rw [vW];rfl
  have ze:=af vW;clear vW
  gi_wp2
  refine VN (QX rfl _ _ _) rfl ?_;exact ⟨⟨_,rfl⟩,.inl ⟨pre,xt_ ze.o HD.o h0,jy.o⟩⟩
 have lU:1<=p.cycle.length:=by
  rcases NR p.cycle.length with h|h
  .exact absurd (NL h) vW
  exact h
 have Qc:((p.cycle.length:Int) == 0)=false:=by rw [beq_eq_false_iff_ne];omega
 have q4h:=(cB.cells 1).1;have px:=(cB.cells 2).1;have q1o:=(tM.cells 0).1;have q5r:=(tM.cells 0).2;obtain ⟨t,ht⟩:∃ t,t=max lo p.frm:=⟨_,rfl⟩;have oO:p.frm<=t:=ad;have yC:t<=1125899906842624:=ad;have sL:lo<=t:=ad;have HT:=af ht;clear vW ht;have UI:Ints wr (.slice ca p.cycle.length aK) p.cycle:=wz.cy.kp HK.o (λhl b o n c' he=>(g4 hl b o n c' he).1);gi_wp2_with fail;rw [<- HT.o];have hJ2:J pre (wr.setCell ⟨lbx,0,none⟩ (.int .i64 t)):=HJ.o pre wr _ (some lbx) jy.o (grownBy_setCell' wr lbx _) (λr e=>by cases e;exact ⟨rfl,_,tM,rfl⟩);have hb2:ag (wr.setCell ⟨lbx,0,none⟩ (.int .i64 t)) pbx _ _:=cB.setNe _ g5;have hl2:ag (wr.setCell ⟨lbx,0,none⟩ (.int .i64 t)) lbx #[.int .i64 t] 3:=bE 0 _ tM;have tI:Ints (wr.setCell ⟨lbx,0,none⟩ (.int .i64 t)) (.slice ca p.cycle.length aK) p.cycle:=by
  obtain ⟨⟨a2,c2,he,h5,h6,h7⟩,h8,h9⟩:=UI;refine ⟨⟨a2,c2,he,h5,h6,h7.imp id ?_⟩,h8,h9⟩;rintro ⟨b,o,rfl,hc⟩;exact ⟨b,o,rfl,λi hi=>Ci (hc i hi) (g4 (λe=>by rw [e] at hi;simp at hi) b o _ _ he).2 _⟩
 generalize wr.setCell ⟨lbx,0,none⟩ (.int .i64 t)=W2 at *;clear cB tM q4z q4h px q1o q5r UI;have x1:=(hb2.cells 1).1;have x2:=(hb2.cells 2).1;have x3:=(hb2.cells 3).1;have x4:=(hl2.cells 0).1;have yB:0<=t-p.frm:=ad;have hm0:=VK (t-p.frm) (show p.period≠0 by omega);have hm1:=VM (t-p.frm) (show 0<p.period by omega);have ix:(t-p.frm) % p.period<=t-p.frm:=by
  have e1:=OG (t-p.frm) p.period;have e2:=K_ (show 0<=p.period by omega) (N1 yB (show 0<=p.period by omega));omega
 have tG:=iA.start HW.o (lo:=lo) (t:=t) (pre:=pre) (by rw [HT.o];exact HD.o) sL rfl oO;refine wpIn_wide.2 ?_;go_quiet (fail);have hp3:0<=t-(t-p.frm) % p.period:=ad;obtain ⟨iR,hb0⟩:∃ b,b=t-(t-p.frm) % p.period:=⟨_,rfl⟩;rw [<- hb0] at tG ⊢;have Ga:0<=t-iR/\iR<=t:=ad;have hk3:p.cycle.countP (λy=>decide (y<t-iR))<=p.cycle.length:=q7u;obtain ⟨j0,hj0⟩:∃ j,j=p.cycle.countP (λy=>decide (y<t-iR)):=⟨_,rfl⟩;rw [<- hj0] at tG hk3;have HJ0:=af hj0;have HST:=af tG;have dL:iR<=1125899906842624:=ad;have F8:0<=iR:=ad;clear hb0 hj0 tG hp3
 apply_assumption
 gi_wp2_with (refine ⟨trivial,rfl,?_⟩;gi_at_call 216;refine (VL.2 (tt _ p.cycle _ _ (tI.ext xE) hs2)).mono ?_;rintro e w' ⟨he,Sy,rfl⟩;rw [<- HJ0.o] at he;subst he)
 have hJ3:J pre (W2.drewN (nq+Sy)):=uz.o _ _ _ hJ2;gi_loopw [4,8] (λvi vb wr=>∃ (j:Nat) (base u:Int) (pre:List Int),vi=.int .i64 j/\vb=.int .i64 base/\j<=p.cycle.length/\0<=base/\base<=5629499534213120/\(0<j->base<=1125899906842624)/\iA p lo base j u pre/\J pre wr/\de pb W2 wr) (λ_ vb _=>(9007199254740992-intOf vb).toNat)
 .exact ⟨j0,iR,t,pre,rfl,rfl,hk3,F8,ad,λ_=>dL,HST.o,hJ3,λ_ _=>rfl⟩
 obtain ⟨j,base,u',pre',rfl,rfl,hj,hbs0,hbs1,F_,hC,hJr,Pz⟩:=hrel;obtain ⟨a2,sJ,Qj,_⟩:=Jn (a:=ca) (c:=aK) p.cycle hj;have y3:=Pz.cell (a:=⟨pbx,3,none⟩) g1 x3;have HC:=af hC;have HKR:=af Pz;clear hC Pz;gi_wp2_with fail;clear sJ;have ep:=HC.o.hi;have Qu:=HC.o.ge;have uO:Hid (j<p.cycle.length->lo<=base+p.cycle.getD j 0):=af (λhlt=>by have:=ep j (TZ _) hlt;omega);have HMJ:Hid (j<p.cycle.length->p.mem (base+p.cycle.getD j 0)):=af (λhlt=>by
  have kg:=jH HW.o.cyc hlt;have hfb:=HC.o.fb;rw [Ks HW.o HC.o.fb HC.o.dv ad ad,show base+p.cycle.getD j 0-base=p.cycle.getD j 0 from by omega];exact lg hlt)
 clear ep Qu;obtain ⟨wo,rfl⟩:∃ wo:World,wo=wr:=⟨_,rfl⟩;gi_loopw [63] (λi wr=>∃ (k:Nat) (u:Int) (pre:List Int),k<=p.cycle.length-j/\i=.int .i64 k/\iA p lo base (j+k) u pre/\J pre wr/\de pb W2 wr) (λi _=>(p.cycle.length-j)-(intOf i).toNat)
 .exact ⟨0,u',pre',ad,rfl,HC.o,hJr,HKR.o⟩
 obtain ⟨k,u,pre,hk,rfl,hA,dK,hK⟩:=hrel;have HA:=af hA;have HK:=af hK;have jy:=af dK;have FA:Ints wr (.slice a2 (p.cycle.length-j) (aK-j)) (p.cycle.drop j):=Qj wr (tI.kp hK (λhl b o n c' he=>(g4 hl b o n c' he).1));have y2:=hK.cell (a:=⟨pbx,2,none⟩) g1 x2;clear hA hK dK;by_cases hlt:k<p.cycle.length-j
 .obtain ⟨⟨a9,c9,AU,_,_,nN⟩,_,_⟩:=FA;injection AU with cN eP dz
  subst cN;rcases nN with nN|⟨b9,o9,rfl,hcell⟩
  .have:(p.cycle.drop j).length=0:=by rw [nN];rfl
   rw [S2] at this;omega
  have hcl:=hcell k (by rw [S2];exact hlt);have hg:(p.cycle.drop j).getD k 0=p.cycle.getD (j+k) 0:=by
   simp [VS]
  rw [hg] at hcl;have iy:=HA.o.next HW.o h0 (show j+k<p.cycle.length by omega);have kg:=jH HW.o.cyc (show j+k<p.cycle.length by omega);obtain ⟨y,hy⟩:∃ y,y=p.cycle.getD (j+k) 0:=⟨_,rfl⟩;rw [<- hy] at hcl iy kg;have fu:=af iy;have AB:yS p.mem lo (pre ++ [base+y]):=⟨_,iy.1⟩;obtain ⟨fn,tmps,assign,body,i_,hR⟩:=HY.o pre (base+y) wr jy.o AB;have DF:=af AB;have GF:(k:Int)<((p.cycle.length-j:Nat):Int):=ad;clear hcell hg iy AB hy eP dz
  gi_wp2
  refine ⟨rfl,hR.mono ?_⟩;rintro e W' (⟨rfl,gS,eQ⟩|⟨rfl,fK⟩)
  .gi_wp2
   go_roundw
   .exact ⟨k+1,base+y+1,pre ++ [base+y],ad,by go_num,fu.o.2,gS,HK.o.trans eQ⟩
   simp [intOf];omega
  gi_wp2
  refine VN (QX rfl _ _ _) rfl ?_;exact ⟨⟨_,rfl⟩,.inr ⟨_,DF.o,fK⟩⟩
 have Qv:¬ (k:Int)<((p.cycle.length-j:Nat):Int):=ad;have q6j:=HA.o.round HW.o h0 (show p.cycle.length<=j+k by omega);have Eg:=af q6j;have hbnd:base<=4503599627370496:=by
  rcases PZ j p.cycle.length with dE|dE
  .have h9:=HN.o pre wr jy.o (base+p.cycle.getD j 0) (by
    rw [HA.o.is,dX h0];exact ⟨uO.o dE,HA.o.lo j ad dE,HMJ.o dE⟩)
   have:=jH HW.o.cyc dE;omega
  have:=F_ ad;omega
 clear q6j FA F_;gi_wp2_with fail;refine ⟨⟨0,base+p.period,base+p.period,pre,rfl,rfl,ad,ad,ad,ad,Eg.o,jy.o,HK.o⟩,by simp [intOf];omega⟩
end
section
open Go.RowKit Go.Shelf Kal
attribute [local go_sem] GC
theorem nr_ {F:Fence} {nF:Nat} {w:World} {ops:Array Oper} {rest:List Oper} {o:Oper} {a:Act} {Q:Exit->Act->World->Prop} (hgd:o.guard=none) (s x:Operand)
  (ho:o.op=.call { callee:=.builtin .append,args:=#[s,x],argTypes:=#[35,35] }) (base:Nat) (v:Value) (l:List Int) (y:Int) (hs:a.eval s=v) (hown:al w base v l)
  (blk c:Nat) (hx:a.eval x=.slice (some ⟨blk,0,none⟩) 1 c) (hnew:w.cell? ⟨blk,0,none⟩=some (.int .i64 y)) (hy:aS y) (hlen:l.length+1<=17592186044416) (hbase:base<=w.heap.size)
  (h:∀ g cap w',al w' base (.slice (some ⟨g,0,none⟩) (l.length+1) cap) (l ++ [y])->w.grownBy w' v.ownBlock->Below base w w'->wpListIn F nF Tryz.prog ops Q rest (a.put o.dst (.slice (some ⟨g,0,none⟩) (l.length+1) cap)) w') :
  wpListIn F nF Tryz.prog ops Q (o :: rest) a w:=by
 obtain ⟨i,hi,h1,h2,h3⟩:=xJ;refine wpListIn_append_own_at w hgd s x 35 ho base 3 i (.int .i64 0) 1 8 Tryz.underlying35 hi h1 h2 h3 rfl ad v l.length (l.map (Value.int .i64)) hs hown.row ⟨blk,0,none⟩ 1 c [.int .i64 y] hx rfl ?_ (by simp [Value.oneCell']) (by unfold maxLen;omega) ad hbase ?_
 .intro j u hu
  match j,hu with
  | 0,hu=>simp at hu;subst hu;exact hnew
 intro v' w' hown' hgrow _ _;obtain ⟨g,cap,rfl⟩:=ownsRow_succ hown';exact h g cap w' (al.appended hown.rng hy hlen hown') hgrow (hown.below_grown (W0:=w) (.inr trivial) hbase hgrow)
def Oe (l:List Int) (w:World) (e:Ending) (w':World):Prop:=∃ v,e=.returned v/\al w' w.heap.size v l/\Below w.heap.size w w'
theorem tw {B D:Nat} {w:World} (hB:B<=D) (hD:w.heap[D]? = some (.deferred (some []))):cJ B [{ target:=.collected D,args:=#[] }] w:=
 ⟨[D],rfl,aj,λD' h=>by (obtain rfl:D'=D:=by simpa using h);exact ⟨hB,hD⟩⟩
theorem KeepsOthers.grown_cells {A B C:World} {row:Option Nat} (h:KeepsOthers A B) (hg:B.grownBy C row) (hr:∀ r,row=some r->∃ o:Obj,B.heap[r]? = some o/\o.isCells=true):KeepsOthers A C:=
 ⟨NN h.size hg.size,λk o hk ho=>by
  have h1:=h.same k o hk ho;refine (hg.block k (Q0.1 h1).1 λe=>?_).trans h1;obtain ⟨o2,h2,h3⟩:=hr k e.symm;rw [h1] at h2;cases h2;rw [ho] at h3;cases h3⟩
theorem al.row_cells {W:World} {base:Nat} {v:Value} {l:List Int} (h:al W base v l):∀ r,v.ownBlock=some r->∃ o:Obj,W.heap[r]? = some o/\o.isCells=true:=by
 intro r hr;rcases h.row.2 with ⟨rfl,_⟩|⟨g,cap,cur,rfl,_,hh,_⟩
 .cases hr
 obtain rfl:g=r:=by simpa [Value.ownBlock] using hr
 exact ⟨_,hh,rfl⟩
structure WI (w:World) (hi:Int) (hb ob base:Nat) (v:Value) (l:List Int) (W:World):Prop where
 below:Below w.heap.size w W
 hbx:ag W hb #[.int .i64 hi] 3
 obx:ag W ob #[v] 35
 own:al W base v l
 sz:base<=W.heap.size
theorem WI.grow {w:World} {hi:Int} {hb ob base:Nat} {v:Value} {l:List Int} {W W':World} {row:Option Nat} (h:WI w hi hb ob base v l W) (hg:W.grownBy W' row)
  (hr:∀ r,row=some r->w.heap.size<=r/\((r≠hb/\r≠ob/\r<base)\/∃ o:Obj,W.heap[r]? = some o/\o.isCells=false)):WI w hi hb ob base v l W':=by
 have key:∀ {b:Nat} {c:Array Value} {t:TypeId},ag W b c t->(b=hb\/b=ob)->ag W' b c t:=λ{b c t} hx jn=>by
  refine (hg.block b hx.lt λe=>?_).trans hx;obtain ⟨_,h1|⟨o,ho,hc⟩⟩:=hr b e.symm
  .rcases jn with rfl|rfl <;> simp at h1
  rw [show W.heap[b]? = _ from hx] at ho;cases ho;cases hc
 refine ⟨h.below.grown hg h.below.size (λk e=>(hr k e).1),key h.hbx (.inl rfl),key h.obx (.inr rfl),h.own.kept hg ?_,NN h.sz hg.size⟩;rcases cL:v.ownBlock with _|g
 .exact .inl rfl
 refine .inr λe=>?_;have hlt:=h.own.lt g cL;obtain ⟨o2,h2,h3⟩:=h.own.row_cells g cL;obtain ⟨_,h1|⟨o,ho,hc⟩⟩:=hr g e.symm
 .omega
 rw [h2] at ho;cases ho;rw [hc] at h3;cases h3
theorem JA {S:Int->Prop} {lo hi n:Int} (h0:0<=lo) (h1:∀ x∈bF S lo n,x<hi) (h2:∀ x,S x->lo<=x->x<hi->x<n):bF S lo n=bF S lo hi:=by
 refine (fJ h0).ext (fJ h0) λx=>?_;constructor
 .intro hx;have:=(dX h0 x).1 hx;exact (dX h0 x).2 ⟨this.1,h1 x hx,this.2.2⟩
 intro hx;have:=(dX h0 x).1 hx;exact (dX h0 x).2 ⟨this.1,h2 x this.2.2 this.1 this.2.1,this.2.2⟩
theorem Xw (h c:Value) (p:Per) (lo hi:Int) (w:World) (hp:cj w h c p) (hw:p.WF) (h1:p.frm<=1125899906842624) (h2:p.period<=1125899906842624) (h0:0<=lo) (h3:lo<=1125899906842624) (h4:0<=hi) (h5:hi<=8796093022208) :
  Calls Tryz.prog 228 #[ar h c p.frm p.period,.int .i64 lo,.int .i64 hi] w (Oe (bF p.mem lo hi) w):=by
 obtain ⟨a1,c1,a2,c2,rfl,rfl⟩:=hp.inn.form;refine VL (n:=0).1 ?_;refine NT Tryz.func228 rfl trivial ?_ rfl;simp only [Tryz.ntmps228,NG,MH,M4,Nat.reduceAdd,Nat.reduceSub,N0,K7,Q3,QG,L4,S5];gi_wp2_with (refine ⟨trivial,rfl,?_⟩;gi_at_call 250;refine (VL.2 (Yw _ _ p lo _ ⟨_,_,_,_,_,_,rfl,rfl⟩)).mono ?_;rintro e w' ⟨rfl,rfl⟩);generalize hW0:((((w.alloc _).alloc _).alloc _).alloc _).alloc _=W0;have hE:Below w.heap.size w W0:=by rw [<- hW0];exact xE
 have hsz:W0.heap.size=w.heap.size+5:=by rw [<- hW0];simp
 have lW:ag W0 (w.heap.size+1) #[.int .i64 hi] 3:=by rw [<- hW0];exact (((ag.at aj).alloc _).alloc _).alloc _
 have cL:ag W0 (w.heap.size+2) #[.slice none 0 0] 35:=by rw [<- hW0];exact ((ag.at aj).alloc _).alloc _
 have bN:ag W0 (w.heap.size+3) #[.slice a1 p.head.length c1,.int .i64 p.frm,.int .i64 p.period,.slice a2 p.cycle.length c2] 80:=by rw [<- hW0];exact (ag.at aj).alloc _
 have gw:ag W0 (w.heap.size+4) #[.int .i64 lo] 3:=by rw [<- hW0];exact ag.at aj
 have hz1:W0.heap.size<=w.heap.size+5:=ad;have hz2:w.heap.size+5<=W0.heap.size:=ad;have wz:=hp.ext hE;have hin:=hp.inn;have tG:WI w hi (w.heap.size+1) (w.heap.size+2) W0.heap.size (.slice none 0 0) [] W0:=⟨hE,lW,cL,al.nil _ _,TZ _⟩;have HST:=af tG;clear hW0 hsz tG lW cL;have nM:∀ (v:Value) (l:List Int),IntsIn w 0 w.heap.size v l->l≠[]->∀ b o n c',v=.slice (some ⟨b,o,none⟩) n c'->b<w.heap.size:=λv l hi hl b o n c' he=>(hi.blk hl b (by rw [he];rfl)).2;simp only [OE,Nat.reduceAdd];refine Ph (x:=some (w.heap.size+4)) (gf:=259) (lb:=#[.pointer (some ⟨w.heap.size+3,0,none⟩),.pointer (some ⟨w.heap.size+4,0,none⟩)]) rfl (enters_of Tryz.func259 (by kernel_rfl) rfl)
  (Yx (.slice a1 p.head.length c1) (.slice a2 p.cycle.length c2) p lo (w.heap.size+3) (w.heap.size+4) W0 (λk=>k<w.heap.size\/k=w.heap.size+3\/k=w.heap.size+4) wz hw h1 h2 h0 h3 bN gw (.inr (.inl rfl)) (.inr (.inr rfl))
   (λhl b o n c' he=>.inl (nM _ _ hin.hd hl b o n c' he)) (λhl b o n c' he=>⟨.inl (nM _ _ hin.cy hl b o n c' he),by have:=nM _ _ hin.cy hl b o n c' he;omega⟩) ad)
  (λh k=>h.trans k) (de.putObj (by intro k hk;omega)) (λy=>rfl)
  (λpre W'=>(∀ x∈pre,x<hi)/\∃ v,WI w hi (w.heap.size+1) (w.heap.size+2) W0.heap.size v pre W')
  (λc' _ W'=>c'=.exit 0/\∃ v,WI w hi (w.heap.size+1) (w.heap.size+2) W0.heap.size v (bF p.mem lo hi) W')
  (λpre A C row hI hg hr=>⟨hI.1,hI.2.choose,hI.2.choose_spec.grow hg λr e=>by
   rcases hr r e with ⟨h,_⟩|⟨h,h'⟩
   .injection h with h;exact ⟨ad,.inl ⟨ad,ad,ad⟩⟩
   exact ⟨ad,.inr h'⟩⟩)
  (λc' pre A C row hI hg hr=>⟨hI.1,hI.2.choose,hI.2.choose_spec.grow hg λr e=>by
   rcases hr r e with ⟨h,_⟩|⟨h,h'⟩
   .injection h with h;exact ⟨ad,.inl ⟨ad,ad,ad⟩⟩
   exact ⟨ad,.inr h'⟩⟩)
  (λpre W' hI x hx=>by have:=hI.1 x hx;omega) ⟨aj,_,HST.o⟩
  (λy=>⟨#[ar (.slice a1 p.head.length c1) (.slice a2 p.cycle.length c2) p.frm p.period,.int .i64 lo,.int .i64 hi,.pointer (some ⟨w.heap.size,0,none⟩),undef,.pointer (some ⟨w.heap.size+1,0,none⟩),.slice none 0 0,.pointer (some ⟨w.heap.size+2,0,none⟩),(.int .i64 y),.agg #[.slice a1 p.head.length c1,.int .i64 p.frm,.int .i64 p.period,.slice a2 p.cycle.length c2],.int .i64 lo,.func (.func 259) #[] #[.pointer (some ⟨w.heap.size+3,0,none⟩),.pointer (some ⟨w.heap.size+4,0,none⟩)],(.int .i64 y),undef,undef,undef,undef,undef,undef,undef,undef],[]⟩) ?assign ?body ?done ?stop
 case assign=>
  intro l y W' K hK
  gi_wp2
  exact hK
 case body=>
  rintro l pre y W' ⟨hlt,v,kf⟩ hen;obtain ⟨hy1,hy2,Hj,Hk⟩:=yS.last h0 hen;obtain ⟨va,vc,rfl⟩:=kf.own.form;have q1:=(kf.hbx.cells 0).1;have q2:=(kf.obx.cells 0).1;have q3:=(kf.obx.cells 0).2;have hown:=kf.own;have hsz:=kf.sz;have tp:=af kf;have H3:=af Hj;have H4:=af Hk;have eo:=kf.below.size;clear Hj Hk kf hen;by_cases hc:y<hi
  .have hlen:pre.length+1<=17592186044416:=by
    have:=(fJ (S:=p.mem) (lo:=lo) (hi:=y) h0).length_le hy1;rw [<- H3.o] at this;omega
   gi_wp2_with (gi_at_builtin;refine nr_ aC _ _ aC W0.heap.size (.slice va pre.length vc) pre y aC (al.ext hown (Ea (Er _) _)) _ _ aC aj ⟨ad,ad⟩ hlen aR ?_;intro g cap W2 hown2 hgrow bY;have fh:=(tp.o.obx.alloc (.cells #[.int .i64 y] 3)).upto bY ad;have hk2:=(fh.cells 0).1;have hk3:=(fh.cells 0).2)
   refine ⟨(YE (KeepsOthers.grown_cells (q7s W' _) hgrow (al.row_cells (al.ext hown (Ea (Er W') (.cells #[.int .i64 y] 3))))) (K8 W2 ⟨w.heap.size+2,0,none⟩ (.slice (some ⟨g,0,none⟩) (pre.length+1) cap))).from _,λk hk=>?_,λx hx=>?_,.slice (some ⟨g,0,none⟩) (pre.length+1) cap,?_⟩
   .rw [rB ad,bY.block k ad];exact DN _ _ _ ad
   .rcases VJ.1 hx with hx|hx
    .exact hlt x hx
    obtain rfl:x=y:=by simpa using hx
    exact hc
   have hz3:=bY.size;simp only [U7] at hz3;refine ⟨((tp.o.below.alloc ad _).trans (bY.mono ad)).setCell (p:=⟨w.heap.size+2,0,none⟩) aj _,((tp.o.hbx.alloc _).upto bY ad).setNe _ ad,bE 0 _ fh,?_,by simp [World.setCell];omega⟩;have e:(Value.slice (some ⟨g,0,none⟩) (pre.length+1) cap)=.slice (some ⟨g,0,none⟩) (pre ++ [y]).length cap:=by simp
   exact hown2.above ((cm.refl _ W2).setCell aR _)
  have hge:hi<=y:=ad
  gi_wp2
  refine ⟨KeepsFrom.refl _ _,rfl,.slice va pre.length vc,?_⟩;have e:pre=bF p.mem lo hi:=by
   rw [H3.o];exact JA h0 (λx hx=>hlt x (by rw [H3.o];exact hx)) (λx _ _ hx=>ad)
  rw [<- e];exact tp.o
 case done=>
  rintro D xs W' hD ⟨n,hn,rfl⟩ ⟨hlt,v,kf⟩ aL;have e:=JA h0 hlt (λx hx _ _=>hn x hx);rw [e] at kf;clear e hlt;obtain ⟨va,vc,rfl⟩:=kf.own.form;have q2:=(kf.obx.cells 0).1;have tp:=af kf;have fW:=af aL;clear kf aL;gi_wp2_with fail;have hM:cJ w.heap.size [{ target:=.collected D,args:=#[] }] W':=tw ad fW.o;refine ik (B:=w.heap.size) _ _ hM λw' hs=>⟨.slice va (bF p.mem lo hi).length vc,by simp [results,Tryz.results228,go_sem],.slice va (bF p.mem lo hi).length vc,rfl,?_,tp.o.below.trans hs.below⟩;exact (tp.o.own.shut hs).mono ad
 case stop=>
  rintro D c' pre W' hD _ ⟨rfl,v,kf⟩ aL;refine wpIn_exit ?_
  conv=>whnf
  apply_assumption
  obtain ⟨va,vc,rfl⟩:=kf.own.form;have q2:=(kf.obx.cells 0).1;have tp:=af kf;have fW:=af aL;clear kf aL;gi_wp2_with fail;have hM:cJ w.heap.size [{ target:=.collected D,args:=#[] }] W':=tw ad fW.o;refine ik (B:=w.heap.size) _ _ hM λw' hs=>⟨.slice va (bF p.mem lo hi).length vc,by simp [results,Tryz.results228,go_sem],.slice va (bF p.mem lo hi).length vc,rfl,?_,tp.o.below.trans hs.below⟩;exact (tp.o.own.shut hs).mono ad
end
section
open Go.RowKit Kal
def Ar (p:Per) (b:Int) (n:Int):Prop:=0<=n/\p.mem (n-b)
def ql (p:Per) (b:Int):Per:=⟨(bI p (max (-b) 0)).head.map (·+b),(bI p (max (-b) 0)).frm+b,p.period,(bI p (max (-b) 0)).cycle⟩
theorem wi_ {p:Per} (h:p.WF) (b:Int):(ql p b).WF/\∀ n,(ql p b).mem n↔Ar p b n:=by
 obtain ⟨hw,hm⟩:=RI h (day:=max (-b) 0) ad;have hf:max p.frm (max (-b) 0)=(bI p (max (-b) 0)).frm:=rfl;have h0:0<=(bI p (max (-b) 0)).frm+b:=by rw [<- hf];omega
 refine Jg (S:=Ar p b) h0 h.per (λn hn=>hn.1) ?_ ⟨?_,?_⟩ hw.cyc (λn h1 h2=>?_) (λn h1 h2=>?_)
 .intro n hn;have e:=hw.pfrom (n-b) ad;rw [hm,hm] at e;have hp:(bI p (max (-b) 0)).period=p.period:=rfl;rw [hp] at e;unfold Ar;rw [show n+p.period-b=n-b+p.period from by omega];have:=h.per;constructor
  .rintro ⟨h1,h2⟩;exact ⟨ad,(e.1 ⟨h2,ad⟩).1⟩
  rintro ⟨h1,h2⟩;exact ⟨ad,(e.2 ⟨h2,ad⟩).1⟩
 .exact zf.2 (hw.head.1.imp λh=>ad)
 .intro x hx;obtain ⟨y,hy,rfl⟩:=VC.1 hx;have hb:=hw.head.2 y hy;have:=(hm y).1 ((Per.mem_lo hb.1 hb.2).2 hy);omega
 .unfold Ar;rw [VC];constructor
  .rintro ⟨y,hy,rfl⟩;have hb:=hw.head.2 y hy;have:=(hm y).1 ((Per.mem_lo hb.1 hb.2).2 hy);exact ⟨h1,by rw [show y+b-b=y from by omega];exact this.1⟩
  rintro ⟨_,h3⟩;have hn:0<=n-b:=h3.1;exact ⟨n-b,(Per.mem_lo hn ad).1 ((hm _).2 ⟨h3,ad⟩),ad⟩
 unfold Ar;have hc:=hw.cyc_mem n;rw [hm] at hc;have e:(bI p (max (-b) 0)).frm+b+n-b=(bI p (max (-b) 0)).frm+n:=ad;rw [e];have hp:(bI p (max (-b) 0)).period=p.period:=rfl;rw [hp] at hc;constructor
 .intro hx;have:=hc.1 hx;exact ⟨ad,this.2.2.1⟩
 rintro ⟨_,h3⟩;exact hc.2 ⟨h1,h2,h3,by rw [<- hf];omega⟩
structure SI (w:World) (rb ob:Nat) (hv cv:Value) (f d:Int) (l cl:List Int) (lo hi:Nat) (W:World):Prop where
 below:Below w.heap.size w W
 rbx:ag W rb #[.slice none 0 0,.int .i64 0,.int .i64 0,.slice none 0 0] 80
 obx:ag W ob #[hv,.int .i64 f,.int .i64 d,cv] 80
 own:kH W lo hi hv l
 cy:kH W lo hi cv cl
 ap:∀ g,hv.ownBlock=some g->cv.ownBlock≠some g
 o1:w.heap.size<rb
 o2:rb<lo
 o3:hi<=ob
theorem SI.store {w:World} {rb ob g n cap lo hi:Nat} {cv:Value} {f d:Int} {l cl:List Int} {W:World} (h:SI w rb ob (.slice (some ⟨g,0,none⟩) n cap) cv f d l cl lo hi W) (hn:n=l.length) {i:Nat} {y:Int} (hy:aS y) :
  SI w rb ob (.slice (some ⟨g,0,none⟩) n cap) cv f d (l.set i y) cl lo hi (W.setCell ⟨g,i,none⟩ (.int .i64 y)):=by
 subst hn;have hg:=h.own.own.lt g rfl;have hg2:=h.own.lt g rfl;have o1:=h.o1;have o2:=h.o2;have o3:=h.o3;refine ⟨h.below.setCell (p:=⟨g,i,none⟩) aR _,h.rbx.setNe _ ad,h.obx.setNe _ ad,⟨⟨?_,λx hx=>?_,by simpa using h.own.own.len⟩,h.own.lt⟩,?_,h.ap,o1,o2,o3⟩
 .have:=(h.own.own.row.stored i (.int .i64 y)).1;rw [OF,yg];exact this
 .rcases YM hx with hx|rfl
  .exact h.own.own.rng x hx
  exact hy
 obtain ⟨⟨⟨c1,c2⟩,c3,c4⟩,c5⟩:=h.cy;refine ⟨⟨⟨c1,?_⟩,c3,c4⟩,c5⟩;rcases c2 with c2|⟨g',cap',cur,hv,c6,c7,c8⟩
 .exact .inl c2
 refine .inr ⟨g',cap',cur,hv,c6,(DO W ⟨g,i,none⟩ _ g' (λe=>?_)).trans c7,c8⟩;have e':g'=g:=e;subst e';exact h.ap g' rfl (by rw [hv];rfl)
def qG (L:List Int) (b:Int) (k:Nat):List Int:=(L.take k).map (·+b) ++ L.drop k
theorem Jl (L:List Int) (b:Int) (k:Nat):(qG L b k).length=L.length:=by
 unfold qG;simp;omega
theorem q4y (L:List Int) (b:Int) {k:Nat} (h:k<L.length):(qG L b k)[k]? = some (L.getD k 0):=by
 unfold qG;rw [ND aR];simp [EB (Nat.le_of_lt h),h]
theorem q2j (L:List Int) (b:Int) {k:Nat} (h:k<L.length):(qG L b k).set k (L.getD k 0+b)=qG L b (k+1):=by
 have hl:((L.take k).map (·+b)).length=k:=by simp;omega
 unfold qG;rw [q7y _ _ ad,hl,Nat.sub_self,GE h,List.set_cons_zero,LF h,UZ,QL];simp [h]
def xa_ (q:Per) (w:World) (e:Ending) (w':World):Prop:=(q.frm<=1099511627776->nG q w e w')/\(1099511627776<q.frm->Sz 2 w e w')
theorem xc_ (h c:Value) (p q:Per) (b:Int) (w:World) (hp:cj w h c p) (hv:Valid p) (h0:-1099511627776<=b) (h1:b<=1099511627776) (hq:bV q (Ar p b)) :
  Calls Tryz.prog 133 #[ar h c p.frm p.period,.int .i64 b] w (xa_ q w):=by
 have hl:∀ W,Below w.heap.size w W->cj W h c p:=λW hb=>hp.ext hb;have tU:=(pg p).2 hv;have f1:p.frm<=1125899906842624:=by have:=hv.frm;omega
 have f2:p.period<=1125899906842624:=by have:=hv.per;omega
 have hk:=wi_ hv.wf b;have HL:=af hk;have HQ:Hid (bV q (ql p b).mem):=af (hq.congr λn=>(hk.2 n).symm);have HV:=af hv;obtain ⟨dy,kK⟩:∃ dy,dy=max (-b) 0:=⟨_,rfl⟩;have oL:0<=dy:=ad;have e_:dy<=1125899906842624:=ad;have HD:=af kK;have mP:max (-b) 0=dy:=kK.symm;have hR0:0<=(bI p dy).frm+b:=by show 0<=max p.frm dy+b;omega
 have hR1:(bI p dy).frm+b<=4398046511104:=by show max p.frm dy+b<=_;have:=hv.frm;omega
 have hR2:(bI p dy).frm<=4398046511104:=by show max p.frm dy<=_;have:=hv.frm;omega
 have zJ:=af (RI hv.wf oL).1;have Ca:Hid (ql p b=⟨(bI p dy).head.map (·+b),(bI p dy).frm+b,p.period,(bI p dy).cycle⟩):=af (by unfold ql;rw [mP]);clear hp hq hv hk kK
 go_in
 go_wp2_with (first|(go_at_call 92;refine (rD h c p _ (hl _ xE)).mono ?_;rintro e w1 ⟨rfl,hb1⟩;obtain ⟨hc1,gG⟩:=bd_ hb1;(try simp only [U7,Q1,fZ,O1] at hc1 gG);have hz1:=hb1.size;(try simp only [U7,Q1,fZ,O1] at hz1);have Hl:w.heap.size+1<w1.heap.size:=ad)|(go_at_call 181;refine (RJ h c p dy _ (hl _ xE) HV.o.wf f1 f2 oL e_).mono ?_;rintro e w2 ⟨x1,x2,rfl,ho2,hb2,FX⟩;obtain ⟨qI,wL,lE,BL,rfl,rfl⟩:=ho2.form;obtain ⟨hc2,hf2⟩:=bd_ hb2;(try simp only [U7,Q1,fZ,O1] at hc2 hf2);have hz2:=hb2.size;(try simp only [U7,Q1,fZ,O1] at hz2);have hz2':w.heap.size+1<w2.heap.size:=ad))
 have hlen:=ho2.hd.len;have hst:SI w (w.heap.size+1) w2.heap.size (.slice qI (bI p dy).head.length wL) (.slice lE (bI p dy).cycle.length BL) ((bI p dy).frm+b) (bI p dy).period (qG (bI p dy).head b 0) (bI p dy).cycle w1.heap.size w2.heap.size
   (w2.alloc (.cells #[.slice qI (bI p dy).head.length wL,.int .i64 ((bI p dy).frm+b),.int .i64 (bI p dy).period,.slice lE (bI p dy).cycle.length BL] 80)):=
  ⟨by exact xE,(((ag.at aj).upto hb1 aj).upto hb2 ad).alloc _,ag.new _ _ _,ho2.hd.oin.alloc _ (TZ _),ho2.cy.oin.alloc _ (TZ _),FX,ad,ad,ad⟩
 have HST:=af hst;clear hst hc1 gG hc2 hf2 FX hb1 hb2;obtain ⟨L,hL⟩:∃ L,L=(bI p dy).head:=⟨_,rfl⟩;rw [<- hL] at HST hlen ⊢;have np:=af hL;have vO:∀ i,i<L.length->0<=L.getD i 0/\L.getD i 0<4398046511104:=λi hi=>by
  subst hL;have:=jH zJ.o.head hi;omega
 have wY:=af vO;clear hL vO ho2;go_loopw [33] (λi wr=>∃ k:Nat,k<=L.length/\i=.int .i64 k/\SI w (w.heap.size+1) w2.heap.size (.slice qI L.length wL) (.slice lE (bI p dy).cycle.length BL) ((bI p dy).frm+b) (bI p dy).period (qG L b k) (bI p dy).cycle w1.heap.size w2.heap.size wr) (λi _=>L.length-(intOf i).toNat)
 .exact ⟨0,ad,rfl,HST.o⟩
 obtain ⟨k,hk,rfl,hS⟩:=hrel;have mU:=(hS.obx.cells 0).1;have HS:=af hS;clear hS;by_cases hlt:k<L.length
 .rcases (HS.o.own.own.row).2 with ⟨he,h9⟩|⟨g,cap,cur,he,hg1,hg2,_⟩
  .rw [Jl] at h9;omega
  rw [show (Value.slice qI L.length wL)=.slice qI (qG L b k).length wL from by rw [Jl]] at he;injection he with cN eP dz
  subst cN;have hrow:=HS.o.own.own.row;rw [Jl] at hrow;have hcell:wr.cell? ⟨g,k,none⟩=some (.int .i64 (L.getD k 0)):=by
   rw [hrow.cellAt k ad,OA,q4y L b hlt];rfl
  have hfro:=hrow.frozenAt k;have kg:=wY.o k hlt;obtain ⟨y,hy⟩:∃ y,y=L.getD k 0:=⟨_,rfl⟩;rw [<- hy] at hcell kg;have HY:=af hy;have iy:=HS.o.store (i:=k) (y:=y+b) (Jl L b k).symm ⟨ad,ad⟩;rw [hy,q2j L b hlt,<- hy] at iy;have fu:=af iy;have fg:(k:Int)<L.length:=ad;clear hy iy hrow eP dz hg2;go_wp2;go_roundw
  .exact ⟨k+1,ad,by go_num,fu.o⟩
  simp [intOf];omega
 obtain rfl:k=L.length:=ad;have aM:qG L b L.length=(ql p b).head:=by
  rw [Ca.o];unfold qG;simp [np.o]
 have hS:=HS.o;rw [aM] at hS;have qD:=(hS.obx.cells 1);have GW:=(hS.obx.cells 2);have tQ:=(hS.obx.cells 3);have Q2:=(hS.obx.cells 0);have A6:=hS.obx.lt;have cB:=hS.below;have HS':=af hS;have Dv:Hid (∀ W,Below wr.heap.size wr W->Calls Tryz.prog 129 #[.agg #[.slice qI L.length wL,.int .i64 ((bI p dy).frm+b),.int .i64 (bI p dy).period,.slice lE (bI p dy).cycle.length BL]] W (Zt q W)):=af (λW hb=>by
  have hP:cj W (.slice qI L.length wL) (.slice lE (bI p dy).cycle.length BL) (ql p b):=⟨hS.own.own.ints.ext hb,by rw [Ca.o];exact hS.cy.own.ints.ext hb⟩;have h5:(ql p b).frm<=1125899906842624:=by rw [Ca.o];show (bI p dy).frm+b<=_;omega
  have h6:(ql p b).period<=1125899906842624:=f2;have h7:=Fg _ _ (ql p b) q W hP HL.o.1 h5 h6 HQ.o;have e1:(ql p b).frm=(bI p dy).frm+b:=by rw [Ca.o]
  have e2:(ql p b).period=(bI p dy).period:=rfl;rw [e1,e2] at h7;exact h7)
 have l_:=hS.rbx;clear hS aM;by_cases hbig:q.frm<=1099511627776
 .go_wp2_with (go_at_call 129;refine (Dv.o _ (Er _)).mono ?_;rintro e w3 ⟨y1,y2,rfl,mT,hb3⟩;obtain ⟨a1,n1,a2,n2,rfl,rfl⟩:=mT.form;obtain ⟨hc3,hf3⟩:=bd_ hb3;(try simp only [U7,Q1,fZ,O1] at hc3 hf3);have hz3:=hb3.size;(try simp only [U7,Q1,fZ,O1] at hz3);have od:w2.heap.size<w3.heap.size:=ad;have jq:=(l_.upto hb3 ad).cells 0;have hr1:=(l_.upto hb3 ad).cells 1;have hr2:=(l_.upto hb3 ad).cells 2;have hr3:=(l_.upto hb3 ad).cells 3;have gI:w2.heap.size≠w.heap.size+1:=ad;have q2t:w.heap.size+1≠w2.heap.size:=ad)
  refine VN (v:=.tuple #[ar (.slice a1 q.head.length n1) (.slice a2 q.cycle.length n2) q.frm q.period,.int .i64 0]) (by simp [results,Tryz.results133,go_sem, *]) rfl ⟨λ_=>⟨_,_,rfl,(mT.above (by (repeat' (with_reducible first|exact cm.refl _ _|refine cm.alloc ?_ _|refine cm.drew ?_|refine cm.drewN ?_ _|refine cm.setCell ?_ (by first|(simp;done)|(simp;omega)|omega) _)))).mono ad,xE⟩,λh=>absurd hbig ad⟩
 have q0g:1099511627776<q.frm:=ad;go_wp2_with (go_at_call 129;refine (Dv.o _ (Er _)).mono ?_;rintro e w3 ⟨y1,y2,rfl,mT,hb3⟩;obtain ⟨a1,n1,a2,n2,rfl,rfl⟩:=mT.form;obtain ⟨hc3,hf3⟩:=bd_ hb3;(try simp only [U7,Q1,fZ,O1] at hc3 hf3);have hz3:=hb3.size;(try simp only [U7,Q1,fZ,O1] at hz3);have od:w2.heap.size<w3.heap.size:=ad;have jq:=(l_.upto hb3 ad).cells 0;have hr1:=(l_.upto hb3 ad).cells 1;have hr2:=(l_.upto hb3 ad).cells 2;have hr3:=(l_.upto hb3 ad).cells 3;have gI:w2.heap.size≠w.heap.size+1:=ad;have q2t:w.heap.size+1≠w2.heap.size:=ad);refine VN (v:=.tuple #[ar (.slice none 0 0) (.slice none 0 0) 0 0,.int .i64 2]) (by simp [results,Tryz.results133,go_sem, *]) rfl ⟨λh=>absurd h ad,λ_=>⟨rfl,xE⟩⟩
def nI (p:Per) (g:Int) (G k:Nat):List Bool:=(List.range G).map λ(i:Nat)=>(p.cycle.take k).any λc=>decide ((p.frm+c) % g=(i:Int))
def eM (p:Per) (g r:Int):Bool:=p.cycle.any λc=>decide ((p.frm+c) % g=r % g)
def mq (p:Per) (m:Int):List Int:=(upto m.toNat).filter (eM p (Int.gcd p.period m:Nat))
theorem q1_ (p:Per) (g:Int) (G k:Nat):(nI p g G k).length=G:=by simp [nI]
theorem u2_ (p:Per) (g:Int) (G:Nat):(nI p g G 0)=List.replicate G false:=by
 refine QB (by simp [nI]) λi h1 h2=>?_;simp [nI]
theorem wc_ (p:Per) (g:Int) (G k:Nat) (hk:k<p.cycle.length) (hg:1<=g) (hG:g=G):(nI p g G k).set ((p.frm+p.cycle.getD k 0) % g).toNat true=nI p g G (k+1):=by
 have h1:=VK (p.frm+p.cycle.getD k 0) (show g≠0 by omega);have h2:=VM (p.frm+p.cycle.getD k 0) (show 0<g by omega);refine QB (by simp [nI]) λi h3 h4=>?_;simp only [nI,OF,U6,List.length_range] at h3 h4;rw [List.getElem_set];have e:p.cycle.take (k+1)=p.cycle.take k ++ [p.cycle.getD k 0]:=by
  rw [LF hk];simp [hk]
 simp only [nI,List.getElem_map,List.getElem_range,e,List.any_append,List.any_cons,List.any_nil,Bool.or_false]
 split
 .rename_i h5;have:(p.frm+p.cycle.getD k 0) % g=(i:Int):=ad;simp only [PH this,Bool.or_true]
 rename_i h5;have:¬ (p.frm+p.cycle.getD k 0) % g=(i:Int):=ad;simp only [P9 this,Bool.or_false]
theorem wb_ (p:Per) (g r:Int) (G:Nat) (hg:1<=g) (hG:g=G):(nI p g G p.cycle.length)[(r % g).toNat]? = some (eM p g r):=by
 have h1:=VK r (show g≠0 by omega);have h2:=VM r (show 0<g by omega);unfold nI eM;rw [OA,List.getElem?_range ad,OC];simp [S6 h1]
theorem wd_ (p:Per) (g:Int) (k:Nat):(upto (k+1)).filter (eM p g)=(upto k).filter (eM p g) ++ (if eM p g k=true then [(k:Int)] else []):=by
 unfold upto;rw [q7x,UZ,MG]
 congr 1
 by_cases h:eM p g k=true <;> simp [h]
theorem vz_ (G:Nat):(madeCells (Value.bool false).cells (G*1)).toList=(List.replicate G false).map Value.bool:=by
 refine QB (by simp [madeCells]) λi h1 h2=>?_;simp [madeCells,Value.cells,Nat.mod_one]
theorem xg_:∃ i,Tryz.prog.info? 4=some i/\i.zero=some (.bool false)/\i.size=1/\i.bytes=1:=by
 have h:(Tryz.prog.info? 4).map (λi=>(i.zero,i.size,i.bytes))=some (some (.bool false),1,1):=by kernel_rfl
 obtain ⟨i,hi,h1,h2,h3⟩:=info_parts h;exact ⟨i,hi,h1,h2,h3⟩
theorem qa_ (h c:Value) (p:Per) (m:Int) (w:World) (hp:cj w h c p) (hv:Valid p) (h0:1<=m) (h1:m<=1048576) :
  Calls Tryz.prog 128 #[ar h c p.frm p.period,.int .i64 m] w λe w'=>∃ v,e=.returned (.tuple #[v,.int .i64 0])/\Ints w' v (mq p m)/\Below w.heap.size w w':=by
 have hl:∀ W,Below w.heap.size w W->cj W h c p:=λW hb=>hp.ext hb;have si:∀ W,Below w.heap.size w W->Ints W c p.cycle:=λW hb=>hp.cy.ext hb;have tU:=(pg p).2 hv;have f0:=hv.wf.frm;have f1:p.frm<=1099511627776:=hv.frm;have p0:=hv.wf.per;have p1:p.period<=1099511627776:=hv.per;have hg:=oA (b:=m) p0;have hg2:=xw (a:=p.period) h0;obtain ⟨g,hgd⟩:∃ g,g=((Int.gcd p.period m:Nat):Int):=⟨_,rfl⟩;rw [<- hgd] at hg hg2;obtain ⟨G,hG⟩:∃ G:Nat,g=G:=⟨g.toNat,ad⟩;have Lz:=af hgd;have HG:=af hG;have hG1:(G:Int)<=1048576:=ad;have UF:(1:Int)<=G:=ad;have iL:Hid (mq p m=(upto m.toNat).filter (eM p g)):=af (by unfold mq;rw [hgd]);have HC:=af hv.wf.cyc;obtain ⟨⟨ca,aK,rfl,Qd,hccc,_⟩,sd,_⟩:=hp.cy;obtain ⟨ha1,mS,Gc,rfl⟩:∃ a n c,h=.slice a n c:=by obtain ⟨⟨a,c,e,_⟩,_⟩:=hp.hd;exact ⟨a,_,c,e⟩
 subst hG;clear hp hv hgd;obtain ⟨bi,pw,kJ,jP,hby⟩:=xg_
 go_in
 go_wp2_with (first|(go_at_call 92;refine (rD _ _ p _ (hl _ xE)).mono ?_;rintro e w1 ⟨rfl,hb1⟩;obtain ⟨hc1,gG⟩:=bd_ hb1;(try simp only [U7,Q1,fZ,O1] at hc1 gG);have hz1:=hb1.size;(try simp only [U7,Q1,fZ,O1] at hz1);have Hl:w.heap.size<w1.heap.size:=ad)|(go_at_call 176;refine (Al _ _ _ p0 ad h0 ad).mono ?_;rintro e w' ⟨he,nq,rfl⟩;rw [<- Lz.o] at he;subst he)|(at_make;refine q8h _ rfl _ _ 214 rfl w1.heap.size 4 bi (.bool false) 1 Tryz.underlying214 pw kJ jP .i64 .i64 _ _ G rfl rfl rfl rfl (by rw [hby];omega) (by unfold maxLen;omega) aj ?_;intro w3 cY cW;have hb3:Below w1.heap.size w1 w3:=(Below.trans (Below.drewN (JV _ _) nq) ((JV (w1.drewN nq).heap.size (w1.drewN nq)).grown cW (TZ _) (λk e=>by cases e)));have bN:ag w3 w.heap.size #[.slice ha1 mS Gc,.int .i64 p.frm,.int .i64 p.period,.slice ca p.cycle.length aK] 80:=((ag.at rfl).upto hb1 aj).upto hb3 ad;have x3:=(bN.cells 3).1))
 rw [vz_,<- u2_ p G G] at cY;have cB:Below w.heap.size w w3:=by exact xE
 have IM:=af cY;have gA:=af bN;have cq:=af hb3;clear cY bN cW x3 hc1 gG hb3;go_loopw [30] (λi wr=>∃ k:Nat,k<=p.cycle.length/\i=.int .i64 k/\wr.ownsRow w1.heap.size 4 1 (.slice (some ⟨w1.heap.size,0,none⟩) G G) G ((nI p G G k).map Value.bool)/\ag wr w.heap.size #[.slice ha1 mS Gc,.int .i64 p.frm,.int .i64 p.period,.slice ca p.cycle.length aK] 80/\Below w.heap.size w wr) (λi _=>p.cycle.length-(intOf i).toNat)
 .exact ⟨0,ad,rfl,IM.o,gA.o,cB⟩
 obtain ⟨k,hk,rfl,hown,bN,AP⟩:=hrel;have x1:=(bN.cells 1).1;have Fx:=si wr AP;have aO:=af hown;have Mq:=af bN;clear hown bN;by_cases hlt:k<p.cycle.length
 .obtain ⟨⟨a8,c8,kj,_,_,dJ⟩,_,_⟩:=Fx;injection kj with cN eP dz
  subst cN;subst dz;rcases dJ with dJ|⟨b8,f8,rfl,hcell⟩
  .rw [dJ] at hlt;simp at hlt
  have hcl:=hcell k hlt;have fg:(k:Int)<p.cycle.length:=ad;have kg:=HC.o.2 (p.cycle.getD k 0) (lg hlt);have cr:=wc_ p G G k hlt UF rfl;obtain ⟨y,hy⟩:∃ y,y=p.cycle.getD k 0:=⟨_,rfl⟩;rw [<- hy] at hcl kg cr;have zL:=af cr;have hm0:=VK (p.frm+y) (show (G:Int)≠0 by omega);have hm1:=VM (p.frm+y) (show 0<(G:Int) by omega);have hst:=aO.o.stored ((p.frm+y) % G).toNat (.bool true);have hce:wr.cell? ⟨w1.heap.size,((p.frm+y) % G).toNat,none⟩=((nI p G G k).map Value.bool)[((p.frm+y) % G).toNat]?:=aO.o.cellAt _ ad;rw [OA,U2 (by rw [q1_];omega)] at hce;have hfr:=aO.o.frozenAt ((p.frm+y) % G).toNat;have HST:=af hst;clear hcell hy cr hst;go_wp2;go_roundw
  .refine ⟨k+1,ad,by go_num,?_,Mq.o.setNe _ ad,AP.setCell (p:=⟨w1.heap.size,((p.frm+y) % (G:Int)).toNat,none⟩) aR _⟩;have:=HST.o.1;rw [<- yg (f:=Value.bool),zL.o] at this;exact this
  simp [intOf];omega
 obtain rfl:k=p.cycle.length:=ad;have A6:w1.heap.size<wr.heap.size:=(aO.o.lt _ rfl).2;have hge:¬ ((p.cycle.length:Nat):Int)<(p.cycle.length:Nat):=ad;obtain ⟨M,hM⟩:∃ M:Nat,m=M:=⟨m.toNat,ad⟩;subst hM;go_wp2;go_loopw [44,10] (λi o wq=>∃ k:Nat,k<=M/\i=.int .i64 k/\al wq (w1.heap.size+1) o ((upto k).filter (eM p G))/\wq.ownsRow w1.heap.size 4 1 (.slice (some ⟨w1.heap.size,0,none⟩) G G) G ((nI p G G p.cycle.length).map Value.bool)/\Below w.heap.size w wq) (λi _ _=>M-(intOf i).toNat)
 .exact ⟨0,ad,rfl,al.nil _ _,aO.o,AP⟩
 obtain ⟨k,hk,rfl,hown2,nR,px⟩:=hrel;have fw:=af hown2;have ni:=af nR;have hlt8:w1.heap.size<wr.heap.size:=(nR.lt _ rfl).2;obtain ⟨va,vc,rfl⟩:=hown2.form;have sw:((upto k).filter (eM p G)).length<=1048576:=by
  have:=YQ (eM p G) (upto k);have h2:(upto k).length=k:=by simp [upto]
  omega
 clear hown2 nR;by_cases hlt:k<M
 .have fg:(k:Int)<M:=ad;have hm0:=VK (k:Int) (show (G:Int)≠0 by omega);have hm1:=VM (k:Int) (show 0<(G:Int) by omega);have hce:wr.cell? ⟨w1.heap.size,((k:Int) % G).toNat,none⟩=some (.bool (eM p G k)):=by
   rw [ni.o.cellAt _ ad,OA,wb_ p G k G UF rfl];rfl
  have e9:((k:Int) % (G:Int)).toNat=k % G:=by rw [<- Int.natCast_emod];rfl
  rw [e9] at hce;have ix:k % G<G:=XK _ ad;clear e9;have q7d:=wd_ p G k;have xi:=af q7d;clear q7d;cases hb:eM p G k with
  | true=>
   rw [hb] at hce;have HB:=af hb;clear hb;go_wp2_with (at_builtin;refine qc aC _ _ aC (w1.heap.size+1) (.slice va ((upto k).filter (eM p G)).length vc) ((upto k).filter (eM p G)) k aC (fw.o.ext (Ea (Er _) _)) _ _ aC aj ⟨ad,ad⟩ ad aR ?_;intro g cap w5 az aJ cd);go_roundw
   .refine ⟨k+1,ad,by go_num,?_,?_,?_⟩
    .rw [xi.o,HB.o,if_pos rfl];exact az
    .have h1:=ni.o.alloc (.cells #[.int .i64 k] 3);exact h1.kept aJ (.inr (λe=>by have h7:=(fw.o.lt w1.heap.size e.symm).1;omega))
    exact (px.alloc (by have:=px.size;omega) _).trans (cd.mono ad)
   simp [intOf];omega
  | false=>
   rw [hb] at hce;have HB:=af hb;clear hb;go_wp2;go_roundw
   .refine ⟨k+1,ad,by go_num,?_,ni.o,px⟩;rw [xi.o,HB.o,if_neg aj,Q4];exact fw.o
   simp [intOf];omega
 obtain rfl:k=M:=ad;go_wp2;go_ret2;refine ⟨.slice va ((upto k).filter (eM p G)).length vc,rfl,?_,px⟩;rw [iL.o];simpa using fw.o.ints
end
section
open Go.RowKit Go.Maps Go.ChangeShapes Kal
open Go.WideElems (rd_val)
def gE (ys:List Int) (g r:Int):List Int:=ys.filter λy=>decide (y % g=r)
noncomputable def OO (l:List Int):DataW Unit:=if l=[] then .nil else .slice (lits .i64 l) []
theorem ye_ {a b:List Int} (h:(lits (H:=Unit) .i64 a)=lits .i64 b):a=b:=by
 unfold lits at h;induction a generalizing b with
 | nil=>cases b with
  | nil=>rfl
  | cons y b=>simp at h
 | cons x a ih=>cases b with
  | nil=>simp at h
  | cons y b=>
   simp only [GB,MQ] at h;obtain ⟨h1,h2⟩:=h;injection h1 with h1;injection h1 with h1 h3
   rw [h3,ih h2]
structure rJ (D:DataW Unit) (g:Int) (ys:List Int):Prop where
 map:IsMap D
 rd:∀ r,D.atKey (.int .i64 r) .nil=OO (gE ys g r)
theorem rJ.nil (g:Int):rJ (.map []) g []:=⟨isMap_empty,λr=>rfl⟩
theorem rJ.got {D:DataW Unit} {g:Int} {ys:List Int} (h:rJ D g ys) {w:World} {base:Nat} {e:TypeId} {v:Value} {zs:List Int} {r:Int} (hat:D.atKey (.int .i64 r) .nil=rowDatum .i64 v zs) (ho:w.ownsInts base e .i64 v zs):zs=gE ys g r:=by
 rw [h.rd] at hat;unfold OO at hat;rcases ho.datum (H:=Unit) with ⟨h1,h2⟩|h1
 .rw [h1] at hat;by_cases hg:gE ys g r=[]
  .rw [h2,hg]
  rw [if_neg hg] at hat;cases hat
 rw [h1] at hat;by_cases hg:gE ys g r=[]
 .rw [if_pos hg] at hat;cases hat
 rw [if_neg hg] at hat;injection hat with hat
 exact (ye_ hat).symm
theorem rJ.put {D:DataW Unit} {g:Int} {ys:List Int} (h:rJ D g ys) {w:World} {base:Nat} {e:TypeId} {v:Value} {y:Int} (ho:w.ownsInts base e .i64 v (gE ys g (y % g) ++ [y])) :
  rJ (D.put (.int .i64 (y % g)) (rowDatum .i64 v (gE ys g (y % g) ++ [y]))) g (ys ++ [y]):=by
 refine ⟨h.map.put _ _,λr=>?_⟩;by_cases hr:r=y % g
 .subst hr;rw [atKey_put_same h.map (by simp [WideAt.IsKeyLit]),ho.datum_pos aj];unfold OO;rw [show gE (ys ++ [y]) g (y % g)=gE ys g (y % g) ++ [y] from by unfold gE;simp,if_neg aj]
 rw [atKey_put_other (by intro e;injection e with _ e;exact hr e),h.rd]
 congr 1
 unfold gE;rw [MG];simp [show ¬ y % g=r from λe=>hr e.symm]
def oD (w:World) (b hi:Nat) (g:Int) (ys:List Int):Prop:=
 ∃ (es:Array MapEntry) (clock n base:Nat) (D:DataW Unit),b<base/\w.heap[b]? = some (.map es clock)/\n<=17592186044416/\w.ownsGroups Tryz.prog 3 base 3 .i64 b n D/\rJ D g ys/\b<hi/\∀ x∈es.toList,∀ k,x.val.ownBlock=some k->k<hi
theorem Wb {w w':World} {base hi:Nat} {e:TypeId} {v:Value} {zs:List Int} (h:w.ownsInts base e .i64 v zs) (hlt:∀ k,v.ownBlock=some k->k<hi) (hk:∀ k,base<=k->k<hi->w'.heap[k]? = w.heap[k]?):w'.ownsInts base e .i64 v zs:=by
 obtain ⟨⟨h1,h2⟩,h3⟩:=h;refine ⟨⟨h1,?_⟩,h3⟩;rcases h2 with h2|⟨g,cap,cur,hv,hg,hh,hr⟩
 .exact .inl h2
 exact .inr ⟨g,cap,cur,hv,hg,(hk g hg (hlt g (by rw [hv];rfl))).trans hh,hr⟩
theorem oD.of_blocks {w w':World} {b hi:Nat} {g:Int} {ys:List Int} (h:oD w b hi g ys) (hk:∀ k,b<=k->k<hi->w'.heap[k]? = w.heap[k]?):oD w' b hi g ys:=by
 obtain ⟨es,clock,n,base,D,jP,hb,hn,⟨es2,q3q,hb2,F,hs,hD,dL,hlen,hap⟩,lz,lW,hrow⟩:=h;rw [hb] at hb2;injection hb2 with hb2;injection hb2 with e1 e2
 subst e1;subst e2;have hb':=(hk b (TZ _) lW).trans hb;have key:∀ x∈es.toList,∀ z,rowElem (H:=Unit) w base 3 .i64 x.val=some z->rowElem (H:=Unit) w' base 3 .i64 x.val=some z:=by
  intro x hx z hz;obtain ⟨zs,ho,rfl⟩:=rowElem_inv hz;exact rowElem_mk (Wb ho (hrow x hx) λk h1 h2=>hk k ad h2)
 have owned:∀ x∈es.toList,∃ zs,w.ownsInts base 3 .i64 x.val zs:=λx hx=>by
  obtain ⟨y,hy⟩:=F.reads x hx;obtain ⟨z,hz,_⟩:=rd_val hy;obtain ⟨zs,ho,_⟩:=rowElem_inv hz;exact ⟨zs,ho⟩
 obtain ⟨F',hm,_⟩:=F.stay (R':=rowElem (H:=Unit) w' base 3 .i64) key;refine ⟨es,clock,n,base,D,jP,hb',hn,⟨es,clock,hb',F',hs,by rw [hm];exact hD,dL,λx hx zs hz=>?_,hap⟩,lz,lW,hrow⟩;obtain ⟨zs0,h0⟩:=owned x hx;rw [(Wb h0 (hrow x hx) λk h1 h2=>hk k ad h2).unique hz |>.symm];exact hlen x hx zs0 h0
theorem oD.of_groups {w:World} {b n base:Nat} {D:DataW Unit} {g:Int} {ys:List Int} (h:w.ownsGroups Tryz.prog 3 base 3 .i64 b n D) (jP:b<base) (hn:n<=17592186044416) (lz:rJ D g ys):oD w b w.heap.size g ys:=by
 have h':=h;obtain ⟨es,clock,hb,F,hs,hD,dL,hlen,hap⟩:=h;refine ⟨es,clock,n,base,D,jP,hb,hn,h',lz,(Q0.1 hb).1,λx hx k hk=>?_⟩;obtain ⟨y,hy⟩:=F.reads x hx;obtain ⟨z,hz,_⟩:=rd_val hy;obtain ⟨zs,ho,_⟩:=rowElem_inv hz;exact (ho.1.lt k hk).2
theorem H5:Keyed Tryz.prog 3:=int_keyed Tryz.underlying3
theorem Gu (w:World):(zeroValue 35).run Tryz.prog w=.ok (.slice none 0 0) w:=by kernel_rfl
theorem mapKey {r:Int} (hr:aS r):keyOf Tryz.prog 3 (.int .i64 r)=some (.int .i64 r):=T4 Tryz.underlying3 (WalkArith.wf_i64 hr)
theorem zk_ {x:Int} (h:(Lit.int .i64 x).wf=true):aS x:=by
 simp [Lit.wf,IntKind.min,IntKind.max,IntKind.signed,IntKind.bits] at h;unfold aS;omega
theorem oD.look {w:World} {b hi:Nat} {g r:Int} {ys:List Int} (h:oD w b hi g ys) (hr:aS r) :
  ∃ v,(Instr.lookup 250 (.map (some b)) (.int .i64 r) false).run Tryz.prog w=.ok v w/\IntsIn w (b+1) hi v (gE ys g r):=by
 obtain ⟨es,clock,n,base,D,jP,hb,hn,⟨es2,q3q,hb2,F,hs,hD,dL,hlen,hap⟩,lz,lW,hrow⟩:=h;rw [hb] at hb2;injection hb2 with hb2;injection hb2 with e1 e2
 subst e1;subst e2;subst hD;rcases q7z false H5 Tryz.underlying250 (Gu w) hb F (mapKey hr) with ⟨hrun,_,hat⟩|⟨e0,y,hm0,h3,hrun,hR,hat,_⟩
 .have hz:=lz.got (v:=.slice none 0 0) (zs:=[]) (hat _) (World.ownsInts_nil w base 3 .i64);refine ⟨.slice none 0 0,hrun,?_⟩;rw [<- hz];exact ⟨Ints.nil w,λh=>absurd rfl h⟩
 obtain ⟨zs,ho,rfl⟩:=rowElem_inv hR;have hz:=lz.got (hat _) ho;refine ⟨e0.val,hrun,?_⟩;rw [<- hz];have hO:al w base e0.val zs:=⟨ho.1,λx hx=>zk_ (ho.2 x hx),by have:=hlen e0 hm0 zs ho;omega⟩;exact ⟨hO.ints,λ_ k hk=>⟨by have:=(hO.lt k hk).1;omega,hrow e0 hm0 k hk⟩⟩
end
section
open Go.RowKit Go.Maps Go.ChangeShapes Kal
theorem tg_ {l:List MapEntry} (h:(l.map (·.key)).Nodup) {a b:MapEntry} (ha:a∈l) (hb:b∈l) (e:a.key=b.key):a=b:=by
 induction l with
 | nil=>simp at ha
 | cons x l ih=>
  rw [GB,N_] at h;rcases U3.1 ha with ha1|ha1 <;> rcases U3.1 hb with hb1|hb1
  .rw [ha1,hb1]
  .exact absurd (VC.2 ⟨b,hb1,by rw [<- ha1];exact e.symm⟩) h.1
  .exact absurd (VC.2 ⟨a,ha1,by rw [<- hb1];exact e⟩) h.1
  exact ih h.2 ha1 hb1
theorem SD {v v':Value} {w w':World} (h:(Result.ok v w:Result Value)=Result.ok v' w'):v=v':=by cases h;rfl
theorem RG {w:World} {b n base:Nat} {D:DataW Unit} {r:Int} (h:w.ownsGroups Tryz.prog 3 base 3 .i64 b n D) (hn:n<=17592186044416) (hr:aS r) :
  ∃ v zs,(∀ W:World,W.heap[b]? = w.heap[b]?->(Instr.lookup 250 (.map (some b)) (.int .i64 r) false).run Tryz.prog W=.ok v W)/\D.atKey (.int .i64 r) .nil=rowDatum .i64 v zs/\w.ownsInts base 3 .i64 v zs/\zs.length<=n/\
   w.groupBack Tryz.prog 250 3 base 3 .i64 b n D (.int .i64 r) (.int .i64 r) v:=by
 obtain ⟨v,zs,hrun,hat,ho,hzl,hback⟩:=h.at H5 Tryz.underlying250 (Gu w) (by unfold maxLen;omega) (mapKey hr);refine ⟨v,zs,λW hW=>?_,hat,ho,hzl,hback⟩;obtain ⟨es,clock,hb,F,_⟩:=h;have hb':=hW.trans hb;rcases q7z false H5 Tryz.underlying250 (Gu w) hb F (mapKey hr) with ⟨h1,h2,_⟩|⟨e0,y,hm0,h3,h1,_⟩
 .have e1:=SD (hrun.symm.trans h1)
  (try dsimp only at e1)
  rcases q7z false H5 Tryz.underlying250 (Gu W) hb' F (mapKey hr) with ⟨g1,_,_⟩|⟨e2,y1,hm1,g3,g1,_⟩
  .rw [e1];exact g1
  exact absurd g3 (h2 e2 hm1)
 have e1:=SD (hrun.symm.trans h1)
 (try dsimp only at e1)
 rcases q7z false H5 Tryz.underlying250 (Gu W) hb' F (mapKey hr) with ⟨g1,g2,_⟩|⟨e2,y1,hm1,g3,g1,_⟩
 .exact absurd h3 (g2 e0 hm0)
 have:=tg_ F.stamped.2.2 hm0 hm1 (h3.trans g3.symm);subst this;rw [e1];exact g1
theorem up_ (w:World) {o:Oper} {a:Act} {K:Act->World->Prop} {Q:Exit->Act->World->Prop} (s x:Operand)
  (ho:o.op=.call { callee:=.builtin .append,args:=#[s,x],argTypes:=#[35,35] }) (base:Nat) (v:Value) (l:List Int) (y:Int) (hs:a.eval s=v) (hown:al w base v l)
  (blk c:Nat) (hx:a.eval x=.slice (some ⟨blk,0,none⟩) 1 c) (hnew:w.cell? ⟨blk,0,none⟩=some (.int .i64 y)) (hy:aS y) (hlen:l.length+1<=17592186044416) (hbase:base<=w.heap.size)
  (h:∀ g cap w',al w' base (.slice (some ⟨g,0,none⟩) (l.length+1) cap) (l ++ [y])->w.grownBy w' v.ownBlock->(v.ownBlock=some g\/g=w.heap.size)->K (a.put o.dst (.slice (some ⟨g,0,none⟩) (l.length+1) cap)) w') :
  Oper.wp Tryz.prog o a w K Q:=by
 obtain ⟨i,hi,h1,h2,h3⟩:=xJ;refine wp_append_lies w s x 35 ho base 3 i (.int .i64 0) 1 8 Tryz.underlying35 hi h1 h2 h3 rfl ad v l.length (l.map (Value.int .i64)) hs hown.row ⟨blk,0,none⟩ 1 c [.int .i64 y] hx rfl ?_ (by simp [Value.oneCell']) ad (by unfold maxLen;omega) ad hbase _ rfl ?_
 .intro j u hu
  match j,hu with
  | 0,hu=>simp at hu;subst hu;exact hnew
 intro g cap w' hown' hgrow hloc _;exact h g cap w' (al.appended hown.rng hy hlen hown') hgrow hloc
end
section
open Go.RowKit Go.Maps Kal
abbrev rL (h1 c1 h2 c2:Value) (qa qb:Per) (st:Int) (xv yv:Value) (g:Int) (mb:Nat):Value:=
 .agg #[h1,.int .i64 qa.frm,.int .i64 qa.period,c1,h2,.int .i64 qb.frm,.int .i64 qb.period,c2,.int .i64 st,xv,yv,.int .i64 g,.map (some mb)]
theorem j9 {P:Program} {c:Code} {Q:Exit->Act->World->Prop} {a:Act} {W:World} (F:World->Prop) (h:F W) (k:∀ W2,F W2->c.wp P Q a W2):c.wp P Q a W:=k W h
theorem Zu {G:Act->World->Prop} {a:Act} {W:World} (F:World->Prop) (h:F W) (k:∀ W2,F W2->G a W2):G a W:=k W h
theorem GA {W:World} {b i k:Nat} {o:Obj} {v:Value} (h:W.heap[k]? = some o) (hne:k≠b):(W.setCell ⟨b,i,none⟩ v).heap[k]? = some o:=(DO W ⟨b,i,none⟩ v k hne).trans h
theorem mK {w:World} {b o o':Nat} {x:Value} (h:w.cell? ⟨b,o,none⟩=some x) (hne:o'≠o) (v:Value):(w.setCell ⟨b,o',none⟩ v).cell? ⟨b,o,none⟩=some x:=(World.cell?_setCell_other _ _ _ _ (by simp [hne])).trans h
theorem Z_ {W:World} {b:Nat} {x0 x1 x2 x3 x4 x5 x6 x7 x8 x9 pP pQ pR y0 y1 y2 y3 y4 y5 y6 y7 y8 y9 sY sZ ub:Value} {t:TypeId} (h:ag W b #[x0,x1,x2,x3,x4,x5,x6,x7,x8,x9,pP,pQ,pR] t) :
  ag (((((((((((((W.setCell ⟨b,0,none⟩ y0).setCell ⟨b,1,none⟩ y1).setCell ⟨b,2,none⟩ y2).setCell ⟨b,3,none⟩ y3).setCell ⟨b,4,none⟩ y4).setCell ⟨b,5,none⟩ y5).setCell ⟨b,6,none⟩ y6).setCell ⟨b,7,none⟩ y7).setCell ⟨b,8,none⟩ y8).setCell ⟨b,9,none⟩ y9).setCell ⟨b,10,none⟩ sY).setCell ⟨b,11,none⟩ sZ).setCell ⟨b,12,none⟩ ub) b #[y0,y1,y2,y3,y4,y5,y6,y7,y8,y9,sY,sZ,ub] t:=by
 have:=(bE 12 ub (bE 11 sZ (bE 10 sY (bE 9 y9 (bE 8 y8 (bE 7 y7 (bE 6 y6 (bE 5 y5 (bE 4 y4 (bE 3 y3 (bE 2 y2 (bE 1 y1 (bE 0 y0 h)))))))))))));simpa [ag] using this
theorem yz_ {W:World} {b k:Nat} {y0 y1 y2 y3 y4 y5 y6 y7 y8 y9 sY sZ ub:Value} (h:k≠b) :
  (((((((((((((W.setCell ⟨b,0,none⟩ y0).setCell ⟨b,1,none⟩ y1).setCell ⟨b,2,none⟩ y2).setCell ⟨b,3,none⟩ y3).setCell ⟨b,4,none⟩ y4).setCell ⟨b,5,none⟩ y5).setCell ⟨b,6,none⟩ y6).setCell ⟨b,7,none⟩ y7).setCell ⟨b,8,none⟩ y8).setCell ⟨b,9,none⟩ y9).setCell ⟨b,10,none⟩ sY).setCell ⟨b,11,none⟩ sZ).setCell ⟨b,12,none⟩ ub).heap[k]? = W.heap[k]?:=by
 have st:∀ (W:World) (i:Nat) (y:Value),(W.setCell ⟨b,i,none⟩ y).heap[k]? = W.heap[k]?:=λW i y=>DO W ⟨b,i,none⟩ y k h;simp only [st]
theorem q5j {W:World} {b:Nat} {x0 x1 x2 x3 x4 x5 x6 x7 x8 x9 pP pQ pR y:Value} {t:TypeId} (h:ag W b #[x0,x1,x2,x3,x4,x5,x6,x7,x8,x9,pP,pQ,pR] t):ag (W.setCell ⟨b,8,none⟩ y) b #[x0,x1,x2,x3,x4,x5,x6,x7,y,x9,pP,pQ,pR] t:=by
 have:=bE 8 y h;simpa [ag] using this
theorem q2k {W:World} {b:Nat} {x0 x1 x2 x3 x4 x5 x6 x7 x8 x9 pP pQ pR y:Value} {t:TypeId} (h:ag W b #[x0,x1,x2,x3,x4,x5,x6,x7,x8,x9,pP,pQ,pR] t):ag (W.setCell ⟨b,9,none⟩ y) b #[x0,x1,x2,x3,x4,x5,x6,x7,x8,y,pP,pQ,pR] t:=by
 have:=bE 9 y h;simpa [ag] using this
theorem yx_ {W:World} {b:Nat} {x0 x1 x2 x3 x4 x5 x6 x7 x8 x9 pP pQ pR y:Value} {t:TypeId} (h:ag W b #[x0,x1,x2,x3,x4,x5,x6,x7,x8,x9,pP,pQ,pR] t):ag (W.setCell ⟨b,10,none⟩ y) b #[x0,x1,x2,x3,x4,x5,x6,x7,x8,x9,y,pQ,pR] t:=by
 have:=bE 10 y h;simpa [ag] using this
theorem yy_ {W:World} {b:Nat} {x0 x1 x2 x3 x4 x5 x6 x7 x8 x9 pP pQ pR y:Value} {t:TypeId} (h:ag W b #[x0,x1,x2,x3,x4,x5,x6,x7,x8,x9,pP,pQ,pR] t):ag (W.setCell ⟨b,11,none⟩ y) b #[x0,x1,x2,x3,x4,x5,x6,x7,x8,x9,pP,y,pR] t:=by
 have:=bE 11 y h;simpa [ag] using this
theorem u6_ (a b c d:Value) (w:World):(Instr.field 80 (.agg #[a,b,c,d]) 3).run Tryz.prog w=.ok d w:=by kernel_rfl
abbrev C9:Array Value:=#[.slice none 0 0,.int .i64 0,.int .i64 0,.slice none 0 0,.slice none 0 0,.int .i64 0,.int .i64 0,.slice none 0 0,.int .i64 0,.slice none 0 0,.slice none 0 0,.int .i64 0,.map none]
theorem Zi {w w':World} {b:Nat} {o:Obj} (h:w.heap[b]? = some o) (hb:Below w.heap.size w w'):w'.heap[b]? = some o:=(hb.block b (Q0.1 h).1).trans h
theorem oD.mono_hi {w:World} {b hi hi':Nat} {g:Int} {ys:List Int} (h:oD w b hi g ys) (hh:hi<=hi'):oD w b hi' g ys:=by
 obtain ⟨es,clock,n,base,D,h1,h2,h3,h4,h5,h6,h7⟩:=h;exact ⟨es,clock,n,base,D,h1,h2,h3,h4,h5,ad,λx hx k hk=>by have:=h7 x hx k hk;omega⟩
structure vp (w:World) (lo hi:Nat) (h1 c1 h2 c2:Value) (qa qb:Per) (st:Int) (xv yv:Value) (mb:Nat):Prop where
 a:dg w lo hi h1 c1 qa
 b:dg w lo hi h2 c2 qb
 x:IntsIn w lo hi xv (aw (ak qa st))
 y:IntsIn w lo hi yv (aw (ak qb st))
 m:oD w mb hi (Int.gcd qa.period qb.period:Nat) (aw (ak qb st))
 lom:lo<=mb
theorem qw_ (h1 c1 h2 c2:Value) (p1 p2 qa qb:Per) (day:Int) (w:World) (fN:cj w h1 c1 p1) (fk:cj w h2 c2 p2) (hw1:p1.WF) (hw2:p2.WF)
  (f1:p1.frm<=562949953421312) (f2:p2.frm<=562949953421312) (t1:p1.period<=562949953421312) (t2:p2.period<=562949953421312) (fC:bV qa p1.mem) (eD:bV qb p2.mem) (h0:0<=day) (hd:day<=562949953421312) :
  Calls Tryz.prog 221 #[ar h1 c1 p1.frm p1.period,ar h2 c2 p2.frm p2.period,.int .i64 day] w λe w'=>∃ (x1 x2 x3 x4 xv yv:Value) (mb:Nat),
   e=.returned (rL x1 x2 x3 x4 qa qb (max (max qa.frm qb.frm) day) xv yv (Int.gcd qa.period qb.period:Nat) mb)/\vp w' w.heap.size w'.heap.size x1 x2 x3 x4 qa qb (max (max qa.frm qb.frm) day) xv yv mb/\Below w.heap.size w w':=by
 have fA:∀ W,Below w.heap.size w W->cj W h1 c1 p1:=λW hb=>fN.ext hb;have hl2:∀ W,Below w.heap.size w W->cj W h2 c2 p2:=λW hb=>fk.ext hb;have nx:=af hw1;have MX:=af hw2;have nr:=af fC;have mF:=af eD;obtain ⟨b1,b2,b3,b4,b5⟩:=fC.smaller hw1;obtain ⟨d1,d2,d3,d4,d5⟩:=eD.smaller hw2;have za0:=fC.wf.frm;have zb0:=eD.wf.frm;have BM:=fC.wf.per;have BN:=eD.wf.per;obtain ⟨a1,m1,a2,m2,rfl,rfl⟩:=fN.inn.form;obtain ⟨a3,m3,a4,m4,rfl,rfl⟩:=fk.inn.form;clear fN fk hw1 hw2 fC eD b3 d3;have hmm:=@run_makeMap Tryz.prog
 go_in
 go_wp2_with fail
 generalize hW0:((w.alloc _).alloc _).alloc _=W0;have hE:Below w.heap.size w W0:=by rw [<- hW0];exact xE
 have qC:ag W0 w.heap.size #[.slice a1 p1.head.length m1,.int .i64 p1.frm,.int .i64 p1.period,.slice a2 p1.cycle.length m2] 80:=by rw [<- hW0];exact ((ag.at rfl).alloc _).alloc _
 have bN:ag W0 (w.heap.size+1) #[.slice a3 p2.head.length m3,.int .i64 p2.frm,.int .i64 p2.period,.slice a4 p2.cycle.length m4] 80:=by rw [<- hW0];exact (ag.at aj).alloc _
 have eu:ag W0 (w.heap.size+2) C9 252:=by rw [<- hW0];exact ag.at aj
 have pr:=(qC.cells 0).1;have tE:=(qC.cells 1).1;have rO:=(qC.cells 2).1;have Fw:=(qC.cells 3).1;have hB0:=(bN.cells 0).1;have hB1:=(bN.cells 1).1;have hB2:=(bN.cells 2).1;have Aw:=(bN.cells 3).1;have hz0:=eu.lt;clear hW0 qC bN;refine oz (w0:=W0) [0,1,2,3,4,5,6] [7] (λv=>⟨#[ar (.slice a1 p1.head.length m1) (.slice a2 p1.cycle.length m2) p1.frm p1.period,ar (.slice a3 p2.head.length m3) (.slice a4 p2.cycle.length m4) p2.frm p2.period,.int .i64 day,.pointer (some ⟨w.heap.size,0,none⟩),.pointer (some ⟨w.heap.size+1,0,none⟩),undef,.pointer (some ⟨w.heap.size+1+1,0,none⟩),v 6,undef,undef,v 0,v 1,v 2,v 3,v 4,v 5,undef,undef,undef,undef,undef,undef,undef,undef,undef,undef,undef,undef,undef,undef,undef,undef,undef,undef,undef,undef,undef,undef,undef,undef,undef,undef,undef,undef,undef,undef,undef,undef,undef,undef,undef,undef,undef,undef,undef,undef,undef,undef,undef,undef,undef,undef,undef,undef,undef,undef,undef,undef,undef,undef,undef,undef],[]⟩) [ar (.slice a1 p1.head.length m1) (.slice a2 p1.cycle.length m2) p1.frm p1.period,undef,ar (.slice a3 p2.head.length m3) (.slice a4 p2.cycle.length m4) p2.frm p2.period,undef,undef,undef,undef] [1,3,4,5,6] (λi v lo hi W=>match i with|1=>∃ x1 x2,v 1=ar x1 x2 qa.frm qa.period/\xO W (lo 1) (hi 1) x1 x2 qa|3=>∃ x1 x2,v 3=ar x1 x2 qb.frm qb.period/\xO W (lo 3) (hi 3) x1 x2 qb|4=>v 4=.map (some (lo 4))/\lo 4<hi 4/\W.heap[lo 4]? = some (.map #[] 0)|5=>∃ x1 x2 x3 x4,v 1=ar x1 x2 qa.frm qa.period/\v 3=ar x3 x4 qb.frm qb.period/\v 5=.agg #[x1,.int .i64 qa.frm,.int .i64 qa.period,x2,x3,.int .i64 qb.frm,.int .i64 qb.period,x4,.int .i64 0,.slice none 0 0,.slice none 0 0,.int .i64 0,.map (some (lo 4))]|6=>v 6=.pointer (some ⟨lo 6,0,none⟩)/\lo 6<hi 6/\ag W (lo 6) C9 252|_=>True) (λW=>Below w.heap.size w W/\(W.cell? ⟨w.heap.size,0,none⟩=some (.slice a1 p1.head.length m1)/\W.cell? ⟨w.heap.size,1,none⟩=some (.int .i64 p1.frm)/\W.cell? ⟨w.heap.size,2,none⟩=some (.int .i64 p1.period)/\W.cell? ⟨w.heap.size,3,none⟩=some (.slice a2 p1.cycle.length m2))/\(W.cell? ⟨w.heap.size+1,0,none⟩=some (.slice a3 p2.head.length m3)/\W.cell? ⟨w.heap.size+1,1,none⟩=some (.int .i64 p2.frm)/\W.cell? ⟨w.heap.size+1,2,none⟩=some (.int .i64 p2.period)/\W.cell? ⟨w.heap.size+1,3,none⟩=some (.slice a4 p2.cycle.length m4))) (λW hb=>⟨by exact xE,⟨bJ pr hb,bJ tE hb,bJ rO hb,bJ Fw hb⟩,bJ hB0 hb,bJ hB1 hb,bJ hB2 hb,bJ Aw hb⟩) ?stab ?loc ?steps ?fin
 case stab=>
  refine ⟨?_,?_,?_,?_,?_,trivial⟩
  .intro v lo hi W W' h hb;exact (let ⟨x1,x2,e,hp⟩:=h;⟨x1,x2,e,hp.below hb⟩)
  .intro v lo hi W W' h hb;exact (let ⟨x1,x2,e,hp⟩:=h;⟨x1,x2,e,hp.below hb⟩)
  .intro v lo hi W W' h hb;exact ⟨h.1,h.2.1,Zi h.2.2 hb⟩
  .intro v lo hi W W' h hb;exact h
  intro v lo hi W W' h hb;exact ⟨h.1,h.2.1,h.2.2.below hb⟩
 case loc=>
  refine ⟨?_,?_,?_,?_,?_,trivial⟩
  .intro v v' lo lo' hi hi' W aA h;have q:=aA 1 (.inl rfl)
   (try dsimp only at h ⊢)
   simp only [q.1,q.2.1,q.2.2] at h;exact h
  .intro v v' lo lo' hi hi' W aA h;have q:=aA 3 (.inl rfl)
   (try dsimp only at h ⊢)
   simp only [q.1,q.2.1,q.2.2] at h;exact h
  .intro v v' lo lo' hi hi' W aA h;have q:=aA 4 (.inl rfl)
   (try dsimp only at h ⊢)
   simp only [q.1,q.2.1,q.2.2] at h;exact h
  .intro v v' lo lo' hi hi' W aA h;have q:=aA 5 (.inl rfl);have q1:=aA 1 (.inr (bM (by kernel_rfl)));have q3:=aA 3 (.inr (bM (by kernel_rfl)));have q4:=aA 4 (.inr (bM (by kernel_rfl)))
   (try dsimp only at h ⊢)
   simp only [q.1,q.2.1,q.2.2,q1.1,q1.2.1,q1.2.2,q3.1,q3.2.1,q3.2.2,q4.1,q4.2.1,q4.2.2] at h;exact h
  intro v v' lo lo' hi hi' W aA h;have q:=aA 6 (.inl rfl)
  (try dsimp only at h ⊢)
  simp only [q.1,q.2.1,q.2.2] at h;exact h
 case steps=>
  clear pr tE rO Fw hB0 hB1 hB2 Aw;refine .c [] [] rfl ?_ (.c [0] [] rfl ?_ (.c [] [] rfl ?_ (.c [2] [1] rfl ?_ (.c [] [] rfl ?_ (.c [] [1,3,4] rfl ?_ (.c [] [] rfl ?_ (.n)))))));all_goals try exact oh
  .rintro v lo hi W hb ⟨qv,⟨g0,g1,g2,g3⟩,k0,k1,k2,k3⟩ _;refine .inl ⟨rfl,λK hK=>?_⟩;simp only [ov,aD,Nat.reduceBEq,cond_true,cond_false];go_wp2_with (go_at_call 129;refine (Fg _ _ p1 qa _ (fA _ xE) nx.o ad ad nr.o).mono ?_;rintro e w3 ⟨x1,x2,rfl,mT,hb3⟩);exact aQ (hK (ar x1 x2 qa.frm qa.period) w3 hb3 ⟨x1,x2,rfl,mT.at⟩) (by simp [ov,aD,upd])
  .rintro v lo hi W hb ⟨qv,⟨g0,g1,g2,g3⟩,k0,k1,k2,k3⟩ ⟨⟨WQ,Sg,D1⟩,_⟩;refine .inl ⟨rfl,λK hK=>?_⟩;simp only [ov,aD,Nat.reduceBEq,cond_true,cond_false]
   (try dsimp only at D1)
   go_wp2_with (go_at_call 129;refine (Fg _ _ p2 qb _ (hl2 _ xE) MX.o ad ad mF.o).mono ?_;rintro e w3 ⟨x1,x2,rfl,mT,hb3⟩)
   exact aQ (hK (ar x1 x2 qb.frm qb.period) w3 hb3 ⟨x1,x2,rfl,mT.at⟩) (by simp [ov,aD,upd])
  .rintro v lo hi W hb ⟨qv,⟨g0,g1,g2,g3⟩,k0,k1,k2,k3⟩ _;refine .inl ⟨rfl,λK hK=>?_⟩;simp only [ov,aD,Nat.reduceBEq,cond_true,cond_false];go_wp2;exact hK (.map (some W.heap.size)) _ (Ea (Er _) _) ⟨rfl,aj,DP _ _⟩
  .rintro v lo hi W hb ⟨qv,⟨g0,g1,g2,g3⟩,k0,k1,k2,k3⟩ ⟨⟨WQ,Sg,D1⟩,⟨la3,lb3,D3⟩,⟨WR,WU,D4⟩,_⟩;refine .inl ⟨rfl,λK hK=>?_⟩;simp only [ov,aD,Nat.reduceBEq,cond_true,cond_false]
   (try dsimp only at D1 D3 D4)
   obtain ⟨x1,x2,e1,P1⟩:=D1;obtain ⟨x3,x4,e3,P3⟩:=D3;obtain ⟨e4,_⟩:=D4;obtain ⟨r1,s1,r2,s2,rfl,rfl⟩:=P1.inn.form;obtain ⟨r3,s3,r4,s4,rfl,rfl⟩:=P3.inn.form
   (try simp only [e1,e3,e4])
   go_wp2
   exact aQ (hK (.agg #[.slice r1 qa.head.length s1,.int .i64 qa.frm,.int .i64 qa.period,.slice r2 qa.cycle.length s2,.slice r3 qb.head.length s3,.int .i64 qb.frm,.int .i64 qb.period,.slice r4 qb.cycle.length s4,.int .i64 0,.slice none 0 0,.slice none 0 0,.int .i64 0,.map (some (lo 4))]) W (JV _ _) ⟨_,_,_,_,e1,e3,rfl⟩) (by simp [ov,aD,upd,e1,e3,e4])
  rintro v lo hi W hb ⟨qv,⟨g0,g1,g2,g3⟩,k0,k1,k2,k3⟩ _;refine .inl ⟨rfl,λK hK=>?_⟩;simp only [ov,aD,Nat.reduceBEq,cond_true,cond_false];go_wp2;exact hK (.pointer (some ⟨W.heap.size,0,none⟩)) _ (Ea (Er _) _) ⟨rfl,aj,ag.new _ _ _⟩
 case fin=>
  rintro v lo hi W hb ⟨qv,_⟩ hf hap;show wpList _ _ _ [_] _ _;obtain ⟨l1,l1',l1'',x1,x2,e1,P1,hle1⟩:=hf 1 rfl;obtain ⟨l3,l3',l3'',x3,x4,e3,P3,hle3⟩:=hf 3 rfl;obtain ⟨l4,l4',l4'',e4,lt4,hm4⟩:=hf 4 rfl;obtain ⟨l6,l6',l6'',e6,Sk,bG⟩:=hf 6 rfl;obtain ⟨y1,y2,y3,y4,nK,lP,e5⟩:=(hf 5 rfl).2.2.2;rw [e1] at nK;rw [e3] at lP;injection nK with nK;injection nK with nK;injection nK with q1 nK;injection nK with _ nK;injection nK with _ nK;injection nK with q2 _
  injection lP with lP;injection lP with lP;injection lP with q3 lP;injection lP with _ lP;injection lP with _ lP;injection lP with q4 _
  subst q1;subst q2;subst q3;subst q4;have d13:=hap 1 3 rfl rfl ad;have d14:=hap 1 4 rfl rfl ad;have d16:=hap 1 6 rfl rfl ad;have d34:=hap 3 4 rfl rfl ad;have d36:=hap 3 6 rfl rfl ad;have d46:=hap 4 6 rfl rfl ad;have sG:=eu.below hb;have hzW:=hb.size;clear hf hap pr tE rO Fw hB0 hB1 hB2 Aw eu;obtain ⟨r1,s1,r2,s2,rfl,rfl⟩:=P1.form;obtain ⟨r3,s3,r4,s4,rfl,rfl⟩:=P3.form;generalize lo 1=KJ at *;generalize hi 1=lX at *;generalize lo 3=KK at *;generalize hi 3=gp at *;generalize lo 4=mb at *;generalize hi 4=CQ at *;generalize lo 6=pb at *;generalize hi 6=hi6 at *;dsimp only;rw [e1,e3,e4,e5,e6];generalize v 0=v0,v 2=v2;have c0:=bG.cells 0;have c1:=bG.cells 1;have c2:=bG.cells 2;have c3:=bG.cells 3;have c4:=bG.cells 4;have c5:=bG.cells 5;have c6:=bG.cells 6;have c7:=bG.cells 7;have c8:=bG.cells 8;have c9:=bG.cells 9;have c10:=bG.cells 10;have c11:=bG.cells 11;have c12:=bG.cells 12;clear e1 e3 e4 e5 e6;obtain ⟨st,hst⟩:∃ st,st=max (max qa.frm qb.frm) day:=⟨_,rfl⟩;have nu:=af hst;have hs0:qa.frm<=st/\qb.frm<=st/\day<=st/\st<=562949953421312:=ad;obtain ⟨hs1,hs2,hs3,hs4⟩:=hs0;have oq:Hid (st<=qa.frm\/st<=qb.frm\/st<=day):=af ad;clear hst;go_upto_region 2 with (fail)
  refine j9 (F:=λW2=>ag W2 pb #[.slice r1 qa.head.length s1,.int .i64 qa.frm,.int .i64 qa.period,.slice r2 qa.cycle.length s2,.slice r3 qb.head.length s3,.int .i64 qb.frm,.int .i64 qb.period,.slice r4 qb.cycle.length s4,.int .i64 0,.slice none 0 0,.slice none 0 0,.int .i64 0,.map (some mb)] 252/\ag W2 (w.heap.size+2) C9 252/\dg W2 KJ lX (.slice r1 qa.head.length s1) (.slice r2 qa.cycle.length s2) qa/\dg W2 KK gp (.slice r3 qb.head.length s3) (.slice r4 qb.cycle.length s4) qb/\W2.heap[mb]? = some (.map #[] 0)/\Below w.heap.size w W2/\W.heap.size<=W2.heap.size)
   ⟨Z_ bG,by (repeat' (with_reducible first|assumption|refine ag.setNe ?_ _ ?_|omega)),by (repeat' (with_reducible first|assumption|refine dg.alloc ?_ _ ?_|refine dg.drew ?_|refine dg.drewN ?_ _|refine dg.set ?_ _ ?_|refine dg.below ?_ (by assumption) ?_|omega|(simp;done)|(simp;omega))),by (repeat' (with_reducible first|assumption|refine dg.alloc ?_ _ ?_|refine dg.drew ?_|refine dg.drewN ?_ _|refine dg.set ?_ _ ?_|refine dg.below ?_ (by assumption) ?_|omega|(simp;done)|(simp;omega))),by (repeat' (with_reducible first|assumption|refine GA ?_ ?_|omega)),by exact xE,aj⟩ ?_
  rintro W2 ⟨hbx,fm,rR,rS,hZ,cE,hzz⟩;have c1:=(hbx.cells 1).1;have c5:=(hbx.cells 5).1;have c8:=(hbx.cells 8);obtain ⟨QQ,UT⟩:∃ QQ:Exit->Act->World->Prop,QQ=(λe a' W'=>e=.normal/\∃ (u16 u17 u18 u19 u20 u21 u22 u23 u24:Value),a'=⟨#[ar (.slice a1 p1.head.length m1) (.slice a2 p1.cycle.length m2) p1.frm p1.period,ar (.slice a3 p2.head.length m3) (.slice a4 p2.cycle.length m4) p2.frm p2.period,.int .i64 day,.pointer (some ⟨w.heap.size,0,none⟩),.pointer (some ⟨w.heap.size+1,0,none⟩),undef,.pointer (some ⟨w.heap.size+1+1,0,none⟩),.pointer (some ⟨pb,0,none⟩),undef,undef,v0,ar (.slice r1 qa.head.length s1) (.slice r2 qa.cycle.length s2) qa.frm qa.period,v2,ar (.slice r3 qb.head.length s3) (.slice r4 qb.cycle.length s4) qb.frm qb.period,.map (some mb),.agg #[.slice r1 qa.head.length s1,.int .i64 qa.frm,.int .i64 qa.period,.slice r2 qa.cycle.length s2,.slice r3 qb.head.length s3,.int .i64 qb.frm,.int .i64 qb.period,.slice r4 qb.cycle.length s4,.int .i64 0,.slice none 0 0,.slice none 0 0,.int .i64 0,.map (some mb)],u16,u17,u18,u19,u20,u21,u22,u23,u24,undef,undef,undef,undef,undef,undef,undef,undef,undef,undef,undef,undef,undef,undef,undef,undef,undef,undef,undef,undef,undef,undef,undef,undef,undef,undef,undef,undef,undef,undef,undef,undef,undef,undef,undef,undef,undef,undef,undef,undef,undef,undef,undef,undef,undef,undef,undef],[]⟩/\W'=W2.setCell ⟨pb,8,none⟩ (.int .i64 st)):=⟨_,rfl⟩;have Ew:=af UT;clear UT;refine D0 (Q:=QQ) ?imp ?reg
  case reg=>
   clear bG P1 P3 hm4 sG;go_wp2_with fail;all_goals first
    | (
     obtain rfl:st=qa.frm:=by have:=oq.o;omega
     rw [Ew.o];exact ⟨rfl,_,_,_,_,_,_,_,_,_,rfl,rfl⟩)
    | (
     obtain rfl:st=qb.frm:=by have:=oq.o;omega
     rw [Ew.o];exact ⟨rfl,_,_,_,_,_,_,_,_,_,rfl,rfl⟩)
    | (
     obtain rfl:st=day:=by have:=oq.o;omega
     rw [Ew.o];exact ⟨rfl,_,_,_,_,_,_,_,_,_,rfl,rfl⟩)
  case imp=>
   intro e a' W3 hq;rw [Ew.o] at hq;obtain ⟨rfl,u16,u17,u18,u19,u20,u21,u22,u23,u24,rfl,rfl⟩:=hq;go_wp2_with fail;refine j9 (F:=λW3=>ag W3 pb #[.slice r1 qa.head.length s1,.int .i64 qa.frm,.int .i64 qa.period,.slice r2 qa.cycle.length s2,.slice r3 qb.head.length s3,.int .i64 qb.frm,.int .i64 qb.period,.slice r4 qb.cycle.length s4,.int .i64 st,.slice none 0 0,.slice none 0 0,.int .i64 0,.map (some mb)] 252/\ag W3 (w.heap.size+2) C9 252/\dg W3 KJ lX (.slice r1 qa.head.length s1) (.slice r2 qa.cycle.length s2) qa/\dg W3 KK gp (.slice r3 qb.head.length s3) (.slice r4 qb.cycle.length s4) qb/\W3.heap[mb]? = some (.map #[] 0)/\Below w.heap.size w W3/\W.heap.size<=W3.heap.size)
    ⟨q5j hbx,fm.setNe _ ad,rR.set _ ad,rS.set _ ad,GA hZ ad,by exact xE,by simpa using hzz⟩ ?_
   clear c1 c5 c8 hbx fm rR rS hZ cE hzz Ew QQ bG P1 P3 hm4 sG;rintro W3 ⟨hbx,fm,rR,rS,hZ,xS,hzz⟩;have pr:W3.cell? ⟨pb,0,none⟩=some (.slice r1 qa.head.length s1):=(hbx.cells 0).1;have tE:W3.cell? ⟨pb,1,none⟩=some (.int .i64 qa.frm):=(hbx.cells 1).1;have rO:W3.cell? ⟨pb,2,none⟩=some (.int .i64 qa.period):=(hbx.cells 2).1;have Fw:W3.cell? ⟨pb,3,none⟩=some (.slice r2 qa.cycle.length s2):=(hbx.cells 3).1;have hB0:W3.cell? ⟨pb,4,none⟩=some (.slice r3 qb.head.length s3):=(hbx.cells 4).1;have hB1:W3.cell? ⟨pb,5,none⟩=some (.int .i64 qb.frm):=(hbx.cells 5).1;have hB2:W3.cell? ⟨pb,6,none⟩=some (.int .i64 qb.period):=(hbx.cells 6).1;have Aw:W3.cell? ⟨pb,7,none⟩=some (.slice r4 qb.cycle.length s4):=(hbx.cells 7).1;have hC0:W3.cell? ⟨pb,8,none⟩=some (.int .i64 st):=(hbx.cells 8).1;have hpbl:=hbx.lt;have uL:=af rR;have o8:=af rS;clear rR rS;have hfld:=u6_;have hC9:W3.cell? ⟨pb,9,none⟩=some (.slice none 0 0):=(hbx.cells 9).1;have hF9:W3.frozen? ⟨pb,9,none⟩=false:=(hbx.cells 9).2;have vG:W3.cell? ⟨pb,10,none⟩=some (.slice none 0 0):=(hbx.cells 10).1;have Pq:W3.frozen? ⟨pb,10,none⟩=false:=(hbx.cells 10).2;go_region_held3 (λw'=>w'.cell? ⟨pb,0,none⟩=some (.slice r1 qa.head.length s1)/\w'.cell? ⟨pb,1,none⟩=some (.int .i64 qa.frm)/\w'.cell? ⟨pb,2,none⟩=some (.int .i64 qa.period)/\w'.cell? ⟨pb,3,none⟩=some (.slice r2 qa.cycle.length s2)/\w'.cell? ⟨pb,4,none⟩=some (.slice r3 qb.head.length s3)/\w'.cell? ⟨pb,5,none⟩=some (.int .i64 qb.frm)/\w'.cell? ⟨pb,6,none⟩=some (.int .i64 qb.period)/\w'.cell? ⟨pb,7,none⟩=some (.slice r4 qb.cycle.length s4)/\w'.cell? ⟨pb,8,none⟩=some (.int .i64 st)) ((go_split_ands;repeat' (with_reducible first|assumption|refine mK ?_ ?_ _|refine Ci ?_ ?_ _|refine dW ?_ _|refine Ac ?_|exact an.cell (by assumption) (by assumption)|apply And.intro|(exact Below.cell' (by assumption) (by assumption) (by first|(simp;done)|(simp;omega)|omega))|(refine Below.cell' (by assumption) ?_ (by first|(simp;done)|(simp;omega)|omega))|omega|(simp;done)|(simp;omega))))
    ((go_at_call 181;first|((with_reducible refine (RJ _ _ qa st _ (uL.o.is.ext xE) nr.o.wf ad ad ad ad).mono ?_);rintro e w5 ⟨z1,z2,Va,pD,hb5,_⟩;obtain ⟨Zo,Zp,sU,sV,rfl,rfl⟩:=pD.form;have Ql:e=.returned (.agg #[.slice Zo (bI qa st).head.length Zp,.int .i64 (bI qa st).frm,.int .i64 (bI qa st).period,.slice sU (bI qa st).cycle.length sV]):=Va;clear Va;subst Ql;obtain ⟨hc5,Gl⟩:=bd_ hb5;(try simp only [U7,Q1,fZ,O1] at hc5 Gl);have od:=hb5.size;(try simp only [U7,Q1,fZ,O1] at od);have hz5':pb<w5.heap.size:=ad)|((with_reducible refine (RJ _ _ qb st _ (o8.o.is.ext xE) mF.o.wf ad ad ad ad).mono ?_);rintro e w6 ⟨z3,z4,Vb,Be,vU,_⟩;obtain ⟨Zq,Zr,sW,oU,rfl,rfl⟩:=Be.form;have Qm:e=.returned (.agg #[.slice Zq (bI qb st).head.length Zr,.int .i64 (bI qb st).frm,.int .i64 (bI qb st).period,.slice sW (bI qb st).cycle.length oU]):=Vb;clear Vb;subst Qm;obtain ⟨U5,Vd⟩:=bd_ vU;(try simp only [U7,Q1,fZ,O1] at U5 Vd);have BD:=vU.size;(try simp only [U7,Q1,fZ,O1] at BD);have hz6':pb<w6.heap.size:=ad)))
   have JN:Below W3.heap.size W3 w5:=by exact xE
   have CH:Below W3.heap.size W3 w6:=by exact xE
   have C5:=pD.cy.inn.below vU (TZ _);have q5s:=Be.cy.inn;have wy:=uL.o.below CH ad;have Vw:=o8.o.below CH ad;refine Zu (F:=λW4=>ag W4 pb #[.slice r1 qa.head.length s1,.int .i64 qa.frm,.int .i64 qa.period,.slice r2 qa.cycle.length s2,.slice r3 qb.head.length s3,.int .i64 qb.frm,.int .i64 qb.period,.slice r4 qb.cycle.length s4,.int .i64 st,.slice sU (bI qa st).cycle.length sV,.slice sW (bI qb st).cycle.length oU,.int .i64 0,.map (some mb)] 252/\ag W4 (w.heap.size+2) C9 252/\dg W4 KJ lX (.slice r1 qa.head.length s1) (.slice r2 qa.cycle.length s2) qa/\dg W4 KK gp (.slice r3 qb.head.length s3) (.slice r4 qb.cycle.length s4) qb/\IntsIn W4 W3.heap.size W4.heap.size (.slice sU (bI qa st).cycle.length sV) (bI qa st).cycle/\IntsIn W4 W3.heap.size W4.heap.size (.slice sW (bI qb st).cycle.length oU) (bI qb st).cycle/\W4.heap[mb]? = some (.map #[] 0)/\Below w.heap.size w W4/\W.heap.size<=W4.heap.size)
    ⟨yx_ (q2k (hbx.below CH)),((fm.below CH).setNe _ ad).setNe _ ad,(wy.set _ ad).set _ ad,(Vw.set _ ad).set _ ad,((C5.mono aj aR).set _ ad).set _ ad,((q5s.mono ad aj).set _ ad).set _ ad,GA (GA (Zi hZ CH) ad) ad,by exact xE,aR⟩ ?_
   clear C5 q5s wy Vw JN CH hb5 vU pD Be hc5 Gl U5 Vd pr tE rO Fw hB0 hB1 hB2 Aw hC0 hC9 hF9 vG Pq hbx fm hZ uL o8;rintro W4 ⟨hbx,fm,rR,rS,FT,rU,hZ,hE4,hzz4⟩;have rO:W4.cell? ⟨pb,2,none⟩=some (.int .i64 qa.period):=(hbx.cells 2).1;have hB2:W4.cell? ⟨pb,6,none⟩=some (.int .i64 qb.period):=(hbx.cells 6).1;have Pm:W4.cell? ⟨pb,11,none⟩=some (.int .i64 0):=(hbx.cells 11).1;have vG:W4.cell? ⟨pb,10,none⟩=some (.slice sW (bI qb st).cycle.length oU):=(hbx.cells 10).1;have Ps:W4.frozen? ⟨pb,11,none⟩=false:=(hbx.cells 11).2;go_wp2_with fail
   go_at_call 176
   refine (Al _ _ _ (by have:=nr.o.wf.per;omega) ad (by have:=mF.o.wf.per;omega) ad).mono ?_;rintro e w7 ⟨rfl,n,rfl⟩;go_wp2_with fail;refine j9 (F:=λW5=>ag W5 pb #[.slice r1 qa.head.length s1,.int .i64 qa.frm,.int .i64 qa.period,.slice r2 qa.cycle.length s2,.slice r3 qb.head.length s3,.int .i64 qb.frm,.int .i64 qb.period,.slice r4 qb.cycle.length s4,.int .i64 st,.slice sU (bI qa st).cycle.length sV,.slice sW (bI qb st).cycle.length oU,.int .i64 (Int.gcd qa.period qb.period:Nat),.map (some mb)] 252/\ag W5 (w.heap.size+2) C9 252/\dg W5 KJ lX (.slice r1 qa.head.length s1) (.slice r2 qa.cycle.length s2) qa/\dg W5 KK gp (.slice r3 qb.head.length s3) (.slice r4 qb.cycle.length s4) qb/\IntsIn W5 W3.heap.size W4.heap.size (.slice sU (bI qa st).cycle.length sV) (bI qa st).cycle/\IntsIn W5 W3.heap.size W4.heap.size (.slice sW (bI qb st).cycle.length oU) (bI qb st).cycle/\W5.heap[mb]? = some (.map #[] 0)/\Below w.heap.size w W5/\W4.heap.size<=W5.heap.size)
    ⟨yy_ hbx,fm.setNe _ ad,(rR.drewN _).set _ ad,(rS.drewN _).set _ ad,(FT.drewN _).set _ ad,(rU.drewN _).set _ ad,GA hZ ad,by exact xE,aj⟩ ?_
   clear rO hB2 vG Pm Ps hbx fm rR rS FT rU hZ;rintro W5 ⟨hbx,fm,rR,rS,FT,rU,hZ,CD,hzz5⟩;have hGa:=oA (b:=qb.period) BM;have hGb:=xw (a:=qa.period) BN;generalize hG:((Int.gcd qa.period qb.period:Nat):Int)=G at *;have HG:=af hG;clear hG;generalize wI:(bI qb st).cycle=ys at *;have M9:=af wI;clear wI;have q6r:mb<W5.heap.size:=(Q0.1 hZ).1;have q1m:pb<W5.heap.size:=hbx.lt;have vG:W5.cell? ⟨pb,10,none⟩=some (.slice sW ys.length oU):=(hbx.cells 10).1;have hmbW:mb<W3.heap.size:=ad;have q0c:ys.length<=17592186044416:=rU.ints.len;have iY:W5.ownsGroups Tryz.prog 3 W5.heap.size 3 .i64 mb 0 (.map []:DataW Unit):=⟨#[],0,hZ,⟨aj,MapKept.stamped_empty 0,aj⟩,TZ _,rfl,q6r,aj,aj⟩;have uT:=af rU;have cD:=af hbx;have Ee:=af iY;have IR:=af fm;have uL:=af rR;have o8:=af rS;have M3:=af FT;clear rU hbx iY hZ fm rR rS FT;go_wp2;go_loopw [50] (λi wr=>∃ (k n:Nat) (D:DataW Unit),k<=ys.length/\n<=k/\i=.int .i64 k/\wr.ownsGroups Tryz.prog 3 W5.heap.size 3 .i64 mb n D/\rJ D G (ys.take k)/\W5.grownBy wr (some mb)) (λi _=>ys.length-(intOf i).toNat)
   .exact ⟨0,0,.map [],ad,ad,rfl,Ee.o,rJ.nil G,P7 _ _⟩
   obtain ⟨k,n,D,hk,hn,rfl,hown,lz,hgr⟩:=hrel;have hbx:ag wr pb _ _:=(hgr.block pb q1m aR).trans cD.o;have rU:=uT.o.of_blocks (w':=wr) λj h1 h2=>hgr.block j ad aR;by_cases hlt:k<ys.length
   .have Pj:wr.cell? ⟨pb,12,none⟩=some (.map (some mb)):=(hbx.cells 12).1;have Pi:wr.cell? ⟨pb,11,none⟩=some (.int .i64 G):=(hbx.cells 11).1;have C7:=rU.ints.rng (ys.getD k 0) (lg hlt);obtain ⟨⟨⟨a8,c8,kj,_,_,dJ⟩,_,_⟩,_⟩:=rU;injection kj with cN eP dz
    subst cN;subst dz;rcases dJ with dJ|⟨b8,f8,rfl,hcell⟩
    .rw [dJ] at hlt;simp at hlt
    have hcl:=hcell k hlt;have fg:(k:Int)<ys.length:=ad;obtain ⟨y,hy⟩:∃ y,y=ys.getD k 0:=⟨_,rfl⟩;rw [<- hy] at hcl C7;have yF:0<=y:=by
     have:=(RI mF.o.wf (day:=st) ad).1.cyc.2 y (by rw [M9.o,hy];exact lg hlt);exact this.1
    have hm0:=VK y (show G≠0 by omega);have hm1:=VM y (show 0<G by omega);obtain ⟨rv,zs,hlk,hat,ho,hzl,hback⟩:=RG hown ad (r:=y % G) ⟨ad,ad⟩;have hz:=lz.got hat ho;have kN:∀ j,rv.ownBlock=some j->W5.heap.size<=j/\j<wr.heap.size:=λj hj=>ho.1.lt j hj;have sF:some pb≠rv.ownBlock:=λe=>by have:=kN pb e.symm;omega
    have q3b:some mb≠rv.ownBlock:=λe=>by have:=kN mb e.symm;omega
    have hO:al wr W5.heap.size rv zs:=⟨ho.1,λx hx=>zk_ (ho.2 x hx),ad⟩;have q3c:mb<wr.heap.size:=by have:=hgr.size;omega
    have q0n:=hgr.size;have Hm:zs.length+1<=17592186044416:=ad;have HO:=af hO;have Dn:=af hback;have HHO:=af ho;have HZ:=af hz;have MD:=af lz;have Dq:=af hbx;have BW:=af hgr;have HY:=af hy;clear hO hback ho hz lz hbx hgr hat hown hcell hy;go_wp2_with fail;refine O0 (w0:=wr) (rv.ownBlock) 15 [0,1,2,3,4,5,6,7,8,9,10,11,12,13,14,15] [16] (λv=>⟨#[ar (.slice a1 p1.head.length m1) (.slice a2 p1.cycle.length m2) p1.frm p1.period,ar (.slice a3 p2.head.length m3) (.slice a4 p2.cycle.length m4) p2.frm p2.period,.int .i64 day,.pointer (some ⟨w.heap.size,0,none⟩),.pointer (some ⟨w.heap.size+1,0,none⟩),undef,.pointer (some ⟨w.heap.size+1+1,0,none⟩),.pointer (some ⟨pb,0,none⟩),undef,.int .i64 y,v0,ar (.slice r1 qa.head.length s1) (.slice r2 qa.cycle.length s2) qa.frm qa.period,v2,ar (.slice r3 qb.head.length s3) (.slice r4 qb.cycle.length s4) qb.frm qb.period,.map (some mb),.agg #[.slice r1 qa.head.length s1,.int .i64 qa.frm,.int .i64 qa.period,.slice r2 qa.cycle.length s2,.slice r3 qb.head.length s3,.int .i64 qb.frm,.int .i64 qb.period,.slice r4 qb.cycle.length s4,.int .i64 0,.slice none 0 0,.slice none 0 0,.int .i64 0,.map (some mb)],u16,u17,u18,u19,u20,u21,u22,u23,u24,.pointer (some ⟨pb,0,none⟩),.agg #[.slice r1 qa.head.length s1,.int .i64 qa.frm,.int .i64 qa.period,.slice r2 qa.cycle.length s2],.pointer (some ⟨pb,8,none⟩),.int .i64 st,.agg #[.slice Zo (bI qa st).head.length Zp,.int .i64 (bI qa st).frm,.int .i64 (bI qa st).period,.slice sU (bI qa st).cycle.length sV],.slice sU (bI qa st).cycle.length sV,.pointer (some ⟨pb,4,none⟩),.agg #[.slice r3 qb.head.length s3,.int .i64 qb.frm,.int .i64 qb.period,.slice r4 qb.cycle.length s4],.pointer (some ⟨pb,8,none⟩),.int .i64 st,.agg #[.slice Zq (bI qb st).head.length Zr,.int .i64 (bI qb st).frm,.int .i64 (bI qb st).period,.slice (some ⟨b8,f8,none⟩) ys.length oU],.slice (some ⟨b8,f8,none⟩) ys.length oU,.pointer (some ⟨pb,9,none⟩),.pointer (some ⟨pb,10,none⟩),.pointer (some ⟨pb,0,none⟩),.pointer (some ⟨pb,2,none⟩),.int .i64 qa.period,.pointer (some ⟨pb,4,none⟩),.pointer (some ⟨pb,6,none⟩),.int .i64 qb.period,.int .i64 G,.pointer (some ⟨pb,11,none⟩),.pointer (some ⟨pb,10,none⟩),.slice (some ⟨b8,f8,none⟩) ys.length oU,.int .i64 ↑ys.length,.int .i64 ↑k,.bool true,.pointer (some ⟨b8,f8+k,none⟩),.int .i64 y,v 0,v 1,v 2,v 3,v 4,v 5,v 6,v 7,v 8,v 9,v 10,v 11,v 12,v 13,v 14,v 15,u70,undef],[]⟩) (λj=>match j with|0=>u54|1=>u55|2=>u56|3=>u57|4=>u58|5=>u59|6=>u60|7=>u61|8=>u62|9=>u63|10=>u64|11=>u65|12=>u66|13=>u67|14=>u68|15=>u69|_=>undef)
     (λi v lo hi W=>match i with
      | 0=>v 0=.pointer (some ⟨pb,12,none⟩)
      | 1=>v 1=.map (some mb)
      | 2=>v 2=.int .i64 y
      | 3=>v 3=.pointer (some ⟨pb,11,none⟩)
      | 4=>v 4=.int .i64 G
      | 5=>v 5=.int .i64 (y % G)
      | 6=>v 6=.pointer (some ⟨pb,12,none⟩)
      | 7=>v 7=.map (some mb)
      | 8=>v 8=.int .i64 y
      | 9=>v 9=.pointer (some ⟨pb,11,none⟩)
      | 10=>v 10=.int .i64 G
      | 11=>v 11=.int .i64 (y % G)
      | 12=>v 12=rv
      | 13=>v 13=.int .i64 y
      | 14=>v 14=.slice (some ⟨lo 14,0,none⟩) 1 1/\lo 14<hi 14/\wr.heap.size<=lo 14/\hi 14<=W.heap.size/\ag W (lo 14) #[.int .i64 y] 3
      | 15=>∃ g cap,v 15=.slice (some ⟨g,0,none⟩) (zs.length+1) cap/\al W W5.heap.size (v 15) (zs ++ [y])/\(rv.ownBlock=some g\/wr.heap.size<=g)
      | _=>True)
     (λW=>W.cell? ⟨pb,12,none⟩=some (.map (some mb))/\W.cell? ⟨pb,11,none⟩=some (.int .i64 G)/\W.heap[mb]? = wr.heap[mb]?) rfl (by kernel_rfl) aG rfl ?stab ?loc (λW hb=>⟨hb.cell Pj sF,hb.cell Pi sF,hb.block mb q3c q3b⟩) ?steps ?fin
    case stab=>
     rintro (_|_|_|_|_|_|_|_|_|_|_|_|_|_|_|_|i) v lo hi W W' h hb
     .exact h
     .exact h
     .exact h
     .exact h
     .exact h
     .exact h
     .exact h
     .exact h
     .exact h
     .exact h
     .exact h
     .exact h
     .exact h
     .exact h
     .rw [if_neg aG] at hb;exact ⟨h.1,h.2.1,h.2.2.1,NN h.2.2.2.1 hb.size,(hb.block (lo 14) (by have:=h.2.1;have:=h.2.2.2.1;omega) (λe=>by have:=kN _ e.symm;have:=h.2.2.1;omega)).trans h.2.2.2.2⟩
     .rw [if_pos rfl] at hb;exact (let ⟨g,cap,e,ho,hl⟩:=h;⟨g,cap,e,ho.ext hb,hl⟩)
     trivial
    case loc=>
     rintro (_|_|_|_|_|_|_|_|_|_|_|_|_|_|_|_|i) v v' lo lo' hi hi' W aA h
     .have q:=aA 0 (.inl rfl)
      (try dsimp only at h ⊢);(try simp only [q.1,q.2.1,q.2.2] at h);exact h
     .have q:=aA 1 (.inl rfl);have q0:=aA 0 (.inr (bM (by kernel_rfl)))
      (try dsimp only at h ⊢);(try simp only [q.1,q.2.1,q.2.2,q0.1,q0.2.1,q0.2.2] at h);exact h
     .have q:=aA 2 (.inl rfl)
      (try dsimp only at h ⊢);(try simp only [q.1,q.2.1,q.2.2] at h);exact h
     .have q:=aA 3 (.inl rfl)
      (try dsimp only at h ⊢);(try simp only [q.1,q.2.1,q.2.2] at h);exact h
     .have q:=aA 4 (.inl rfl);have q3:=aA 3 (.inr (bM (by kernel_rfl)))
      (try dsimp only at h ⊢);(try simp only [q.1,q.2.1,q.2.2,q3.1,q3.2.1,q3.2.2] at h);exact h
     .have q:=aA 5 (.inl rfl);have q2:=aA 2 (.inr (bM (by kernel_rfl)));have q4:=aA 4 (.inr (bM (by kernel_rfl)))
      (try dsimp only at h ⊢);(try simp only [q.1,q.2.1,q.2.2,q2.1,q2.2.1,q2.2.2,q4.1,q4.2.1,q4.2.2] at h);exact h
     .have q:=aA 6 (.inl rfl)
      (try dsimp only at h ⊢);(try simp only [q.1,q.2.1,q.2.2] at h);exact h
     .have q:=aA 7 (.inl rfl);have q6:=aA 6 (.inr (bM (by kernel_rfl)))
      (try dsimp only at h ⊢);(try simp only [q.1,q.2.1,q.2.2,q6.1,q6.2.1,q6.2.2] at h);exact h
     .have q:=aA 8 (.inl rfl)
      (try dsimp only at h ⊢);(try simp only [q.1,q.2.1,q.2.2] at h);exact h
     .have q:=aA 9 (.inl rfl)
      (try dsimp only at h ⊢);(try simp only [q.1,q.2.1,q.2.2] at h);exact h
     .have q:=aA 10 (.inl rfl);have q9:=aA 9 (.inr (bM (by kernel_rfl)))
      (try dsimp only at h ⊢);(try simp only [q.1,q.2.1,q.2.2,q9.1,q9.2.1,q9.2.2] at h);exact h
     .have q:=aA 11 (.inl rfl);have q8:=aA 8 (.inr (bM (by kernel_rfl)));have pM:=aA 10 (.inr (bM (by kernel_rfl)))
      (try dsimp only at h ⊢);(try simp only [q.1,q.2.1,q.2.2,q8.1,q8.2.1,q8.2.2,pM.1,pM.2.1,pM.2.2] at h);exact h
     .have q:=aA 12 (.inl rfl);have q7:=aA 7 (.inr (bM (by kernel_rfl)));have mX:=aA 11 (.inr (bM (by kernel_rfl)))
      (try dsimp only at h ⊢);(try simp only [q.1,q.2.1,q.2.2,q7.1,q7.2.1,q7.2.2,mX.1,mX.2.1,mX.2.2] at h);exact h
     .have q:=aA 13 (.inl rfl)
      (try dsimp only at h ⊢);(try simp only [q.1,q.2.1,q.2.2] at h);exact h
     .have q:=aA 14 (.inl rfl);have qH:=aA 13 (.inr (bM (by kernel_rfl)))
      (try dsimp only at h ⊢);(try simp only [q.1,q.2.1,q.2.2,qH.1,qH.2.1,qH.2.2] at h);exact h
     .have q:=aA 15 (.inl rfl);have tY:=aA 12 (.inr (bM (by kernel_rfl)));have SE:=aA 14 (.inr (bM (by kernel_rfl)))
      (try dsimp only at h ⊢);(try simp only [q.1,q.2.1,q.2.2,tY.1,tY.2.1,tY.2.2,SE.1,SE.2.1,SE.2.2] at h);exact h
     trivial
    case steps=>
     refine cw.cons rfl ?_ (cw.cons rfl ?_ (cw.cons rfl ?_ (cw.cons rfl ?_ (cw.cons rfl ?_ (cw.cons rfl ?_ (cw.cons rfl ?_ (cw.cons rfl ?_ (cw.cons rfl ?_ (cw.cons rfl ?_ (cw.cons rfl ?_ (cw.cons rfl ?_ (cw.cons rfl ?_ (cw.cons rfl ?_ (cw.cons rfl ?_ (cw.cons rfl ?_ cw.nil)))))))))))))))
     .rintro v lo hi W hb aX ⟨g12,g11,lQ⟩ hd K hK;replace hK:=λx W' (h:Below W.heap.size W W')=>hK x W' (by rw [if_neg aG];exact h);clear aX;clear hd;dsimp only;go_wp2;exact aQ (hK (.pointer (some ⟨pb,12,none⟩)) W (JV _ _) rfl) aj
     .rintro v lo hi W hb aX ⟨g12,g11,lQ⟩ hd K hK;replace hK:=λx W' (h:Below W.heap.size W W')=>hK x W' (by rw [if_neg aG];exact h);clear aX;have e0:v 0=.pointer (some ⟨pb,12,none⟩):=(hd 0 (bM (by kernel_rfl))).2.2;clear hd;dsimp only
      (try simp only [e0])
      go_wp2
      exact aQ (hK (.map (some mb)) W (JV _ _) rfl) (by simp [e0])
     .rintro v lo hi W hb aX ⟨g12,g11,lQ⟩ hd K hK;replace hK:=λx W' (h:Below W.heap.size W W')=>hK x W' (by rw [if_neg aG];exact h);clear aX;clear hd;dsimp only;go_wp2;exact aQ (hK (.int .i64 y) W (JV _ _) rfl) aj
     .rintro v lo hi W hb aX ⟨g12,g11,lQ⟩ hd K hK;replace hK:=λx W' (h:Below W.heap.size W W')=>hK x W' (by rw [if_neg aG];exact h);clear aX;clear hd;dsimp only;go_wp2;exact aQ (hK (.pointer (some ⟨pb,11,none⟩)) W (JV _ _) rfl) aj
     .rintro v lo hi W hb aX ⟨g12,g11,lQ⟩ hd K hK;replace hK:=λx W' (h:Below W.heap.size W W')=>hK x W' (by rw [if_neg aG];exact h);clear aX;have e3:v 3=.pointer (some ⟨pb,11,none⟩):=(hd 3 (bM (by kernel_rfl))).2.2;clear hd;dsimp only
      (try simp only [e3])
      go_wp2
      exact aQ (hK (.int .i64 G) W (JV _ _) rfl) (by simp [e3])
     .rintro v lo hi W hb aX ⟨g12,g11,lQ⟩ hd K hK;replace hK:=λx W' (h:Below W.heap.size W W')=>hK x W' (by rw [if_neg aG];exact h);clear aX;have e2:v 2=.int .i64 y:=(hd 2 (bM (by kernel_rfl))).2.2;have e4:v 4=.int .i64 G:=(hd 4 (bM (by kernel_rfl))).2.2;clear hd;dsimp only
      (try simp only [e2,e4])
      go_wp2
      exact aQ (hK (.int .i64 (y % G)) W (JV _ _) rfl) (by simp [e2,e4])
     .rintro v lo hi W hb aX ⟨g12,g11,lQ⟩ hd K hK;replace hK:=λx W' (h:Below W.heap.size W W')=>hK x W' (by rw [if_neg aG];exact h);clear aX;clear hd;dsimp only;go_wp2;exact aQ (hK (.pointer (some ⟨pb,12,none⟩)) W (JV _ _) rfl) aj
     .rintro v lo hi W hb aX ⟨g12,g11,lQ⟩ hd K hK;replace hK:=λx W' (h:Below W.heap.size W W')=>hK x W' (by rw [if_neg aG];exact h);clear aX;have e6:v 6=.pointer (some ⟨pb,12,none⟩):=(hd 6 (bM (by kernel_rfl))).2.2;clear hd;dsimp only
      (try simp only [e6])
      go_wp2
      exact aQ (hK (.map (some mb)) W (JV _ _) rfl) (by simp [e6])
     .rintro v lo hi W hb aX ⟨g12,g11,lQ⟩ hd K hK;replace hK:=λx W' (h:Below W.heap.size W W')=>hK x W' (by rw [if_neg aG];exact h);clear aX;clear hd;dsimp only;go_wp2;exact aQ (hK (.int .i64 y) W (JV _ _) rfl) aj
     .rintro v lo hi W hb aX ⟨g12,g11,lQ⟩ hd K hK;replace hK:=λx W' (h:Below W.heap.size W W')=>hK x W' (by rw [if_neg aG];exact h);clear aX;clear hd;dsimp only;go_wp2;exact aQ (hK (.pointer (some ⟨pb,11,none⟩)) W (JV _ _) rfl) aj
     .rintro v lo hi W hb aX ⟨g12,g11,lQ⟩ hd K hK;replace hK:=λx W' (h:Below W.heap.size W W')=>hK x W' (by rw [if_neg aG];exact h);clear aX;have e9:v 9=.pointer (some ⟨pb,11,none⟩):=(hd 9 (bM (by kernel_rfl))).2.2;clear hd;dsimp only
      (try simp only [e9])
      go_wp2
      exact aQ (hK (.int .i64 G) W (JV _ _) rfl) (by simp [e9])
     .rintro v lo hi W hb aX ⟨g12,g11,lQ⟩ hd K hK;replace hK:=λx W' (h:Below W.heap.size W W')=>hK x W' (by rw [if_neg aG];exact h);clear aX;have e8:v 8=.int .i64 y:=(hd 8 (bM (by kernel_rfl))).2.2;have ir:v 10=.int .i64 G:=(hd 10 (bM (by kernel_rfl))).2.2;clear hd;dsimp only
      (try simp only [e8,ir])
      go_wp2
      exact aQ (hK (.int .i64 (y % G)) W (JV _ _) rfl) (by simp [e8,ir])
     .rintro v lo hi W hb aX ⟨g12,g11,lQ⟩ hd K hK;replace hK:=λx W' (h:Below W.heap.size W W')=>hK x W' (by rw [if_neg aG];exact h);clear aX;have e7:v 7=.map (some mb):=(hd 7 (bM (by kernel_rfl))).2.2;have e11:v 11=.int .i64 (y % G):=(hd 11 (bM (by kernel_rfl))).2.2;clear hd;dsimp only
      (try simp only [e7,e11])
      have hlk9:=hlk W lQ;go_wp2;exact aQ (hK rv W (JV _ _) rfl) (by simp [e7,e11])
     .rintro v lo hi W hb aX ⟨g12,g11,lQ⟩ hd K hK;replace hK:=λx W' (h:Below W.heap.size W W')=>hK x W' (by rw [if_neg aG];exact h);clear aX;clear hd;dsimp only;go_wp2;exact aQ (hK (.int .i64 y) W (JV _ _) rfl) aj
     .rintro v lo hi W hb aX ⟨g12,g11,lQ⟩ hd K hK;replace hK:=λx W' (h:Below W.heap.size W W')=>hK x W' (by rw [if_neg aG];exact h);clear aX;have lr:v 13=.int .i64 y:=(hd 13 (bM (by kernel_rfl))).2.2;clear hd;dsimp only
      (try simp only [lr])
      go_wp2
      exact aQ (hK (.slice (some ⟨W.heap.size,0,none⟩) 1 1) _ (Ea (Er _) _) ⟨rfl,aj,hb.size,aj,ag.new _ _ _⟩) (by simp [lr])
     rintro v lo hi W hb aX ⟨g12,g11,lQ⟩ hd K hK;replace hK:=λx W' (h:W.grownBy W' (rv.ownBlock))=>hK x W' (by rw [if_pos rfl];exact h);replace aX:=aX rfl;have gi:v 12=rv:=(hd 12 (bM (by kernel_rfl))).2.2;obtain ⟨Sf,Sh,Ip⟩:=hd 14 (bM (by kernel_rfl));clear hd;dsimp only
     (try simp only [gi])
     obtain ⟨lO,q4v,Ft,Fu,Av⟩:=Ip;refine up_ W _ _ aC W5.heap.size rv zs y (by first|rfl|exact gi) (HO.o.ext aX) (lo 14) 1 (by first|exact lO|(simp [lO];done)) (Av.cells 0).1 C7 Hm (by have h8:=aX.size;omega) ?_;intro g cap w1 hown1 q1p q3y;exact aQ (hK (.slice (some ⟨g,0,none⟩) (zs.length+1) cap) w1 q1p ⟨g,cap,rfl,hown1,q3y.imp id (λe=>by rw [e];exact hb.size)⟩) (by simp only [gi];rfl)
    case fin=>
     rintro v lo hi W hb ⟨g12,g11,lQ⟩ hf hap;show wpList _ _ _ [_] _ _;have e1:v 1=.map (some mb):=(hf 1 rfl).2.2.2;have e5:v 5=.int .i64 (y % G):=(hf 5 rfl).2.2.2;obtain ⟨_,_,_,gb,cap,pq,wt,Gy⟩:=hf 15 rfl;clear hf hap;rw [pq] at wt;have hown':W.ownsInts W5.heap.size 3 .i64 (.slice (some ⟨gb,0,none⟩) (zs.length+1) cap) (zs ++ [y]):=⟨wt.row,λz hz=>WalkArith.wf_i64 (wt.rng z hz)⟩;have hput:=MD.o.put (y:=y) (v:=.slice (some ⟨gb,0,none⟩) (zs.length+1) cap) (w:=W) (base:=W5.heap.size) (e:=3) (by rw [<- HZ.o];exact hown');rw [<- HZ.o] at hput;have HOWN':=af hown';have My:=af hput;have HLOC:Hid ((Value.slice (some ⟨gb,0,none⟩) (zs.length+1) cap).ownBlock=rv.ownBlock\/∃ g,(Value.slice (some ⟨gb,0,none⟩) (zs.length+1) cap).ownBlock=some g/\wr.heap.size<=g):=af (Gy.elim (λe=>.inl e.symm) (λh=>.inr ⟨gb,rfl,h⟩));have HB:=af hb;clear hown' hput Gy wt hb;dsimp only;rw [e1,e5,pq];clear e1 e5 pq;refine wpList_mapUpdate_back _ rfl _ _ _ 250 rfl Dn.o rfl rfl rfl HB.o HOWN'.o aR HLOC.o ?_;intro w2 hown2 hgrow2;go_wp2;go_roundw
     .refine ⟨k+1,n+1,_,ad,ad,by go_num,hown2,?_,(BW.o.andThen HB.o (λj hj=>.inl (kN j hj).1)).trans hgrow2⟩;have ht:ys.take (k+1)=ys.take k ++ [y]:=by rw [LF hlt,HY.o];simp [hlt]
      rw [ht];exact My.o
     simp [intOf];omega
   obtain rfl:k=ys.length:=ad;have hszg:=hgr.size;have FI:=uL.o.of_blocks (w':=wr) λj h1 h2=>hgr.block j ad aR;have q6f:=o8.o.of_blocks (w':=wr) λj h1 h2=>hgr.block j ad aR;have FU:=M3.o.of_blocks (w':=wr) λj h1 h2=>hgr.block j ad aR;rw [OC] at lz;have JK:=oD.of_groups hown q6r ad lz;have fm:ag wr (w.heap.size+2) _ _:=(hgr.block (w.heap.size+2) IR.o.lt aR).trans IR.o;have dR:Below w.heap.size w wr:=⟨hgr.os.trans CD.os,hgr.tape.trans CD.tape,hgr.output.trans CD.output,by have:=CD.size;omega,λj hj=>(hgr.block j (by have:=CD.size;omega) aR).trans (CD.block j hj)⟩;have c0:=(hbx.cells 0).1;have c1:=(hbx.cells 1).1;have c2:=(hbx.cells 2).1;have c3:=(hbx.cells 3).1;have c4:=(hbx.cells 4).1;have c5:=(hbx.cells 5).1;have c6:=(hbx.cells 6).1;have c7:=(hbx.cells 7).1;have c8:=(hbx.cells 8).1;have c9:=(hbx.cells 9).1;have c10:=(hbx.cells 10).1;have c11:=(hbx.cells 11).1;have c12:=(hbx.cells 12).1;have k0:=(fm.cells 0);have k1:=(fm.cells 1);have k2:=(fm.cells 2);have k3:=(fm.cells 3);have k4:=(fm.cells 4);have k5:=(fm.cells 5);have k6:=(fm.cells 6);have k7:=(fm.cells 7);have k8:=(fm.cells 8);have k9:=(fm.cells 9);have Wu:=(fm.cells 10);have Wv:=(fm.cells 11);have Ww:=(fm.cells 12);have Mw:=af FI;have Mx:=af q6f;have q1u:=af FU;have q4e:=af rU;have uE:=af JK;have q4w:=af fm;have DG:=af dR;clear FI q6f FU rU JK fm dR hown lz hgr hbx;go_wp2_with fail;refine Zu (F:=λWf=>ag Wf (w.heap.size+2) #[.slice r1 qa.head.length s1,.int .i64 qa.frm,.int .i64 qa.period,.slice r2 qa.cycle.length s2,.slice r3 qb.head.length s3,.int .i64 qb.frm,.int .i64 qb.period,.slice r4 qb.cycle.length s4,.int .i64 st,.slice sU (bI qa st).cycle.length sV,.slice sW ys.length oU,.int .i64 G,.map (some mb)] 252/\(∀ k,k≠w.heap.size+2->Wf.heap[k]? = wr.heap[k]?)/\Below w.heap.size w Wf/\wr.heap.size<=Wf.heap.size)
    ⟨Z_ q4w.o,λk hk=>yz_ hk,by have dR:=DG.o;exact xE,aj⟩ ?_
   clear c0 c1 c2 c3 c4 c5 c6 c7 c8 c9 c10 c11 c12 k0 k1 k2 k3 k4 k5 k6 k7 k8 k9 Wu Wv Ww;rintro Wf ⟨kh,Gx,hEf,hzf⟩;have k0:=(kh.cells 0).1;have k1:=(kh.cells 1).1;have k2:=(kh.cells 2).1;have k3:=(kh.cells 3).1;have k4:=(kh.cells 4).1;have k5:=(kh.cells 5).1;have k6:=(kh.cells 6).1;have k7:=(kh.cells 7).1;have k8:=(kh.cells 8).1;have k9:=(kh.cells 9).1;have Wu:=(kh.cells 10).1;have Wv:=(kh.cells 11).1;have Ww:=(kh.cells 12).1;have vX:∀ (q:Per),q.frm<=st->(bI q st).cycle=aw (ak q st):=λq hq=>by show aw (ak q (max q.frm st))=_;rw [Int.max_eq_right hq]
   have g1:dg Wf w.heap.size Wf.heap.size (.slice r1 qa.head.length s1) (.slice r2 qa.cycle.length s2) qa:=(Mw.o.of_blocks λj h1 h2=>Gx j ad).mono ad ad;have g2:dg Wf w.heap.size Wf.heap.size (.slice r3 qb.head.length s3) (.slice r4 qb.cycle.length s4) qb:=(Mx.o.of_blocks λj h1 h2=>Gx j ad).mono ad ad;have g3:IntsIn Wf w.heap.size Wf.heap.size (.slice sU (bI qa st).cycle.length sV) (bI qa st).cycle:=(q1u.o.of_blocks λj h1 h2=>Gx j ad).mono ad ad;have g4:IntsIn Wf w.heap.size Wf.heap.size (.slice sW ys.length oU) ys:=(q4e.o.of_blocks λj h1 h2=>Gx j ad).mono ad ad;have g5:=(uE.o.of_blocks (w':=Wf) λj h1 h2=>Gx j ad).mono_hi hzf;rw [vX qa ad] at g3;rw [<- M9.o,vX qb ad] at g4 g5;rw [<- HG.o] at g5;exact VN (v:=rL (.slice r1 qa.head.length s1) (.slice r2 qa.cycle.length s2) (.slice r3 qb.head.length s3) (.slice r4 qb.cycle.length s4) qa qb st (.slice sU (bI qa st).cycle.length sV) (.slice sW ys.length oU) G mb) (by simp [results,Tryz.results221,go_sem, *]) rfl
    ⟨_,_,_,_,.slice sU (aw (ak qa st)).length sV,.slice sW (aw (ak qb st)).length oU,mb,by rw [HG.o,<- nu.o,<- vX qa ad,<- vX qb ad,M9.o],by rw [<- nu.o];exact ⟨g1,g2,g3,g4,g5,ad⟩,hEf⟩
end
end Go.Proofs.YtbmgmlbmgogeaaaGreat
