/- Walks: shape (package kalendsref04) of finite sets. -/
import Derived.Test.YtjilkhhokkncoaaGreatMWalkRv
set_option linter.unusedVariables false
set_option linter.unusedSimpArgs false
namespace Go.Proofs.YtjilkhhokkncoaaGreat
open Go.RowKit Go.Maps Kal
structure LS (w:World) (ob:Nat) (p:Per) (hp cp:Value) (f d:Int) (base:Nat) (hv:Value) (l:List Int) (W:World):Prop where
 below:Below w.heap.size w W
 pb:Bxx W w.heap.size #[hp,.int .i64 p.frm,.int .i64 p.period,cp] 24
 rb:Bxx W (w.heap.size+1) #[.slice none 0 0,.int .i64 0,.int .i64 0,.slice none 0 0] 24
 obx:Bxx W ob #[hv,.int .i64 f,.int .i64 d,.slice none 0 0] 24
 own:OwnI W base hv l
 o1:w.heap.size+1<ob
 o2:ob<base
 o3:base≤W.heap.size
theorem LS.step {w:World} {ob:Nat} {p:Per} {hp cp:Value} {f d:Int} {base:Nat} {hv:Value} {l:List Int} {W:World} (h:LS w ob p hp cp f d base hv l W)
  {W1:World} {v':Value} {l':List Int} (hb:Below base W W1) (ho:OwnI W1 base v' l'):LS w ob p hp cp f d base v' l' (W1.setCell ⟨ob,0,none⟩ v'):=by
 have o1:=h.o1;have o2:=h.o2;have o3:=h.o3
 have hz:=hb.size
 exact ⟨(h.below.trans (hb.mono (by omega))).setCell (p:=⟨ob,0,none⟩) (by simp;omega) _,(h.pb.upto hb (by omega)).setNe _ (by omega),(h.rb.upto hb (by omega)).setNe _ (by omega),set1of4 (h.obx.upto hb (by omega)),
  ho.above ((Above.refl base W1).setCell (by simp;omega) _),o1,o2,by simp;omega⟩
structure LC (w:World) (ob:Nat) (p:Per) (hp cp:Value) (f d:Int) (l4 h4:Nat) (hv:Value) (hl:List Int) (base:Nat) (cyv:Value) (l:List Int) (W:World):Prop where
 below:Below w.heap.size w W
 pb:Bxx W w.heap.size #[hp,.int .i64 p.frm,.int .i64 p.period,cp] 24
 rb:Bxx W (w.heap.size+1) #[.slice none 0 0,.int .i64 0,.int .i64 0,.slice none 0 0] 24
 obx:Bxx W ob #[hv,.int .i64 f,.int .i64 d,cyv] 24
 own:OwnI W base cyv l
 hd:OwnIn W l4 h4 hv hl
 o1:w.heap.size+1<ob
 o2:ob<base
 o3:base≤W.heap.size
 o4:ob<l4∨h4≤ob
 o5:h4≤base
 o6:w.heap.size+1<l4
theorem LC.step {w:World} {ob:Nat} {p:Per} {hp cp:Value} {f d:Int} {l4 h4:Nat} {hv:Value} {hl:List Int} {base:Nat} {cyv:Value} {l:List Int} {W:World} (h:LC w ob p hp cp f d l4 h4 hv hl base cyv l W)
  {W1:World} {v':Value} {l':List Int} (hb:Below base W W1) (ho:OwnI W1 base v' l'):LC w ob p hp cp f d l4 h4 hv hl base v' l' (W1.setCell ⟨ob,3,none⟩ v'):=by
 have o1:=h.o1;have o2:=h.o2;have o3:=h.o3;have o4:=h.o4;have o5:=h.o5
 have hz:=hb.size
 exact ⟨(h.below.trans (hb.mono (by omega))).setCell (p:=⟨ob,3,none⟩) (by simp;omega) _,(h.pb.upto hb (by omega)).setNe _ (by omega),(h.rb.upto hb (by omega)).setNe _ (by omega),set4 (h.obx.upto hb (by omega)),
  ho.above ((Above.refl base W1).setCell (by simp;omega) _),(h.hd.below hb (by omega)).set _ o4,o1,o2,by simp;omega,o4,o5,h.o6⟩
set_option maxRecDepth 100000 in
set_option maxHeartbeats 4000000 in
theorem Rshape_fin (h c:Value) (p:Per) (w:World) (hp:PerIs w h c p) (hw:p.WF) (h1:p.frm≤1125899906842624) (hc0:p.cycle=[]) :
  Calls Tryz.prog 44 #[perV h c p.frm p.period] w (CanonRes p.mem w):=by
 have HC:=Lib.hid (canon_fin hw hc0)
 obtain ⟨a1,c1,a2,c2,rfl,rfl⟩:=hp.inn.form
 have H1:=Lib.hid hp.hd
 have HLH:=hp.hd.len
 have HW:=Lib.hid hw
 have hlz:((p.cycle.length:Int) == 0)=true:=by rw [hc0];rfl
 clear hp hw hc0
 by_cases h0:p.head.length=0
 ·have hn:¬ (0:Int)<p.head.length:=by omega
  have H0:=Lib.hid h0
  clear h0
  go_enter Tryz.func44,Tryz.ntmps44
  go_wp2_with (go_at_call 77;refine (Rcopied_any _ p.head _ (H1.out.ext (by (repeat' (with_reducible first|assumption|apply Er|apply Ea|apply Ed|apply En|(refine Es ?_ (by first|(simp<;>omega)|omega) _)|refine Et ?_ (by assumption)))))).mono ?_;rintro e W2 ⟨hv,rfl,hown,hb2⟩;obtain ⟨oa,oc,rfl⟩:=hown.form;obtain ⟨hc1,hf1⟩:=bcell hb2;have hz:w.heap.size+1<W2.heap.size:=(by have:=hb2.size;simp at this;omega);have hz0:w.heap.size<W2.heap.size:=(by omega))
  refine bodyPost_ret (v:=.agg #[.slice oa p.head.length oc,.int .i64 0,.int .i64 1,.slice none 0 0]) ?_ rfl ?_
  ·simp [results,Tryz.results44,go_sem, *]
  ·refine ⟨_,_,⟨p.head,0,1,[]⟩,rfl,?_,⟨?_,OwnI.nil _ _⟩,?_⟩
   ·have:=HC.out;rwa [if_pos H0.out] at this
   ·exact (hown.above (by (repeat' (with_reducible first|exact Above.refl _ _|refine Above.alloc ?_ _|refine Above.drew ?_|refine Above.drewN ?_ _|refine Above.setCell ?_ (by first|(simp;done)|(simp;omega)|omega) _)))).mono (by first|(simp;done)|(simp;omega)|omega)
   ·(repeat' (with_reducible first|assumption|apply Er|apply Ea|apply Ed|apply En|(refine Es ?_ (by first|(simp<;>omega)|omega) _)|refine Et ?_ (by assumption)))
 ·have hn:(0:Int)<p.head.length:=by omega
  have H0:=Lib.hid h0
  have hlt:p.head.length-1<p.head.length:=by omega
  obtain ⟨⟨a',c',he,_,_,h38⟩,hlen8,hrg⟩:=H1.out
  injection he with e1 _ e2
  subst e1;subst e2
  rcases h38 with h38|⟨b,o,rfl,hcell⟩
  ·rw [h38] at h0;exact absurd rfl h0
  have hcl:=hcell (p.head.length-1) hlt
  have hx1:((p.head.length:Int)-1).toNat=p.head.length-1:=by omega
  have hbd:=HW.out.head.2 _ (getD_mem hlt)
  obtain ⟨x,hx⟩:∃ x,x=p.head.getD (p.head.length-1) 0:=⟨_,rfl⟩
  rw [← hx] at hcl hbd
  have HX:=Lib.hid hx
  clear hcell h0 hx hrg
  go_enter Tryz.func44,Tryz.ntmps44
  go_wp2_with (go_at_call 77;refine (Rcopied_any _ p.head _ (H1.out.ext (by (repeat' (with_reducible first|assumption|apply Er|apply Ea|apply Ed|apply En|(refine Es ?_ (by first|(simp<;>omega)|omega) _)|refine Et ?_ (by assumption)))))).mono ?_;rintro e W2 ⟨hv,rfl,hown,hb2⟩;obtain ⟨oa,oc,rfl⟩:=hown.form;have hc4:=Ext.cell (w:=w) (W:=W2) (by (repeat' (with_reducible first|assumption|apply Er|apply Ea|apply Ed|apply En|(refine Es ?_ (by first|(simp<;>omega)|omega) _)|refine Et ?_ (by assumption)))) hcl;have hblt:b<W2.heap.size:=World.block_lt_of_cell? _ _ hc4;obtain ⟨hc1,hf1⟩:=bcell hb2;have hz:w.heap.size+1<W2.heap.size:=(by have:=hb2.size;simp at this;omega);have hz0:w.heap.size<W2.heap.size:=(by omega))
  refine bodyPost_ret (v:=.agg #[.slice oa p.head.length oc,.int .i64 (x+1),.int .i64 1,.slice none 0 0]) ?_ rfl ?_
  ·simp [results,Tryz.results44,go_sem, *]
  ·refine ⟨_,_,⟨p.head,x+1,1,[]⟩,rfl,?_,⟨?_,OwnI.nil _ _⟩,?_⟩
   ·have:=HC.out;rw [if_neg H0.out,← HX.out] at this;exact this
   ·exact (hown.above (by (repeat' (with_reducible first|exact Above.refl _ _|refine Above.alloc ?_ _|refine Above.drew ?_|refine Above.drewN ?_ _|refine Above.setCell ?_ (by first|(simp;done)|(simp;omega)|omega) _)))).mono (by first|(simp;done)|(simp;omega)|omega)
   ·(repeat' (with_reducible first|assumption|apply Er|apply Ea|apply Ed|apply En|(refine Es ?_ (by first|(simp<;>omega)|omega) _)|refine Et ?_ (by assumption)))
end Go.Proofs.YtjilkhhokkncoaaGreat
