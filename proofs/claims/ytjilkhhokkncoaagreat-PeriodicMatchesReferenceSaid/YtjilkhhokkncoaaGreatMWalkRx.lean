/- Walks: shape of all sets, Canon, Cut (package kalendsref04). -/
import Derived.Test.YtjilkhhokkncoaaGreatMWalkRwb
set_option linter.unusedVariables false
set_option linter.unusedSimpArgs false
namespace Go.Proofs.YtjilkhhokkncoaaGreat
open Go.RowKit Go.Maps Kal
theorem Rshape_any (h c:Value) (p q:Per) (w:World) (hp:PerIs w h c p) (hw:p.WF) (h1:p.frm≤1125899906842624) (h2:p.period≤1125899906842624) (hq:IsCanon q p.mem) :
  Calls Tryz.prog 44 #[perV h c p.frm p.period] w (PerRes q w):=by
 have key:Calls Tryz.prog 44 #[perV h c p.frm p.period] w (CanonRes p.mem w):=by
  by_cases hc:p.cycle=[]
  ·exact Rshape_fin h c p w hp hw h1 hc
  ·exact Rshape_inf h c p w hp hw h1 h2 hc
 refine key.mono fun e w' hr=>?_
 obtain ⟨h',c',q',rfl,hq',hp',hb⟩:=hr
 obtain rfl:=hq'.unique hq
 exact ⟨h',c',rfl,hp',hb⟩
set_option maxRecDepth 100000 in
set_option maxHeartbeats 1000000 in
theorem RCanon_ok (h c:Value) (p q:Per) (w:World) (hp:PerIs w h c p) (hv:Valid p) (hq:IsCanon q p.mem) :
  Calls Tryz.prog 7 #[perV h c p.frm p.period] w (PerOk q w):=by
 have hl:∀ W,Below w.heap.size w W→PerIs W h c p:=fun W hb=>hp.ext hb
 have hvb:=(validB_iff p).2 hv
 have HVB:=Lib.hid hvb
 have HI1:Hid (InI p.frm):=by have:=hv.frm;have:=hv.wf.frm;exact Lib.hid ⟨by omega,by omega⟩
 have HI2:Hid (InI p.period):=by have:=hv.per;have:=hv.wf.per;exact Lib.hid ⟨by omega,by omega⟩
 have HV:=Lib.hid hv
 have HF:Hid (p.frm≤1125899906842624):=by have:=hv.frm;exact Lib.hid (by omega)
 have HP:Hid (p.period≤1125899906842624):=by have:=hv.per;exact Lib.hid (by omega)
 have HQ:=Lib.hid hq
 clear hv hp hq hvb
 go_enter Tryz.func7,Tryz.ntmps7
 go_wp2_with (first|(go_at_call 16;refine (RValid_any h c p _ (hl _ (by (repeat' (with_reducible first|assumption|apply Er|apply Ea|apply Ed|apply En|(refine Es ?_ (by first|(simp<;>omega)|omega) _)|refine Et ?_ (by assumption))))) HI1.out HI2.out).mono ?_;rintro e w1 ⟨he,hb1⟩;rw [HVB.out] at he;subst he;obtain ⟨hc1,hf1⟩:=bcell hb1;have hz1:w.heap.size+1<w1.heap.size:=(by have:=hb1.size;simp at this;omega))|(go_at_call 44;refine (Rshape_any h c p q _ (hl _ (by (repeat' (with_reducible first|assumption|apply Er|apply Ea|apply Ed|apply En|(refine Es ?_ (by first|(simp<;>omega)|omega) _)|refine Et ?_ (by assumption))))) HV.out.wf HF.out HP.out HQ.out).mono ?_;rintro e w2 ⟨h',c',rfl,hp2,hb2⟩;obtain ⟨a1,c1,a2,c2,rfl,rfl⟩:=hp2.form;obtain ⟨hc2,hf2⟩:=bcell hb2;have HP2:=Lib.hid hp2;clear hp2))
 exact bodyPost_ret (v:=.tuple #[perV (.slice a1 q.head.length c1) (.slice a2 q.cycle.length c2) q.frm q.period,.int .i64 0]) (by simp [results,Tryz.results7,go_sem, *]) rfl ⟨_,_,rfl,(HP2.out.above (by (repeat' (with_reducible first|exact Above.refl _ _|refine Above.alloc ?_ _|refine Above.drew ?_|refine Above.drewN ?_ _|refine Above.setCell ?_ (by first|(simp;done)|(simp;omega)|omega) _)))).mono (by have:=hb1.size;simp at this;omega),by (repeat' (with_reducible first|assumption|apply Er|apply Ea|apply Ed|apply En|(refine Es ?_ (by first|(simp<;>omega)|omega) _)|refine Et ?_ (by assumption)))⟩
end Go.Proofs.YtjilkhhokkncoaaGreat
