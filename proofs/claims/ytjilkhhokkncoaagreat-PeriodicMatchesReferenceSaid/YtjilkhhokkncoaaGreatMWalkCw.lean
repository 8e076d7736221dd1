/- Walks: And, Or, Minus (package kalendsref04); both implementations over small sets. -/
import Derived.Test.YtjilkhhokkncoaaGreatMWalkCp
import Derived.Test.YtjilkhhokkncoaaGreatMWalkCf
import Derived.Test.YtjilkhhokkncoaaGreatMWalkCap
import Derived.Test.YtjilkhhokkncoaaGreatMWalkCsm
import Derived.Test.YtjilkhhokkncoaaGreatMK15
set_option linter.unusedVariables false
set_option linter.unusedSimpArgs false
namespace Go.Proofs.YtjilkhhokkncoaaGreat
open Go.RowKit Go.Maps Kal
theorem lcm_sm {F A B:Int} {x y cx cy:Per} (s1:Sm F A x) (s2:Sm F B y) (q1:IsCanon cx x.mem) (q2:IsCanon cy y.mem) (h:A*B≤1048576):lcmI cx.period cy.period≤1048576:=by
 have t1:=canon_of_sm s1 q1
 have t2:=canon_of_sm s2 q2
 have:=lcm_le t1.wf.per t2.wf.per t1.per t2.per
 omega
set_option maxRecDepth 100000 in
set_option maxHeartbeats 1000000 in
theorem RAnd_sm (h1 c1 h2 c2:Value) (p1 p2 q:Per) (F A B:Int) (w:World) (hp1:PerIs w h1 c1 p1) (hp2:PerIs w h2 c2 p2) (s1:Sm F A p1) (s2:Sm F B p2) (hb:F+A*B≤1048576) (hq:IsCanon q (fun n=>p1.mem n∧p2.mem n)) :
  Calls Tryz.prog 25 #[perV h1 c1 p1.frm p1.period,perV h2 c2 p2.frm p2.period] w (PerOk q w):=by
 obtain ⟨qa,hqa,ta⟩:=s1.canon
 obtain ⟨qb,hqb,tb⟩:=s2.canon
 have HOP:∀ W,Below w.heap.size w W→Calls Tryz.prog 57 #[perV h1 c1 p1.frm p1.period,perV h2 c2 p2.frm p2.period,.int .i64 0] W (PerOk q W):=fun W hbb=>by
  have a0:=s1.wf.per
  have b0:=s2.wf.per
  have a1:=s1.per
  have b1:=s2.per
  have hm:=mul_ge (show 1≤A by omega) (show 1≤B by omega)
  have hl:=lcm_le ta.wf.per tb.wf.per ta.per tb.per
  have hl1:=lcmI_pos ta.wf.per tb.wf.per
  have hF:0≤F:=by have:=s1.wf.frm;have:=s1.frm;omega
  have f1:=ta.frm
  have f2:=tb.frm
  have z1:=ta.wf.frm
  refine Roperate_ok h1 c1 h2 c2 p1 p2 qa qb q 0 W (hp1.ext hbb) (hp2.ext hbb) (s1.valid (by omega)) (s2.valid (by omega)) hqa hqb (by omega) (by omega) (by rw [opS_and];exact hq) ?_
  have:=(sel_rise (S:=opS 0 qa.mem qb.mem) (lo:=0) (hi:=max qa.frm qb.frm+lcmI qa.period qb.period) (Int.le_refl _)).length_le (by omega)
  omega
 clear hp1 hp2 hqa hqb hq ta tb s1 s2 hb
 go_enter Tryz.func25,Tryz.ntmps25
 go_wp2_with (go_at_call 57;refine (HOP _ (by (repeat' (with_reducible first|assumption|apply Er|apply Ea|apply Ed|apply En|(refine Es ?_ (by first|(simp<;>omega)|omega) _)|refine Et ?_ (by assumption))))).mono ?_;rintro e w2 ⟨h',c',rfl,hp2,hb2⟩;obtain ⟨a1,c1,a2,c2,rfl,rfl⟩:=hp2.form;obtain ⟨hc2,hf2⟩:=bcell hb2;have HP2:=Lib.hid hp2;clear hp2)
 exact bodyPost_ret (v:=.tuple #[perV (.slice a1 q.head.length c1) (.slice a2 q.cycle.length c2) q.frm q.period,.int .i64 0]) (by simp [results,Tryz.results25,go_sem, *]) rfl ⟨_,_,rfl,(HP2.out.above (by (repeat' (with_reducible first|exact Above.refl _ _|refine Above.alloc ?_ _|refine Above.drew ?_|refine Above.drewN ?_ _|refine Above.setCell ?_ (by first|(simp;done)|(simp;omega)|omega) _)))).mono (by simp;omega),by (repeat' (with_reducible first|assumption|apply Er|apply Ea|apply Ed|apply En|(refine Es ?_ (by first|(simp<;>omega)|omega) _)|refine Et ?_ (by assumption)))⟩
set_option maxRecDepth 100000 in
set_option maxHeartbeats 1000000 in
theorem ROr_sm (h1 c1 h2 c2:Value) (p1 p2 q:Per) (F A B:Int) (w:World) (hp1:PerIs w h1 c1 p1) (hp2:PerIs w h2 c2 p2) (s1:Sm F A p1) (s2:Sm F B p2) (hb:F+A*B≤1048576) (hq:IsCanon q (fun n=>p1.mem n∨p2.mem n)) :
  Calls Tryz.prog 27 #[perV h1 c1 p1.frm p1.period,perV h2 c2 p2.frm p2.period] w (PerOk q w):=by
 obtain ⟨qa,hqa,ta⟩:=s1.canon
 obtain ⟨qb,hqb,tb⟩:=s2.canon
 have HOP:∀ W,Below w.heap.size w W→Calls Tryz.prog 57 #[perV h1 c1 p1.frm p1.period,perV h2 c2 p2.frm p2.period,.int .i64 1] W (PerOk q W):=fun W hbb=>by
  have a0:=s1.wf.per
  have b0:=s2.wf.per
  have a1:=s1.per
  have b1:=s2.per
  have hm:=mul_ge (show 1≤A by omega) (show 1≤B by omega)
  have hl:=lcm_le ta.wf.per tb.wf.per ta.per tb.per
  have hl1:=lcmI_pos ta.wf.per tb.wf.per
  have hF:0≤F:=by have:=s1.wf.frm;have:=s1.frm;omega
  have f1:=ta.frm
  have f2:=tb.frm
  have z1:=ta.wf.frm
  refine Roperate_ok h1 c1 h2 c2 p1 p2 qa qb q 1 W (hp1.ext hbb) (hp2.ext hbb) (s1.valid (by omega)) (s2.valid (by omega)) hqa hqb (by omega) (by omega) (by rw [opS_or];exact hq) ?_
  have:=(sel_rise (S:=opS 1 qa.mem qb.mem) (lo:=0) (hi:=max qa.frm qb.frm+lcmI qa.period qb.period) (Int.le_refl _)).length_le (by omega)
  omega
 clear hp1 hp2 hqa hqb hq ta tb s1 s2 hb
 go_enter Tryz.func27,Tryz.ntmps27
 go_wp2_with (go_at_call 57;refine (HOP _ (by (repeat' (with_reducible first|assumption|apply Er|apply Ea|apply Ed|apply En|(refine Es ?_ (by first|(simp<;>omega)|omega) _)|refine Et ?_ (by assumption))))).mono ?_;rintro e w2 ⟨h',c',rfl,hp2,hb2⟩;obtain ⟨a1,c1,a2,c2,rfl,rfl⟩:=hp2.form;obtain ⟨hc2,hf2⟩:=bcell hb2;have HP2:=Lib.hid hp2;clear hp2)
 exact bodyPost_ret (v:=.tuple #[perV (.slice a1 q.head.length c1) (.slice a2 q.cycle.length c2) q.frm q.period,.int .i64 0]) (by simp [results,Tryz.results27,go_sem, *]) rfl ⟨_,_,rfl,(HP2.out.above (by (repeat' (with_reducible first|exact Above.refl _ _|refine Above.alloc ?_ _|refine Above.drew ?_|refine Above.drewN ?_ _|refine Above.setCell ?_ (by first|(simp;done)|(simp;omega)|omega) _)))).mono (by simp;omega),by (repeat' (with_reducible first|assumption|apply Er|apply Ea|apply Ed|apply En|(refine Es ?_ (by first|(simp<;>omega)|omega) _)|refine Et ?_ (by assumption)))⟩
set_option maxRecDepth 100000 in
set_option maxHeartbeats 1000000 in
theorem RMinus_sm (h1 c1 h2 c2:Value) (p1 p2 q:Per) (F A B:Int) (w:World) (hp1:PerIs w h1 c1 p1) (hp2:PerIs w h2 c2 p2) (s1:Sm F A p1) (s2:Sm F B p2) (hb:F+A*B≤1048576) (hq:IsCanon q (fun n=>p1.mem n∧¬ p2.mem n)) :
  Calls Tryz.prog 29 #[perV h1 c1 p1.frm p1.period,perV h2 c2 p2.frm p2.period] w (PerOk q w):=by
 obtain ⟨qa,hqa,ta⟩:=s1.canon
 obtain ⟨qb,hqb,tb⟩:=s2.canon
 have HOP:∀ W,Below w.heap.size w W→Calls Tryz.prog 57 #[perV h1 c1 p1.frm p1.period,perV h2 c2 p2.frm p2.period,.int .i64 2] W (PerOk q W):=fun W hbb=>by
  have a0:=s1.wf.per
  have b0:=s2.wf.per
  have a1:=s1.per
  have b1:=s2.per
  have hm:=mul_ge (show 1≤A by omega) (show 1≤B by omega)
  have hl:=lcm_le ta.wf.per tb.wf.per ta.per tb.per
  have hl1:=lcmI_pos ta.wf.per tb.wf.per
  have hF:0≤F:=by have:=s1.wf.frm;have:=s1.frm;omega
  have f1:=ta.frm
  have f2:=tb.frm
  have z1:=ta.wf.frm
  refine Roperate_ok h1 c1 h2 c2 p1 p2 qa qb q 2 W (hp1.ext hbb) (hp2.ext hbb) (s1.valid (by omega)) (s2.valid (by omega)) hqa hqb (by omega) (by omega) (by rw [opS_minus];exact hq) ?_
  have:=(sel_rise (S:=opS 2 qa.mem qb.mem) (lo:=0) (hi:=max qa.frm qb.frm+lcmI qa.period qb.period) (Int.le_refl _)).length_le (by omega)
  omega
 clear hp1 hp2 hqa hqb hq ta tb s1 s2 hb
 go_enter Tryz.func29,Tryz.ntmps29
 go_wp2_with (go_at_call 57;refine (HOP _ (by (repeat' (with_reducible first|assumption|apply Er|apply Ea|apply Ed|apply En|(refine Es ?_ (by first|(simp<;>omega)|omega) _)|refine Et ?_ (by assumption))))).mono ?_;rintro e w2 ⟨h',c',rfl,hp2,hb2⟩;obtain ⟨a1,c1,a2,c2,rfl,rfl⟩:=hp2.form;obtain ⟨hc2,hf2⟩:=bcell hb2;have HP2:=Lib.hid hp2;clear hp2)
 exact bodyPost_ret (v:=.tuple #[perV (.slice a1 q.head.length c1) (.slice a2 q.cycle.length c2) q.frm q.period,.int .i64 0]) (by simp [results,Tryz.results29,go_sem, *]) rfl ⟨_,_,rfl,(HP2.out.above (by (repeat' (with_reducible first|exact Above.refl _ _|refine Above.alloc ?_ _|refine Above.drew ?_|refine Above.drewN ?_ _|refine Above.setCell ?_ (by first|(simp;done)|(simp;omega)|omega) _)))).mono (by simp;omega),by (repeat' (with_reducible first|assumption|apply Er|apply Ea|apply Ed|apply En|(refine Es ?_ (by first|(simp<;>omega)|omega) _)|refine Et ?_ (by assumption)))⟩
end Go.Proofs.YtjilkhhokkncoaaGreat
