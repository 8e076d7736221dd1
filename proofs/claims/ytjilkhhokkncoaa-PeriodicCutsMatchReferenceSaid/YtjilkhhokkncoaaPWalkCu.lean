/- Walks: PeriodicCutsMatchReference (package kalendslaw04). -/
import Derived.Test.YtjilkhhokkncoaaPWalkRx
import Derived.Test.YtjilkhhokkncoaaPWalkRy
import Derived.Test.YtjilkhhokkncoaaPK16
import Derived.Deep.Cut
import Derived.Deep.CutBlock
import Derived.Deep.DeepCutAuto
set_option linter.unusedVariables false
set_option linter.unusedSimpArgs false
namespace Go.Proofs.Ytjilkhhokkncoaa
open Go.RowKit Go.Maps Kal

set_option maxRecDepth 100000 in
set_option maxHeartbeats 4000000 in
theorem PeriodicCutsMatchReference_any (va : Value) (fr sz : Int) (w : World) (hra : RawIs w va) (fr0 : -9223372036854775808 ≤ fr) (fr1 : fr ≤ 9223372036854775807) (sz0 : -9223372036854775808 ≤ sz) (sz1 : sz ≤ 9223372036854775807) :
    Calls Try.prog 3 #[va, .int .i64 fr, .int .i64 sz] w fun e w' => e = .returned (.bool true) ∧ Below w.heap.size w w' := by
  obtain ⟨hva, cva, hla, cla, fa, ta, rfl, hBa, hCa, f0a, f1a, t0a, t1a⟩ := hra
  have HBa := Lib.hid hBa
  have HCa := Lib.hid hCa
  obtain ⟨⟨a1a, c1a, rfl, jA⟩, jB, jC⟩ := hBa
  clear jA jB jC
  obtain ⟨⟨a2a, c2a, rfl, jA⟩, jB, jC⟩ := hCa
  clear jA jB jC
  go_enter Try.func3, Try.ntmps3
  go_upto_region 1 with (fail)
  refine wp_abs (F := fun U => BoxIs U (w.heap.size) #[.slice a1a hla.length c1a, .int .u8 fa, .int .u8 ta, .slice a2a cla.length c2a] 24 ∧ Sets U [] ∧ Below w.heap.size w U) ⟨by (first | (refine BoxIs.at ?_; simp; done) | (refine (BoxIs.at ?_).alloc _; simp; done) | (refine ((BoxIs.at ?_).alloc _).alloc _; simp; done) | (refine (((BoxIs.at ?_).alloc _).alloc _).alloc _; simp; done) | (refine ((((BoxIs.at ?_).alloc _).alloc _).alloc _).alloc _; simp; done) | (refine (((((BoxIs.at ?_).alloc _).alloc _).alloc _).alloc _).alloc _; simp; done) | (refine ((((((BoxIs.at ?_).alloc _).alloc _).alloc _).alloc _).alloc _).alloc _; simp; done) | (refine (((((((BoxIs.at ?_).alloc _).alloc _).alloc _).alloc _).alloc _).alloc _).alloc _; simp; done) | (refine ((((((((BoxIs.at ?_).alloc _).alloc _).alloc _).alloc _).alloc _).alloc _).alloc _).alloc _; simp; done) | (refine (((((((((BoxIs.at ?_).alloc _).alloc _).alloc _).alloc _).alloc _).alloc _).alloc _).alloc _).alloc _; simp; done) | (refine ((((((((((BoxIs.at ?_).alloc _).alloc _).alloc _).alloc _).alloc _).alloc _).alloc _).alloc _).alloc _).alloc _; simp; done) | (refine (((((((((((BoxIs.at ?_).alloc _).alloc _).alloc _).alloc _).alloc _).alloc _).alloc _).alloc _).alloc _).alloc _).alloc _; simp; done)), Sets.nil _, by (repeat' (with_reducible first | assumption | exact Ext.refl _ | refine Ext.alloc ?_ _ | refine Ext.drew ?_ | refine Ext.drewN ?_ _ | (refine Ext.setCell ?_ (by first | (simp; done) | (simp; omega) | omega) _) | refine Ext.trans ?_ (by assumption)))⟩ ?_
  rintro W1 ⟨hWa, hS, hE⟩
  go_upto_region 2 with (go_at_call 13; refine (sanity_any _).mono ?_; rintro e u1 ⟨rfl, k1⟩)
  refine wp_abs (F := fun U => BoxIs U (w.heap.size) #[.slice a1a hla.length c1a, .int .u8 fa, .int .u8 ta, .slice a2a cla.length c2a] 24 ∧ Sets U [] ∧ Below w.heap.size w U) ⟨hWa.below (by (repeat' (with_reducible first | assumption | exact Ext.refl _ | refine Ext.alloc ?_ _ | refine Ext.drew ?_ | refine Ext.drewN ?_ _ | (refine Ext.setCell ?_ (by first | (simp; done) | (simp; omega) | omega) _) | refine Ext.trans ?_ (by assumption)))), hS.below (by (repeat' (with_reducible first | assumption | exact Ext.refl _ | refine Ext.alloc ?_ _ | refine Ext.drew ?_ | refine Ext.drewN ?_ _ | (refine Ext.setCell ?_ (by first | (simp; done) | (simp; omega) | omega) _) | refine Ext.trans ?_ (by assumption)))), by (repeat' (with_reducible first | assumption | exact Ext.refl _ | refine Ext.alloc ?_ _ | refine Ext.drew ?_ | refine Ext.drewN ?_ _ | (refine Ext.setCell ?_ (by first | (simp; done) | (simp; omega) | omega) _) | refine Ext.trans ?_ (by assumption)))⟩ ?_
  clear hWa hS hE k1
  rintro W2 ⟨hWa, hS, hE⟩
  have r0 := (hWa.cells 0).1
  have r1 := (hWa.cells 1).1
  have r2 := (hWa.cells 2).1
  have r3 := (hWa.cells 3).1
  go_upto_region 3 with (go_at_call 14; refine (Made_any _ _ hla cla fa ta _ (HBa.out.ext (by (repeat' (with_reducible first | assumption | exact Ext.refl _ | refine Ext.alloc ?_ _ | refine Ext.drew ?_ | refine Ext.drewN ?_ _ | (refine Ext.setCell ?_ (by first | (simp; done) | (simp; omega) | omega) _) | refine Ext.trans ?_ (by assumption))))) (HCa.out.ext (by (repeat' (with_reducible first | assumption | exact Ext.refl _ | refine Ext.alloc ?_ _ | refine Ext.drew ?_ | refine Ext.drewN ?_ _ | (refine Ext.setCell ?_ (by first | (simp; done) | (simp; omega) | omega) _) | refine Ext.trans ?_ (by assumption))))) f0a f1a t0a t1a).mono ?_; rintro e uR ⟨hR, cR, x, rfl, oR, wfx, frx, prx, kR⟩; have sR := oR.is; obtain ⟨x1_2, y1_2, x2_2, y2_2, rfl, rfl⟩ := oR.form; clear oR)
  have Sx : Hid (Sm 20 12 x) := Lib.hid ⟨wfx, frx, prx⟩
  refine wp_abs (F := fun U => Sets U ((uR.heap.size, x) :: []) ∧ Below w.heap.size w U) ⟨Sets.cons ⟨.slice x1_2 (x : Per).head.length y1_2, .slice x2_2 (x : Per).cycle.length y2_2, by (first | (refine BoxIs.at ?_; simp; done) | (refine (BoxIs.at ?_).alloc _; simp; done) | (refine ((BoxIs.at ?_).alloc _).alloc _; simp; done) | (refine (((BoxIs.at ?_).alloc _).alloc _).alloc _; simp; done) | (refine ((((BoxIs.at ?_).alloc _).alloc _).alloc _).alloc _; simp; done) | (refine (((((BoxIs.at ?_).alloc _).alloc _).alloc _).alloc _).alloc _; simp; done) | (refine ((((((BoxIs.at ?_).alloc _).alloc _).alloc _).alloc _).alloc _).alloc _; simp; done) | (refine (((((((BoxIs.at ?_).alloc _).alloc _).alloc _).alloc _).alloc _).alloc _).alloc _; simp; done) | (refine ((((((((BoxIs.at ?_).alloc _).alloc _).alloc _).alloc _).alloc _).alloc _).alloc _).alloc _; simp; done) | (refine (((((((((BoxIs.at ?_).alloc _).alloc _).alloc _).alloc _).alloc _).alloc _).alloc _).alloc _).alloc _; simp; done) | (refine ((((((((((BoxIs.at ?_).alloc _).alloc _).alloc _).alloc _).alloc _).alloc _).alloc _).alloc _).alloc _).alloc _; simp; done) | (refine (((((((((((BoxIs.at ?_).alloc _).alloc _).alloc _).alloc _).alloc _).alloc _).alloc _).alloc _).alloc _).alloc _).alloc _; simp; done)), sR.ext (by (repeat' (with_reducible first | assumption | exact Ext.refl _ | refine Ext.alloc ?_ _ | refine Ext.drew ?_ | refine Ext.drewN ?_ _ | (refine Ext.setCell ?_ (by first | (simp; done) | (simp; omega) | omega) _) | refine Ext.trans ?_ (by assumption))))⟩ (hS.below (by (repeat' (with_reducible first | assumption | exact Ext.refl _ | refine Ext.alloc ?_ _ | refine Ext.drew ?_ | refine Ext.drewN ?_ _ | (refine Ext.setCell ?_ (by first | (simp; done) | (simp; omega) | omega) _) | refine Ext.trans ?_ (by assumption))))), by (repeat' (with_reducible first | assumption | exact Ext.refl _ | refine Ext.alloc ?_ _ | refine Ext.drew ?_ | refine Ext.drewN ?_ _ | (refine Ext.setCell ?_ (by first | (simp; done) | (simp; omega) | omega) _) | refine Ext.trans ?_ (by assumption)))⟩ ?_
  clear hWa hS hE sR kR r0 r1 r2 r3 wfx frx prx
  generalize uR.heap.size = b2 at *
  rintro W3 ⟨hS, hE⟩
  have HS := Lib.hid hS
  have HE := Lib.hid hE
  clear hS hE
  go_upto_if 26 with (fail)
  go_cut [9] (fun s9 wx => ∃ sz1 : Int, s9 = .int .i64 sz1 ∧ sz1 ≤ 2000 ∧ -9223372036854775808 ≤ sz1 ∧ W3 = wx)
  case first =>
    by_cases h9 : 2000 < sz
    · have h8 := Int.emod_nonneg sz (show (2000 : Int) ≠ 0 by omega)
      have h7 := Int.emod_lt_of_pos sz (show (0 : Int) < 2000 by omega)
      go_wp2_with fail
      go_meet
      exact ⟨_, rfl, by omega, by omega, rfl⟩
    · go_wp2_with fail
      go_meet
      exact ⟨_, rfl, by omega, by omega, rfl⟩
  obtain ⟨sz1, rfl, hb1, hb2, rfl⟩ := hcut
  go_upto_region 6 with (fail)
  go_cut [38] (fun s38 wx => s38 = .bool (decide (0 ≤ fr ∧ fr ≤ 1099511627776 ∧ 0 ≤ sz1)) ∧ W3 = wx)
  case first =>
    by_cases g1 : 0 ≤ fr
    · by_cases g2 : fr ≤ 1099511627776
      · by_cases g3 : 0 ≤ sz1
        all_goals
          go_wp2_with fail
          go_meet
          exact ⟨congrArg Value.bool (by first | exact (decide_eq_true (by omega)).symm | exact (decide_eq_false (by omega)).symm), rfl⟩
      · go_wp2_with fail
        go_meet
        exact ⟨congrArg Value.bool (by first | exact (decide_eq_true (by omega)).symm | exact (decide_eq_false (by omega)).symm), rfl⟩
    · go_wp2_with fail
      go_meet
      exact ⟨congrArg Value.bool (by first | exact (decide_eq_true (by omega)).symm | exact (decide_eq_false (by omega)).symm), rfl⟩
  obtain ⟨rfl, rfl⟩ := hcut
  obtain ⟨bb, hbb⟩ : ∃ bb, bb = decide (0 ≤ fr ∧ fr ≤ 1099511627776 ∧ 0 ≤ sz1) := ⟨_, rfl⟩
  rw [← hbb]
  have HBB := Lib.hid hbb
  clear hbb
  go_upto_if 38 with (fail)
  go_cut [9] (fun s9 wx => ∃ tz : Int, s9 = .int .i64 tz ∧ (0 ≤ fr → fr ≤ 1099511627776 → fr ≤ tz → tz ≤ fr + 2000) ∧ -9223372036854775808 ≤ tz ∧ tz ≤ 9223372036854775807 ∧ W3 = wx)
  case first =>
    cases bb
    · have hno : ¬ (0 ≤ fr ∧ fr ≤ 1099511627776 ∧ 0 ≤ sz1) := of_decide_eq_false HBB.out.symm
      go_wp2_with fail
      go_meet
      exact ⟨_, rfl, by omega, by omega, by omega, rfl⟩
    · have hyes : 0 ≤ fr ∧ fr ≤ 1099511627776 ∧ 0 ≤ sz1 := of_decide_eq_true HBB.out.symm
      go_wp2_with fail
      go_meet
      exact ⟨_, rfl, by omega, by omega, by omega, rfl⟩
  clear HBB
  obtain ⟨tz, rfl, hb3, hb4, hb5, rfl⟩ := hcut
  have hS := HS.out
  have hE := HE.out
  clear hb1 hb2
  have HCN : Hid (0 ≤ fr → fr ≤ 1099511627776 → fr ≤ tz → belowI x tz - belowI x fr ≤ 1048576) := Lib.hid (fun h1 h2 h3 => by
    have h4 := hb3 h1 h2 h3
    have h5 := belowI_sel Sx.out.wf h1 h3
    have h6 := (sel_rise (S := x.mem) (lo := fr) (hi := tz) h1).length_le h3
    omega)
  clear hb3
  obtain ⟨hA_8, cA_8, gA⟩ := hS.at 0 rfl
  have qa0 := (gA.box.cells 0).1
  have qa1 := (gA.box.cells 1).1
  have qa2 := (gA.box.cells 2).1
  have qa3 := (gA.box.cells 3).1
  go_upto_region 9 with (go_at_call 15; refine (Cut_any hA_8 cA_8 x fr tz _ (gA.is.ext (by (repeat' (with_reducible first | assumption | exact Ext.refl _ | refine Ext.alloc ?_ _ | refine Ext.drew ?_ | refine Ext.drewN ?_ _ | (refine Ext.setCell ?_ (by first | (simp; done) | (simp; omega) | omega) _) | refine Ext.trans ?_ (by assumption))))) (Sx.out.valid (by omega)) HCN.out).mono ?_; rintro e uR ⟨hR_8, cR_8, q, k, cq, rfl, oR, kR⟩; have CQ := Lib.hid cq; clear cq; have sR := oR.is; obtain ⟨x1_8, y1_8, x2_8, y2_8, rfl, rfl⟩ := oR.form; clear oR)
  refine wp_abs (F := fun U => Sets U ((uR.heap.size, q) :: [(b2, x)]) ∧ Below w.heap.size w U) ⟨Sets.cons ⟨.slice x1_8 (q : Per).head.length y1_8, .slice x2_8 (q : Per).cycle.length y2_8, by (first | (refine BoxIs.at ?_; simp; done) | (refine (BoxIs.at ?_).alloc _; simp; done) | (refine ((BoxIs.at ?_).alloc _).alloc _; simp; done) | (refine (((BoxIs.at ?_).alloc _).alloc _).alloc _; simp; done) | (refine ((((BoxIs.at ?_).alloc _).alloc _).alloc _).alloc _; simp; done) | (refine (((((BoxIs.at ?_).alloc _).alloc _).alloc _).alloc _).alloc _; simp; done) | (refine ((((((BoxIs.at ?_).alloc _).alloc _).alloc _).alloc _).alloc _).alloc _; simp; done) | (refine (((((((BoxIs.at ?_).alloc _).alloc _).alloc _).alloc _).alloc _).alloc _).alloc _; simp; done) | (refine ((((((((BoxIs.at ?_).alloc _).alloc _).alloc _).alloc _).alloc _).alloc _).alloc _).alloc _; simp; done) | (refine (((((((((BoxIs.at ?_).alloc _).alloc _).alloc _).alloc _).alloc _).alloc _).alloc _).alloc _).alloc _; simp; done) | (refine ((((((((((BoxIs.at ?_).alloc _).alloc _).alloc _).alloc _).alloc _).alloc _).alloc _).alloc _).alloc _).alloc _; simp; done) | (refine (((((((((((BoxIs.at ?_).alloc _).alloc _).alloc _).alloc _).alloc _).alloc _).alloc _).alloc _).alloc _).alloc _).alloc _; simp; done)), sR.ext (by (repeat' (with_reducible first | assumption | exact Ext.refl _ | refine Ext.alloc ?_ _ | refine Ext.drew ?_ | refine Ext.drewN ?_ _ | (refine Ext.setCell ?_ (by first | (simp; done) | (simp; omega) | omega) _) | refine Ext.trans ?_ (by assumption))))⟩ (hS.below (by (repeat' (with_reducible first | assumption | exact Ext.refl _ | refine Ext.alloc ?_ _ | refine Ext.drew ?_ | refine Ext.drewN ?_ _ | (refine Ext.setCell ?_ (by first | (simp; done) | (simp; omega) | omega) _) | refine Ext.trans ?_ (by assumption))))), by (repeat' (with_reducible first | assumption | exact Ext.refl _ | refine Ext.alloc ?_ _ | refine Ext.drew ?_ | refine Ext.drewN ?_ _ | (refine Ext.setCell ?_ (by first | (simp; done) | (simp; omega) | omega) _) | refine Ext.trans ?_ (by assumption)))⟩ ?_
  clear hS hE sR kR gA qa0 qa1 qa2 qa3
  generalize uR.heap.size = b8 at *
  rintro W4 ⟨hS, hE⟩
  obtain ⟨hA_9, cA_9, gA⟩ := hS.at 1 rfl
  have qa0 := (gA.box.cells 0).1
  have qa1 := (gA.box.cells 1).1
  have qa2 := (gA.box.cells 2).1
  have qa3 := (gA.box.cells 3).1
  go_upto_region 10 with (go_at_call 16; refine (RCut_any hA_9 cA_9 x fr tz _ (gA.is.ext (by (repeat' (with_reducible first | assumption | exact Ext.refl _ | refine Ext.alloc ?_ _ | refine Ext.drew ?_ | refine Ext.drewN ?_ _ | (refine Ext.setCell ?_ (by first | (simp; done) | (simp; omega) | omega) _) | refine Ext.trans ?_ (by assumption))))) (Sx.out.valid (by omega)) HCN.out).mono ?_; rintro e uR ⟨hR_9, cR_9, q', k', cq, rfl, oR, kR⟩; obtain ⟨rfl, rfl⟩ := CQ.out.unique cq; clear cq; have sR := oR.is; obtain ⟨x1_9, y1_9, x2_9, y2_9, rfl, rfl⟩ := oR.form; clear oR)
  refine wp_abs (F := fun U => Sets U ((uR.heap.size, q) :: [(b8, q), (b2, x)]) ∧ Below w.heap.size w U) ⟨Sets.cons ⟨.slice x1_9 (q : Per).head.length y1_9, .slice x2_9 (q : Per).cycle.length y2_9, by (first | (refine BoxIs.at ?_; simp; done) | (refine (BoxIs.at ?_).alloc _; simp; done) | (refine ((BoxIs.at ?_).alloc _).alloc _; simp; done) | (refine (((BoxIs.at ?_).alloc _).alloc _).alloc _; simp; done) | (refine ((((BoxIs.at ?_).alloc _).alloc _).alloc _).alloc _; simp; done) | (refine (((((BoxIs.at ?_).alloc _).alloc _).alloc _).alloc _).alloc _; simp; done) | (refine ((((((BoxIs.at ?_).alloc _).alloc _).alloc _).alloc _).alloc _).alloc _; simp; done) | (refine (((((((BoxIs.at ?_).alloc _).alloc _).alloc _).alloc _).alloc _).alloc _).alloc _; simp; done) | (refine ((((((((BoxIs.at ?_).alloc _).alloc _).alloc _).alloc _).alloc _).alloc _).alloc _).alloc _; simp; done) | (refine (((((((((BoxIs.at ?_).alloc _).alloc _).alloc _).alloc _).alloc _).alloc _).alloc _).alloc _).alloc _; simp; done) | (refine ((((((((((BoxIs.at ?_).alloc _).alloc _).alloc _).alloc _).alloc _).alloc _).alloc _).alloc _).alloc _).alloc _; simp; done) | (refine (((((((((((BoxIs.at ?_).alloc _).alloc _).alloc _).alloc _).alloc _).alloc _).alloc _).alloc _).alloc _).alloc _).alloc _; simp; done)), sR.ext (by (repeat' (with_reducible first | assumption | exact Ext.refl _ | refine Ext.alloc ?_ _ | refine Ext.drew ?_ | refine Ext.drewN ?_ _ | (refine Ext.setCell ?_ (by first | (simp; done) | (simp; omega) | omega) _) | refine Ext.trans ?_ (by assumption))))⟩ (hS.below (by (repeat' (with_reducible first | assumption | exact Ext.refl _ | refine Ext.alloc ?_ _ | refine Ext.drew ?_ | refine Ext.drewN ?_ _ | (refine Ext.setCell ?_ (by first | (simp; done) | (simp; omega) | omega) _) | refine Ext.trans ?_ (by assumption))))), by (repeat' (with_reducible first | assumption | exact Ext.refl _ | refine Ext.alloc ?_ _ | refine Ext.drew ?_ | refine Ext.drewN ?_ _ | (refine Ext.setCell ?_ (by first | (simp; done) | (simp; omega) | omega) _) | refine Ext.trans ?_ (by assumption)))⟩ ?_
  clear hS hE sR kR gA qa0 qa1 qa2 qa3
  generalize uR.heap.size = b9 at *
  rintro W5 ⟨hS, hE⟩
  have HS := Lib.hid hS
  have HE := Lib.hid hE
  clear hS hE
  go_upto_if 58 with (fail)
  go_cut [14] (fun s14 wx => ∃ m : Int, s14 = .int .i64 m ∧ W5 = wx)
  case first =>
    by_cases h9 : 300 < sz
    · go_wp2_with fail
      go_meet
      exact ⟨_, rfl, rfl⟩
    · go_wp2_with fail
      go_meet
      exact ⟨_, rfl, rfl⟩
  obtain ⟨m, rfl, rfl⟩ := hcut
  have hS := HS.out
  have hE := HE.out
  obtain ⟨hA_13, cA_13, gA⟩ := hS.at 2 rfl
  have qa0 := (gA.box.cells 0).1
  have qa1 := (gA.box.cells 1).1
  have qa2 := (gA.box.cells 2).1
  have qa3 := (gA.box.cells 3).1
  go_upto_region 14 with (go_at_call 17; refine (Residues_any hA_13 cA_13 x m _ (gA.is.ext (by (repeat' (with_reducible first | assumption | exact Ext.refl _ | refine Ext.alloc ?_ _ | refine Ext.drew ?_ | refine Ext.drewN ?_ _ | (refine Ext.setCell ?_ (by first | (simp; done) | (simp; omega) | omega) _) | refine Ext.trans ?_ (by assumption))))) (Sx.out.valid (by omega))).mono ?_; rintro e uR ⟨v1, rfl, iv1, kR⟩)
  refine wp_abs (F := fun U => Sets U [(b9, q), (b8, q), (b2, x)] ∧ Ints U v1 (resA x m) ∧ Below w.heap.size w U) ⟨hS.below (by (repeat' (with_reducible first | assumption | exact Ext.refl _ | refine Ext.alloc ?_ _ | refine Ext.drew ?_ | refine Ext.drewN ?_ _ | (refine Ext.setCell ?_ (by first | (simp; done) | (simp; omega) | omega) _) | refine Ext.trans ?_ (by assumption)))), iv1.ext (by (repeat' (with_reducible first | assumption | exact Ext.refl _ | refine Ext.alloc ?_ _ | refine Ext.drew ?_ | refine Ext.drewN ?_ _ | (refine Ext.setCell ?_ (by first | (simp; done) | (simp; omega) | omega) _) | refine Ext.trans ?_ (by assumption)))), by (repeat' (with_reducible first | assumption | exact Ext.refl _ | refine Ext.alloc ?_ _ | refine Ext.drew ?_ | refine Ext.drewN ?_ _ | (refine Ext.setCell ?_ (by first | (simp; done) | (simp; omega) | omega) _) | refine Ext.trans ?_ (by assumption)))⟩ ?_
  clear hS hE iv1 kR gA qa0 qa1 qa2 qa3
  rintro W6 ⟨hS, hX0, hE⟩
  obtain ⟨hA_14, cA_14, gA⟩ := hS.at 2 rfl
  have qa0 := (gA.box.cells 0).1
  have qa1 := (gA.box.cells 1).1
  have qa2 := (gA.box.cells 2).1
  have qa3 := (gA.box.cells 3).1
  go_upto_region 15 with (go_at_call 18; refine (RResidues_any hA_14 cA_14 x m _ (gA.is.ext (by (repeat' (with_reducible first | assumption | exact Ext.refl _ | refine Ext.alloc ?_ _ | refine Ext.drew ?_ | refine Ext.drewN ?_ _ | (refine Ext.setCell ?_ (by first | (simp; done) | (simp; omega) | omega) _) | refine Ext.trans ?_ (by assumption))))) (Sx.out.valid (by omega))).mono ?_; rintro e uR ⟨v2, rfl, iv2, kR⟩)
  refine wp_abs (F := fun U => Sets U [(b9, q), (b8, q), (b2, x)] ∧ Ints U v1 (resA x m) ∧ Ints U v2 (resA x m) ∧ Below w.heap.size w U) ⟨hS.below (by (repeat' (with_reducible first | assumption | exact Ext.refl _ | refine Ext.alloc ?_ _ | refine Ext.drew ?_ | refine Ext.drewN ?_ _ | (refine Ext.setCell ?_ (by first | (simp; done) | (simp; omega) | omega) _) | refine Ext.trans ?_ (by assumption)))), hX0.ext (by (repeat' (with_reducible first | assumption | exact Ext.refl _ | refine Ext.alloc ?_ _ | refine Ext.drew ?_ | refine Ext.drewN ?_ _ | (refine Ext.setCell ?_ (by first | (simp; done) | (simp; omega) | omega) _) | refine Ext.trans ?_ (by assumption)))), iv2.ext (by (repeat' (with_reducible first | assumption | exact Ext.refl _ | refine Ext.alloc ?_ _ | refine Ext.drew ?_ | refine Ext.drewN ?_ _ | (refine Ext.setCell ?_ (by first | (simp; done) | (simp; omega) | omega) _) | refine Ext.trans ?_ (by assumption)))), by (repeat' (with_reducible first | assumption | exact Ext.refl _ | refine Ext.alloc ?_ _ | refine Ext.drew ?_ | refine Ext.drewN ?_ _ | (refine Ext.setCell ?_ (by first | (simp; done) | (simp; omega) | omega) _) | refine Ext.trans ?_ (by assumption)))⟩ ?_
  clear hS hX0 hE iv2 kR gA qa0 qa1 qa2 qa3
  rintro W7 ⟨hS, hX0, hX1, hE⟩
  obtain ⟨hA_15, cA_15, gA⟩ := hS.at 2 rfl
  have qa0 := (gA.box.cells 0).1
  have qa1 := (gA.box.cells 1).1
  have qa2 := (gA.box.cells 2).1
  have qa3 := (gA.box.cells 3).1
  go_upto_region 16 with (go_at_call 17; refine (Residues_arg hA_15 cA_15 x 1048577 _ (gA.is.ext (by (repeat' (with_reducible first | assumption | exact Ext.refl _ | refine Ext.alloc ?_ _ | refine Ext.drew ?_ | refine Ext.drewN ?_ _ | (refine Ext.setCell ?_ (by first | (simp; done) | (simp; omega) | omega) _) | refine Ext.trans ?_ (by assumption))))) (Sx.out.valid (by omega)) (by omega)).mono ?_; rintro e uR ⟨he, kR⟩; rw [show resK 1048577 = 2 from rfl] at he; subst he)
  refine wp_abs (F := fun U => Sets U [(b9, q), (b8, q), (b2, x)] ∧ Ints U v1 (resA x m) ∧ Ints U v2 (resA x m) ∧ Below w.heap.size w U) ⟨hS.below (by (repeat' (with_reducible first | assumption | exact Ext.refl _ | refine Ext.alloc ?_ _ | refine Ext.drew ?_ | refine Ext.drewN ?_ _ | (refine Ext.setCell ?_ (by first | (simp; done) | (simp; omega) | omega) _) | refine Ext.trans ?_ (by assumption)))), hX0.ext (by (repeat' (with_reducible first | assumption | exact Ext.refl _ | refine Ext.alloc ?_ _ | refine Ext.drew ?_ | refine Ext.drewN ?_ _ | (refine Ext.setCell ?_ (by first | (simp; done) | (simp; omega) | omega) _) | refine Ext.trans ?_ (by assumption)))), hX1.ext (by (repeat' (with_reducible first | assumption | exact Ext.refl _ | refine Ext.alloc ?_ _ | refine Ext.drew ?_ | refine Ext.drewN ?_ _ | (refine Ext.setCell ?_ (by first | (simp; done) | (simp; omega) | omega) _) | refine Ext.trans ?_ (by assumption)))), by (repeat' (with_reducible first | assumption | exact Ext.refl _ | refine Ext.alloc ?_ _ | refine Ext.drew ?_ | refine Ext.drewN ?_ _ | (refine Ext.setCell ?_ (by first | (simp; done) | (simp; omega) | omega) _) | refine Ext.trans ?_ (by assumption)))⟩ ?_
  clear hS hX0 hX1 hE kR gA qa0 qa1 qa2 qa3
  rintro W8 ⟨hS, hX0, hX1, hE⟩
  obtain ⟨hA, cA, gA⟩ := hS.at 1 rfl
  have qa0 := (gA.box.cells 0).1
  have qa1 := (gA.box.cells 1).1
  have qa2 := (gA.box.cells 2).1
  have qa3 := (gA.box.cells 3).1
  obtain ⟨hB, cB, gB⟩ := hS.at 0 rfl
  have qb0 := (gB.box.cells 0).1
  have qb1 := (gB.box.cells 1).1
  have qb2 := (gB.box.cells 2).1
  have qb3 := (gB.box.cells 3).1
  generalize resK m = rk at *
  go_wp2_with (first | (go_at_call 19; refine (Equal_any hA cA hB cB q q _ (gA.is.ext (by (repeat' (with_reducible first | assumption | exact Ext.refl _ | refine Ext.alloc ?_ _ | refine Ext.drew ?_ | refine Ext.drewN ?_ _ | (refine Ext.setCell ?_ (by first | (simp; done) | (simp; omega) | omega) _) | refine Ext.trans ?_ (by assumption))))) (gB.is.ext (by (repeat' (with_reducible first | assumption | exact Ext.refl _ | refine Ext.alloc ?_ _ | refine Ext.drew ?_ | refine Ext.drewN ?_ _ | (refine Ext.setCell ?_ (by first | (simp; done) | (simp; omega) | omega) _) | refine Ext.trans ?_ (by assumption)))))).mono ?_; rintro e uE ⟨he, kE⟩; rw [decide_eq_true rfl] at he; subst he) | (go_at_call 20; refine (numbers_any v1 v2 (resA x m) (resA x m) _ (hX0.ext (by (repeat' (with_reducible first | assumption | exact Ext.refl _ | refine Ext.alloc ?_ _ | refine Ext.drew ?_ | refine Ext.drewN ?_ _ | (refine Ext.setCell ?_ (by first | (simp; done) | (simp; omega) | omega) _) | refine Ext.trans ?_ (by assumption))))) (hX1.ext (by (repeat' (with_reducible first | assumption | exact Ext.refl _ | refine Ext.alloc ?_ _ | refine Ext.drew ?_ | refine Ext.drewN ?_ _ | (refine Ext.setCell ?_ (by first | (simp; done) | (simp; omega) | omega) _) | refine Ext.trans ?_ (by assumption)))))).mono ?_; rintro e uE ⟨he, kF⟩; rw [decide_eq_true rfl] at he; subst he))
  go_ret
  exact ⟨rfl, by (repeat' (with_reducible first | assumption | exact Ext.refl _ | refine Ext.alloc ?_ _ | refine Ext.drew ?_ | refine Ext.drewN ?_ _ | (refine Ext.setCell ?_ (by first | (simp; done) | (simp; omega) | omega) _) | refine Ext.trans ?_ (by assumption)))⟩
end Go.Proofs.Ytjilkhhokkncoaa
