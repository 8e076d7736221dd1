/- Walks: PeriodicQueriesMatchReference (package kalendslaw04). -/
import Derived.Test.YtjilkhhokkncoaaGreatQWalkQa
import Derived.Test.YtjilkhhokkncoaaGreatQLift3
import Derived.Test.YtjilkhhokkncoaaGreatQRegS
set_option linter.unusedVariables false
set_option linter.unusedSimpArgs false
namespace Go.Proofs.YtjilkhhokkncoaaGreat
open Go.RowKit Go.Maps Kal

set_option maxRecDepth 100000 in
set_option maxHeartbeats 8000000 in
theorem PeriodicQueriesMatchReference_any (vp : Value) (x y : Int) (w : World)  (hp : PerArg w vp) (hx : InI x) (hy : InI y) :
    Calls Tryz.prog 3 #[vp, .int .i64 x, .int .i64 y] w fun e w' => e = .returned (.bool true) ∧ Below w.heap.size w w' := by
  obtain ⟨a1, a2, m1, m2, p, rfl, hP1, hP2, hf, ht, hn1, hn2⟩ := hp
  by_cases hbig : 300 < p.head.length ∨ 300 < p.cycle.length
  · clear hP1 hP2 hf ht hx hy
    go_enter Tryz.func3, Tryz.ntmps3
    go_upto_region 1 with (fail)
    refine wp_abs (F := fun U => BoxIs U w.heap.size #[.slice a1 p.head.length m1, .int .i64 p.frm, .int .i64 p.period, .slice a2 p.cycle.length m2] 24 ∧ Below w.heap.size w U) ⟨by (first | (refine BoxIs.at ?_; simp; done) | (refine (BoxIs.at ?_).alloc _; simp; done) | (refine ((BoxIs.at ?_).alloc _).alloc _; simp; done) | (refine (((BoxIs.at ?_).alloc _).alloc _).alloc _; simp; done) | (refine ((((BoxIs.at ?_).alloc _).alloc _).alloc _).alloc _; simp; done) | (refine (((((BoxIs.at ?_).alloc _).alloc _).alloc _).alloc _).alloc _; simp; done) | (refine ((((((BoxIs.at ?_).alloc _).alloc _).alloc _).alloc _).alloc _).alloc _; simp; done) | (refine (((((((BoxIs.at ?_).alloc _).alloc _).alloc _).alloc _).alloc _).alloc _).alloc _; simp; done) | (refine ((((((((BoxIs.at ?_).alloc _).alloc _).alloc _).alloc _).alloc _).alloc _).alloc _).alloc _; simp; done) | (refine (((((((((BoxIs.at ?_).alloc _).alloc _).alloc _).alloc _).alloc _).alloc _).alloc _).alloc _).alloc _; simp; done) | (refine ((((((((((BoxIs.at ?_).alloc _).alloc _).alloc _).alloc _).alloc _).alloc _).alloc _).alloc _).alloc _).alloc _; simp; done) | (refine (((((((((((BoxIs.at ?_).alloc _).alloc _).alloc _).alloc _).alloc _).alloc _).alloc _).alloc _).alloc _).alloc _).alloc _; simp; done)), by (repeat' (with_reducible first | assumption | exact Ext.refl _ | refine Ext.alloc ?_ _ | refine Ext.drew ?_ | refine Ext.drewN ?_ _ | (refine Ext.setCell ?_ (by first | (simp; done) | (simp; omega) | omega) _) | refine Ext.trans ?_ (by assumption)))⟩ ?_
    rintro W1 ⟨hB, hE⟩
    go_upto_region 2 with (go_at_call 5; refine (sanity_any _).mono ?_; rintro e u1 ⟨rfl, k1⟩)
    have hB1 := hB.below k1
    have b0 := (hB1.cells 0).1
    have b3 := (hB1.cells 3).1
    have hE1 : Below w.heap.size w u1 := by (repeat' (with_reducible first | assumption | exact Ext.refl _ | refine Ext.alloc ?_ _ | refine Ext.drew ?_ | refine Ext.drewN ?_ _ | (refine Ext.setCell ?_ (by first | (simp; done) | (simp; omega) | omega) _) | refine Ext.trans ?_ (by assumption)))
    clear hB hE k1 hB1
    by_cases hb1 : 300 < p.head.length
    · have hb2 : (300 : Int) < p.head.length := by omega
      go_wp2_with fail
      go_ret
      exact ⟨rfl, hE1⟩
    · have hb2 : ¬ (300 : Int) < p.head.length := by omega
      have hb3 : (300 : Int) < p.cycle.length := by omega
      go_wp2_with fail
      go_ret
      exact ⟨rfl, hE1⟩
  have hP : PerIs w (.slice a1 p.head.length m1) (.slice a2 p.cycle.length m2) p := ⟨hP1 (by omega), hP2 (by omega)⟩
  have hb1 : ¬ (300 : Int) < p.head.length := by omega
  have hb2 : ¬ (300 : Int) < p.cycle.length := by omega
  have hd1 : decide ((300 : Int) < (p.head.length : Int)) = false := by simp; omega
  have hd2 : decide ((300 : Int) < (p.cycle.length : Int)) = false := by simp; omega
  clear hbig hP1 hP2 hn1 hn2
  have HX := Lib.hid hx
  have HY := Lib.hid hy
  have HF := Lib.hid hf
  have HT := Lib.hid ht
  have HP := Lib.hid hP
  obtain ⟨qc, kc, hc2⟩ := canon_two p hf ht
  obtain ⟨qs, ks, hs2⟩ := shift_two p x hf ht
  obtain ⟨nn, kn, hn2⟩ := count_two p x y hf ht
  obtain ⟨nx, bx, hx2⟩ := next_two p x hf ht hx
  have HC := Lib.hid hc2
  have HSH := Lib.hid hs2
  have HN := Lib.hid hn2
  have HXX := Lib.hid hx2
  clear hP hf ht hx hy hc2 hs2 hn2 hx2
  go_enter Tryz.func3, Tryz.ntmps3
  go_upto_region 1 with (fail)
  refine wp_abs (F := fun U => Sets U [(w.heap.size, p)] ∧ Below w.heap.size w U) ⟨Sets.cons ⟨.slice a1 p.head.length m1, .slice a2 p.cycle.length m2, by (first | (refine BoxIs.at ?_; simp; done) | (refine (BoxIs.at ?_).alloc _; simp; done) | (refine ((BoxIs.at ?_).alloc _).alloc _; simp; done) | (refine (((BoxIs.at ?_).alloc _).alloc _).alloc _; simp; done) | (refine ((((BoxIs.at ?_).alloc _).alloc _).alloc _).alloc _; simp; done) | (refine (((((BoxIs.at ?_).alloc _).alloc _).alloc _).alloc _).alloc _; simp; done) | (refine ((((((BoxIs.at ?_).alloc _).alloc _).alloc _).alloc _).alloc _).alloc _; simp; done) | (refine (((((((BoxIs.at ?_).alloc _).alloc _).alloc _).alloc _).alloc _).alloc _).alloc _; simp; done) | (refine ((((((((BoxIs.at ?_).alloc _).alloc _).alloc _).alloc _).alloc _).alloc _).alloc _).alloc _; simp; done) | (refine (((((((((BoxIs.at ?_).alloc _).alloc _).alloc _).alloc _).alloc _).alloc _).alloc _).alloc _).alloc _; simp; done) | (refine ((((((((((BoxIs.at ?_).alloc _).alloc _).alloc _).alloc _).alloc _).alloc _).alloc _).alloc _).alloc _).alloc _; simp; done) | (refine (((((((((((BoxIs.at ?_).alloc _).alloc _).alloc _).alloc _).alloc _).alloc _).alloc _).alloc _).alloc _).alloc _).alloc _; simp; done)), HP.out.ext (by (repeat' (with_reducible first | assumption | exact Ext.refl _ | refine Ext.alloc ?_ _ | refine Ext.drew ?_ | refine Ext.drewN ?_ _ | (refine Ext.setCell ?_ (by first | (simp; done) | (simp; omega) | omega) _) | refine Ext.trans ?_ (by assumption))))⟩ (Sets.nil _), by (repeat' (with_reducible first | assumption | exact Ext.refl _ | refine Ext.alloc ?_ _ | refine Ext.drew ?_ | refine Ext.drewN ?_ _ | (refine Ext.setCell ?_ (by first | (simp; done) | (simp; omega) | omega) _) | refine Ext.trans ?_ (by assumption)))⟩ ?_
  rintro W1 ⟨hS, hE⟩
  go_upto_region 2 with (go_at_call 5; refine (sanity_any _).mono ?_; rintro e u1 ⟨rfl, k1⟩)
  refine wp_abs (F := fun U => Sets U [(w.heap.size, p)] ∧ Below w.heap.size w U) ⟨hS.below (by (repeat' (with_reducible first | assumption | exact Ext.refl _ | refine Ext.alloc ?_ _ | refine Ext.drew ?_ | refine Ext.drewN ?_ _ | (refine Ext.setCell ?_ (by first | (simp; done) | (simp; omega) | omega) _) | refine Ext.trans ?_ (by assumption)))), by (repeat' (with_reducible first | assumption | exact Ext.refl _ | refine Ext.alloc ?_ _ | refine Ext.drew ?_ | refine Ext.drewN ?_ _ | (refine Ext.setCell ?_ (by first | (simp; done) | (simp; omega) | omega) _) | refine Ext.trans ?_ (by assumption)))⟩ ?_
  clear hS hE k1
  rintro W2 ⟨hS, hE⟩
  obtain ⟨hA_q, cA_q, gA⟩ := hS.at 0 rfl
  have qa0 := (gA.box.cells 0).1
  have qa1 := (gA.box.cells 1).1
  have qa2 := (gA.box.cells 2).1
  have qa3 := (gA.box.cells 3).1
  have HS := Lib.hid hS
  have HE := Lib.hid hE
  obtain ⟨ga1, gm1, ga2, gm2, rfl, rfl⟩ := gA.is.inn.form
  have hgl := gA.box.lt
  clear hS hE gA
  go_upto_region 4 with (fail)
  have hS := HS.out
  have hE := HE.out
  clear hgl qa0 qa1 qa2 qa3 HS HE
  obtain ⟨hA_4, cA_4, gA⟩ := hS.at 0 rfl
  have qa0 := (gA.box.cells 0).1
  have qa1 := (gA.box.cells 1).1
  have qa2 := (gA.box.cells 2).1
  have qa3 := (gA.box.cells 3).1
  go_upto_region 5 with (go_at_call 6; refine ((HC.out hA_4 cA_4 _ (gA.is.ext (by (repeat' (with_reducible first | assumption | exact Ext.refl _ | refine Ext.alloc ?_ _ | refine Ext.drew ?_ | refine Ext.drewN ?_ _ | (refine Ext.setCell ?_ (by first | (simp; done) | (simp; omega) | omega) _) | refine Ext.trans ?_ (by assumption)))))).1).mono ?_; rintro e uR ⟨hR_4, cR_4, rfl, oR, kR⟩; have sR := oR; obtain ⟨x1_4, y1_4, x2_4, y2_4, rfl, rfl⟩ := oR.inn.form; clear oR)
  refine wp_abs (F := fun U => Sets U ((uR.heap.size, qc) :: [(w.heap.size, p)]) ∧ Below w.heap.size w U) ⟨Sets.cons ⟨.slice x1_4 (qc : Per).head.length y1_4, .slice x2_4 (qc : Per).cycle.length y2_4, by (first | (refine BoxIs.at ?_; simp; done) | (refine (BoxIs.at ?_).alloc _; simp; done) | (refine ((BoxIs.at ?_).alloc _).alloc _; simp; done) | (refine (((BoxIs.at ?_).alloc _).alloc _).alloc _; simp; done) | (refine ((((BoxIs.at ?_).alloc _).alloc _).alloc _).alloc _; simp; done) | (refine (((((BoxIs.at ?_).alloc _).alloc _).alloc _).alloc _).alloc _; simp; done) | (refine ((((((BoxIs.at ?_).alloc _).alloc _).alloc _).alloc _).alloc _).alloc _; simp; done) | (refine (((((((BoxIs.at ?_).alloc _).alloc _).alloc _).alloc _).alloc _).alloc _).alloc _; simp; done) | (refine ((((((((BoxIs.at ?_).alloc _).alloc _).alloc _).alloc _).alloc _).alloc _).alloc _).alloc _; simp; done) | (refine (((((((((BoxIs.at ?_).alloc _).alloc _).alloc _).alloc _).alloc _).alloc _).alloc _).alloc _).alloc _; simp; done) | (refine ((((((((((BoxIs.at ?_).alloc _).alloc _).alloc _).alloc _).alloc _).alloc _).alloc _).alloc _).alloc _).alloc _; simp; done) | (refine (((((((((((BoxIs.at ?_).alloc _).alloc _).alloc _).alloc _).alloc _).alloc _).alloc _).alloc _).alloc _).alloc _).alloc _; simp; done)), sR.ext (by (repeat' (with_reducible first | assumption | exact Ext.refl _ | refine Ext.alloc ?_ _ | refine Ext.drew ?_ | refine Ext.drewN ?_ _ | (refine Ext.setCell ?_ (by first | (simp; done) | (simp; omega) | omega) _) | refine Ext.trans ?_ (by assumption))))⟩ (hS.below (by (repeat' (with_reducible first | assumption | exact Ext.refl _ | refine Ext.alloc ?_ _ | refine Ext.drew ?_ | refine Ext.drewN ?_ _ | (refine Ext.setCell ?_ (by first | (simp; done) | (simp; omega) | omega) _) | refine Ext.trans ?_ (by assumption))))), by (repeat' (with_reducible first | assumption | exact Ext.refl _ | refine Ext.alloc ?_ _ | refine Ext.drew ?_ | refine Ext.drewN ?_ _ | (refine Ext.setCell ?_ (by first | (simp; done) | (simp; omega) | omega) _) | refine Ext.trans ?_ (by assumption)))⟩ ?_
  clear hS hE sR kR gA qa0 qa1 qa2 qa3
  generalize uR.heap.size = b4 at *
  rintro W3 ⟨hS, hE⟩
  obtain ⟨hA_5, cA_5, gA⟩ := hS.at 1 rfl
  have qa0 := (gA.box.cells 0).1
  have qa1 := (gA.box.cells 1).1
  have qa2 := (gA.box.cells 2).1
  have qa3 := (gA.box.cells 3).1
  go_upto_region 6 with (go_at_call 7; refine ((HC.out hA_5 cA_5 _ (gA.is.ext (by (repeat' (with_reducible first | assumption | exact Ext.refl _ | refine Ext.alloc ?_ _ | refine Ext.drew ?_ | refine Ext.drewN ?_ _ | (refine Ext.setCell ?_ (by first | (simp; done) | (simp; omega) | omega) _) | refine Ext.trans ?_ (by assumption)))))).2).mono ?_; rintro e uR ⟨hR_5, cR_5, rfl, oR, kR⟩; have sR := oR; obtain ⟨x1_5, y1_5, x2_5, y2_5, rfl, rfl⟩ := oR.inn.form; clear oR)
  refine wp_abs (F := fun U => Sets U ((uR.heap.size, qc) :: [(b4, qc), (w.heap.size, p)]) ∧ Below w.heap.size w U) ⟨Sets.cons ⟨.slice x1_5 (qc : Per).head.length y1_5, .slice x2_5 (qc : Per).cycle.length y2_5, by (first | (refine BoxIs.at ?_; simp; done) | (refine (BoxIs.at ?_).alloc _; simp; done) | (refine ((BoxIs.at ?_).alloc _).alloc _; simp; done) | (refine (((BoxIs.at ?_).alloc _).alloc _).alloc _; simp; done) | (refine ((((BoxIs.at ?_).alloc _).alloc _).alloc _).alloc _; simp; done) | (refine (((((BoxIs.at ?_).alloc _).alloc _).alloc _).alloc _).alloc _; simp; done) | (refine ((((((BoxIs.at ?_).alloc _).alloc _).alloc _).alloc _).alloc _).alloc _; simp; done) | (refine (((((((BoxIs.at ?_).alloc _).alloc _).alloc _).alloc _).alloc _).alloc _).alloc _; simp; done) | (refine ((((((((BoxIs.at ?_).alloc _).alloc _).alloc _).alloc _).alloc _).alloc _).alloc _).alloc _; simp; done) | (refine (((((((((BoxIs.at ?_).alloc _).alloc _).alloc _).alloc _).alloc _).alloc _).alloc _).alloc _).alloc _; simp; done) | (refine ((((((((((BoxIs.at ?_).alloc _).alloc _).alloc _).alloc _).alloc _).alloc _).alloc _).alloc _).alloc _).alloc _; simp; done) | (refine (((((((((((BoxIs.at ?_).alloc _).alloc _).alloc _).alloc _).alloc _).alloc _).alloc _).alloc _).alloc _).alloc _).alloc _; simp; done)), sR.ext (by (repeat' (with_reducible first | assumption | exact Ext.refl _ | refine Ext.alloc ?_ _ | refine Ext.drew ?_ | refine Ext.drewN ?_ _ | (refine Ext.setCell ?_ (by first | (simp; done) | (simp; omega) | omega) _) | refine Ext.trans ?_ (by assumption))))⟩ (hS.below (by (repeat' (with_reducible first | assumption | exact Ext.refl _ | refine Ext.alloc ?_ _ | refine Ext.drew ?_ | refine Ext.drewN ?_ _ | (refine Ext.setCell ?_ (by first | (simp; done) | (simp; omega) | omega) _) | refine Ext.trans ?_ (by assumption))))), by (repeat' (with_reducible first | assumption | exact Ext.refl _ | refine Ext.alloc ?_ _ | refine Ext.drew ?_ | refine Ext.drewN ?_ _ | (refine Ext.setCell ?_ (by first | (simp; done) | (simp; omega) | omega) _) | refine Ext.trans ?_ (by assumption)))⟩ ?_
  clear hS hE sR kR gA qa0 qa1 qa2 qa3
  generalize uR.heap.size = b5 at *
  rintro W4 ⟨hS, hE⟩
  obtain ⟨hA_6, cA_6, gA⟩ := hS.at 2 rfl
  have qa0 := (gA.box.cells 0).1
  have qa1 := (gA.box.cells 1).1
  have qa2 := (gA.box.cells 2).1
  have qa3 := (gA.box.cells 3).1
  go_upto_region 7 with (go_at_call 8; refine ((HSH.out hA_6 cA_6 _ (gA.is.ext (by (repeat' (with_reducible first | assumption | exact Ext.refl _ | refine Ext.alloc ?_ _ | refine Ext.drew ?_ | refine Ext.drewN ?_ _ | (refine Ext.setCell ?_ (by first | (simp; done) | (simp; omega) | omega) _) | refine Ext.trans ?_ (by assumption)))))).1).mono ?_; rintro e uR ⟨hR_6, cR_6, rfl, oR, kR⟩; have sR := oR; obtain ⟨x1_6, y1_6, x2_6, y2_6, rfl, rfl⟩ := oR.inn.form; clear oR)
  refine wp_abs (F := fun U => Sets U ((uR.heap.size, qs) :: [(b5, qc), (b4, qc), (w.heap.size, p)]) ∧ Below w.heap.size w U) ⟨Sets.cons ⟨.slice x1_6 (qs : Per).head.length y1_6, .slice x2_6 (qs : Per).cycle.length y2_6, by (first | (refine BoxIs.at ?_; simp; done) | (refine (BoxIs.at ?_).alloc _; simp; done) | (refine ((BoxIs.at ?_).alloc _).alloc _; simp; done) | (refine (((BoxIs.at ?_).alloc _).alloc _).alloc _; simp; done) | (refine ((((BoxIs.at ?_).alloc _).alloc _).alloc _).alloc _; simp; done) | (refine (((((BoxIs.at ?_).alloc _).alloc _).alloc _).alloc _).alloc _; simp; done) | (refine ((((((BoxIs.at ?_).alloc _).alloc _).alloc _).alloc _).alloc _).alloc _; simp; done) | (refine (((((((BoxIs.at ?_).alloc _).alloc _).alloc _).alloc _).alloc _).alloc _).alloc _; simp; done) | (refine ((((((((BoxIs.at ?_).alloc _).alloc _).alloc _).alloc _).alloc _).alloc _).alloc _).alloc _; simp; done) | (refine (((((((((BoxIs.at ?_).alloc _).alloc _).alloc _).alloc _).alloc _).alloc _).alloc _).alloc _).alloc _; simp; done) | (refine ((((((((((BoxIs.at ?_).alloc _).alloc _).alloc _).alloc _).alloc _).alloc _).alloc _).alloc _).alloc _).alloc _; simp; done) | (refine (((((((((((BoxIs.at ?_).alloc _).alloc _).alloc _).alloc _).alloc _).alloc _).alloc _).alloc _).alloc _).alloc _).alloc _; simp; done)), sR.ext (by (repeat' (with_reducible first | assumption | exact Ext.refl _ | refine Ext.alloc ?_ _ | refine Ext.drew ?_ | refine Ext.drewN ?_ _ | (refine Ext.setCell ?_ (by first | (simp; done) | (simp; omega) | omega) _) | refine Ext.trans ?_ (by assumption))))⟩ (hS.below (by (repeat' (with_reducible first | assumption | exact Ext.refl _ | refine Ext.alloc ?_ _ | refine Ext.drew ?_ | refine Ext.drewN ?_ _ | (refine Ext.setCell ?_ (by first | (simp; done) | (simp; omega) | omega) _) | refine Ext.trans ?_ (by assumption))))), by (repeat' (with_reducible first | assumption | exact Ext.refl _ | refine Ext.alloc ?_ _ | refine Ext.drew ?_ | refine Ext.drewN ?_ _ | (refine Ext.setCell ?_ (by first | (simp; done) | (simp; omega) | omega) _) | refine Ext.trans ?_ (by assumption)))⟩ ?_
  clear hS hE sR kR gA qa0 qa1 qa2 qa3
  generalize uR.heap.size = b6 at *
  rintro W5 ⟨hS, hE⟩
  obtain ⟨hA_7, cA_7, gA⟩ := hS.at 3 rfl
  have qa0 := (gA.box.cells 0).1
  have qa1 := (gA.box.cells 1).1
  have qa2 := (gA.box.cells 2).1
  have qa3 := (gA.box.cells 3).1
  go_upto_region 8 with (go_at_call 9; refine ((HSH.out hA_7 cA_7 _ (gA.is.ext (by (repeat' (with_reducible first | assumption | exact Ext.refl _ | refine Ext.alloc ?_ _ | refine Ext.drew ?_ | refine Ext.drewN ?_ _ | (refine Ext.setCell ?_ (by first | (simp; done) | (simp; omega) | omega) _) | refine Ext.trans ?_ (by assumption)))))).2).mono ?_; rintro e uR ⟨hR_7, cR_7, rfl, oR, kR⟩; have sR := oR; obtain ⟨x1_7, y1_7, x2_7, y2_7, rfl, rfl⟩ := oR.inn.form; clear oR)
  refine wp_abs (F := fun U => Sets U ((uR.heap.size, qs) :: [(b6, qs), (b5, qc), (b4, qc), (w.heap.size, p)]) ∧ Below w.heap.size w U) ⟨Sets.cons ⟨.slice x1_7 (qs : Per).head.length y1_7, .slice x2_7 (qs : Per).cycle.length y2_7, by (first | (refine BoxIs.at ?_; simp; done) | (refine (BoxIs.at ?_).alloc _; simp; done) | (refine ((BoxIs.at ?_).alloc _).alloc _; simp; done) | (refine (((BoxIs.at ?_).alloc _).alloc _).alloc _; simp; done) | (refine ((((BoxIs.at ?_).alloc _).alloc _).alloc _).alloc _; simp; done) | (refine (((((BoxIs.at ?_).alloc _).alloc _).alloc _).alloc _).alloc _; simp; done) | (refine ((((((BoxIs.at ?_).alloc _).alloc _).alloc _).alloc _).alloc _).alloc _; simp; done) | (refine (((((((BoxIs.at ?_).alloc _).alloc _).alloc _).alloc _).alloc _).alloc _).alloc _; simp; done) | (refine ((((((((BoxIs.at ?_).alloc _).alloc _).alloc _).alloc _).alloc _).alloc _).alloc _).alloc _; simp; done) | (refine (((((((((BoxIs.at ?_).alloc _).alloc _).alloc _).alloc _).alloc _).alloc _).alloc _).alloc _).alloc _; simp; done) | (refine ((((((((((BoxIs.at ?_).alloc _).alloc _).alloc _).alloc _).alloc _).alloc _).alloc _).alloc _).alloc _).alloc _; simp; done) | (refine (((((((((((BoxIs.at ?_).alloc _).alloc _).alloc _).alloc _).alloc _).alloc _).alloc _).alloc _).alloc _).alloc _).alloc _; simp; done)), sR.ext (by (repeat' (with_reducible first | assumption | exact Ext.refl _ | refine Ext.alloc ?_ _ | refine Ext.drew ?_ | refine Ext.drewN ?_ _ | (refine Ext.setCell ?_ (by first | (simp; done) | (simp; omega) | omega) _) | refine Ext.trans ?_ (by assumption))))⟩ (hS.below (by (repeat' (with_reducible first | assumption | exact Ext.refl _ | refine Ext.alloc ?_ _ | refine Ext.drew ?_ | refine Ext.drewN ?_ _ | (refine Ext.setCell ?_ (by first | (simp; done) | (simp; omega) | omega) _) | refine Ext.trans ?_ (by assumption))))), by (repeat' (with_reducible first | assumption | exact Ext.refl _ | refine Ext.alloc ?_ _ | refine Ext.drew ?_ | refine Ext.drewN ?_ _ | (refine Ext.setCell ?_ (by first | (simp; done) | (simp; omega) | omega) _) | refine Ext.trans ?_ (by assumption)))⟩ ?_
  clear hS hE sR kR gA qa0 qa1 qa2 qa3
  generalize uR.heap.size = b7 at *
  rintro W6 ⟨hS, hE⟩
  obtain ⟨hA_8, cA_8, gA⟩ := hS.at 4 rfl
  have qa0 := (gA.box.cells 0).1
  have qa1 := (gA.box.cells 1).1
  have qa2 := (gA.box.cells 2).1
  have qa3 := (gA.box.cells 3).1
  go_upto_region 9 with (go_at_call 10; refine ((HN.out hA_8 cA_8 _ (gA.is.ext (by (repeat' (with_reducible first | assumption | exact Ext.refl _ | refine Ext.alloc ?_ _ | refine Ext.drew ?_ | refine Ext.drewN ?_ _ | (refine Ext.setCell ?_ (by first | (simp; done) | (simp; omega) | omega) _) | refine Ext.trans ?_ (by assumption)))))).1).mono ?_; rintro e uR ⟨rfl, kR⟩)
  refine wp_abs (F := fun U => Sets U [(b7, qs), (b6, qs), (b5, qc), (b4, qc), (w.heap.size, p)] ∧ Below w.heap.size w U) ⟨hS.below (by (repeat' (with_reducible first | assumption | exact Ext.refl _ | refine Ext.alloc ?_ _ | refine Ext.drew ?_ | refine Ext.drewN ?_ _ | (refine Ext.setCell ?_ (by first | (simp; done) | (simp; omega) | omega) _) | refine Ext.trans ?_ (by assumption)))), by (repeat' (with_reducible first | assumption | exact Ext.refl _ | refine Ext.alloc ?_ _ | refine Ext.drew ?_ | refine Ext.drewN ?_ _ | (refine Ext.setCell ?_ (by first | (simp; done) | (simp; omega) | omega) _) | refine Ext.trans ?_ (by assumption)))⟩ ?_
  clear hS hE kR gA qa0 qa1 qa2 qa3
  rintro W7 ⟨hS, hE⟩
  obtain ⟨hA_9, cA_9, gA⟩ := hS.at 4 rfl
  have qa0 := (gA.box.cells 0).1
  have qa1 := (gA.box.cells 1).1
  have qa2 := (gA.box.cells 2).1
  have qa3 := (gA.box.cells 3).1
  go_upto_region 10 with (go_at_call 11; refine ((HN.out hA_9 cA_9 _ (gA.is.ext (by (repeat' (with_reducible first | assumption | exact Ext.refl _ | refine Ext.alloc ?_ _ | refine Ext.drew ?_ | refine Ext.drewN ?_ _ | (refine Ext.setCell ?_ (by first | (simp; done) | (simp; omega) | omega) _) | refine Ext.trans ?_ (by assumption)))))).2).mono ?_; rintro e uR ⟨rfl, kR⟩)
  refine wp_abs (F := fun U => Sets U [(b7, qs), (b6, qs), (b5, qc), (b4, qc), (w.heap.size, p)] ∧ Below w.heap.size w U) ⟨hS.below (by (repeat' (with_reducible first | assumption | exact Ext.refl _ | refine Ext.alloc ?_ _ | refine Ext.drew ?_ | refine Ext.drewN ?_ _ | (refine Ext.setCell ?_ (by first | (simp; done) | (simp; omega) | omega) _) | refine Ext.trans ?_ (by assumption)))), by (repeat' (with_reducible first | assumption | exact Ext.refl _ | refine Ext.alloc ?_ _ | refine Ext.drew ?_ | refine Ext.drewN ?_ _ | (refine Ext.setCell ?_ (by first | (simp; done) | (simp; omega) | omega) _) | refine Ext.trans ?_ (by assumption)))⟩ ?_
  clear hS hE kR gA qa0 qa1 qa2 qa3
  rintro W8 ⟨hS, hE⟩
  obtain ⟨hA_10, cA_10, gA⟩ := hS.at 4 rfl
  have qa0 := (gA.box.cells 0).1
  have qa1 := (gA.box.cells 1).1
  have qa2 := (gA.box.cells 2).1
  have qa3 := (gA.box.cells 3).1
  go_upto_region 11 with (go_at_call 12; refine ((HXX.out hA_10 cA_10 _ (gA.is.ext (by (repeat' (with_reducible first | assumption | exact Ext.refl _ | refine Ext.alloc ?_ _ | refine Ext.drew ?_ | refine Ext.drewN ?_ _ | (refine Ext.setCell ?_ (by first | (simp; done) | (simp; omega) | omega) _) | refine Ext.trans ?_ (by assumption)))))).1).mono ?_; rintro e uR ⟨rfl, kR⟩)
  refine wp_abs (F := fun U => Sets U [(b7, qs), (b6, qs), (b5, qc), (b4, qc), (w.heap.size, p)] ∧ Below w.heap.size w U) ⟨hS.below (by (repeat' (with_reducible first | assumption | exact Ext.refl _ | refine Ext.alloc ?_ _ | refine Ext.drew ?_ | refine Ext.drewN ?_ _ | (refine Ext.setCell ?_ (by first | (simp; done) | (simp; omega) | omega) _) | refine Ext.trans ?_ (by assumption)))), by (repeat' (with_reducible first | assumption | exact Ext.refl _ | refine Ext.alloc ?_ _ | refine Ext.drew ?_ | refine Ext.drewN ?_ _ | (refine Ext.setCell ?_ (by first | (simp; done) | (simp; omega) | omega) _) | refine Ext.trans ?_ (by assumption)))⟩ ?_
  clear hS hE kR gA qa0 qa1 qa2 qa3
  rintro W9 ⟨hS, hE⟩
  obtain ⟨hA_11, cA_11, gA⟩ := hS.at 4 rfl
  have qa0 := (gA.box.cells 0).1
  have qa1 := (gA.box.cells 1).1
  have qa2 := (gA.box.cells 2).1
  have qa3 := (gA.box.cells 3).1
  go_upto_region 12 with (go_at_call 13; refine ((HXX.out hA_11 cA_11 _ (gA.is.ext (by (repeat' (with_reducible first | assumption | exact Ext.refl _ | refine Ext.alloc ?_ _ | refine Ext.drew ?_ | refine Ext.drewN ?_ _ | (refine Ext.setCell ?_ (by first | (simp; done) | (simp; omega) | omega) _) | refine Ext.trans ?_ (by assumption)))))).2).mono ?_; rintro e uR ⟨rfl, kR⟩)
  refine wp_abs (F := fun U => Sets U [(b7, qs), (b6, qs), (b5, qc), (b4, qc), (w.heap.size, p)] ∧ Below w.heap.size w U) ⟨hS.below (by (repeat' (with_reducible first | assumption | exact Ext.refl _ | refine Ext.alloc ?_ _ | refine Ext.drew ?_ | refine Ext.drewN ?_ _ | (refine Ext.setCell ?_ (by first | (simp; done) | (simp; omega) | omega) _) | refine Ext.trans ?_ (by assumption)))), by (repeat' (with_reducible first | assumption | exact Ext.refl _ | refine Ext.alloc ?_ _ | refine Ext.drew ?_ | refine Ext.drewN ?_ _ | (refine Ext.setCell ?_ (by first | (simp; done) | (simp; omega) | omega) _) | refine Ext.trans ?_ (by assumption)))⟩ ?_
  clear hS hE kR gA qa0 qa1 qa2 qa3
  rintro W10 ⟨hS, hE⟩
  obtain ⟨vb, hvb⟩ : ∃ vb, vb = validB p := ⟨_, rfl⟩
  obtain ⟨hb1, hhb⟩ : ∃ hb1, hb1 = (validB p && decide (0 ≤ x) && memB p x) := ⟨_, rfl⟩
  obtain ⟨eb, heb⟩ : ∃ eb, eb = emptyB p := ⟨_, rfl⟩
  obtain ⟨fb, hfb⟩ : ∃ fb, fb = (validB p && decide (p.cycle = [])) := ⟨_, rfl⟩
  have HVB := Lib.hid hvb.symm
  have HHB := Lib.hid hhb.symm
  have HEB := Lib.hid heb.symm
  have HFB := Lib.hid hfb.symm
  have HE := Lib.hid hE
  clear hvb hhb heb hfb hE
  refine wp_region_factsH (w0 := W10) [0, 1, 2, 3, 4, 5, 6, 7, 8, 9, 10, 11, 12, 13, 14, 15, 16, 17, 18, 19, 20, 21, 22, 23, 24, 25, 26, 27, 28, 29, 30, 31, 32, 33, 34, 35, 36, 37, 38, 39, 40, 41, 42, 43, 44, 45, 46, 47, 48, 49, 50, 51, 52, 53, 54, 55, 56, 57, 58, 59, 60, 61, 62, 63, 64, 65, 66, 67, 68, 69, 70] [71] (fun v => ⟨#[perV (Value.slice a1 p.head.length m1) (Value.slice a2 p.cycle.length m2) p.frm p.period, Value.int IntKind.i64 x, Value.int IntKind.i64 y, Value.pointer (some { block := w.heap.size, off := 0 }), undef, undef, Value.bool false, Value.bool true, Value.pointer (some { block := b4, off := 0 }), Value.int IntKind.i64 kc, Value.pointer (some { block := b5, off := 0 }), Value.int IntKind.i64 kc, Value.pointer (some { block := b6, off := 0 }), Value.int IntKind.i64 ks, Value.pointer (some { block := b7, off := 0 }), Value.int IntKind.i64 ks, Value.int IntKind.i64 nn, Value.int IntKind.i64 kn, Value.int IntKind.i64 nn, Value.int IntKind.i64 kn, Value.int IntKind.i64 nx, Value.bool bx, Value.int IntKind.i64 nx, Value.bool bx, Value.bool true, Value.pointer (some { block := w.heap.size, off := 0 }), Value.slice ga1 p.head.length gm1, Value.int IntKind.i64 ↑p.head.length, Value.bool false, Value.bool false, Value.pointer (some { block := w.heap.size, off := 3 }), Value.slice ga2 p.cycle.length gm2, Value.int IntKind.i64 ↑p.cycle.length, Value.bool false, Value.bool false, undef, Value.tuple #[perV (Value.slice x1_4 qc.head.length y1_4) (Value.slice x2_4 qc.cycle.length y2_4) qc.frm qc.period, Value.int IntKind.i64 kc], Value.agg #[hA_4, Value.int IntKind.i64 p.frm, Value.int IntKind.i64 p.period, cA_4], Value.tuple #[perV (Value.slice x1_4 qc.head.length y1_4) (Value.slice x2_4 qc.cycle.length y2_4) qc.frm qc.period, Value.int IntKind.i64 kc], perV (Value.slice x1_4 qc.head.length y1_4) (Value.slice x2_4 qc.cycle.length y2_4) qc.frm qc.period, Value.int IntKind.i64 kc, Value.tuple #[perV (Value.slice x1_5 qc.head.length y1_5) (Value.slice x2_5 qc.cycle.length y2_5) qc.frm qc.period, Value.int IntKind.i64 kc], Value.agg #[hA_5, Value.int IntKind.i64 p.frm, Value.int IntKind.i64 p.period, cA_5], Value.tuple #[perV (Value.slice x1_5 qc.head.length y1_5) (Value.slice x2_5 qc.cycle.length y2_5) qc.frm qc.period, Value.int IntKind.i64 kc], perV (Value.slice x1_5 qc.head.length y1_5) (Value.slice x2_5 qc.cycle.length y2_5) qc.frm qc.period, Value.int IntKind.i64 kc, Value.tuple #[perV (Value.slice x1_6 qs.head.length y1_6) (Value.slice x2_6 qs.cycle.length y2_6) qs.frm qs.period, Value.int IntKind.i64 ks], Value.agg #[hA_6, Value.int IntKind.i64 p.frm, Value.int IntKind.i64 p.period, cA_6], Value.int IntKind.i64 x, Value.tuple #[perV (Value.slice x1_6 qs.head.length y1_6) (Value.slice x2_6 qs.cycle.length y2_6) qs.frm qs.period, Value.int IntKind.i64 ks], perV (Value.slice x1_6 qs.head.length y1_6) (Value.slice x2_6 qs.cycle.length y2_6) qs.frm qs.period, Value.int IntKind.i64 ks, Value.tuple #[perV (Value.slice x1_7 qs.head.length y1_7) (Value.slice x2_7 qs.cycle.length y2_7) qs.frm qs.period, Value.int IntKind.i64 ks], Value.agg #[hA_7, Value.int IntKind.i64 p.frm, Value.int IntKind.i64 p.period, cA_7], Value.int IntKind.i64 x, Value.tuple #[perV (Value.slice x1_7 qs.head.length y1_7) (Value.slice x2_7 qs.cycle.length y2_7) qs.frm qs.period, Value.int IntKind.i64 ks], perV (Value.slice x1_7 qs.head.length y1_7) (Value.slice x2_7 qs.cycle.length y2_7) qs.frm qs.period, Value.int IntKind.i64 ks, Value.tuple #[Value.int IntKind.i64 nn, Value.int IntKind.i64 kn], Value.agg #[hA_8, Value.int IntKind.i64 p.frm, Value.int IntKind.i64 p.period, cA_8], Value.int IntKind.i64 x, Value.int IntKind.i64 y, Value.tuple #[Value.int IntKind.i64 nn, Value.int IntKind.i64 kn], Value.int IntKind.i64 nn, Value.int IntKind.i64 kn, Value.tuple #[Value.int IntKind.i64 nn, Value.int IntKind.i64 kn], Value.agg #[hA_9, Value.int IntKind.i64 p.frm, Value.int IntKind.i64 p.period, cA_9], Value.int IntKind.i64 x, Value.int IntKind.i64 y, Value.tuple #[Value.int IntKind.i64 nn, Value.int IntKind.i64 kn], Value.int IntKind.i64 nn, Value.int IntKind.i64 kn, Value.tuple #[Value.int IntKind.i64 nx, Value.bool bx], Value.agg #[hA_10, Value.int IntKind.i64 p.frm, Value.int IntKind.i64 p.period, cA_10], Value.int IntKind.i64 x, Value.tuple #[Value.int IntKind.i64 nx, Value.bool bx], Value.int IntKind.i64 nx, Value.bool bx, Value.tuple #[Value.int IntKind.i64 nx, Value.bool bx], Value.agg #[hA_11, Value.int IntKind.i64 p.frm, Value.int IntKind.i64 p.period, cA_11], Value.int IntKind.i64 x, Value.tuple #[Value.int IntKind.i64 nx, Value.bool bx], Value.int IntKind.i64 nx, Value.bool bx, v 0, v 1, v 2, v 3, v 4, v 5, v 6, v 7, v 8, v 9, v 10, v 11, v 12, v 13, v 14, v 15, v 16, v 17, v 18, v 19, v 20, v 21, v 22, v 23, v 24, v 25, v 26, v 27, v 28, v 29, v 30, v 31, v 32, v 33, v 34, v 35, v 36, v 37, v 38, v 39, v 40, v 41, v 42, v 43, v 44, v 45, v 46, v 47, v 48, v 49, v 50, v 51, v 52, v 53, v 54, v 55, v 56, v 57, v 58, v 59, v 60, v 61, v 62, v 63, v 64, v 65, v 66, v 67, v 68, v 69, v 70], []⟩) (fun _ => undef)
    (fun i v lo hi W => match i with
      | 0 => v 0 = .bool true
      | 1 => v 1 = .bool true
      | 2 => v 2 = .int .i64 kc
      | 3 => v 3 = .int .i64 kc
      | 4 => v 4 = .bool true
      | 5 => v 5 = .bool true
      | 6 => v 6 = .bool true
      | 7 => SetV W (v 7) qc
      | 8 => SetV W (v 8) qc
      | 9 => v 9 = .bool true
      | 10 => v 10 = .bool true
      | 11 => v 11 = .bool true
      | 12 => v 12 = .int .i64 ks
      | 13 => v 13 = .int .i64 ks
      | 14 => v 14 = .bool true
      | 15 => v 15 = .bool true
      | 16 => v 16 = .bool true
      | 17 => SetV W (v 17) qs
      | 18 => SetV W (v 18) qs
      | 19 => v 19 = .bool true
      | 20 => v 20 = .bool true
      | 21 => v 21 = .bool true
      | 22 => v 22 = .int .i64 nn
      | 23 => v 23 = .int .i64 nn
      | 24 => v 24 = .bool true
      | 25 => v 25 = .bool true
      | 26 => v 26 = .bool true
      | 27 => v 27 = .int .i64 kn
      | 28 => v 28 = .int .i64 kn
      | 29 => v 29 = .bool true
      | 30 => v 30 = .bool true
      | 31 => v 31 = .bool true
      | 32 => v 32 = .int .i64 nx
      | 33 => v 33 = .int .i64 nx
      | 34 => v 34 = .bool true
      | 35 => v 35 = .bool true
      | 36 => v 36 = .bool true
      | 37 => v 37 = .bool bx
      | 38 => v 38 = .bool bx
      | 39 => v 39 = .bool true
      | 40 => v 40 = .bool true
      | 41 => v 41 = .bool true
      | 42 => SetV W (v 42) p
      | 43 => v 43 = .bool vb
      | 44 => SetV W (v 44) p
      | 45 => v 45 = .bool vb
      | 46 => v 46 = .bool true
      | 47 => v 47 = .bool true
      | 48 => v 48 = .bool true
      | 49 => SetV W (v 49) p
      | 50 => v 50 = .int .i64 x
      | 51 => v 51 = .bool hb1
      | 52 => SetV W (v 52) p
      | 53 => v 53 = .int .i64 x
      | 54 => v 54 = .bool hb1
      | 55 => v 55 = .bool true
      | 56 => v 56 = .bool true
      | 57 => v 57 = .bool true
      | 58 => SetV W (v 58) p
      | 59 => v 59 = .bool eb
      | 60 => SetV W (v 60) p
      | 61 => v 61 = .bool eb
      | 62 => v 62 = .bool true
      | 63 => v 63 = .bool true
      | 64 => v 64 = .bool true
      | 65 => SetV W (v 65) p
      | 66 => v 66 = .bool fb
      | 67 => SetV W (v 67) p
      | 68 => v 68 = .bool fb
      | 69 => v 69 = .bool true
      | 70 => v 70 = .bool true
      | _ => True)
    (fun W => Sets W [(b7, qs), (b6, qs), (b5, qc), (b4, qc), (w.heap.size, p)]) rfl (by kernel_rfl) (by decide) rfl ?stab ?loc (fun W hb => hS.below hb) ?steps ?fin
  case stab =>
    rintro (_ | _ | _ | _ | _ | _ | _ | _ | _ | _ | _ | _ | _ | _ | _ | _ | _ | _ | _ | _ | _ | _ | _ | _ | _ | _ | _ | _ | _ | _ | _ | _ | _ | _ | _ | _ | _ | _ | _ | _ | _ | _ | _ | _ | _ | _ | _ | _ | _ | _ | _ | _ | _ | _ | _ | _ | _ | _ | _ | _ | _ | _ | _ | _ | _ | _ | _ | _ | _ | _ | _ | i) v lo hi W W' h hb
    · exact h
    · exact h
    · exact h
    · exact h
    · exact h
    · exact h
    · exact h
    · exact h.below hb
    · exact h.below hb
    · exact h
    · exact h
    · exact h
    · exact h
    · exact h
    · exact h
    · exact h
    · exact h
    · exact h.below hb
    · exact h.below hb
    · exact h
    · exact h
    · exact h
    · exact h
    · exact h
    · exact h
    · exact h
    · exact h
    · exact h
    · exact h
    · exact h
    · exact h
    · exact h
    · exact h
    · exact h
    · exact h
    · exact h
    · exact h
    · exact h
    · exact h
    · exact h
    · exact h
    · exact h
    · exact h.below hb
    · exact h
    · exact h.below hb
    · exact h
    · exact h
    · exact h
    · exact h
    · exact h.below hb
    · exact h
    · exact h
    · exact h.below hb
    · exact h
    · exact h
    · exact h
    · exact h
    · exact h
    · exact h.below hb
    · exact h
    · exact h.below hb
    · exact h
    · exact h
    · exact h
    · exact h
    · exact h.below hb
    · exact h
    · exact h.below hb
    · exact h
    · exact h
    · exact h
    · trivial
  case loc =>
    rintro (_ | _ | _ | _ | _ | _ | _ | _ | _ | _ | _ | _ | _ | _ | _ | _ | _ | _ | _ | _ | _ | _ | _ | _ | _ | _ | _ | _ | _ | _ | _ | _ | _ | _ | _ | _ | _ | _ | _ | _ | _ | _ | _ | _ | _ | _ | _ | _ | _ | _ | _ | _ | _ | _ | _ | _ | _ | _ | _ | _ | _ | _ | _ | _ | _ | _ | _ | _ | _ | _ | _ | i) v v' lo lo' hi hi' W hag h
    · exact (hag 0 (.inl rfl)).1 ▸ h
    · exact (hag 1 (.inl rfl)).1 ▸ h
    · exact (hag 2 (.inl rfl)).1 ▸ h
    · exact (hag 3 (.inl rfl)).1 ▸ h
    · exact (hag 4 (.inl rfl)).1 ▸ h
    · exact (hag 5 (.inl rfl)).1 ▸ h
    · exact (hag 6 (.inl rfl)).1 ▸ h
    · have q := hag 7 (.inl rfl)
      have q6 := hag 6 (.inr (Region.dep (by kernel_rfl)))
      (try dsimp only at h ⊢); (try simp only [q.1, q.2.1, q.2.2, q6.1, q6.2.1, q6.2.2] at h); exact h
    · have q := hag 8 (.inl rfl)
      have q6 := hag 6 (.inr (Region.dep (by kernel_rfl)))
      (try dsimp only at h ⊢); (try simp only [q.1, q.2.1, q.2.2, q6.1, q6.2.1, q6.2.2] at h); exact h
    · exact (hag 9 (.inl rfl)).1 ▸ h
    · exact (hag 10 (.inl rfl)).1 ▸ h
    · exact (hag 11 (.inl rfl)).1 ▸ h
    · exact (hag 12 (.inl rfl)).1 ▸ h
    · exact (hag 13 (.inl rfl)).1 ▸ h
    · exact (hag 14 (.inl rfl)).1 ▸ h
    · exact (hag 15 (.inl rfl)).1 ▸ h
    · exact (hag 16 (.inl rfl)).1 ▸ h
    · have q := hag 17 (.inl rfl)
      have q16 := hag 16 (.inr (Region.dep (by kernel_rfl)))
      (try dsimp only at h ⊢); (try simp only [q.1, q.2.1, q.2.2, q16.1, q16.2.1, q16.2.2] at h); exact h
    · have q := hag 18 (.inl rfl)
      have q16 := hag 16 (.inr (Region.dep (by kernel_rfl)))
      (try dsimp only at h ⊢); (try simp only [q.1, q.2.1, q.2.2, q16.1, q16.2.1, q16.2.2] at h); exact h
    · exact (hag 19 (.inl rfl)).1 ▸ h
    · exact (hag 20 (.inl rfl)).1 ▸ h
    · exact (hag 21 (.inl rfl)).1 ▸ h
    · exact (hag 22 (.inl rfl)).1 ▸ h
    · exact (hag 23 (.inl rfl)).1 ▸ h
    · exact (hag 24 (.inl rfl)).1 ▸ h
    · exact (hag 25 (.inl rfl)).1 ▸ h
    · exact (hag 26 (.inl rfl)).1 ▸ h
    · exact (hag 27 (.inl rfl)).1 ▸ h
    · exact (hag 28 (.inl rfl)).1 ▸ h
    · exact (hag 29 (.inl rfl)).1 ▸ h
    · exact (hag 30 (.inl rfl)).1 ▸ h
    · exact (hag 31 (.inl rfl)).1 ▸ h
    · exact (hag 32 (.inl rfl)).1 ▸ h
    · exact (hag 33 (.inl rfl)).1 ▸ h
    · exact (hag 34 (.inl rfl)).1 ▸ h
    · exact (hag 35 (.inl rfl)).1 ▸ h
    · exact (hag 36 (.inl rfl)).1 ▸ h
    · exact (hag 37 (.inl rfl)).1 ▸ h
    · exact (hag 38 (.inl rfl)).1 ▸ h
    · exact (hag 39 (.inl rfl)).1 ▸ h
    · exact (hag 40 (.inl rfl)).1 ▸ h
    · exact (hag 41 (.inl rfl)).1 ▸ h
    · have q := hag 42 (.inl rfl)
      have q41 := hag 41 (.inr (Region.dep (by kernel_rfl)))
      (try dsimp only at h ⊢); (try simp only [q.1, q.2.1, q.2.2, q41.1, q41.2.1, q41.2.2] at h); exact h
    · exact (hag 43 (.inl rfl)).1 ▸ h
    · have q := hag 44 (.inl rfl)
      have q41 := hag 41 (.inr (Region.dep (by kernel_rfl)))
      (try dsimp only at h ⊢); (try simp only [q.1, q.2.1, q.2.2, q41.1, q41.2.1, q41.2.2] at h); exact h
    · exact (hag 45 (.inl rfl)).1 ▸ h
    · exact (hag 46 (.inl rfl)).1 ▸ h
    · exact (hag 47 (.inl rfl)).1 ▸ h
    · exact (hag 48 (.inl rfl)).1 ▸ h
    · have q := hag 49 (.inl rfl)
      have q48 := hag 48 (.inr (Region.dep (by kernel_rfl)))
      (try dsimp only at h ⊢); (try simp only [q.1, q.2.1, q.2.2, q48.1, q48.2.1, q48.2.2] at h); exact h
    · exact (hag 50 (.inl rfl)).1 ▸ h
    · exact (hag 51 (.inl rfl)).1 ▸ h
    · have q := hag 52 (.inl rfl)
      have q48 := hag 48 (.inr (Region.dep (by kernel_rfl)))
      (try dsimp only at h ⊢); (try simp only [q.1, q.2.1, q.2.2, q48.1, q48.2.1, q48.2.2] at h); exact h
    · exact (hag 53 (.inl rfl)).1 ▸ h
    · exact (hag 54 (.inl rfl)).1 ▸ h
    · exact (hag 55 (.inl rfl)).1 ▸ h
    · exact (hag 56 (.inl rfl)).1 ▸ h
    · exact (hag 57 (.inl rfl)).1 ▸ h
    · have q := hag 58 (.inl rfl)
      have q57 := hag 57 (.inr (Region.dep (by kernel_rfl)))
      (try dsimp only at h ⊢); (try simp only [q.1, q.2.1, q.2.2, q57.1, q57.2.1, q57.2.2] at h); exact h
    · exact (hag 59 (.inl rfl)).1 ▸ h
    · have q := hag 60 (.inl rfl)
      have q57 := hag 57 (.inr (Region.dep (by kernel_rfl)))
      (try dsimp only at h ⊢); (try simp only [q.1, q.2.1, q.2.2, q57.1, q57.2.1, q57.2.2] at h); exact h
    · exact (hag 61 (.inl rfl)).1 ▸ h
    · exact (hag 62 (.inl rfl)).1 ▸ h
    · exact (hag 63 (.inl rfl)).1 ▸ h
    · exact (hag 64 (.inl rfl)).1 ▸ h
    · have q := hag 65 (.inl rfl)
      have q64 := hag 64 (.inr (Region.dep (by kernel_rfl)))
      (try dsimp only at h ⊢); (try simp only [q.1, q.2.1, q.2.2, q64.1, q64.2.1, q64.2.2] at h); exact h
    · exact (hag 66 (.inl rfl)).1 ▸ h
    · have q := hag 67 (.inl rfl)
      have q64 := hag 64 (.inr (Region.dep (by kernel_rfl)))
      (try dsimp only at h ⊢); (try simp only [q.1, q.2.1, q.2.2, q64.1, q64.2.1, q64.2.2] at h); exact h
    · exact (hag 68 (.inl rfl)).1 ▸ h
    · exact (hag 69 (.inl rfl)).1 ▸ h
    · exact (hag 70 (.inl rfl)).1 ▸ h
    · trivial
  case steps =>
    refine StepsH.cons rfl ?_ (StepsH.cons rfl ?_ (StepsH.cons rfl ?_ (StepsH.cons rfl ?_ (StepsH.cons rfl ?_ (StepsH.cons rfl ?_ (StepsH.cons rfl ?_ (StepsH.cons rfl ?_ (StepsH.cons rfl ?_ (StepsH.cons rfl ?_ (StepsH.cons rfl ?_ (StepsH.cons rfl ?_ (StepsH.cons rfl ?_ (StepsH.cons rfl ?_ (StepsH.cons rfl ?_ (StepsH.cons rfl ?_ (StepsH.cons rfl ?_ (StepsH.cons rfl ?_ (StepsH.cons rfl ?_ (StepsH.cons rfl ?_ (StepsH.cons rfl ?_ (StepsH.cons rfl ?_ (StepsH.cons rfl ?_ (StepsH.cons rfl ?_ (StepsH.cons rfl ?_ (StepsH.cons rfl ?_ (StepsH.cons rfl ?_ (StepsH.cons rfl ?_ (StepsH.cons rfl ?_ (StepsH.cons rfl ?_ (StepsH.cons rfl ?_ (StepsH.cons rfl ?_ (StepsH.cons rfl ?_ (StepsH.cons rfl ?_ (StepsH.cons rfl ?_ (StepsH.cons rfl ?_ (StepsH.cons rfl ?_ (StepsH.cons rfl ?_ (StepsH.cons rfl ?_ (StepsH.cons rfl ?_ (StepsH.cons rfl ?_ (StepsH.cons rfl ?_ (StepsH.cons rfl ?_ (StepsH.cons rfl ?_ (StepsH.cons rfl ?_ (StepsH.cons rfl ?_ (StepsH.cons rfl ?_ (StepsH.cons rfl ?_ (StepsH.cons rfl ?_ (StepsH.cons rfl ?_ (StepsH.cons rfl ?_ (StepsH.cons rfl ?_ (StepsH.cons rfl ?_ (StepsH.cons rfl ?_ (StepsH.cons rfl ?_ (StepsH.cons rfl ?_ (StepsH.cons rfl ?_ (StepsH.cons rfl ?_ (StepsH.cons rfl ?_ (StepsH.cons rfl ?_ (StepsH.cons rfl ?_ (StepsH.cons rfl ?_ (StepsH.cons rfl ?_ (StepsH.cons rfl ?_ (StepsH.cons rfl ?_ (StepsH.cons rfl ?_ (StepsH.cons rfl ?_ (StepsH.cons rfl ?_ (StepsH.cons rfl ?_ (StepsH.cons rfl ?_ (StepsH.cons rfl ?_ StepsH.nil))))))))))))))))))))))))))))))))))))))))))))))))))))))))))))))))))))))
    · rintro v lo hi W hb hS hd
      clear hd
      refine ⟨rfl, ?_⟩
      intro K hK
      dsimp only
      go_wp2_with fail
      exact act_cast (hK (.bool true) W (Below.refl _ _) rfl) (by simp)
    · rintro v lo hi W hb hS hd
      have e0 : v 0 = .bool true := (hd 0 (Region.dep (by kernel_rfl))).2.2
      clear hd
      refine ⟨rfl, ?_⟩
      intro K hK
      dsimp only
      (try simp only [e0])
      go_wp2_with fail
      exact act_cast (hK (.bool true) W (Below.refl _ _) rfl) (by simp [e0])
    · rintro v lo hi W hb hS hd
      have e1 : v 1 = .bool true := (hd 1 (Region.dep (by kernel_rfl))).2.2
      clear hd
      refine ⟨(by show ((match some (v 1) with | some (Value.bool b) => some b | _ => none) == some true) = true; rw [e1]; rfl), ?_⟩
      intro K hK
      dsimp only
      (try simp only [e1])
      go_wp2_with fail
      exact act_cast (hK (.int .i64 kc) W (Below.refl _ _) rfl) (by simp [e1])
    · rintro v lo hi W hb hS hd
      have e1 : v 1 = .bool true := (hd 1 (Region.dep (by kernel_rfl))).2.2
      clear hd
      refine ⟨(by show ((match some (v 1) with | some (Value.bool b) => some b | _ => none) == some true) = true; rw [e1]; rfl), ?_⟩
      intro K hK
      dsimp only
      (try simp only [e1])
      go_wp2_with fail
      exact act_cast (hK (.int .i64 kc) W (Below.refl _ _) rfl) (by simp [e1])
    · rintro v lo hi W hb hS hd
      have e1 : v 1 = .bool true := (hd 1 (Region.dep (by kernel_rfl))).2.2
      have e2 : v 2 = .int .i64 kc := (hd 2 (Region.dep (by kernel_rfl))).2.2
      have e3 : v 3 = .int .i64 kc := (hd 3 (Region.dep (by kernel_rfl))).2.2
      clear hd
      refine ⟨(by show ((match some (v 1) with | some (Value.bool b) => some b | _ => none) == some true) = true; rw [e1]; rfl), ?_⟩
      intro K hK
      dsimp only
      (try simp only [e1, e2, e3])
      go_wp2_with fail
      exact act_cast (hK (.bool true) W (Below.refl _ _) rfl) (by simp [e1, e2, e3])
    · rintro v lo hi W hb hS hd
      have e1 : v 1 = .bool true := (hd 1 (Region.dep (by kernel_rfl))).2.2
      have e4 : v 4 = .bool true := (hd 4 (Region.dep (by kernel_rfl))).2.2
      clear hd
      refine ⟨rfl, ?_⟩
      intro K hK
      dsimp only
      (try simp only [e1, e4])
      go_wp2_with fail
      exact act_cast (hK (.bool true) W (Below.refl _ _) rfl) (by simp [e1, e4])
    · rintro v lo hi W hb hS hd
      have e5 : v 5 = .bool true := (hd 5 (Region.dep (by kernel_rfl))).2.2
      clear hd
      refine ⟨rfl, ?_⟩
      intro K hK
      dsimp only
      (try simp only [e5])
      go_wp2_with fail
      exact act_cast (hK (.bool true) W (Below.refl _ _) rfl) (by simp [e5])
    · rintro v lo hi W hb hS hd
      have e6 : v 6 = .bool true := (hd 6 (Region.dep (by kernel_rfl))).2.2
      clear hd
      refine ⟨(by show ((match some (v 6) with | some (Value.bool b) => some b | _ => none) == some true) = true; rw [e6]; rfl), ?_⟩
      intro K hK
      dsimp only
      (try simp only [e6])
      obtain ⟨h, c, g⟩ := hS.at 3 rfl
      have q0 := (g.box.cells 0).1
      have q1 := (g.box.cells 1).1
      have q2 := (g.box.cells 2).1
      have q3 := (g.box.cells 3).1
      go_wp2_with fail
      exact act_cast (hK (perV h c (qc : Per).frm (qc : Per).period) W (Below.refl _ _) ⟨h, c, rfl, g.is⟩) (by simp [e6])
    · rintro v lo hi W hb hS hd
      have e6 : v 6 = .bool true := (hd 6 (Region.dep (by kernel_rfl))).2.2
      clear hd
      refine ⟨(by show ((match some (v 6) with | some (Value.bool b) => some b | _ => none) == some true) = true; rw [e6]; rfl), ?_⟩
      intro K hK
      dsimp only
      (try simp only [e6])
      obtain ⟨h, c, g⟩ := hS.at 2 rfl
      have q0 := (g.box.cells 0).1
      have q1 := (g.box.cells 1).1
      have q2 := (g.box.cells 2).1
      have q3 := (g.box.cells 3).1
      go_wp2_with fail
      exact act_cast (hK (perV h c (qc : Per).frm (qc : Per).period) W (Below.refl _ _) ⟨h, c, rfl, g.is⟩) (by simp [e6])
    · rintro v lo hi W hb hS hd
      have e6 : v 6 = .bool true := (hd 6 (Region.dep (by kernel_rfl))).2.2
      obtain ⟨la7, lb7, D7⟩ := hd 7 (Region.dep (by kernel_rfl))
      obtain ⟨la8, lb8, D8⟩ := hd 8 (Region.dep (by kernel_rfl))
      clear hd
      refine ⟨(by show ((match some (v 6) with | some (Value.bool b) => some b | _ => none) == some true) = true; rw [e6]; rfl), ?_⟩
      intro K hK
      dsimp only
      (try simp only [e6])
      obtain ⟨h0, c0, e0, s0⟩ := D7
      obtain ⟨h1, c1, e1, s1⟩ := D8
      simp only [e0, e1]
      go_wp2_with (go_at_call 14; refine (Equal_any h0 c0 h1 c1 qc qc _ s0 s1).mono ?_; rintro e w9 ⟨he, hb9⟩; rw [decide_eq_true rfl] at he; subst he)
      exact act_cast (hK (.bool true) w9 hb9 rfl) (by simp [e6, e0, e1])
    · rintro v lo hi W hb hS hd
      have e6 : v 6 = .bool true := (hd 6 (Region.dep (by kernel_rfl))).2.2
      have e9 : v 9 = .bool true := (hd 9 (Region.dep (by kernel_rfl))).2.2
      clear hd
      refine ⟨rfl, ?_⟩
      intro K hK
      dsimp only
      (try simp only [e6, e9])
      go_wp2_with fail
      exact act_cast (hK (.bool true) W (Below.refl _ _) rfl) (by simp [e6, e9])
    · rintro v lo hi W hb hS hd
      have e10 : v 10 = .bool true := (hd 10 (Region.dep (by kernel_rfl))).2.2
      clear hd
      refine ⟨rfl, ?_⟩
      intro K hK
      dsimp only
      (try simp only [e10])
      go_wp2_with fail
      exact act_cast (hK (.bool true) W (Below.refl _ _) rfl) (by simp [e10])
    · rintro v lo hi W hb hS hd
      have e11 : v 11 = .bool true := (hd 11 (Region.dep (by kernel_rfl))).2.2
      clear hd
      refine ⟨(by show ((match some (v 11) with | some (Value.bool b) => some b | _ => none) == some true) = true; rw [e11]; rfl), ?_⟩
      intro K hK
      dsimp only
      (try simp only [e11])
      go_wp2_with fail
      exact act_cast (hK (.int .i64 ks) W (Below.refl _ _) rfl) (by simp [e11])
    · rintro v lo hi W hb hS hd
      have e11 : v 11 = .bool true := (hd 11 (Region.dep (by kernel_rfl))).2.2
      clear hd
      refine ⟨(by show ((match some (v 11) with | some (Value.bool b) => some b | _ => none) == some true) = true; rw [e11]; rfl), ?_⟩
      intro K hK
      dsimp only
      (try simp only [e11])
      go_wp2_with fail
      exact act_cast (hK (.int .i64 ks) W (Below.refl _ _) rfl) (by simp [e11])
    · rintro v lo hi W hb hS hd
      have e11 : v 11 = .bool true := (hd 11 (Region.dep (by kernel_rfl))).2.2
      have e12 : v 12 = .int .i64 ks := (hd 12 (Region.dep (by kernel_rfl))).2.2
      have e13 : v 13 = .int .i64 ks := (hd 13 (Region.dep (by kernel_rfl))).2.2
      clear hd
      refine ⟨(by show ((match some (v 11) with | some (Value.bool b) => some b | _ => none) == some true) = true; rw [e11]; rfl), ?_⟩
      intro K hK
      dsimp only
      (try simp only [e11, e12, e13])
      go_wp2_with fail
      exact act_cast (hK (.bool true) W (Below.refl _ _) rfl) (by simp [e11, e12, e13])
    · rintro v lo hi W hb hS hd
      have e11 : v 11 = .bool true := (hd 11 (Region.dep (by kernel_rfl))).2.2
      have e14 : v 14 = .bool true := (hd 14 (Region.dep (by kernel_rfl))).2.2
      clear hd
      refine ⟨rfl, ?_⟩
      intro K hK
      dsimp only
      (try simp only [e11, e14])
      go_wp2_with fail
      exact act_cast (hK (.bool true) W (Below.refl _ _) rfl) (by simp [e11, e14])
    · rintro v lo hi W hb hS hd
      have e15 : v 15 = .bool true := (hd 15 (Region.dep (by kernel_rfl))).2.2
      clear hd
      refine ⟨rfl, ?_⟩
      intro K hK
      dsimp only
      (try simp only [e15])
      go_wp2_with fail
      exact act_cast (hK (.bool true) W (Below.refl _ _) rfl) (by simp [e15])
    · rintro v lo hi W hb hS hd
      have e16 : v 16 = .bool true := (hd 16 (Region.dep (by kernel_rfl))).2.2
      clear hd
      refine ⟨(by show ((match some (v 16) with | some (Value.bool b) => some b | _ => none) == some true) = true; rw [e16]; rfl), ?_⟩
      intro K hK
      dsimp only
      (try simp only [e16])
      obtain ⟨h, c, g⟩ := hS.at 1 rfl
      have q0 := (g.box.cells 0).1
      have q1 := (g.box.cells 1).1
      have q2 := (g.box.cells 2).1
      have q3 := (g.box.cells 3).1
      go_wp2_with fail
      exact act_cast (hK (perV h c (qs : Per).frm (qs : Per).period) W (Below.refl _ _) ⟨h, c, rfl, g.is⟩) (by simp [e16])
    · rintro v lo hi W hb hS hd
      have e16 : v 16 = .bool true := (hd 16 (Region.dep (by kernel_rfl))).2.2
      clear hd
      refine ⟨(by show ((match some (v 16) with | some (Value.bool b) => some b | _ => none) == some true) = true; rw [e16]; rfl), ?_⟩
      intro K hK
      dsimp only
      (try simp only [e16])
      obtain ⟨h, c, g⟩ := hS.at 0 rfl
      have q0 := (g.box.cells 0).1
      have q1 := (g.box.cells 1).1
      have q2 := (g.box.cells 2).1
      have q3 := (g.box.cells 3).1
      go_wp2_with fail
      exact act_cast (hK (perV h c (qs : Per).frm (qs : Per).period) W (Below.refl _ _) ⟨h, c, rfl, g.is⟩) (by simp [e16])
    · rintro v lo hi W hb hS hd
      have e16 : v 16 = .bool true := (hd 16 (Region.dep (by kernel_rfl))).2.2
      obtain ⟨la17, lb17, D17⟩ := hd 17 (Region.dep (by kernel_rfl))
      obtain ⟨la18, lb18, D18⟩ := hd 18 (Region.dep (by kernel_rfl))
      clear hd
      refine ⟨(by show ((match some (v 16) with | some (Value.bool b) => some b | _ => none) == some true) = true; rw [e16]; rfl), ?_⟩
      intro K hK
      dsimp only
      (try simp only [e16])
      obtain ⟨h0, c0, e0, s0⟩ := D17
      obtain ⟨h1, c1, e1, s1⟩ := D18
      simp only [e0, e1]
      go_wp2_with (go_at_call 14; refine (Equal_any h0 c0 h1 c1 qs qs _ s0 s1).mono ?_; rintro e w9 ⟨he, hb9⟩; rw [decide_eq_true rfl] at he; subst he)
      exact act_cast (hK (.bool true) w9 hb9 rfl) (by simp [e16, e0, e1])
    · rintro v lo hi W hb hS hd
      have e16 : v 16 = .bool true := (hd 16 (Region.dep (by kernel_rfl))).2.2
      have e19 : v 19 = .bool true := (hd 19 (Region.dep (by kernel_rfl))).2.2
      clear hd
      refine ⟨rfl, ?_⟩
      intro K hK
      dsimp only
      (try simp only [e16, e19])
      go_wp2_with fail
      exact act_cast (hK (.bool true) W (Below.refl _ _) rfl) (by simp [e16, e19])
    · rintro v lo hi W hb hS hd
      have e20 : v 20 = .bool true := (hd 20 (Region.dep (by kernel_rfl))).2.2
      clear hd
      refine ⟨rfl, ?_⟩
      intro K hK
      dsimp only
      (try simp only [e20])
      go_wp2_with fail
      exact act_cast (hK (.bool true) W (Below.refl _ _) rfl) (by simp [e20])
    · rintro v lo hi W hb hS hd
      have e21 : v 21 = .bool true := (hd 21 (Region.dep (by kernel_rfl))).2.2
      clear hd
      refine ⟨(by show ((match some (v 21) with | some (Value.bool b) => some b | _ => none) == some true) = true; rw [e21]; rfl), ?_⟩
      intro K hK
      dsimp only
      (try simp only [e21])
      go_wp2_with fail
      exact act_cast (hK (.int .i64 nn) W (Below.refl _ _) rfl) (by simp [e21])
    · rintro v lo hi W hb hS hd
      have e21 : v 21 = .bool true := (hd 21 (Region.dep (by kernel_rfl))).2.2
      clear hd
      refine ⟨(by show ((match some (v 21) with | some (Value.bool b) => some b | _ => none) == some true) = true; rw [e21]; rfl), ?_⟩
      intro K hK
      dsimp only
      (try simp only [e21])
      go_wp2_with fail
      exact act_cast (hK (.int .i64 nn) W (Below.refl _ _) rfl) (by simp [e21])
    · rintro v lo hi W hb hS hd
      have e21 : v 21 = .bool true := (hd 21 (Region.dep (by kernel_rfl))).2.2
      have e22 : v 22 = .int .i64 nn := (hd 22 (Region.dep (by kernel_rfl))).2.2
      have e23 : v 23 = .int .i64 nn := (hd 23 (Region.dep (by kernel_rfl))).2.2
      clear hd
      refine ⟨(by show ((match some (v 21) with | some (Value.bool b) => some b | _ => none) == some true) = true; rw [e21]; rfl), ?_⟩
      intro K hK
      dsimp only
      (try simp only [e21, e22, e23])
      go_wp2_with fail
      exact act_cast (hK (.bool true) W (Below.refl _ _) rfl) (by simp [e21, e22, e23])
    · rintro v lo hi W hb hS hd
      have e21 : v 21 = .bool true := (hd 21 (Region.dep (by kernel_rfl))).2.2
      have e24 : v 24 = .bool true := (hd 24 (Region.dep (by kernel_rfl))).2.2
      clear hd
      refine ⟨rfl, ?_⟩
      intro K hK
      dsimp only
      (try simp only [e21, e24])
      go_wp2_with fail
      exact act_cast (hK (.bool true) W (Below.refl _ _) rfl) (by simp [e21, e24])
    · rintro v lo hi W hb hS hd
      have e25 : v 25 = .bool true := (hd 25 (Region.dep (by kernel_rfl))).2.2
      clear hd
      refine ⟨rfl, ?_⟩
      intro K hK
      dsimp only
      (try simp only [e25])
      go_wp2_with fail
      exact act_cast (hK (.bool true) W (Below.refl _ _) rfl) (by simp [e25])
    · rintro v lo hi W hb hS hd
      have e26 : v 26 = .bool true := (hd 26 (Region.dep (by kernel_rfl))).2.2
      clear hd
      refine ⟨(by show ((match some (v 26) with | some (Value.bool b) => some b | _ => none) == some true) = true; rw [e26]; rfl), ?_⟩
      intro K hK
      dsimp only
      (try simp only [e26])
      go_wp2_with fail
      exact act_cast (hK (.int .i64 kn) W (Below.refl _ _) rfl) (by simp [e26])
    · rintro v lo hi W hb hS hd
      have e26 : v 26 = .bool true := (hd 26 (Region.dep (by kernel_rfl))).2.2
      clear hd
      refine ⟨(by show ((match some (v 26) with | some (Value.bool b) => some b | _ => none) == some true) = true; rw [e26]; rfl), ?_⟩
      intro K hK
      dsimp only
      (try simp only [e26])
      go_wp2_with fail
      exact act_cast (hK (.int .i64 kn) W (Below.refl _ _) rfl) (by simp [e26])
    · rintro v lo hi W hb hS hd
      have e26 : v 26 = .bool true := (hd 26 (Region.dep (by kernel_rfl))).2.2
      have e27 : v 27 = .int .i64 kn := (hd 27 (Region.dep (by kernel_rfl))).2.2
      have e28 : v 28 = .int .i64 kn := (hd 28 (Region.dep (by kernel_rfl))).2.2
      clear hd
      refine ⟨(by show ((match some (v 26) with | some (Value.bool b) => some b | _ => none) == some true) = true; rw [e26]; rfl), ?_⟩
      intro K hK
      dsimp only
      (try simp only [e26, e27, e28])
      go_wp2_with fail
      exact act_cast (hK (.bool true) W (Below.refl _ _) rfl) (by simp [e26, e27, e28])
    · rintro v lo hi W hb hS hd
      have e26 : v 26 = .bool true := (hd 26 (Region.dep (by kernel_rfl))).2.2
      have e29 : v 29 = .bool true := (hd 29 (Region.dep (by kernel_rfl))).2.2
      clear hd
      refine ⟨rfl, ?_⟩
      intro K hK
      dsimp only
      (try simp only [e26, e29])
      go_wp2_with fail
      exact act_cast (hK (.bool true) W (Below.refl _ _) rfl) (by simp [e26, e29])
    · rintro v lo hi W hb hS hd
      have e30 : v 30 = .bool true := (hd 30 (Region.dep (by kernel_rfl))).2.2
      clear hd
      refine ⟨rfl, ?_⟩
      intro K hK
      dsimp only
      (try simp only [e30])
      go_wp2_with fail
      exact act_cast (hK (.bool true) W (Below.refl _ _) rfl) (by simp [e30])
    · rintro v lo hi W hb hS hd
      have e31 : v 31 = .bool true := (hd 31 (Region.dep (by kernel_rfl))).2.2
      clear hd
      refine ⟨(by show ((match some (v 31) with | some (Value.bool b) => some b | _ => none) == some true) = true; rw [e31]; rfl), ?_⟩
      intro K hK
      dsimp only
      (try simp only [e31])
      go_wp2_with fail
      exact act_cast (hK (.int .i64 nx) W (Below.refl _ _) rfl) (by simp [e31])
    · rintro v lo hi W hb hS hd
      have e31 : v 31 = .bool true := (hd 31 (Region.dep (by kernel_rfl))).2.2
      clear hd
      refine ⟨(by show ((match some (v 31) with | some (Value.bool b) => some b | _ => none) == some true) = true; rw [e31]; rfl), ?_⟩
      intro K hK
      dsimp only
      (try simp only [e31])
      go_wp2_with fail
      exact act_cast (hK (.int .i64 nx) W (Below.refl _ _) rfl) (by simp [e31])
    · rintro v lo hi W hb hS hd
      have e31 : v 31 = .bool true := (hd 31 (Region.dep (by kernel_rfl))).2.2
      have e32 : v 32 = .int .i64 nx := (hd 32 (Region.dep (by kernel_rfl))).2.2
      have e33 : v 33 = .int .i64 nx := (hd 33 (Region.dep (by kernel_rfl))).2.2
      clear hd
      refine ⟨(by show ((match some (v 31) with | some (Value.bool b) => some b | _ => none) == some true) = true; rw [e31]; rfl), ?_⟩
      intro K hK
      dsimp only
      (try simp only [e31, e32, e33])
      go_wp2_with fail
      exact act_cast (hK (.bool true) W (Below.refl _ _) rfl) (by simp [e31, e32, e33])
    · rintro v lo hi W hb hS hd
      have e31 : v 31 = .bool true := (hd 31 (Region.dep (by kernel_rfl))).2.2
      have e34 : v 34 = .bool true := (hd 34 (Region.dep (by kernel_rfl))).2.2
      clear hd
      refine ⟨rfl, ?_⟩
      intro K hK
      dsimp only
      (try simp only [e31, e34])
      go_wp2_with fail
      exact act_cast (hK (.bool true) W (Below.refl _ _) rfl) (by simp [e31, e34])
    · rintro v lo hi W hb hS hd
      have e35 : v 35 = .bool true := (hd 35 (Region.dep (by kernel_rfl))).2.2
      clear hd
      refine ⟨rfl, ?_⟩
      intro K hK
      dsimp only
      (try simp only [e35])
      go_wp2_with fail
      exact act_cast (hK (.bool true) W (Below.refl _ _) rfl) (by simp [e35])
    · rintro v lo hi W hb hS hd
      have e36 : v 36 = .bool true := (hd 36 (Region.dep (by kernel_rfl))).2.2
      clear hd
      refine ⟨(by show ((match some (v 36) with | some (Value.bool b) => some b | _ => none) == some true) = true; rw [e36]; rfl), ?_⟩
      intro K hK
      dsimp only
      (try simp only [e36])
      go_wp2_with fail
      exact act_cast (hK (.bool bx) W (Below.refl _ _) rfl) (by simp [e36])
    · rintro v lo hi W hb hS hd
      have e36 : v 36 = .bool true := (hd 36 (Region.dep (by kernel_rfl))).2.2
      clear hd
      refine ⟨(by show ((match some (v 36) with | some (Value.bool b) => some b | _ => none) == some true) = true; rw [e36]; rfl), ?_⟩
      intro K hK
      dsimp only
      (try simp only [e36])
      go_wp2_with fail
      exact act_cast (hK (.bool bx) W (Below.refl _ _) rfl) (by simp [e36])
    · rintro v lo hi W hb hS hd
      have e36 : v 36 = .bool true := (hd 36 (Region.dep (by kernel_rfl))).2.2
      have e37 : v 37 = .bool bx := (hd 37 (Region.dep (by kernel_rfl))).2.2
      have e38 : v 38 = .bool bx := (hd 38 (Region.dep (by kernel_rfl))).2.2
      clear hd
      refine ⟨(by show ((match some (v 36) with | some (Value.bool b) => some b | _ => none) == some true) = true; rw [e36]; rfl), ?_⟩
      intro K hK
      dsimp only
      (try simp only [e36, e37, e38])
      go_wp2_with fail
      exact act_cast (hK (.bool true) W (Below.refl _ _) rfl) (by simp [e36, e37, e38])
    · rintro v lo hi W hb hS hd
      have e36 : v 36 = .bool true := (hd 36 (Region.dep (by kernel_rfl))).2.2
      have e39 : v 39 = .bool true := (hd 39 (Region.dep (by kernel_rfl))).2.2
      clear hd
      refine ⟨rfl, ?_⟩
      intro K hK
      dsimp only
      (try simp only [e36, e39])
      go_wp2_with fail
      exact act_cast (hK (.bool true) W (Below.refl _ _) rfl) (by simp [e36, e39])
    · rintro v lo hi W hb hS hd
      have e40 : v 40 = .bool true := (hd 40 (Region.dep (by kernel_rfl))).2.2
      clear hd
      refine ⟨rfl, ?_⟩
      intro K hK
      dsimp only
      (try simp only [e40])
      go_wp2_with fail
      exact act_cast (hK (.bool true) W (Below.refl _ _) rfl) (by simp [e40])
    · rintro v lo hi W hb hS hd
      have e41 : v 41 = .bool true := (hd 41 (Region.dep (by kernel_rfl))).2.2
      clear hd
      refine ⟨(by show ((match some (v 41) with | some (Value.bool b) => some b | _ => none) == some true) = true; rw [e41]; rfl), ?_⟩
      intro K hK
      dsimp only
      (try simp only [e41])
      obtain ⟨h, c, g⟩ := hS.at 4 rfl
      have q0 := (g.box.cells 0).1
      have q1 := (g.box.cells 1).1
      have q2 := (g.box.cells 2).1
      have q3 := (g.box.cells 3).1
      go_wp2_with fail
      exact act_cast (hK (perV h c (p : Per).frm (p : Per).period) W (Below.refl _ _) ⟨h, c, rfl, g.is⟩) (by simp [e41])
    · rintro v lo hi W hb hS hd
      have e41 : v 41 = .bool true := (hd 41 (Region.dep (by kernel_rfl))).2.2
      obtain ⟨la42, lb42, D42⟩ := hd 42 (Region.dep (by kernel_rfl))
      clear hd
      refine ⟨(by show ((match some (v 41) with | some (Value.bool b) => some b | _ => none) == some true) = true; rw [e41]; rfl), ?_⟩
      intro K hK
      dsimp only
      (try simp only [e41])
      obtain ⟨h0, c0, e0, s0⟩ := D42
      simp only [e0]
      go_wp2_with (go_at_call 15; refine (valid_any h0 c0 p _ s0).mono ?_; rintro e w9 ⟨he, hb9⟩; rw [HVB.out] at he; subst he)
      exact act_cast (hK (.bool vb) w9 hb9 rfl) (by simp [e41, e0])
    · rintro v lo hi W hb hS hd
      have e41 : v 41 = .bool true := (hd 41 (Region.dep (by kernel_rfl))).2.2
      clear hd
      refine ⟨(by show ((match some (v 41) with | some (Value.bool b) => some b | _ => none) == some true) = true; rw [e41]; rfl), ?_⟩
      intro K hK
      dsimp only
      (try simp only [e41])
      obtain ⟨h, c, g⟩ := hS.at 4 rfl
      have q0 := (g.box.cells 0).1
      have q1 := (g.box.cells 1).1
      have q2 := (g.box.cells 2).1
      have q3 := (g.box.cells 3).1
      go_wp2_with fail
      exact act_cast (hK (perV h c (p : Per).frm (p : Per).period) W (Below.refl _ _) ⟨h, c, rfl, g.is⟩) (by simp [e41])
    · rintro v lo hi W hb hS hd
      have e41 : v 41 = .bool true := (hd 41 (Region.dep (by kernel_rfl))).2.2
      obtain ⟨la44, lb44, D44⟩ := hd 44 (Region.dep (by kernel_rfl))
      clear hd
      refine ⟨(by show ((match some (v 41) with | some (Value.bool b) => some b | _ => none) == some true) = true; rw [e41]; rfl), ?_⟩
      intro K hK
      dsimp only
      (try simp only [e41])
      obtain ⟨h0, c0, e0, s0⟩ := D44
      simp only [e0]
      go_wp2_with (go_at_call 16; refine (RValid_any h0 c0 p _ s0 HF.out HT.out).mono ?_; rintro e w9 ⟨he, hb9⟩; rw [HVB.out] at he; subst he)
      exact act_cast (hK (.bool vb) w9 hb9 rfl) (by simp [e41, e0])
    · rintro v lo hi W hb hS hd
      have e41 : v 41 = .bool true := (hd 41 (Region.dep (by kernel_rfl))).2.2
      have e43 : v 43 = .bool vb := (hd 43 (Region.dep (by kernel_rfl))).2.2
      have e45 : v 45 = .bool vb := (hd 45 (Region.dep (by kernel_rfl))).2.2
      clear hd
      refine ⟨(by show ((match some (v 41) with | some (Value.bool b) => some b | _ => none) == some true) = true; rw [e41]; rfl), ?_⟩
      intro K hK
      dsimp only
      (try simp only [e41, e43, e45])
      go_wp2_with fail
      exact act_cast (hK (.bool true) W (Below.refl _ _) rfl) (by simp [e41, e43, e45])
    · rintro v lo hi W hb hS hd
      have e41 : v 41 = .bool true := (hd 41 (Region.dep (by kernel_rfl))).2.2
      have e46 : v 46 = .bool true := (hd 46 (Region.dep (by kernel_rfl))).2.2
      clear hd
      refine ⟨rfl, ?_⟩
      intro K hK
      dsimp only
      (try simp only [e41, e46])
      go_wp2_with fail
      exact act_cast (hK (.bool true) W (Below.refl _ _) rfl) (by simp [e41, e46])
    · rintro v lo hi W hb hS hd
      have e47 : v 47 = .bool true := (hd 47 (Region.dep (by kernel_rfl))).2.2
      clear hd
      refine ⟨rfl, ?_⟩
      intro K hK
      dsimp only
      (try simp only [e47])
      go_wp2_with fail
      exact act_cast (hK (.bool true) W (Below.refl _ _) rfl) (by simp [e47])
    · rintro v lo hi W hb hS hd
      have e48 : v 48 = .bool true := (hd 48 (Region.dep (by kernel_rfl))).2.2
      clear hd
      refine ⟨(by show ((match some (v 48) with | some (Value.bool b) => some b | _ => none) == some true) = true; rw [e48]; rfl), ?_⟩
      intro K hK
      dsimp only
      (try simp only [e48])
      obtain ⟨h, c, g⟩ := hS.at 4 rfl
      have q0 := (g.box.cells 0).1
      have q1 := (g.box.cells 1).1
      have q2 := (g.box.cells 2).1
      have q3 := (g.box.cells 3).1
      go_wp2_with fail
      exact act_cast (hK (perV h c (p : Per).frm (p : Per).period) W (Below.refl _ _) ⟨h, c, rfl, g.is⟩) (by simp [e48])
    · rintro v lo hi W hb hS hd
      have e48 : v 48 = .bool true := (hd 48 (Region.dep (by kernel_rfl))).2.2
      clear hd
      refine ⟨(by show ((match some (v 48) with | some (Value.bool b) => some b | _ => none) == some true) = true; rw [e48]; rfl), ?_⟩
      intro K hK
      dsimp only
      (try simp only [e48])
      go_wp2_with fail
      exact act_cast (hK (.int .i64 x) W (Below.refl _ _) rfl) (by simp [e48])
    · rintro v lo hi W hb hS hd
      have e48 : v 48 = .bool true := (hd 48 (Region.dep (by kernel_rfl))).2.2
      obtain ⟨la49, lb49, D49⟩ := hd 49 (Region.dep (by kernel_rfl))
      have e50 : v 50 = .int .i64 x := (hd 50 (Region.dep (by kernel_rfl))).2.2
      clear hd
      refine ⟨(by show ((match some (v 48) with | some (Value.bool b) => some b | _ => none) == some true) = true; rw [e48]; rfl), ?_⟩
      intro K hK
      dsimp only
      (try simp only [e48, e50])
      obtain ⟨h0, c0, e0, s0⟩ := D49
      simp only [e0]
      go_wp2_with (go_at_call 17; refine (has_far h0 c0 p x _ s0 HX.out).mono ?_; rintro e w9 ⟨he, hb9⟩; rw [HHB.out] at he; subst he)
      exact act_cast (hK (.bool hb1) w9 hb9 rfl) (by simp [e48, e50, e0])
    · rintro v lo hi W hb hS hd
      have e48 : v 48 = .bool true := (hd 48 (Region.dep (by kernel_rfl))).2.2
      clear hd
      refine ⟨(by show ((match some (v 48) with | some (Value.bool b) => some b | _ => none) == some true) = true; rw [e48]; rfl), ?_⟩
      intro K hK
      dsimp only
      (try simp only [e48])
      obtain ⟨h, c, g⟩ := hS.at 4 rfl
      have q0 := (g.box.cells 0).1
      have q1 := (g.box.cells 1).1
      have q2 := (g.box.cells 2).1
      have q3 := (g.box.cells 3).1
      go_wp2_with fail
      exact act_cast (hK (perV h c (p : Per).frm (p : Per).period) W (Below.refl _ _) ⟨h, c, rfl, g.is⟩) (by simp [e48])
    · rintro v lo hi W hb hS hd
      have e48 : v 48 = .bool true := (hd 48 (Region.dep (by kernel_rfl))).2.2
      clear hd
      refine ⟨(by show ((match some (v 48) with | some (Value.bool b) => some b | _ => none) == some true) = true; rw [e48]; rfl), ?_⟩
      intro K hK
      dsimp only
      (try simp only [e48])
      go_wp2_with fail
      exact act_cast (hK (.int .i64 x) W (Below.refl _ _) rfl) (by simp [e48])
    · rintro v lo hi W hb hS hd
      have e48 : v 48 = .bool true := (hd 48 (Region.dep (by kernel_rfl))).2.2
      obtain ⟨la52, lb52, D52⟩ := hd 52 (Region.dep (by kernel_rfl))
      have e53 : v 53 = .int .i64 x := (hd 53 (Region.dep (by kernel_rfl))).2.2
      clear hd
      refine ⟨(by show ((match some (v 48) with | some (Value.bool b) => some b | _ => none) == some true) = true; rw [e48]; rfl), ?_⟩
      intro K hK
      dsimp only
      (try simp only [e48, e53])
      obtain ⟨h0, c0, e0, s0⟩ := D52
      simp only [e0]
      go_wp2_with (go_at_call 18; refine (RHas_any h0 c0 p x _ s0 HF.out HT.out HX.out).mono ?_; rintro e w9 ⟨he, hb9⟩; rw [HHB.out] at he; subst he)
      exact act_cast (hK (.bool hb1) w9 hb9 rfl) (by simp [e48, e53, e0])
    · rintro v lo hi W hb hS hd
      have e48 : v 48 = .bool true := (hd 48 (Region.dep (by kernel_rfl))).2.2
      have e51 : v 51 = .bool hb1 := (hd 51 (Region.dep (by kernel_rfl))).2.2
      have e54 : v 54 = .bool hb1 := (hd 54 (Region.dep (by kernel_rfl))).2.2
      clear hd
      refine ⟨(by show ((match some (v 48) with | some (Value.bool b) => some b | _ => none) == some true) = true; rw [e48]; rfl), ?_⟩
      intro K hK
      dsimp only
      (try simp only [e48, e51, e54])
      go_wp2_with fail
      exact act_cast (hK (.bool true) W (Below.refl _ _) rfl) (by simp [e48, e51, e54])
    · rintro v lo hi W hb hS hd
      have e48 : v 48 = .bool true := (hd 48 (Region.dep (by kernel_rfl))).2.2
      have e55 : v 55 = .bool true := (hd 55 (Region.dep (by kernel_rfl))).2.2
      clear hd
      refine ⟨rfl, ?_⟩
      intro K hK
      dsimp only
      (try simp only [e48, e55])
      go_wp2_with fail
      exact act_cast (hK (.bool true) W (Below.refl _ _) rfl) (by simp [e48, e55])
    · rintro v lo hi W hb hS hd
      have e56 : v 56 = .bool true := (hd 56 (Region.dep (by kernel_rfl))).2.2
      clear hd
      refine ⟨rfl, ?_⟩
      intro K hK
      dsimp only
      (try simp only [e56])
      go_wp2_with fail
      exact act_cast (hK (.bool true) W (Below.refl _ _) rfl) (by simp [e56])
    · rintro v lo hi W hb hS hd
      have e57 : v 57 = .bool true := (hd 57 (Region.dep (by kernel_rfl))).2.2
      clear hd
      refine ⟨(by show ((match some (v 57) with | some (Value.bool b) => some b | _ => none) == some true) = true; rw [e57]; rfl), ?_⟩
      intro K hK
      dsimp only
      (try simp only [e57])
      obtain ⟨h, c, g⟩ := hS.at 4 rfl
      have q0 := (g.box.cells 0).1
      have q1 := (g.box.cells 1).1
      have q2 := (g.box.cells 2).1
      have q3 := (g.box.cells 3).1
      go_wp2_with fail
      exact act_cast (hK (perV h c (p : Per).frm (p : Per).period) W (Below.refl _ _) ⟨h, c, rfl, g.is⟩) (by simp [e57])
    · rintro v lo hi W hb hS hd
      have e57 : v 57 = .bool true := (hd 57 (Region.dep (by kernel_rfl))).2.2
      obtain ⟨la58, lb58, D58⟩ := hd 58 (Region.dep (by kernel_rfl))
      clear hd
      refine ⟨(by show ((match some (v 57) with | some (Value.bool b) => some b | _ => none) == some true) = true; rw [e57]; rfl), ?_⟩
      intro K hK
      dsimp only
      (try simp only [e57])
      obtain ⟨h0, c0, e0, s0⟩ := D58
      simp only [e0]
      go_wp2_with (go_at_call 19; refine (empty_any h0 c0 p _ s0).mono ?_; rintro e w9 ⟨he, hb9⟩; rw [HEB.out] at he; subst he)
      exact act_cast (hK (.bool eb) w9 hb9 rfl) (by simp [e57, e0])
    · rintro v lo hi W hb hS hd
      have e57 : v 57 = .bool true := (hd 57 (Region.dep (by kernel_rfl))).2.2
      clear hd
      refine ⟨(by show ((match some (v 57) with | some (Value.bool b) => some b | _ => none) == some true) = true; rw [e57]; rfl), ?_⟩
      intro K hK
      dsimp only
      (try simp only [e57])
      obtain ⟨h, c, g⟩ := hS.at 4 rfl
      have q0 := (g.box.cells 0).1
      have q1 := (g.box.cells 1).1
      have q2 := (g.box.cells 2).1
      have q3 := (g.box.cells 3).1
      go_wp2_with fail
      exact act_cast (hK (perV h c (p : Per).frm (p : Per).period) W (Below.refl _ _) ⟨h, c, rfl, g.is⟩) (by simp [e57])
    · rintro v lo hi W hb hS hd
      have e57 : v 57 = .bool true := (hd 57 (Region.dep (by kernel_rfl))).2.2
      obtain ⟨la60, lb60, D60⟩ := hd 60 (Region.dep (by kernel_rfl))
      clear hd
      refine ⟨(by show ((match some (v 57) with | some (Value.bool b) => some b | _ => none) == some true) = true; rw [e57]; rfl), ?_⟩
      intro K hK
      dsimp only
      (try simp only [e57])
      obtain ⟨h0, c0, e0, s0⟩ := D60
      simp only [e0]
      go_wp2_with (go_at_call 20; refine (REmpty_any h0 c0 p _ s0 HF.out HT.out).mono ?_; rintro e w9 ⟨he, hb9⟩; rw [HEB.out] at he; subst he)
      exact act_cast (hK (.bool eb) w9 hb9 rfl) (by simp [e57, e0])
    · rintro v lo hi W hb hS hd
      have e57 : v 57 = .bool true := (hd 57 (Region.dep (by kernel_rfl))).2.2
      have e59 : v 59 = .bool eb := (hd 59 (Region.dep (by kernel_rfl))).2.2
      have e61 : v 61 = .bool eb := (hd 61 (Region.dep (by kernel_rfl))).2.2
      clear hd
      refine ⟨(by show ((match some (v 57) with | some (Value.bool b) => some b | _ => none) == some true) = true; rw [e57]; rfl), ?_⟩
      intro K hK
      dsimp only
      (try simp only [e57, e59, e61])
      go_wp2_with fail
      exact act_cast (hK (.bool true) W (Below.refl _ _) rfl) (by simp [e57, e59, e61])
    · rintro v lo hi W hb hS hd
      have e57 : v 57 = .bool true := (hd 57 (Region.dep (by kernel_rfl))).2.2
      have e62 : v 62 = .bool true := (hd 62 (Region.dep (by kernel_rfl))).2.2
      clear hd
      refine ⟨rfl, ?_⟩
      intro K hK
      dsimp only
      (try simp only [e57, e62])
      go_wp2_with fail
      exact act_cast (hK (.bool true) W (Below.refl _ _) rfl) (by simp [e57, e62])
    · rintro v lo hi W hb hS hd
      have e63 : v 63 = .bool true := (hd 63 (Region.dep (by kernel_rfl))).2.2
      clear hd
      refine ⟨rfl, ?_⟩
      intro K hK
      dsimp only
      (try simp only [e63])
      go_wp2_with fail
      exact act_cast (hK (.bool true) W (Below.refl _ _) rfl) (by simp [e63])
    · rintro v lo hi W hb hS hd
      have e64 : v 64 = .bool true := (hd 64 (Region.dep (by kernel_rfl))).2.2
      clear hd
      refine ⟨(by show ((match some (v 64) with | some (Value.bool b) => some b | _ => none) == some true) = true; rw [e64]; rfl), ?_⟩
      intro K hK
      dsimp only
      (try simp only [e64])
      obtain ⟨h, c, g⟩ := hS.at 4 rfl
      have q0 := (g.box.cells 0).1
      have q1 := (g.box.cells 1).1
      have q2 := (g.box.cells 2).1
      have q3 := (g.box.cells 3).1
      go_wp2_with fail
      exact act_cast (hK (perV h c (p : Per).frm (p : Per).period) W (Below.refl _ _) ⟨h, c, rfl, g.is⟩) (by simp [e64])
    · rintro v lo hi W hb hS hd
      have e64 : v 64 = .bool true := (hd 64 (Region.dep (by kernel_rfl))).2.2
      obtain ⟨la65, lb65, D65⟩ := hd 65 (Region.dep (by kernel_rfl))
      clear hd
      refine ⟨(by show ((match some (v 64) with | some (Value.bool b) => some b | _ => none) == some true) = true; rw [e64]; rfl), ?_⟩
      intro K hK
      dsimp only
      (try simp only [e64])
      obtain ⟨h0, c0, e0, s0⟩ := D65
      simp only [e0]
      go_wp2_with (go_at_call 21; refine (finite_any h0 c0 p _ s0).mono ?_; rintro e w9 ⟨he, hb9⟩; rw [HFB.out] at he; subst he)
      exact act_cast (hK (.bool fb) w9 hb9 rfl) (by simp [e64, e0])
    · rintro v lo hi W hb hS hd
      have e64 : v 64 = .bool true := (hd 64 (Region.dep (by kernel_rfl))).2.2
      clear hd
      refine ⟨(by show ((match some (v 64) with | some (Value.bool b) => some b | _ => none) == some true) = true; rw [e64]; rfl), ?_⟩
      intro K hK
      dsimp only
      (try simp only [e64])
      obtain ⟨h, c, g⟩ := hS.at 4 rfl
      have q0 := (g.box.cells 0).1
      have q1 := (g.box.cells 1).1
      have q2 := (g.box.cells 2).1
      have q3 := (g.box.cells 3).1
      go_wp2_with fail
      exact act_cast (hK (perV h c (p : Per).frm (p : Per).period) W (Below.refl _ _) ⟨h, c, rfl, g.is⟩) (by simp [e64])
    · rintro v lo hi W hb hS hd
      have e64 : v 64 = .bool true := (hd 64 (Region.dep (by kernel_rfl))).2.2
      obtain ⟨la67, lb67, D67⟩ := hd 67 (Region.dep (by kernel_rfl))
      clear hd
      refine ⟨(by show ((match some (v 64) with | some (Value.bool b) => some b | _ => none) == some true) = true; rw [e64]; rfl), ?_⟩
      intro K hK
      dsimp only
      (try simp only [e64])
      obtain ⟨h0, c0, e0, s0⟩ := D67
      simp only [e0]
      go_wp2_with (go_at_call 22; refine (RFinite_any h0 c0 p _ s0 HF.out HT.out).mono ?_; rintro e w9 ⟨he, hb9⟩; rw [HFB.out] at he; subst he)
      exact act_cast (hK (.bool fb) w9 hb9 rfl) (by simp [e64, e0])
    · rintro v lo hi W hb hS hd
      have e64 : v 64 = .bool true := (hd 64 (Region.dep (by kernel_rfl))).2.2
      have e66 : v 66 = .bool fb := (hd 66 (Region.dep (by kernel_rfl))).2.2
      have e68 : v 68 = .bool fb := (hd 68 (Region.dep (by kernel_rfl))).2.2
      clear hd
      refine ⟨(by show ((match some (v 64) with | some (Value.bool b) => some b | _ => none) == some true) = true; rw [e64]; rfl), ?_⟩
      intro K hK
      dsimp only
      (try simp only [e64, e66, e68])
      go_wp2_with fail
      exact act_cast (hK (.bool true) W (Below.refl _ _) rfl) (by simp [e64, e66, e68])
    · rintro v lo hi W hb hS hd
      have e64 : v 64 = .bool true := (hd 64 (Region.dep (by kernel_rfl))).2.2
      have e69 : v 69 = .bool true := (hd 69 (Region.dep (by kernel_rfl))).2.2
      clear hd
      refine ⟨rfl, ?_⟩
      intro K hK
      dsimp only
      (try simp only [e64, e69])
      go_wp2_with fail
      exact act_cast (hK (.bool true) W (Below.refl _ _) rfl) (by simp [e64, e69])
  case fin =>
    rintro v lo hi W9 hb9 hS9 hf _
    show wpList _ _ _ [_] _ _
    have f70 : v 70 = .bool true := (hf 70 rfl).2.2.2
    clear hf hS9
    dsimp only
    rw [f70]
    clear f70
    generalize v 0 = y0
    generalize v 1 = y1
    generalize v 2 = y2
    generalize v 3 = y3
    generalize v 4 = y4
    generalize v 5 = y5
    generalize v 6 = y6
    generalize v 7 = y7
    generalize v 8 = y8
    generalize v 9 = y9
    generalize v 10 = y10
    generalize v 11 = y11
    generalize v 12 = y12
    generalize v 13 = y13
    generalize v 14 = y14
    generalize v 15 = y15
    generalize v 16 = y16
    generalize v 17 = y17
    generalize v 18 = y18
    generalize v 19 = y19
    generalize v 20 = y20
    generalize v 21 = y21
    generalize v 22 = y22
    generalize v 23 = y23
    generalize v 24 = y24
    generalize v 25 = y25
    generalize v 26 = y26
    generalize v 27 = y27
    generalize v 28 = y28
    generalize v 29 = y29
    generalize v 30 = y30
    generalize v 31 = y31
    generalize v 32 = y32
    generalize v 33 = y33
    generalize v 34 = y34
    generalize v 35 = y35
    generalize v 36 = y36
    generalize v 37 = y37
    generalize v 38 = y38
    generalize v 39 = y39
    generalize v 40 = y40
    generalize v 41 = y41
    generalize v 42 = y42
    generalize v 43 = y43
    generalize v 44 = y44
    generalize v 45 = y45
    generalize v 46 = y46
    generalize v 47 = y47
    generalize v 48 = y48
    generalize v 49 = y49
    generalize v 50 = y50
    generalize v 51 = y51
    generalize v 52 = y52
    generalize v 53 = y53
    generalize v 54 = y54
    generalize v 55 = y55
    generalize v 56 = y56
    generalize v 57 = y57
    generalize v 58 = y58
    generalize v 59 = y59
    generalize v 60 = y60
    generalize v 61 = y61
    generalize v 62 = y62
    generalize v 63 = y63
    generalize v 64 = y64
    generalize v 65 = y65
    generalize v 66 = y66
    generalize v 67 = y67
    generalize v 68 = y68
    generalize v 69 = y69
    have hE := HE.out
    go_wp2_with fail
    go_ret
    exact ⟨rfl, by (repeat' (with_reducible first | assumption | exact Ext.refl _ | refine Ext.alloc ?_ _ | refine Ext.drew ?_ | refine Ext.drewN ?_ _ | (refine Ext.setCell ?_ (by first | (simp; done) | (simp; omega) | omega) _) | refine Ext.trans ?_ (by assumption)))⟩
end Go.Proofs.YtjilkhhokkncoaaGreat
