/- Walks: PeriodicShifts (package kalendslaw04). -/
import Derived.Test.YtjilkhhokkncoaaK15
set_option linter.unusedVariables false
set_option linter.unusedSimpArgs false
namespace Go.Proofs.Ytjilkhhokkncoaa
open Go.RowKit Go.Maps Kal

theorem inI_of {x : Int} (h1 : -9223372036854775808 ≤ x) (h2 : x ≤ 9223372036854775807) : InI x := ⟨h1, h2⟩
theorem shift_pf {p : Per} {F B b : Int} (h : Sm F B p) (hF : 0 ≤ F + 60) (h1 : b ≤ 60) : PFrom (shiftS p b) (F + 60) p.period := by
  intro n hn
  have hp := h.wf.per
  have h2 := h.pf (n - b) (by omega)
  unfold shiftS
  rw [show n + p.period - b = n - b + p.period from by omega, ← h2]
  exact ⟨fun h => ⟨by omega, h.2⟩, fun h => ⟨by omega, h.2⟩⟩
theorem shift_ex {p : Per} {F B b : Int} (h : Sm F B p) (h0 : -60 ≤ b) (h1 : b ≤ 60) : ∃ q, IsCanon q (shiftS p b) ∧ Sm (F + 60) B q := by
  have hF : 0 ≤ F := by have := h.wf.frm; have := h.frm; omega
  obtain ⟨q, hq, hs⟩ := canon_sm (S := shiftS p b) (f := F + 60) (d := p.period) (by omega) h.wf.per (fun n h => h.1) (shift_pf h (by omega) h1)
  exact ⟨q, hq, hs.mono (Int.le_refl _) h.per⟩
theorem shift_or {x y o : Per} (ho : IsCanon o (fun n => x.mem n ∨ y.mem n)) (k n : Int) : shiftS o k n ↔ shiftS x k n ∨ shiftS y k n := by
  unfold shiftS
  rw [ho.mem]
  exact ⟨fun h => h.2.imp (fun g => ⟨h.1, g⟩) (fun g => ⟨h.1, g⟩), fun h => h.elim (fun h => ⟨h.1, .inl h.2⟩) (fun h => ⟨h.1, .inr h.2⟩)⟩
theorem Shift_sm (h c : Value) (p q : Per) (b F B : Int) (w : World) (hp : PerIs w h c p) (s : Sm F B p) (hb : F + B ≤ 1048576) (hF : F + 60 ≤ 1048576) (h0 : -60 ≤ b) (h1 : b ≤ 60) (hq : IsCanon q (shiftS p b)) :
    Calls Try.prog 34 #[perV h c p.frm p.period, .int .i64 b] w (PerOk q w) := by
  have hF0 : 0 ≤ F := by have := s.wf.frm; have := s.frm; omega
  have hqf := hq.frm_le (f := F + 60) (T := p.period) (by omega) s.wf.per (shift_pf s (by omega) h1)
  exact (Shift_ok h c p q b w hp (s.valid hb) (by omega) (by omega) hq).mono fun e w' hr => hr.1 (by omega)

set_option maxRecDepth 100000 in
set_option maxHeartbeats 2000000 in
theorem PeriodicShifts_any (va : Value) (vb : Value) (b0 : Int) (w : World) (hra : RawIs w va) (hrb : RawIs w vb) (bd0 : -128 ≤ b0) (bd1 : b0 ≤ 127) :
    Calls Try.prog 10 #[va, vb, .int .i8 b0] w fun e w' => e = .returned (.bool true) ∧ Below w.heap.size w w' := by
  obtain ⟨hva, cva, hla, cla, fa, ta, rfl, hBa, hCa, f0a, f1a, t0a, t1a⟩ := hra
  have HBa := Lib.hid hBa
  have HCa := Lib.hid hCa
  obtain ⟨⟨a1a, c1a, rfl, jA⟩, jB, jC⟩ := hBa
  clear jA jB jC
  obtain ⟨⟨a2a, c2a, rfl, jA⟩, jB, jC⟩ := hCa
  clear jA jB jC
  obtain ⟨hvb, cvb, hlb, clb, fb, tb, rfl, hBb, hCb, f0b, f1b, t0b, t1b⟩ := hrb
  have HBb := Lib.hid hBb
  have HCb := Lib.hid hCb
  obtain ⟨⟨a1b, c1b, rfl, jA⟩, jB, jC⟩ := hBb
  clear jA jB jC
  obtain ⟨⟨a2b, c2b, rfl, jA⟩, jB, jC⟩ := hCb
  clear jA jB jC
  go_enter Try.func10, Try.ntmps10
  go_upto_region 1 with (fail)
  refine wp_abs (F := fun U => BoxIs U (w.heap.size) #[.slice a1a hla.length c1a, .int .u8 fa, .int .u8 ta, .slice a2a cla.length c2a] 24 ∧ BoxIs U (w.heap.size + 1) #[.slice a1b hlb.length c1b, .int .u8 fb, .int .u8 tb, .slice a2b clb.length c2b] 24 ∧ Sets U [] ∧ Below w.heap.size w U) ⟨by (first | (refine BoxIs.at ?_; simp; done) | (refine (BoxIs.at ?_).alloc _; simp; done) | (refine ((BoxIs.at ?_).alloc _).alloc _; simp; done) | (refine (((BoxIs.at ?_).alloc _).alloc _).alloc _; simp; done) | (refine ((((BoxIs.at ?_).alloc _).alloc _).alloc _).alloc _; simp; done) | (refine (((((BoxIs.at ?_).alloc _).alloc _).alloc _).alloc _).alloc _; simp; done) | (refine ((((((BoxIs.at ?_).alloc _).alloc _).alloc _).alloc _).alloc _).alloc _; simp; done) | (refine (((((((BoxIs.at ?_).alloc _).alloc _).alloc _).alloc _).alloc _).alloc _).alloc _; simp; done) | (refine ((((((((BoxIs.at ?_).alloc _).alloc _).alloc _).alloc _).alloc _).alloc _).alloc _).alloc _; simp; done) | (refine (((((((((BoxIs.at ?_).alloc _).alloc _).alloc _).alloc _).alloc _).alloc _).alloc _).alloc _).alloc _; simp; done) | (refine ((((((((((BoxIs.at ?_).alloc _).alloc _).alloc _).alloc _).alloc _).alloc _).alloc _).alloc _).alloc _).alloc _; simp; done) | (refine (((((((((((BoxIs.at ?_).alloc _).alloc _).alloc _).alloc _).alloc _).alloc _).alloc _).alloc _).alloc _).alloc _).alloc _; simp; done)), by (first | (refine BoxIs.at ?_; simp; done) | (refine (BoxIs.at ?_).alloc _; simp; done) | (refine ((BoxIs.at ?_).alloc _).alloc _; simp; done) | (refine (((BoxIs.at ?_).alloc _).alloc _).alloc _; simp; done) | (refine ((((BoxIs.at ?_).alloc _).alloc _).alloc _).alloc _; simp; done) | (refine (((((BoxIs.at ?_).alloc _).alloc _).alloc _).alloc _).alloc _; simp; done) | (refine ((((((BoxIs.at ?_).alloc _).alloc _).alloc _).alloc _).alloc _).alloc _; simp; done) | (refine (((((((BoxIs.at ?_).alloc _).alloc _).alloc _).alloc _).alloc _).alloc _).alloc _; simp; done) | (refine ((((((((BoxIs.at ?_).alloc _).alloc _).alloc _).alloc _).alloc _).alloc _).alloc _).alloc _; simp; done) | (refine (((((((((BoxIs.at ?_).alloc _).alloc _).alloc _).alloc _).alloc _).alloc _).alloc _).alloc _).alloc _; simp; done) | (refine ((((((((((BoxIs.at ?_).alloc _).alloc _).alloc _).alloc _).alloc _).alloc _).alloc _).alloc _).alloc _).alloc _; simp; done) | (refine (((((((((((BoxIs.at ?_).alloc _).alloc _).alloc _).alloc _).alloc _).alloc _).alloc _).alloc _).alloc _).alloc _).alloc _; simp; done)), Sets.nil _, by (repeat' (first | (with_reducible first | exact Ext.refl _ | assumption | refine Ext.alloc ?_ _ | refine Ext.drew ?_ | refine Ext.drewN ?_ _ | refine Ext.setCell ?_ (by first | (simp; done) | (simp; omega) | omega) _) | exact Ext.refl _ | assumption | refine Ext.alloc ?_ _ | refine Ext.drew ?_ | refine Ext.drewN ?_ _ | refine Ext.setCell ?_ (by first | (simp; done) | (simp; omega) | omega) _ | refine Ext.trans ?_ (by assumption)))⟩ ?_
  rintro W1 ⟨hWa, hWb, hS, hE⟩
  go_upto_region 2 with (go_at_call 13; refine (sanity_any _).mono ?_; rintro e u1 ⟨rfl, k1⟩)
  refine wp_abs (F := fun U => BoxIs U (w.heap.size) #[.slice a1a hla.length c1a, .int .u8 fa, .int .u8 ta, .slice a2a cla.length c2a] 24 ∧ BoxIs U (w.heap.size + 1) #[.slice a1b hlb.length c1b, .int .u8 fb, .int .u8 tb, .slice a2b clb.length c2b] 24 ∧ Sets U [] ∧ Below w.heap.size w U) ⟨hWa.below (by (repeat' (first | (with_reducible first | exact Ext.refl _ | assumption | refine Ext.alloc ?_ _ | refine Ext.drew ?_ | refine Ext.drewN ?_ _ | refine Ext.setCell ?_ (by first | (simp; done) | (simp; omega) | omega) _) | exact Ext.refl _ | assumption | refine Ext.alloc ?_ _ | refine Ext.drew ?_ | refine Ext.drewN ?_ _ | refine Ext.setCell ?_ (by first | (simp; done) | (simp; omega) | omega) _ | refine Ext.trans ?_ (by assumption)))), hWb.below (by (repeat' (first | (with_reducible first | exact Ext.refl _ | assumption | refine Ext.alloc ?_ _ | refine Ext.drew ?_ | refine Ext.drewN ?_ _ | refine Ext.setCell ?_ (by first | (simp; done) | (simp; omega) | omega) _) | exact Ext.refl _ | assumption | refine Ext.alloc ?_ _ | refine Ext.drew ?_ | refine Ext.drewN ?_ _ | refine Ext.setCell ?_ (by first | (simp; done) | (simp; omega) | omega) _ | refine Ext.trans ?_ (by assumption)))), hS.below (by (repeat' (first | (with_reducible first | exact Ext.refl _ | assumption | refine Ext.alloc ?_ _ | refine Ext.drew ?_ | refine Ext.drewN ?_ _ | refine Ext.setCell ?_ (by first | (simp; done) | (simp; omega) | omega) _) | exact Ext.refl _ | assumption | refine Ext.alloc ?_ _ | refine Ext.drew ?_ | refine Ext.drewN ?_ _ | refine Ext.setCell ?_ (by first | (simp; done) | (simp; omega) | omega) _ | refine Ext.trans ?_ (by assumption)))), by (repeat' (first | (with_reducible first | exact Ext.refl _ | assumption | refine Ext.alloc ?_ _ | refine Ext.drew ?_ | refine Ext.drewN ?_ _ | refine Ext.setCell ?_ (by first | (simp; done) | (simp; omega) | omega) _) | exact Ext.refl _ | assumption | refine Ext.alloc ?_ _ | refine Ext.drew ?_ | refine Ext.drewN ?_ _ | refine Ext.setCell ?_ (by first | (simp; done) | (simp; omega) | omega) _ | refine Ext.trans ?_ (by assumption)))⟩ ?_
  clear hWa hWb hS hE k1
  rintro W2 ⟨hWa, hWb, hS, hE⟩
  have r0 := (hWa.cells 0).1
  have r1 := (hWa.cells 1).1
  have r2 := (hWa.cells 2).1
  have r3 := (hWa.cells 3).1
  go_upto_region 3 with (go_at_call 14; refine (Made_any _ _ hla cla fa ta _ (HBa.out.ext (by (repeat' (first | (with_reducible first | exact Ext.refl _ | assumption | refine Ext.alloc ?_ _ | refine Ext.drew ?_ | refine Ext.drewN ?_ _ | refine Ext.setCell ?_ (by first | (simp; done) | (simp; omega) | omega) _) | exact Ext.refl _ | assumption | refine Ext.alloc ?_ _ | refine Ext.drew ?_ | refine Ext.drewN ?_ _ | refine Ext.setCell ?_ (by first | (simp; done) | (simp; omega) | omega) _ | refine Ext.trans ?_ (by assumption))))) (HCa.out.ext (by (repeat' (first | (with_reducible first | exact Ext.refl _ | assumption | refine Ext.alloc ?_ _ | refine Ext.drew ?_ | refine Ext.drewN ?_ _ | refine Ext.setCell ?_ (by first | (simp; done) | (simp; omega) | omega) _) | exact Ext.refl _ | assumption | refine Ext.alloc ?_ _ | refine Ext.drew ?_ | refine Ext.drewN ?_ _ | refine Ext.setCell ?_ (by first | (simp; done) | (simp; omega) | omega) _ | refine Ext.trans ?_ (by assumption))))) f0a f1a t0a t1a).mono ?_; rintro e uR ⟨hR, cR, x, rfl, oR, wfx, frx, prx, kR⟩; have sR := oR.is; obtain ⟨x1_2, y1_2, x2_2, y2_2, rfl, rfl⟩ := oR.form; clear oR)
  have Sx : Hid (Sm 20 12 x) := Lib.hid ⟨wfx, frx, prx⟩
  refine wp_abs (F := fun U => BoxIs U (w.heap.size + 1) #[.slice a1b hlb.length c1b, .int .u8 fb, .int .u8 tb, .slice a2b clb.length c2b] 24 ∧ Sets U ((uR.heap.size, x) :: []) ∧ Below w.heap.size w U) ⟨hWb.below (by (repeat' (first | (with_reducible first | exact Ext.refl _ | assumption | refine Ext.alloc ?_ _ | refine Ext.drew ?_ | refine Ext.drewN ?_ _ | refine Ext.setCell ?_ (by first | (simp; done) | (simp; omega) | omega) _) | exact Ext.refl _ | assumption | refine Ext.alloc ?_ _ | refine Ext.drew ?_ | refine Ext.drewN ?_ _ | refine Ext.setCell ?_ (by first | (simp; done) | (simp; omega) | omega) _ | refine Ext.trans ?_ (by assumption)))), Sets.cons ⟨.slice x1_2 (x : Per).head.length y1_2, .slice x2_2 (x : Per).cycle.length y2_2, by (first | (refine BoxIs.at ?_; simp; done) | (refine (BoxIs.at ?_).alloc _; simp; done) | (refine ((BoxIs.at ?_).alloc _).alloc _; simp; done) | (refine (((BoxIs.at ?_).alloc _).alloc _).alloc _; simp; done) | (refine ((((BoxIs.at ?_).alloc _).alloc _).alloc _).alloc _; simp; done) | (refine (((((BoxIs.at ?_).alloc _).alloc _).alloc _).alloc _).alloc _; simp; done) | (refine ((((((BoxIs.at ?_).alloc _).alloc _).alloc _).alloc _).alloc _).alloc _; simp; done) | (refine (((((((BoxIs.at ?_).alloc _).alloc _).alloc _).alloc _).alloc _).alloc _).alloc _; simp; done) | (refine ((((((((BoxIs.at ?_).alloc _).alloc _).alloc _).alloc _).alloc _).alloc _).alloc _).alloc _; simp; done) | (refine (((((((((BoxIs.at ?_).alloc _).alloc _).alloc _).alloc _).alloc _).alloc _).alloc _).alloc _).alloc _; simp; done) | (refine ((((((((((BoxIs.at ?_).alloc _).alloc _).alloc _).alloc _).alloc _).alloc _).alloc _).alloc _).alloc _).alloc _; simp; done) | (refine (((((((((((BoxIs.at ?_).alloc _).alloc _).alloc _).alloc _).alloc _).alloc _).alloc _).alloc _).alloc _).alloc _).alloc _; simp; done)), sR.ext (by (repeat' (first | (with_reducible first | exact Ext.refl _ | assumption | refine Ext.alloc ?_ _ | refine Ext.drew ?_ | refine Ext.drewN ?_ _ | refine Ext.setCell ?_ (by first | (simp; done) | (simp; omega) | omega) _) | exact Ext.refl _ | assumption | refine Ext.alloc ?_ _ | refine Ext.drew ?_ | refine Ext.drewN ?_ _ | refine Ext.setCell ?_ (by first | (simp; done) | (simp; omega) | omega) _ | refine Ext.trans ?_ (by assumption))))⟩ (hS.below (by (repeat' (first | (with_reducible first | exact Ext.refl _ | assumption | refine Ext.alloc ?_ _ | refine Ext.drew ?_ | refine Ext.drewN ?_ _ | refine Ext.setCell ?_ (by first | (simp; done) | (simp; omega) | omega) _) | exact Ext.refl _ | assumption | refine Ext.alloc ?_ _ | refine Ext.drew ?_ | refine Ext.drewN ?_ _ | refine Ext.setCell ?_ (by first | (simp; done) | (simp; omega) | omega) _ | refine Ext.trans ?_ (by assumption))))), by (repeat' (first | (with_reducible first | exact Ext.refl _ | assumption | refine Ext.alloc ?_ _ | refine Ext.drew ?_ | refine Ext.drewN ?_ _ | refine Ext.setCell ?_ (by first | (simp; done) | (simp; omega) | omega) _) | exact Ext.refl _ | assumption | refine Ext.alloc ?_ _ | refine Ext.drew ?_ | refine Ext.drewN ?_ _ | refine Ext.setCell ?_ (by first | (simp; done) | (simp; omega) | omega) _ | refine Ext.trans ?_ (by assumption)))⟩ ?_
  clear hWa hWb hS hE sR kR r0 r1 r2 r3 wfx frx prx
  generalize uR.heap.size = b2 at *
  rintro W3 ⟨hWb, hS, hE⟩
  have r0 := (hWb.cells 0).1
  have r1 := (hWb.cells 1).1
  have r2 := (hWb.cells 2).1
  have r3 := (hWb.cells 3).1
  go_upto_region 4 with (go_at_call 14; refine (Made_any _ _ hlb clb fb tb _ (HBb.out.ext (by (repeat' (first | (with_reducible first | exact Ext.refl _ | assumption | refine Ext.alloc ?_ _ | refine Ext.drew ?_ | refine Ext.drewN ?_ _ | refine Ext.setCell ?_ (by first | (simp; done) | (simp; omega) | omega) _) | exact Ext.refl _ | assumption | refine Ext.alloc ?_ _ | refine Ext.drew ?_ | refine Ext.drewN ?_ _ | refine Ext.setCell ?_ (by first | (simp; done) | (simp; omega) | omega) _ | refine Ext.trans ?_ (by assumption))))) (HCb.out.ext (by (repeat' (first | (with_reducible first | exact Ext.refl _ | assumption | refine Ext.alloc ?_ _ | refine Ext.drew ?_ | refine Ext.drewN ?_ _ | refine Ext.setCell ?_ (by first | (simp; done) | (simp; omega) | omega) _) | exact Ext.refl _ | assumption | refine Ext.alloc ?_ _ | refine Ext.drew ?_ | refine Ext.drewN ?_ _ | refine Ext.setCell ?_ (by first | (simp; done) | (simp; omega) | omega) _ | refine Ext.trans ?_ (by assumption))))) f0b f1b t0b t1b).mono ?_; rintro e uR ⟨hR, cR, y, rfl, oR, wfy, fry, pry, kR⟩; have sR := oR.is; obtain ⟨x1_3, y1_3, x2_3, y2_3, rfl, rfl⟩ := oR.form; clear oR)
  have Sy : Hid (Sm 20 12 y) := Lib.hid ⟨wfy, fry, pry⟩
  refine wp_abs (F := fun U => Sets U ((uR.heap.size, y) :: [(b2, x)]) ∧ Below w.heap.size w U) ⟨Sets.cons ⟨.slice x1_3 (y : Per).head.length y1_3, .slice x2_3 (y : Per).cycle.length y2_3, by (first | (refine BoxIs.at ?_; simp; done) | (refine (BoxIs.at ?_).alloc _; simp; done) | (refine ((BoxIs.at ?_).alloc _).alloc _; simp; done) | (refine (((BoxIs.at ?_).alloc _).alloc _).alloc _; simp; done) | (refine ((((BoxIs.at ?_).alloc _).alloc _).alloc _).alloc _; simp; done) | (refine (((((BoxIs.at ?_).alloc _).alloc _).alloc _).alloc _).alloc _; simp; done) | (refine ((((((BoxIs.at ?_).alloc _).alloc _).alloc _).alloc _).alloc _).alloc _; simp; done) | (refine (((((((BoxIs.at ?_).alloc _).alloc _).alloc _).alloc _).alloc _).alloc _).alloc _; simp; done) | (refine ((((((((BoxIs.at ?_).alloc _).alloc _).alloc _).alloc _).alloc _).alloc _).alloc _).alloc _; simp; done) | (refine (((((((((BoxIs.at ?_).alloc _).alloc _).alloc _).alloc _).alloc _).alloc _).alloc _).alloc _).alloc _; simp; done) | (refine ((((((((((BoxIs.at ?_).alloc _).alloc _).alloc _).alloc _).alloc _).alloc _).alloc _).alloc _).alloc _).alloc _; simp; done) | (refine (((((((((((BoxIs.at ?_).alloc _).alloc _).alloc _).alloc _).alloc _).alloc _).alloc _).alloc _).alloc _).alloc _).alloc _; simp; done)), sR.ext (by (repeat' (first | (with_reducible first | exact Ext.refl _ | assumption | refine Ext.alloc ?_ _ | refine Ext.drew ?_ | refine Ext.drewN ?_ _ | refine Ext.setCell ?_ (by first | (simp; done) | (simp; omega) | omega) _) | exact Ext.refl _ | assumption | refine Ext.alloc ?_ _ | refine Ext.drew ?_ | refine Ext.drewN ?_ _ | refine Ext.setCell ?_ (by first | (simp; done) | (simp; omega) | omega) _ | refine Ext.trans ?_ (by assumption))))⟩ (hS.below (by (repeat' (first | (with_reducible first | exact Ext.refl _ | assumption | refine Ext.alloc ?_ _ | refine Ext.drew ?_ | refine Ext.drewN ?_ _ | refine Ext.setCell ?_ (by first | (simp; done) | (simp; omega) | omega) _) | exact Ext.refl _ | assumption | refine Ext.alloc ?_ _ | refine Ext.drew ?_ | refine Ext.drewN ?_ _ | refine Ext.setCell ?_ (by first | (simp; done) | (simp; omega) | omega) _ | refine Ext.trans ?_ (by assumption))))), by (repeat' (first | (with_reducible first | exact Ext.refl _ | assumption | refine Ext.alloc ?_ _ | refine Ext.drew ?_ | refine Ext.drewN ?_ _ | refine Ext.setCell ?_ (by first | (simp; done) | (simp; omega) | omega) _) | exact Ext.refl _ | assumption | refine Ext.alloc ?_ _ | refine Ext.drew ?_ | refine Ext.drewN ?_ _ | refine Ext.setCell ?_ (by first | (simp; done) | (simp; omega) | omega) _ | refine Ext.trans ?_ (by assumption)))⟩ ?_
  clear hWb hS hE sR kR r0 r1 r2 r3 wfy fry pry
  generalize uR.heap.size = b3 at *
  rintro W4 ⟨hS, hE⟩
  obtain ⟨k, hk⟩ : ∃ k, k = b0.tmod 61 := ⟨_, rfl⟩
  have hk0 : -61 < k ∧ k < 61 := by rw [hk]; exact ⟨by have := Int.lt_tmod_of_pos b0 (show (0 : Int) < 61 by omega); omega, Int.tmod_lt_of_pos b0 (by omega)⟩
  have hkt : b0.tmod 61 = k := hk.symm
  clear hk
  go_upto_region 5 with (fail)
  clear hkt bd0 bd1
  obtain ⟨s, hqs, hss⟩ := shift_ex (b := k) Sx.out (by omega) (by omega)
  have Qs := Lib.hid hqs
  have Ss : Hid (Sm 80 12 s) := Lib.hid (hss.mono (by omega) (by omega))
  clear hqs hss
  obtain ⟨t, hqt, hst⟩ := shift_ex (b := k) Sy.out (by omega) (by omega)
  have Qt := Lib.hid hqt
  have St : Hid (Sm 80 12 t) := Lib.hid (hst.mono (by omega) (by omega))
  clear hqt hst
  obtain ⟨o, hqo, hso⟩ := or_ex Sx.out Sy.out
  have Qo := Lib.hid hqo
  have So := Lib.hid hso
  clear hqo hso
  obtain ⟨u, hqu, hsu⟩ := shift_ex (b := k) So.out (by omega) (by omega)
  have Qu := Lib.hid hqu
  have Su : Hid (Sm 80 (12 * 12) u) := Lib.hid (hsu.mono (by omega) (by omega))
  clear hqu hsu
  obtain ⟨hA, cA, gA⟩ := hS.at 1 rfl
  have qa0 := (gA.box.cells 0).1
  have qa1 := (gA.box.cells 1).1
  have qa2 := (gA.box.cells 2).1
  have qa3 := (gA.box.cells 3).1
  go_upto_region 6 with (go_at_call 34; refine (Shift_sm hA cA x s k 20 12 _ (gA.is.ext (by (repeat' (first | (with_reducible first | exact Ext.refl _ | assumption | refine Ext.alloc ?_ _ | refine Ext.drew ?_ | refine Ext.drewN ?_ _ | refine Ext.setCell ?_ (by first | (simp; done) | (simp; omega) | omega) _) | exact Ext.refl _ | assumption | refine Ext.alloc ?_ _ | refine Ext.drew ?_ | refine Ext.drewN ?_ _ | refine Ext.setCell ?_ (by first | (simp; done) | (simp; omega) | omega) _ | refine Ext.trans ?_ (by assumption))))) Sx.out (by omega) (by omega) (by omega) (by omega) Qs.out).mono ?_; rintro e uR ⟨hR, cR, rfl, oR, kR⟩; have sR := oR.is; obtain ⟨x1_5, y1_5, x2_5, y2_5, rfl, rfl⟩ := oR.form; clear oR)
  refine wp_abs (F := fun U => Sets U ((uR.heap.size, s) :: [(b3, y), (b2, x)]) ∧ Below w.heap.size w U) ⟨Sets.cons ⟨.slice x1_5 (s : Per).head.length y1_5, .slice x2_5 (s : Per).cycle.length y2_5, by (first | (refine BoxIs.at ?_; simp; done) | (refine (BoxIs.at ?_).alloc _; simp; done) | (refine ((BoxIs.at ?_).alloc _).alloc _; simp; done) | (refine (((BoxIs.at ?_).alloc _).alloc _).alloc _; simp; done) | (refine ((((BoxIs.at ?_).alloc _).alloc _).alloc _).alloc _; simp; done) | (refine (((((BoxIs.at ?_).alloc _).alloc _).alloc _).alloc _).alloc _; simp; done) | (refine ((((((BoxIs.at ?_).alloc _).alloc _).alloc _).alloc _).alloc _).alloc _; simp; done) | (refine (((((((BoxIs.at ?_).alloc _).alloc _).alloc _).alloc _).alloc _).alloc _).alloc _; simp; done) | (refine ((((((((BoxIs.at ?_).alloc _).alloc _).alloc _).alloc _).alloc _).alloc _).alloc _).alloc _; simp; done) | (refine (((((((((BoxIs.at ?_).alloc _).alloc _).alloc _).alloc _).alloc _).alloc _).alloc _).alloc _).alloc _; simp; done) | (refine ((((((((((BoxIs.at ?_).alloc _).alloc _).alloc _).alloc _).alloc _).alloc _).alloc _).alloc _).alloc _).alloc _; simp; done) | (refine (((((((((((BoxIs.at ?_).alloc _).alloc _).alloc _).alloc _).alloc _).alloc _).alloc _).alloc _).alloc _).alloc _).alloc _; simp; done)), sR.ext (by (repeat' (first | (with_reducible first | exact Ext.refl _ | assumption | refine Ext.alloc ?_ _ | refine Ext.drew ?_ | refine Ext.drewN ?_ _ | refine Ext.setCell ?_ (by first | (simp; done) | (simp; omega) | omega) _) | exact Ext.refl _ | assumption | refine Ext.alloc ?_ _ | refine Ext.drew ?_ | refine Ext.drewN ?_ _ | refine Ext.setCell ?_ (by first | (simp; done) | (simp; omega) | omega) _ | refine Ext.trans ?_ (by assumption))))⟩ (hS.below (by (repeat' (first | (with_reducible first | exact Ext.refl _ | assumption | refine Ext.alloc ?_ _ | refine Ext.drew ?_ | refine Ext.drewN ?_ _ | refine Ext.setCell ?_ (by first | (simp; done) | (simp; omega) | omega) _) | exact Ext.refl _ | assumption | refine Ext.alloc ?_ _ | refine Ext.drew ?_ | refine Ext.drewN ?_ _ | refine Ext.setCell ?_ (by first | (simp; done) | (simp; omega) | omega) _ | refine Ext.trans ?_ (by assumption))))), by (repeat' (first | (with_reducible first | exact Ext.refl _ | assumption | refine Ext.alloc ?_ _ | refine Ext.drew ?_ | refine Ext.drewN ?_ _ | refine Ext.setCell ?_ (by first | (simp; done) | (simp; omega) | omega) _) | exact Ext.refl _ | assumption | refine Ext.alloc ?_ _ | refine Ext.drew ?_ | refine Ext.drewN ?_ _ | refine Ext.setCell ?_ (by first | (simp; done) | (simp; omega) | omega) _ | refine Ext.trans ?_ (by assumption)))⟩ ?_
  clear hS hE sR kR gA qa0 qa1 qa2 qa3
  generalize uR.heap.size = b5 at *
  rintro W5 ⟨hS, hE⟩
  obtain ⟨hA, cA, gA⟩ := hS.at 1 rfl
  have qa0 := (gA.box.cells 0).1
  have qa1 := (gA.box.cells 1).1
  have qa2 := (gA.box.cells 2).1
  have qa3 := (gA.box.cells 3).1
  go_upto_region 7 with (go_at_call 34; refine (Shift_sm hA cA y t k 20 12 _ (gA.is.ext (by (repeat' (first | (with_reducible first | exact Ext.refl _ | assumption | refine Ext.alloc ?_ _ | refine Ext.drew ?_ | refine Ext.drewN ?_ _ | refine Ext.setCell ?_ (by first | (simp; done) | (simp; omega) | omega) _) | exact Ext.refl _ | assumption | refine Ext.alloc ?_ _ | refine Ext.drew ?_ | refine Ext.drewN ?_ _ | refine Ext.setCell ?_ (by first | (simp; done) | (simp; omega) | omega) _ | refine Ext.trans ?_ (by assumption))))) Sy.out (by omega) (by omega) (by omega) (by omega) Qt.out).mono ?_; rintro e uR ⟨hR, cR, rfl, oR, kR⟩; have sR := oR.is; obtain ⟨x1_6, y1_6, x2_6, y2_6, rfl, rfl⟩ := oR.form; clear oR)
  refine wp_abs (F := fun U => Sets U ((uR.heap.size, t) :: [(b5, s), (b3, y), (b2, x)]) ∧ Below w.heap.size w U) ⟨Sets.cons ⟨.slice x1_6 (t : Per).head.length y1_6, .slice x2_6 (t : Per).cycle.length y2_6, by (first | (refine BoxIs.at ?_; simp; done) | (refine (BoxIs.at ?_).alloc _; simp; done) | (refine ((BoxIs.at ?_).alloc _).alloc _; simp; done) | (refine (((BoxIs.at ?_).alloc _).alloc _).alloc _; simp; done) | (refine ((((BoxIs.at ?_).alloc _).alloc _).alloc _).alloc _; simp; done) | (refine (((((BoxIs.at ?_).alloc _).alloc _).alloc _).alloc _).alloc _; simp; done) | (refine ((((((BoxIs.at ?_).alloc _).alloc _).alloc _).alloc _).alloc _).alloc _; simp; done) | (refine (((((((BoxIs.at ?_).alloc _).alloc _).alloc _).alloc _).alloc _).alloc _).alloc _; simp; done) | (refine ((((((((BoxIs.at ?_).alloc _).alloc _).alloc _).alloc _).alloc _).alloc _).alloc _).alloc _; simp; done) | (refine (((((((((BoxIs.at ?_).alloc _).alloc _).alloc _).alloc _).alloc _).alloc _).alloc _).alloc _).alloc _; simp; done) | (refine ((((((((((BoxIs.at ?_).alloc _).alloc _).alloc _).alloc _).alloc _).alloc _).alloc _).alloc _).alloc _).alloc _; simp; done) | (refine (((((((((((BoxIs.at ?_).alloc _).alloc _).alloc _).alloc _).alloc _).alloc _).alloc _).alloc _).alloc _).alloc _).alloc _; simp; done)), sR.ext (by (repeat' (first | (with_reducible first | exact Ext.refl _ | assumption | refine Ext.alloc ?_ _ | refine Ext.drew ?_ | refine Ext.drewN ?_ _ | refine Ext.setCell ?_ (by first | (simp; done) | (simp; omega) | omega) _) | exact Ext.refl _ | assumption | refine Ext.alloc ?_ _ | refine Ext.drew ?_ | refine Ext.drewN ?_ _ | refine Ext.setCell ?_ (by first | (simp; done) | (simp; omega) | omega) _ | refine Ext.trans ?_ (by assumption))))⟩ (hS.below (by (repeat' (first | (with_reducible first | exact Ext.refl _ | assumption | refine Ext.alloc ?_ _ | refine Ext.drew ?_ | refine Ext.drewN ?_ _ | refine Ext.setCell ?_ (by first | (simp; done) | (simp; omega) | omega) _) | exact Ext.refl _ | assumption | refine Ext.alloc ?_ _ | refine Ext.drew ?_ | refine Ext.drewN ?_ _ | refine Ext.setCell ?_ (by first | (simp; done) | (simp; omega) | omega) _ | refine Ext.trans ?_ (by assumption))))), by (repeat' (first | (with_reducible first | exact Ext.refl _ | assumption | refine Ext.alloc ?_ _ | refine Ext.drew ?_ | refine Ext.drewN ?_ _ | refine Ext.setCell ?_ (by first | (simp; done) | (simp; omega) | omega) _) | exact Ext.refl _ | assumption | refine Ext.alloc ?_ _ | refine Ext.drew ?_ | refine Ext.drewN ?_ _ | refine Ext.setCell ?_ (by first | (simp; done) | (simp; omega) | omega) _ | refine Ext.trans ?_ (by assumption)))⟩ ?_
  clear hS hE sR kR gA qa0 qa1 qa2 qa3
  generalize uR.heap.size = b6 at *
  rintro W6 ⟨hS, hE⟩
  obtain ⟨hA, cA, gA⟩ := hS.at 3 rfl
  have qa0 := (gA.box.cells 0).1
  have qa1 := (gA.box.cells 1).1
  have qa2 := (gA.box.cells 2).1
  have qa3 := (gA.box.cells 3).1
  obtain ⟨hB, cB, gB⟩ := hS.at 2 rfl
  have qb0 := (gB.box.cells 0).1
  have qb1 := (gB.box.cells 1).1
  have qb2 := (gB.box.cells 2).1
  have qb3 := (gB.box.cells 3).1
  go_upto_region 8 with (go_at_call 21; refine (Or_sm hA cA hB cB x y o 20 12 12 _ (gA.is.ext (by (repeat' (first | (with_reducible first | exact Ext.refl _ | assumption | refine Ext.alloc ?_ _ | refine Ext.drew ?_ | refine Ext.drewN ?_ _ | refine Ext.setCell ?_ (by first | (simp; done) | (simp; omega) | omega) _) | exact Ext.refl _ | assumption | refine Ext.alloc ?_ _ | refine Ext.drew ?_ | refine Ext.drewN ?_ _ | refine Ext.setCell ?_ (by first | (simp; done) | (simp; omega) | omega) _ | refine Ext.trans ?_ (by assumption))))) (gB.is.ext (by (repeat' (first | (with_reducible first | exact Ext.refl _ | assumption | refine Ext.alloc ?_ _ | refine Ext.drew ?_ | refine Ext.drewN ?_ _ | refine Ext.setCell ?_ (by first | (simp; done) | (simp; omega) | omega) _) | exact Ext.refl _ | assumption | refine Ext.alloc ?_ _ | refine Ext.drew ?_ | refine Ext.drewN ?_ _ | refine Ext.setCell ?_ (by first | (simp; done) | (simp; omega) | omega) _ | refine Ext.trans ?_ (by assumption))))) Sx.out Sy.out (by omega) Qo.out).mono ?_; rintro e uR ⟨hR, cR, rfl, oR, kR⟩; have sR := oR.is; obtain ⟨x1_7, y1_7, x2_7, y2_7, rfl, rfl⟩ := oR.form; clear oR)
  refine wp_abs (F := fun U => Sets U ((uR.heap.size, o) :: [(b6, t), (b5, s), (b3, y), (b2, x)]) ∧ Below w.heap.size w U) ⟨Sets.cons ⟨.slice x1_7 (o : Per).head.length y1_7, .slice x2_7 (o : Per).cycle.length y2_7, by (first | (refine BoxIs.at ?_; simp; done) | (refine (BoxIs.at ?_).alloc _; simp; done) | (refine ((BoxIs.at ?_).alloc _).alloc _; simp; done) | (refine (((BoxIs.at ?_).alloc _).alloc _).alloc _; simp; done) | (refine ((((BoxIs.at ?_).alloc _).alloc _).alloc _).alloc _; simp; done) | (refine (((((BoxIs.at ?_).alloc _).alloc _).alloc _).alloc _).alloc _; simp; done) | (refine ((((((BoxIs.at ?_).alloc _).alloc _).alloc _).alloc _).alloc _).alloc _; simp; done) | (refine (((((((BoxIs.at ?_).alloc _).alloc _).alloc _).alloc _).alloc _).alloc _).alloc _; simp; done) | (refine ((((((((BoxIs.at ?_).alloc _).alloc _).alloc _).alloc _).alloc _).alloc _).alloc _).alloc _; simp; done) | (refine (((((((((BoxIs.at ?_).alloc _).alloc _).alloc _).alloc _).alloc _).alloc _).alloc _).alloc _).alloc _; simp; done) | (refine ((((((((((BoxIs.at ?_).alloc _).alloc _).alloc _).alloc _).alloc _).alloc _).alloc _).alloc _).alloc _).alloc _; simp; done) | (refine (((((((((((BoxIs.at ?_).alloc _).alloc _).alloc _).alloc _).alloc _).alloc _).alloc _).alloc _).alloc _).alloc _).alloc _; simp; done)), sR.ext (by (repeat' (first | (with_reducible first | exact Ext.refl _ | assumption | refine Ext.alloc ?_ _ | refine Ext.drew ?_ | refine Ext.drewN ?_ _ | refine Ext.setCell ?_ (by first | (simp; done) | (simp; omega) | omega) _) | exact Ext.refl _ | assumption | refine Ext.alloc ?_ _ | refine Ext.drew ?_ | refine Ext.drewN ?_ _ | refine Ext.setCell ?_ (by first | (simp; done) | (simp; omega) | omega) _ | refine Ext.trans ?_ (by assumption))))⟩ (hS.below (by (repeat' (first | (with_reducible first | exact Ext.refl _ | assumption | refine Ext.alloc ?_ _ | refine Ext.drew ?_ | refine Ext.drewN ?_ _ | refine Ext.setCell ?_ (by first | (simp; done) | (simp; omega) | omega) _) | exact Ext.refl _ | assumption | refine Ext.alloc ?_ _ | refine Ext.drew ?_ | refine Ext.drewN ?_ _ | refine Ext.setCell ?_ (by first | (simp; done) | (simp; omega) | omega) _ | refine Ext.trans ?_ (by assumption))))), by (repeat' (first | (with_reducible first | exact Ext.refl _ | assumption | refine Ext.alloc ?_ _ | refine Ext.drew ?_ | refine Ext.drewN ?_ _ | refine Ext.setCell ?_ (by first | (simp; done) | (simp; omega) | omega) _) | exact Ext.refl _ | assumption | refine Ext.alloc ?_ _ | refine Ext.drew ?_ | refine Ext.drewN ?_ _ | refine Ext.setCell ?_ (by first | (simp; done) | (simp; omega) | omega) _ | refine Ext.trans ?_ (by assumption)))⟩ ?_
  clear hS hE sR kR gA qa0 qa1 qa2 qa3 gB qb0 qb1 qb2 qb3
  generalize uR.heap.size = b7 at *
  rintro W7 ⟨hS, hE⟩
  obtain ⟨hA, cA, gA⟩ := hS.at 0 rfl
  have qa0 := (gA.box.cells 0).1
  have qa1 := (gA.box.cells 1).1
  have qa2 := (gA.box.cells 2).1
  have qa3 := (gA.box.cells 3).1
  go_upto_region 9 with (go_at_call 34; refine (Shift_sm hA cA o u k 20 (12 * 12) _ (gA.is.ext (by (repeat' (first | (with_reducible first | exact Ext.refl _ | assumption | refine Ext.alloc ?_ _ | refine Ext.drew ?_ | refine Ext.drewN ?_ _ | refine Ext.setCell ?_ (by first | (simp; done) | (simp; omega) | omega) _) | exact Ext.refl _ | assumption | refine Ext.alloc ?_ _ | refine Ext.drew ?_ | refine Ext.drewN ?_ _ | refine Ext.setCell ?_ (by first | (simp; done) | (simp; omega) | omega) _ | refine Ext.trans ?_ (by assumption))))) So.out (by omega) (by omega) (by omega) (by omega) Qu.out).mono ?_; rintro e uR ⟨hR, cR, rfl, oR, kR⟩; have sR := oR.is; obtain ⟨x1_8, y1_8, x2_8, y2_8, rfl, rfl⟩ := oR.form; clear oR)
  refine wp_abs (F := fun U => Sets U ((uR.heap.size, u) :: [(b7, o), (b6, t), (b5, s), (b3, y), (b2, x)]) ∧ Below w.heap.size w U) ⟨Sets.cons ⟨.slice x1_8 (u : Per).head.length y1_8, .slice x2_8 (u : Per).cycle.length y2_8, by (first | (refine BoxIs.at ?_; simp; done) | (refine (BoxIs.at ?_).alloc _; simp; done) | (refine ((BoxIs.at ?_).alloc _).alloc _; simp; done) | (refine (((BoxIs.at ?_).alloc _).alloc _).alloc _; simp; done) | (refine ((((BoxIs.at ?_).alloc _).alloc _).alloc _).alloc _; simp; done) | (refine (((((BoxIs.at ?_).alloc _).alloc _).alloc _).alloc _).alloc _; simp; done) | (refine ((((((BoxIs.at ?_).alloc _).alloc _).alloc _).alloc _).alloc _).alloc _; simp; done) | (refine (((((((BoxIs.at ?_).alloc _).alloc _).alloc _).alloc _).alloc _).alloc _).alloc _; simp; done) | (refine ((((((((BoxIs.at ?_).alloc _).alloc _).alloc _).alloc _).alloc _).alloc _).alloc _).alloc _; simp; done) | (refine (((((((((BoxIs.at ?_).alloc _).alloc _).alloc _).alloc _).alloc _).alloc _).alloc _).alloc _).alloc _; simp; done) | (refine ((((((((((BoxIs.at ?_).alloc _).alloc _).alloc _).alloc _).alloc _).alloc _).alloc _).alloc _).alloc _).alloc _; simp; done) | (refine (((((((((((BoxIs.at ?_).alloc _).alloc _).alloc _).alloc _).alloc _).alloc _).alloc _).alloc _).alloc _).alloc _).alloc _; simp; done)), sR.ext (by (repeat' (first | (with_reducible first | exact Ext.refl _ | assumption | refine Ext.alloc ?_ _ | refine Ext.drew ?_ | refine Ext.drewN ?_ _ | refine Ext.setCell ?_ (by first | (simp; done) | (simp; omega) | omega) _) | exact Ext.refl _ | assumption | refine Ext.alloc ?_ _ | refine Ext.drew ?_ | refine Ext.drewN ?_ _ | refine Ext.setCell ?_ (by first | (simp; done) | (simp; omega) | omega) _ | refine Ext.trans ?_ (by assumption))))⟩ (hS.below (by (repeat' (first | (with_reducible first | exact Ext.refl _ | assumption | refine Ext.alloc ?_ _ | refine Ext.drew ?_ | refine Ext.drewN ?_ _ | refine Ext.setCell ?_ (by first | (simp; done) | (simp; omega) | omega) _) | exact Ext.refl _ | assumption | refine Ext.alloc ?_ _ | refine Ext.drew ?_ | refine Ext.drewN ?_ _ | refine Ext.setCell ?_ (by first | (simp; done) | (simp; omega) | omega) _ | refine Ext.trans ?_ (by assumption))))), by (repeat' (first | (with_reducible first | exact Ext.refl _ | assumption | refine Ext.alloc ?_ _ | refine Ext.drew ?_ | refine Ext.drewN ?_ _ | refine Ext.setCell ?_ (by first | (simp; done) | (simp; omega) | omega) _) | exact Ext.refl _ | assumption | refine Ext.alloc ?_ _ | refine Ext.drew ?_ | refine Ext.drewN ?_ _ | refine Ext.setCell ?_ (by first | (simp; done) | (simp; omega) | omega) _ | refine Ext.trans ?_ (by assumption)))⟩ ?_
  clear hS hE sR kR gA qa0 qa1 qa2 qa3
  generalize uR.heap.size = b8 at *
  rintro W8 ⟨hS, hE⟩
  have Qst : Hid (IsCanon u (fun n => s.mem n ∨ t.mem n)) := Lib.hid (Qu.out.congr fun n => by rw [Qs.out.mem, Qt.out.mem]; exact shift_or Qo.out k n)
  obtain ⟨hA, cA, gA⟩ := hS.at 3 rfl
  have qa0 := (gA.box.cells 0).1
  have qa1 := (gA.box.cells 1).1
  have qa2 := (gA.box.cells 2).1
  have qa3 := (gA.box.cells 3).1
  obtain ⟨hB, cB, gB⟩ := hS.at 2 rfl
  have qb0 := (gB.box.cells 0).1
  have qb1 := (gB.box.cells 1).1
  have qb2 := (gB.box.cells 2).1
  have qb3 := (gB.box.cells 3).1
  go_upto_region 10 with (go_at_call 21; refine (Or_sm hA cA hB cB s t u 80 12 12 _ (gA.is.ext (by (repeat' (first | (with_reducible first | exact Ext.refl _ | assumption | refine Ext.alloc ?_ _ | refine Ext.drew ?_ | refine Ext.drewN ?_ _ | refine Ext.setCell ?_ (by first | (simp; done) | (simp; omega) | omega) _) | exact Ext.refl _ | assumption | refine Ext.alloc ?_ _ | refine Ext.drew ?_ | refine Ext.drewN ?_ _ | refine Ext.setCell ?_ (by first | (simp; done) | (simp; omega) | omega) _ | refine Ext.trans ?_ (by assumption))))) (gB.is.ext (by (repeat' (first | (with_reducible first | exact Ext.refl _ | assumption | refine Ext.alloc ?_ _ | refine Ext.drew ?_ | refine Ext.drewN ?_ _ | refine Ext.setCell ?_ (by first | (simp; done) | (simp; omega) | omega) _) | exact Ext.refl _ | assumption | refine Ext.alloc ?_ _ | refine Ext.drew ?_ | refine Ext.drewN ?_ _ | refine Ext.setCell ?_ (by first | (simp; done) | (simp; omega) | omega) _ | refine Ext.trans ?_ (by assumption))))) Ss.out St.out (by omega) Qst.out).mono ?_; rintro e uR ⟨hR, cR, rfl, oR, kR⟩; have sR := oR.is; obtain ⟨x1_9, y1_9, x2_9, y2_9, rfl, rfl⟩ := oR.form; clear oR)
  refine wp_abs (F := fun U => Sets U ((uR.heap.size, u) :: [(b8, u), (b7, o), (b6, t), (b5, s), (b3, y), (b2, x)]) ∧ Below w.heap.size w U) ⟨Sets.cons ⟨.slice x1_9 (u : Per).head.length y1_9, .slice x2_9 (u : Per).cycle.length y2_9, by (first | (refine BoxIs.at ?_; simp; done) | (refine (BoxIs.at ?_).alloc _; simp; done) | (refine ((BoxIs.at ?_).alloc _).alloc _; simp; done) | (refine (((BoxIs.at ?_).alloc _).alloc _).alloc _; simp; done) | (refine ((((BoxIs.at ?_).alloc _).alloc _).alloc _).alloc _; simp; done) | (refine (((((BoxIs.at ?_).alloc _).alloc _).alloc _).alloc _).alloc _; simp; done) | (refine ((((((BoxIs.at ?_).alloc _).alloc _).alloc _).alloc _).alloc _).alloc _; simp; done) | (refine (((((((BoxIs.at ?_).alloc _).alloc _).alloc _).alloc _).alloc _).alloc _).alloc _; simp; done) | (refine ((((((((BoxIs.at ?_).alloc _).alloc _).alloc _).alloc _).alloc _).alloc _).alloc _).alloc _; simp; done) | (refine (((((((((BoxIs.at ?_).alloc _).alloc _).alloc _).alloc _).alloc _).alloc _).alloc _).alloc _).alloc _; simp; done) | (refine ((((((((((BoxIs.at ?_).alloc _).alloc _).alloc _).alloc _).alloc _).alloc _).alloc _).alloc _).alloc _).alloc _; simp; done) | (refine (((((((((((BoxIs.at ?_).alloc _).alloc _).alloc _).alloc _).alloc _).alloc _).alloc _).alloc _).alloc _).alloc _).alloc _; simp; done)), sR.ext (by (repeat' (first | (with_reducible first | exact Ext.refl _ | assumption | refine Ext.alloc ?_ _ | refine Ext.drew ?_ | refine Ext.drewN ?_ _ | refine Ext.setCell ?_ (by first | (simp; done) | (simp; omega) | omega) _) | exact Ext.refl _ | assumption | refine Ext.alloc ?_ _ | refine Ext.drew ?_ | refine Ext.drewN ?_ _ | refine Ext.setCell ?_ (by first | (simp; done) | (simp; omega) | omega) _ | refine Ext.trans ?_ (by assumption))))⟩ (hS.below (by (repeat' (first | (with_reducible first | exact Ext.refl _ | assumption | refine Ext.alloc ?_ _ | refine Ext.drew ?_ | refine Ext.drewN ?_ _ | refine Ext.setCell ?_ (by first | (simp; done) | (simp; omega) | omega) _) | exact Ext.refl _ | assumption | refine Ext.alloc ?_ _ | refine Ext.drew ?_ | refine Ext.drewN ?_ _ | refine Ext.setCell ?_ (by first | (simp; done) | (simp; omega) | omega) _ | refine Ext.trans ?_ (by assumption))))), by (repeat' (first | (with_reducible first | exact Ext.refl _ | assumption | refine Ext.alloc ?_ _ | refine Ext.drew ?_ | refine Ext.drewN ?_ _ | refine Ext.setCell ?_ (by first | (simp; done) | (simp; omega) | omega) _) | exact Ext.refl _ | assumption | refine Ext.alloc ?_ _ | refine Ext.drew ?_ | refine Ext.drewN ?_ _ | refine Ext.setCell ?_ (by first | (simp; done) | (simp; omega) | omega) _ | refine Ext.trans ?_ (by assumption)))⟩ ?_
  clear hS hE sR kR gA qa0 qa1 qa2 qa3 gB qb0 qb1 qb2 qb3
  generalize uR.heap.size = b9 at *
  rintro W9 ⟨hS, hE⟩
  obtain ⟨hA, cA, gA⟩ := hS.at 1 rfl
  have qa0 := (gA.box.cells 0).1
  have qa1 := (gA.box.cells 1).1
  have qa2 := (gA.box.cells 2).1
  have qa3 := (gA.box.cells 3).1
  obtain ⟨hB, cB, gB⟩ := hS.at 0 rfl
  have qb0 := (gB.box.cells 0).1
  have qb1 := (gB.box.cells 1).1
  have qb2 := (gB.box.cells 2).1
  have qb3 := (gB.box.cells 3).1
  go_upto_region 12 with ((go_at_call 19; refine (Equal_any hA cA hB cB u u _ (gA.is.ext (by (repeat' (first | (with_reducible first | exact Ext.refl _ | assumption | refine Ext.alloc ?_ _ | refine Ext.drew ?_ | refine Ext.drewN ?_ _ | refine Ext.setCell ?_ (by first | (simp; done) | (simp; omega) | omega) _) | exact Ext.refl _ | assumption | refine Ext.alloc ?_ _ | refine Ext.drew ?_ | refine Ext.drewN ?_ _ | refine Ext.setCell ?_ (by first | (simp; done) | (simp; omega) | omega) _ | refine Ext.trans ?_ (by assumption))))) (gB.is.ext (by (repeat' (first | (with_reducible first | exact Ext.refl _ | assumption | refine Ext.alloc ?_ _ | refine Ext.drew ?_ | refine Ext.drewN ?_ _ | refine Ext.setCell ?_ (by first | (simp; done) | (simp; omega) | omega) _) | exact Ext.refl _ | assumption | refine Ext.alloc ?_ _ | refine Ext.drew ?_ | refine Ext.drewN ?_ _ | refine Ext.setCell ?_ (by first | (simp; done) | (simp; omega) | omega) _ | refine Ext.trans ?_ (by assumption)))))).mono ?_; rintro e uE ⟨he, kE⟩; rw [decide_eq_true rfl] at he; subst he))
  refine wp_abs (F := fun U => Sets U [(b9, u), (b8, u), (b7, o), (b6, t), (b5, s), (b3, y), (b2, x)] ∧ Below w.heap.size w U) ⟨hS.below (by (repeat' (first | (with_reducible first | exact Ext.refl _ | assumption | refine Ext.alloc ?_ _ | refine Ext.drew ?_ | refine Ext.drewN ?_ _ | refine Ext.setCell ?_ (by first | (simp; done) | (simp; omega) | omega) _) | exact Ext.refl _ | assumption | refine Ext.alloc ?_ _ | refine Ext.drew ?_ | refine Ext.drewN ?_ _ | refine Ext.setCell ?_ (by first | (simp; done) | (simp; omega) | omega) _ | refine Ext.trans ?_ (by assumption)))), by (repeat' (first | (with_reducible first | exact Ext.refl _ | assumption | refine Ext.alloc ?_ _ | refine Ext.drew ?_ | refine Ext.drewN ?_ _ | refine Ext.setCell ?_ (by first | (simp; done) | (simp; omega) | omega) _) | exact Ext.refl _ | assumption | refine Ext.alloc ?_ _ | refine Ext.drew ?_ | refine Ext.drewN ?_ _ | refine Ext.setCell ?_ (by first | (simp; done) | (simp; omega) | omega) _ | refine Ext.trans ?_ (by assumption)))⟩ ?_
  clear hS hE kE gA qa0 qa1 qa2 qa3 gB qb0 qb1 qb2 qb3
  rintro W10 ⟨hS, hE⟩
  have HS := Lib.hid hS
  have HE := Lib.hid hE
  clear hS hE
  go_wp2_with fail
  go_loopw [21] (fun i wr => ∃ j : Nat, j ≤ 150 ∧ i = .int .i64 j ∧ Below W10.heap.size W10 wr) (fun i _ => 150 - (intOf i).toNat)
  case atStart => exact ⟨0, by omega, rfl, Below.refl _ _⟩
  case round =>
    obtain ⟨j, hj, rfl, hb⟩ := hrel
    have HB := Lib.hid hb
    have hS := HS.out.below hb
    by_cases hlt : j < 150
    · have hjI : (j : Int) < 150 := by omega
      clear hb
      obtain ⟨hS9, cS9, gS9⟩ := hS.at 4 rfl
      have qS90 := (gS9.box.cells 0).1
      have qS91 := (gS9.box.cells 1).1
      have qS92 := (gS9.box.cells 2).1
      have qS93 := (gS9.box.cells 3).1
      have zS9 := gS9.box.lt
      obtain ⟨hX, cX, gX⟩ := hS.at 6 rfl
      have qX0 := (gX.box.cells 0).1
      have qX1 := (gX.box.cells 1).1
      have qX2 := (gX.box.cells 2).1
      have qX3 := (gX.box.cells 3).1
      have zX := gX.box.lt
      obtain ⟨P, hP⟩ : ∃ P, P = memB s j := ⟨_, rfl⟩
      have HP : Hid ((validB s && decide (0 ≤ (j : Int)) && memB s j) = P) := Lib.hid (by rw [(validB_iff s).2 (Ss.out.valid (by omega)), decide_eq_true (show 0 ≤ (j : Int) by omega), hP]; rfl)
      have hPm : P = true ↔ shiftS x k j := by rw [hP, memB_iff (by omega)]; exact Qs.out.mem j
      by_cases hn : 0 ≤ (j : Int) - k
      · have HX : Hid ((validB x && decide (0 ≤ (j : Int) - k) && memB x (j - k)) = P) := Lib.hid (by
          rw [(validB_iff x).2 (Sx.out.valid (by omega)), decide_eq_true hn, Bool.eq_iff_iff, hPm]
          show memB x (j - k) = true ↔ _
          rw [memB_iff hn]
          exact ⟨fun h => ⟨by omega, h⟩, fun h => h.2⟩)
        clear hP hPm
        cases P
        all_goals
          go_wp2_with (first | (go_at_call 24; (with_reducible refine (has_any hS9 cS9 s j _ (gS9.is.ext (by (repeat' (first | (with_reducible first | exact Ext.refl _ | assumption | refine Ext.alloc ?_ _ | refine Ext.drew ?_ | refine Ext.drewN ?_ _ | refine Ext.setCell ?_ (by first | (simp; done) | (simp; omega) | omega) _) | exact Ext.refl _ | assumption | refine Ext.alloc ?_ _ | refine Ext.drew ?_ | refine Ext.drewN ?_ _ | refine Ext.setCell ?_ (by first | (simp; done) | (simp; omega) | omega) _ | refine Ext.trans ?_ (by assumption))))) (inI_of (by omega) (by omega)) (by omega)).mono ?_); rintro e u1 ⟨he, k1⟩; rw [HP.out] at he; subst he; obtain ⟨kc1, kf1⟩ := bcell k1; (try simp only [World.size_alloc, World.size_drew, size_drewN, World.size_setCell] at kc1 kf1); have y1 : b2 < u1.heap.size := (by have h7 := k1.size; (try simp only [World.size_alloc, World.size_drew, size_drewN, World.size_setCell] at h7); omega)) | (go_at_call 24; (with_reducible refine (has_any hX cX x (j - k) _ (gX.is.ext (by (repeat' (first | (with_reducible first | exact Ext.refl _ | assumption | refine Ext.alloc ?_ _ | refine Ext.drew ?_ | refine Ext.drewN ?_ _ | refine Ext.setCell ?_ (by first | (simp; done) | (simp; omega) | omega) _) | exact Ext.refl _ | assumption | refine Ext.alloc ?_ _ | refine Ext.drew ?_ | refine Ext.drewN ?_ _ | refine Ext.setCell ?_ (by first | (simp; done) | (simp; omega) | omega) _ | refine Ext.trans ?_ (by assumption))))) (inI_of (by omega) (by omega)) (by omega)).mono ?_); rintro e u2 ⟨he, k2⟩; rw [HX.out] at he; subst he))
          go_roundw
          case rel => exact ⟨j + 1, by omega, by go_num, by have hb := HB.out; (repeat' (first | (with_reducible first | exact Ext.refl _ | assumption | refine Ext.alloc ?_ _ | refine Ext.drew ?_ | refine Ext.drewN ?_ _ | refine Ext.setCell ?_ (by first | (simp; done) | (simp; omega) | omega) _) | exact Ext.refl _ | assumption | refine Ext.alloc ?_ _ | refine Ext.drew ?_ | refine Ext.drewN ?_ _ | refine Ext.setCell ?_ (by first | (simp; done) | (simp; omega) | omega) _ | refine Ext.trans ?_ (by assumption)))⟩
          case measure => simp [intOf]; omega
      · have hPf : P = false := by
          cases P
          · rfl
          · exact absurd (hPm.1 rfl).2.1 hn
        subst hPf
        clear hP hPm
        go_wp2_with ((go_at_call 24; (with_reducible refine (has_any hS9 cS9 s j _ (gS9.is.ext (by (repeat' (first | (with_reducible first | exact Ext.refl _ | assumption | refine Ext.alloc ?_ _ | refine Ext.drew ?_ | refine Ext.drewN ?_ _ | refine Ext.setCell ?_ (by first | (simp; done) | (simp; omega) | omega) _) | exact Ext.refl _ | assumption | refine Ext.alloc ?_ _ | refine Ext.drew ?_ | refine Ext.drewN ?_ _ | refine Ext.setCell ?_ (by first | (simp; done) | (simp; omega) | omega) _ | refine Ext.trans ?_ (by assumption))))) (inI_of (by omega) (by omega)) (by omega)).mono ?_); rintro e u1 ⟨he, k1⟩; rw [HP.out] at he; subst he))
        go_roundw
        case rel => exact ⟨j + 1, by omega, by go_num, by have hb := HB.out; (repeat' (first | (with_reducible first | exact Ext.refl _ | assumption | refine Ext.alloc ?_ _ | refine Ext.drew ?_ | refine Ext.drewN ?_ _ | refine Ext.setCell ?_ (by first | (simp; done) | (simp; omega) | omega) _) | exact Ext.refl _ | assumption | refine Ext.alloc ?_ _ | refine Ext.drew ?_ | refine Ext.drewN ?_ _ | refine Ext.setCell ?_ (by first | (simp; done) | (simp; omega) | omega) _ | refine Ext.trans ?_ (by assumption)))⟩
        case measure => simp [intOf]; omega
    · have e4 : (j : Int) = 150 := by omega
      rw [e4]
      clear e4 hb hlt
      obtain ⟨r, hqr, hsr⟩ := shift_ex (b := -k) Ss.out (by omega) (by omega)
      have Qr := Lib.hid hqr
      clear hqr hsr
      obtain ⟨hS9, cS9, gS9⟩ := hS.at 4 rfl
      have qS90 := (gS9.box.cells 0).1
      have qS91 := (gS9.box.cells 1).1
      have qS92 := (gS9.box.cells 2).1
      have qS93 := (gS9.box.cells 3).1
      have zS9 := gS9.box.lt
      go_upto_region 18 with (go_at_call 34; refine (Shift_sm hS9 cS9 s r (-k) 80 12 _ (gS9.is.ext (by (repeat' (first | (with_reducible first | exact Ext.refl _ | assumption | refine Ext.alloc ?_ _ | refine Ext.drew ?_ | refine Ext.drewN ?_ _ | refine Ext.setCell ?_ (by first | (simp; done) | (simp; omega) | omega) _) | exact Ext.refl _ | assumption | refine Ext.alloc ?_ _ | refine Ext.drew ?_ | refine Ext.drewN ?_ _ | refine Ext.setCell ?_ (by first | (simp; done) | (simp; omega) | omega) _ | refine Ext.trans ?_ (by assumption))))) Ss.out (by omega) (by omega) (by omega) (by omega) Qr.out).mono ?_; rintro e uR ⟨hR, cR, rfl, oR, kR⟩; have sR := oR.is; obtain ⟨x1_17, y1_17, x2_17, y2_17, rfl, rfl⟩ := oR.form; clear oR)
      refine wp_abs (F := fun U => Sets U ((uR.heap.size, r) :: [(b9, u), (b8, u), (b7, o), (b6, t), (b5, s), (b3, y), (b2, x)]) ∧ Below w.heap.size w U) ⟨Sets.cons ⟨.slice x1_17 (r : Per).head.length y1_17, .slice x2_17 (r : Per).cycle.length y2_17, by (first | (refine BoxIs.at ?_; simp; done) | (refine (BoxIs.at ?_).alloc _; simp; done) | (refine ((BoxIs.at ?_).alloc _).alloc _; simp; done) | (refine (((BoxIs.at ?_).alloc _).alloc _).alloc _; simp; done) | (refine ((((BoxIs.at ?_).alloc _).alloc _).alloc _).alloc _; simp; done) | (refine (((((BoxIs.at ?_).alloc _).alloc _).alloc _).alloc _).alloc _; simp; done) | (refine ((((((BoxIs.at ?_).alloc _).alloc _).alloc _).alloc _).alloc _).alloc _; simp; done) | (refine (((((((BoxIs.at ?_).alloc _).alloc _).alloc _).alloc _).alloc _).alloc _).alloc _; simp; done) | (refine ((((((((BoxIs.at ?_).alloc _).alloc _).alloc _).alloc _).alloc _).alloc _).alloc _).alloc _; simp; done) | (refine (((((((((BoxIs.at ?_).alloc _).alloc _).alloc _).alloc _).alloc _).alloc _).alloc _).alloc _).alloc _; simp; done) | (refine ((((((((((BoxIs.at ?_).alloc _).alloc _).alloc _).alloc _).alloc _).alloc _).alloc _).alloc _).alloc _).alloc _; simp; done) | (refine (((((((((((BoxIs.at ?_).alloc _).alloc _).alloc _).alloc _).alloc _).alloc _).alloc _).alloc _).alloc _).alloc _).alloc _; simp; done)), sR.ext (by (repeat' (first | (with_reducible first | exact Ext.refl _ | assumption | refine Ext.alloc ?_ _ | refine Ext.drew ?_ | refine Ext.drewN ?_ _ | refine Ext.setCell ?_ (by first | (simp; done) | (simp; omega) | omega) _) | exact Ext.refl _ | assumption | refine Ext.alloc ?_ _ | refine Ext.drew ?_ | refine Ext.drewN ?_ _ | refine Ext.setCell ?_ (by first | (simp; done) | (simp; omega) | omega) _ | refine Ext.trans ?_ (by assumption))))⟩ (hS.below (by (repeat' (first | (with_reducible first | exact Ext.refl _ | assumption | refine Ext.alloc ?_ _ | refine Ext.drew ?_ | refine Ext.drewN ?_ _ | refine Ext.setCell ?_ (by first | (simp; done) | (simp; omega) | omega) _) | exact Ext.refl _ | assumption | refine Ext.alloc ?_ _ | refine Ext.drew ?_ | refine Ext.drewN ?_ _ | refine Ext.setCell ?_ (by first | (simp; done) | (simp; omega) | omega) _ | refine Ext.trans ?_ (by assumption))))), by have hb := HB.out; have hE := HE.out; (repeat' (first | (with_reducible first | exact Ext.refl _ | assumption | refine Ext.alloc ?_ _ | refine Ext.drew ?_ | refine Ext.drewN ?_ _ | refine Ext.setCell ?_ (by first | (simp; done) | (simp; omega) | omega) _) | exact Ext.refl _ | assumption | refine Ext.alloc ?_ _ | refine Ext.drew ?_ | refine Ext.drewN ?_ _ | refine Ext.setCell ?_ (by first | (simp; done) | (simp; omega) | omega) _ | refine Ext.trans ?_ (by assumption)))⟩ ?_
      clear hS sR kR gS9 qS90 qS91 qS92 qS93 zS9
      generalize uR.heap.size = b17 at *
      rintro W18 ⟨hS, hE⟩
      by_cases hkn : k < 0
      · go_wp2_with fail
        go_ret
        exact ⟨rfl, by (repeat' (first | (with_reducible first | exact Ext.refl _ | assumption | refine Ext.alloc ?_ _ | refine Ext.drew ?_ | refine Ext.drewN ?_ _ | refine Ext.setCell ?_ (by first | (simp; done) | (simp; omega) | omega) _) | exact Ext.refl _ | assumption | refine Ext.alloc ?_ _ | refine Ext.drew ?_ | refine Ext.drewN ?_ _ | refine Ext.setCell ?_ (by first | (simp; done) | (simp; omega) | omega) _ | refine Ext.trans ?_ (by assumption)))⟩
      · obtain ⟨hB9, cB9, gB9⟩ := hS.at 0 rfl
        have qb0 := (gB9.box.cells 0).1
        have qb1 := (gB9.box.cells 1).1
        have qb2 := (gB9.box.cells 2).1
        have qb3 := (gB9.box.cells 3).1
        obtain ⟨hX, cX, gX⟩ := hS.at 7 rfl
        have qX0 := (gX.box.cells 0).1
        have qX1 := (gX.box.cells 1).1
        have qX2 := (gX.box.cells 2).1
        have qX3 := (gX.box.cells 3).1
        have hQr : IsCanon r x.mem := Qr.out.congr fun n => by
          unfold shiftS
          rw [Qs.out.mem]
          unfold shiftS
          rw [show n - -k - k = n from by omega]
          exact ⟨fun h => h.2.2, fun h => ⟨h.1, by have := h.1; omega, h⟩⟩
        obtain ⟨r2, hr2, hr3⟩ := (canon_of_sm Sx.out hQr).canon
        have Qr2 : Hid (IsCanon r2 r.mem) := Lib.hid hr2
        have hrr : sameB r2 r = true := (sameB_iff _ _).2 ((hr2.congr fun n => hQr.mem n).unique hQr)
        have HRR := Lib.hid hrr
        have HQR := Lib.hid hQr
        have SR := Lib.hid (canon_of_sm Sx.out hQr)
        clear hr2 hr3 hrr hQr
        go_wp2_with (go_at_call 33; refine (same_ok hB9 cB9 hX cX r x r2 r _ (gB9.is.ext (by (repeat' (first | (with_reducible first | exact Ext.refl _ | assumption | refine Ext.alloc ?_ _ | refine Ext.drew ?_ | refine Ext.drewN ?_ _ | refine Ext.setCell ?_ (by first | (simp; done) | (simp; omega) | omega) _) | exact Ext.refl _ | assumption | refine Ext.alloc ?_ _ | refine Ext.drew ?_ | refine Ext.drewN ?_ _ | refine Ext.setCell ?_ (by first | (simp; done) | (simp; omega) | omega) _ | refine Ext.trans ?_ (by assumption))))) (gX.is.ext (by (repeat' (first | (with_reducible first | exact Ext.refl _ | assumption | refine Ext.alloc ?_ _ | refine Ext.drew ?_ | refine Ext.drewN ?_ _ | refine Ext.setCell ?_ (by first | (simp; done) | (simp; omega) | omega) _) | exact Ext.refl _ | assumption | refine Ext.alloc ?_ _ | refine Ext.drew ?_ | refine Ext.drewN ?_ _ | refine Ext.setCell ?_ (by first | (simp; done) | (simp; omega) | omega) _ | refine Ext.trans ?_ (by assumption))))) (SR.out.valid (by omega)) (Sx.out.valid (by omega)) Qr2.out HQR.out).mono ?_; rintro e u5 ⟨he, k5⟩; rw [HRR.out] at he; subst he)
        go_ret
        exact ⟨rfl, by (repeat' (first | (with_reducible first | exact Ext.refl _ | assumption | refine Ext.alloc ?_ _ | refine Ext.drew ?_ | refine Ext.drewN ?_ _ | refine Ext.setCell ?_ (by first | (simp; done) | (simp; omega) | omega) _) | exact Ext.refl _ | assumption | refine Ext.alloc ?_ _ | refine Ext.drew ?_ | refine Ext.drewN ?_ _ | refine Ext.setCell ?_ (by first | (simp; done) | (simp; omega) | omega) _ | refine Ext.trans ?_ (by assumption)))⟩
end Go.Proofs.Ytjilkhhokkncoaa
