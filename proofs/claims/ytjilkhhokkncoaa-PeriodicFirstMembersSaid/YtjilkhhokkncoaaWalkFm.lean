/- Walks: PeriodicFirstMembers (package kalendslaw04). -/
import Derived.Test.YtjilkhhokkncoaaK15
import Derived.Test.YtjilkhhokkncoaaWalkNx
set_option linter.unusedVariables false
set_option linter.unusedSimpArgs false
namespace Go.Proofs.Ytjilkhhokkncoaa
open Go.RowKit Go.Maps Kal

theorem first_next {U : Int → Prop} {an : Per} {d n m : Int} {b c : Bool} (s : Sm 20 (12 * 12) an) (hq : IsCanon an U) (hd : d < 100) (h : FirstIs U d n b) (h' : NextIs an.mem d m c) : n = m ∧ b = c := by
  rcases h' with ⟨rfl, h1, h2, h3⟩ | ⟨rfl, rfl, h1⟩
  · cases b
    · exfalso
      have h4 := (h.no rfl).2 m ((hq.mem m).1 h2) h1
      have hp := s.wf.per
      have hpr := s.per
      have hfr := s.frm
      have hf0 := s.wf.frm
      have g1 := Int.emod_nonneg (m - max d 20) (show an.period ≠ 0 by omega)
      have g2 := Int.emod_lt_of_pos (m - max d 20) (show 0 < an.period by omega)
      have h5 : an.mem (max d 20 + (m - max d 20) % an.period) := by
        have := (s.pf.mono (show (20 : Int) ≤ max d 20 by omega)).shift hp (n := m) (by omega)
        exact this.1 h2
      exact h3 _ (by omega) (by omega) h5
    · have h4 := h.yes rfl
      refine ⟨?_, rfl⟩
      have h5 := h4.2.2.2 m ((hq.mem m).1 h2) h1
      rcases Int.lt_or_le n m with h6 | h6
      · exact absurd ((hq.mem n).2 h4.1) (h3 n h4.2.1 h6)
      · omega
  · cases b
    · exact ⟨(h.no rfl).1, rfl⟩
    · have h4 := h.yes rfl
      exact absurd ((hq.mem n).2 h4.1) (h1 n h4.2.1)

theorem solve_first {pp qq c : Int} (P0 : 1 ≤ pp) (P1 : pp ≤ 1048576) (Q0 : 1 ≤ qq) (Q1 : qq ≤ 1048576) (c0 : 0 ≤ c) (c1 : c ≤ 4294967295) :
    ∃ s, 0 ≤ s ∧ s ≤ c ∧ s % pp = c % pp ∧ s % qq = c % qq ∧ solveI (c % pp) pp (c % qq) qq = s ∧ FirstIs (fun n => (ev (c % pp) pp).mem n ∧ (ev (c % qq) qq).mem n) (max 0 0) s true := by
  have hL := lcmI_pos P0 Q0
  have hd : IsSol (c % pp) pp (c % qq) qq (c % lcmI pp qq) := by
    refine ⟨Int.emod_nonneg _ (by omega), Int.emod_lt_of_pos _ (by omega), ?_, ?_⟩
    · rw [Int.emod_emod_of_dvd _ lcmI_dvd_left, Int.emod_emod]
    · rw [Int.emod_emod_of_dvd _ lcmI_dvd_right, Int.emod_emod]
  have h0 := Int.emod_nonneg c (show lcmI pp qq ≠ 0 by omega)
  have h1 : c % lcmI pp qq ≤ c := by
    have h2 := Int.emod_add_ediv_mul c (lcmI pp qq)
    have h3 := Int.mul_nonneg (Int.ediv_nonneg c0 (show 0 ≤ lcmI pp qq by omega)) (show 0 ≤ lcmI pp qq by omega)
    omega
  have e1 : c % lcmI pp qq % pp = c % pp := Int.emod_emod_of_dvd _ lcmI_dvd_left
  have e2 : c % lcmI pp qq % qq = c % qq := Int.emod_emod_of_dvd _ lcmI_dvd_right
  refine ⟨c % lcmI pp qq, h0, h1, e1, e2, solveI_eq P0 Q0 hd, ⟨fun _ => ⟨⟨ev_mem.2 ⟨h0, e1⟩, ev_mem.2 ⟨h0, e2⟩⟩, by omega, by omega, fun m hm hm0 => ?_⟩, fun h => by cases h⟩⟩
  have m1 := ev_mem.1 hm.1
  have m2 := ev_mem.1 hm.2
  have h4 := (isSol_congr P0 Q0 hd (x := m)).1 ⟨by rw [Int.emod_emod]; exact m1.2, by rw [Int.emod_emod]; exact m2.2⟩
  have h2 := Int.emod_add_ediv_mul m (lcmI pp qq)
  have h3 := Int.mul_nonneg (Int.ediv_nonneg m1.1 (show 0 ≤ lcmI pp qq by omega)) (show 0 ≤ lcmI pp qq by omega)
  omega

set_option maxRecDepth 100000 in
set_option maxHeartbeats 4000000 in
theorem PeriodicFirstMembers_any (va : Value) (vb : Value) (c0 c1 c2 c3 : Int) (w : World) (hra : RawIs w va) (hrb : RawIs w vb) (wl0 : 0 ≤ c0) (wh0 : c0 ≤ 4294967295) (wl1 : 0 ≤ c1) (wh1 : c1 ≤ 4294967295) (wl2 : 0 ≤ c2) (wh2 : c2 ≤ 4294967295) (wl3 : 0 ≤ c3) (wh3 : c3 ≤ 4294967295) :
    Calls Try.prog 7 #[va, vb, .agg #[.int .u32 c0, .int .u32 c1, .int .u32 c2, .int .u32 c3]] w fun e w' => e = .returned (.bool true) ∧ Below w.heap.size w w' := by
  obtain ⟨hva, cva, hla, cla, fa, ta, rfl, hBa, hCa, f0a, f1a, t0a, t1a⟩ := hra
  have HBa := Lib.hid hBa
  have HCa := Lib.hid hCa
  obtain ⟨⟨a1a, c1a, rfl, jA⟩, jB, jC⟩ := hBa
  clear jA jB jC
  obtain ⟨⟨a2a, c2a, rfl, jA⟩, jB, jC⟩ := hCa
  clear jA jB jC
  obtain ⟨hvb, cvb, hlb, clb, fb, tb, rfl, hBb, hCb, f0b, f1b, t0b, t1b⟩ := hrb
  have HBb := Lib.hid hBb
  have HCb := Lib.hid hCb
  obtain ⟨⟨a1b, c1b, rfl, jA⟩, jB, jC⟩ := hBb
  clear jA jB jC
  obtain ⟨⟨a2b, c2b, rfl, jA⟩, jB, jC⟩ := hCb
  clear jA jB jC
  go_enter Try.func7, Try.ntmps7
  go_upto_region 1 with (fail)
  refine wp_abs (F := fun U => BoxIs U (w.heap.size) #[.slice a1a hla.length c1a, .int .u8 fa, .int .u8 ta, .slice a2a cla.length c2a] 24 ∧ BoxIs U (w.heap.size + 1) #[.slice a1b hlb.length c1b, .int .u8 fb, .int .u8 tb, .slice a2b clb.length c2b] 24 ∧ Sets U [] ∧ BoxIs U (w.heap.size + 1 + 1) #[.int .u32 c0, .int .u32 c1, .int .u32 c2, .int .u32 c3] 45 ∧ Below w.heap.size w U) ⟨by (first | (refine BoxIs.at ?_; simp; done) | (refine (BoxIs.at ?_).alloc _; simp; done) | (refine ((BoxIs.at ?_).alloc _).alloc _; simp; done) | (refine (((BoxIs.at ?_).alloc _).alloc _).alloc _; simp; done) | (refine ((((BoxIs.at ?_).alloc _).alloc _).alloc _).alloc _; simp; done) | (refine (((((BoxIs.at ?_).alloc _).alloc _).alloc _).alloc _).alloc _; simp; done) | (refine ((((((BoxIs.at ?_).alloc _).alloc _).alloc _).alloc _).alloc _).alloc _; simp; done) | (refine (((((((BoxIs.at ?_).alloc _).alloc _).alloc _).alloc _).alloc _).alloc _).alloc _; simp; done) | (refine ((((((((BoxIs.at ?_).alloc _).alloc _).alloc _).alloc _).alloc _).alloc _).alloc _).alloc _; simp; done) | (refine (((((((((BoxIs.at ?_).alloc _).alloc _).alloc _).alloc _).alloc _).alloc _).alloc _).alloc _).alloc _; simp; done) | (refine ((((((((((BoxIs.at ?_).alloc _).alloc _).alloc _).alloc _).alloc _).alloc _).alloc _).alloc _).alloc _).alloc _; simp; done) | (refine (((((((((((BoxIs.at ?_).alloc _).alloc _).alloc _).alloc _).alloc _).alloc _).alloc _).alloc _).alloc _).alloc _).alloc _; simp; done)), by (first | (refine BoxIs.at ?_; simp; done) | (refine (BoxIs.at ?_).alloc _; simp; done) | (refine ((BoxIs.at ?_).alloc _).alloc _; simp; done) | (refine (((BoxIs.at ?_).alloc _).alloc _).alloc _; simp; done) | (refine ((((BoxIs.at ?_).alloc _).alloc _).alloc _).alloc _; simp; done) | (refine (((((BoxIs.at ?_).alloc _).alloc _).alloc _).alloc _).alloc _; simp; done) | (refine ((((((BoxIs.at ?_).alloc _).alloc _).alloc _).alloc _).alloc _).alloc _; simp; done) | (refine (((((((BoxIs.at ?_).alloc _).alloc _).alloc _).alloc _).alloc _).alloc _).alloc _; simp; done) | (refine ((((((((BoxIs.at ?_).alloc _).alloc _).alloc _).alloc _).alloc _).alloc _).alloc _).alloc _; simp; done) | (refine (((((((((BoxIs.at ?_).alloc _).alloc _).alloc _).alloc _).alloc _).alloc _).alloc _).alloc _).alloc _; simp; done) | (refine ((((((((((BoxIs.at ?_).alloc _).alloc _).alloc _).alloc _).alloc _).alloc _).alloc _).alloc _).alloc _).alloc _; simp; done) | (refine (((((((((((BoxIs.at ?_).alloc _).alloc _).alloc _).alloc _).alloc _).alloc _).alloc _).alloc _).alloc _).alloc _).alloc _; simp; done)), Sets.nil _, by (first | (refine BoxIs.at ?_; simp; done) | (refine (BoxIs.at ?_).alloc _; simp; done) | (refine ((BoxIs.at ?_).alloc _).alloc _; simp; done) | (refine (((BoxIs.at ?_).alloc _).alloc _).alloc _; simp; done) | (refine ((((BoxIs.at ?_).alloc _).alloc _).alloc _).alloc _; simp; done) | (refine (((((BoxIs.at ?_).alloc _).alloc _).alloc _).alloc _).alloc _; simp; done) | (refine ((((((BoxIs.at ?_).alloc _).alloc _).alloc _).alloc _).alloc _).alloc _; simp; done) | (refine (((((((BoxIs.at ?_).alloc _).alloc _).alloc _).alloc _).alloc _).alloc _).alloc _; simp; done) | (refine ((((((((BoxIs.at ?_).alloc _).alloc _).alloc _).alloc _).alloc _).alloc _).alloc _).alloc _; simp; done) | (refine (((((((((BoxIs.at ?_).alloc _).alloc _).alloc _).alloc _).alloc _).alloc _).alloc _).alloc _).alloc _; simp; done) | (refine ((((((((((BoxIs.at ?_).alloc _).alloc _).alloc _).alloc _).alloc _).alloc _).alloc _).alloc _).alloc _).alloc _; simp; done) | (refine (((((((((((BoxIs.at ?_).alloc _).alloc _).alloc _).alloc _).alloc _).alloc _).alloc _).alloc _).alloc _).alloc _).alloc _; simp; done)), by (repeat' (with_reducible first | assumption | exact Ext.refl _ | refine Ext.alloc ?_ _ | refine Ext.drew ?_ | refine Ext.drewN ?_ _ | (refine Ext.setCell ?_ (by first | (simp; done) | (simp; omega) | omega) _) | refine Ext.trans ?_ (by assumption)))⟩ ?_
  rintro W1 ⟨hWa, hWb, hS, hX0, hE⟩
  go_upto_region 2 with (go_at_call 13; refine (sanity_any _).mono ?_; rintro e u1 ⟨rfl, k1⟩)
  refine wp_abs (F := fun U => BoxIs U (w.heap.size) #[.slice a1a hla.length c1a, .int .u8 fa, .int .u8 ta, .slice a2a cla.length c2a] 24 ∧ BoxIs U (w.heap.size + 1) #[.slice a1b hlb.length c1b, .int .u8 fb, .int .u8 tb, .slice a2b clb.length c2b] 24 ∧ Sets U [] ∧ BoxIs U (w.heap.size + 1 + 1) #[.int .u32 c0, .int .u32 c1, .int .u32 c2, .int .u32 c3] 45 ∧ Below w.heap.size w U) ⟨hWa.below (by (repeat' (with_reducible first | assumption | exact Ext.refl _ | refine Ext.alloc ?_ _ | refine Ext.drew ?_ | refine Ext.drewN ?_ _ | (refine Ext.setCell ?_ (by first | (simp; done) | (simp; omega) | omega) _) | refine Ext.trans ?_ (by assumption)))), hWb.below (by (repeat' (with_reducible first | assumption | exact Ext.refl _ | refine Ext.alloc ?_ _ | refine Ext.drew ?_ | refine Ext.drewN ?_ _ | (refine Ext.setCell ?_ (by first | (simp; done) | (simp; omega) | omega) _) | refine Ext.trans ?_ (by assumption)))), hS.below (by (repeat' (with_reducible first | assumption | exact Ext.refl _ | refine Ext.alloc ?_ _ | refine Ext.drew ?_ | refine Ext.drewN ?_ _ | (refine Ext.setCell ?_ (by first | (simp; done) | (simp; omega) | omega) _) | refine Ext.trans ?_ (by assumption)))), hX0.below (by (repeat' (with_reducible first | assumption | exact Ext.refl _ | refine Ext.alloc ?_ _ | refine Ext.drew ?_ | refine Ext.drewN ?_ _ | (refine Ext.setCell ?_ (by first | (simp; done) | (simp; omega) | omega) _) | refine Ext.trans ?_ (by assumption)))), by (repeat' (with_reducible first | assumption | exact Ext.refl _ | refine Ext.alloc ?_ _ | refine Ext.drew ?_ | refine Ext.drewN ?_ _ | (refine Ext.setCell ?_ (by first | (simp; done) | (simp; omega) | omega) _) | refine Ext.trans ?_ (by assumption)))⟩ ?_
  clear hWa hWb hS hX0 hE k1
  rintro W2 ⟨hWa, hWb, hS, hX0, hE⟩
  have r0 := (hWa.cells 0).1
  have r1 := (hWa.cells 1).1
  have r2 := (hWa.cells 2).1
  have r3 := (hWa.cells 3).1
  go_upto_region 3 with (go_at_call 14; refine (Made_any _ _ hla cla fa ta _ (HBa.out.ext (by (repeat' (with_reducible first | assumption | exact Ext.refl _ | refine Ext.alloc ?_ _ | refine Ext.drew ?_ | refine Ext.drewN ?_ _ | (refine Ext.setCell ?_ (by first | (simp; done) | (simp; omega) | omega) _) | refine Ext.trans ?_ (by assumption))))) (HCa.out.ext (by (repeat' (with_reducible first | assumption | exact Ext.refl _ | refine Ext.alloc ?_ _ | refine Ext.drew ?_ | refine Ext.drewN ?_ _ | (refine Ext.setCell ?_ (by first | (simp; done) | (simp; omega) | omega) _) | refine Ext.trans ?_ (by assumption))))) f0a f1a t0a t1a).mono ?_; rintro e uR ⟨hR, cR, x, rfl, oR, wfx, frx, prx, kR⟩; have sR := oR.is; obtain ⟨x1_2, y1_2, x2_2, y2_2, rfl, rfl⟩ := oR.form; clear oR)
  have Sx : Hid (Sm 20 12 x) := Lib.hid ⟨wfx, frx, prx⟩
  refine wp_abs (F := fun U => BoxIs U (w.heap.size + 1) #[.slice a1b hlb.length c1b, .int .u8 fb, .int .u8 tb, .slice a2b clb.length c2b] 24 ∧ Sets U ((uR.heap.size, x) :: []) ∧ BoxIs U (w.heap.size + 1 + 1) #[.int .u32 c0, .int .u32 c1, .int .u32 c2, .int .u32 c3] 45 ∧ Below w.heap.size w U) ⟨hWb.below (by (repeat' (with_reducible first | assumption | exact Ext.refl _ | refine Ext.alloc ?_ _ | refine Ext.drew ?_ | refine Ext.drewN ?_ _ | (refine Ext.setCell ?_ (by first | (simp; done) | (simp; omega) | omega) _) | refine Ext.trans ?_ (by assumption)))), Sets.cons ⟨.slice x1_2 (x : Per).head.length y1_2, .slice x2_2 (x : Per).cycle.length y2_2, by (first | (refine BoxIs.at ?_; simp; done) | (refine (BoxIs.at ?_).alloc _; simp; done) | (refine ((BoxIs.at ?_).alloc _).alloc _; simp; done) | (refine (((BoxIs.at ?_).alloc _).alloc _).alloc _; simp; done) | (refine ((((BoxIs.at ?_).alloc _).alloc _).alloc _).alloc _; simp; done) | (refine (((((BoxIs.at ?_).alloc _).alloc _).alloc _).alloc _).alloc _; simp; done) | (refine ((((((BoxIs.at ?_).alloc _).alloc _).alloc _).alloc _).alloc _).alloc _; simp; done) | (refine (((((((BoxIs.at ?_).alloc _).alloc _).alloc _).alloc _).alloc _).alloc _).alloc _; simp; done) | (refine ((((((((BoxIs.at ?_).alloc _).alloc _).alloc _).alloc _).alloc _).alloc _).alloc _).alloc _; simp; done) | (refine (((((((((BoxIs.at ?_).alloc _).alloc _).alloc _).alloc _).alloc _).alloc _).alloc _).alloc _).alloc _; simp; done) | (refine ((((((((((BoxIs.at ?_).alloc _).alloc _).alloc _).alloc _).alloc _).alloc _).alloc _).alloc _).alloc _).alloc _; simp; done) | (refine (((((((((((BoxIs.at ?_).alloc _).alloc _).alloc _).alloc _).alloc _).alloc _).alloc _).alloc _).alloc _).alloc _).alloc _; simp; done)), sR.ext (by (repeat' (with_reducible first | assumption | exact Ext.refl _ | refine Ext.alloc ?_ _ | refine Ext.drew ?_ | refine Ext.drewN ?_ _ | (refine Ext.setCell ?_ (by first | (simp; done) | (simp; omega) | omega) _) | refine Ext.trans ?_ (by assumption))))⟩ (hS.below (by (repeat' (with_reducible first | assumption | exact Ext.refl _ | refine Ext.alloc ?_ _ | refine Ext.drew ?_ | refine Ext.drewN ?_ _ | (refine Ext.setCell ?_ (by first | (simp; done) | (simp; omega) | omega) _) | refine Ext.trans ?_ (by assumption))))), hX0.below (by (repeat' (with_reducible first | assumption | exact Ext.refl _ | refine Ext.alloc ?_ _ | refine Ext.drew ?_ | refine Ext.drewN ?_ _ | (refine Ext.setCell ?_ (by first | (simp; done) | (simp; omega) | omega) _) | refine Ext.trans ?_ (by assumption)))), by (repeat' (with_reducible first | assumption | exact Ext.refl _ | refine Ext.alloc ?_ _ | refine Ext.drew ?_ | refine Ext.drewN ?_ _ | (refine Ext.setCell ?_ (by first | (simp; done) | (simp; omega) | omega) _) | refine Ext.trans ?_ (by assumption)))⟩ ?_
  clear hWa hWb hS hX0 hE sR kR r0 r1 r2 r3 wfx frx prx
  generalize uR.heap.size = b2 at *
  rintro W3 ⟨hWb, hS, hX0, hE⟩
  have r0 := (hWb.cells 0).1
  have r1 := (hWb.cells 1).1
  have r2 := (hWb.cells 2).1
  have r3 := (hWb.cells 3).1
  go_upto_region 4 with (go_at_call 14; refine (Made_any _ _ hlb clb fb tb _ (HBb.out.ext (by (repeat' (with_reducible first | assumption | exact Ext.refl _ | refine Ext.alloc ?_ _ | refine Ext.drew ?_ | refine Ext.drewN ?_ _ | (refine Ext.setCell ?_ (by first | (simp; done) | (simp; omega) | omega) _) | refine Ext.trans ?_ (by assumption))))) (HCb.out.ext (by (repeat' (with_reducible first | assumption | exact Ext.refl _ | refine Ext.alloc ?_ _ | refine Ext.drew ?_ | refine Ext.drewN ?_ _ | (refine Ext.setCell ?_ (by first | (simp; done) | (simp; omega) | omega) _) | refine Ext.trans ?_ (by assumption))))) f0b f1b t0b t1b).mono ?_; rintro e uR ⟨hR, cR, y, rfl, oR, wfy, fry, pry, kR⟩; have sR := oR.is; obtain ⟨x1_3, y1_3, x2_3, y2_3, rfl, rfl⟩ := oR.form; clear oR)
  have Sy : Hid (Sm 20 12 y) := Lib.hid ⟨wfy, fry, pry⟩
  refine wp_abs (F := fun U => Sets U ((uR.heap.size, y) :: [(b2, x)]) ∧ BoxIs U (w.heap.size + 1 + 1) #[.int .u32 c0, .int .u32 c1, .int .u32 c2, .int .u32 c3] 45 ∧ Below w.heap.size w U) ⟨Sets.cons ⟨.slice x1_3 (y : Per).head.length y1_3, .slice x2_3 (y : Per).cycle.length y2_3, by (first | (refine BoxIs.at ?_; simp; done) | (refine (BoxIs.at ?_).alloc _; simp; done) | (refine ((BoxIs.at ?_).alloc _).alloc _; simp; done) | (refine (((BoxIs.at ?_).alloc _).alloc _).alloc _; simp; done) | (refine ((((BoxIs.at ?_).alloc _).alloc _).alloc _).alloc _; simp; done) | (refine (((((BoxIs.at ?_).alloc _).alloc _).alloc _).alloc _).alloc _; simp; done) | (refine ((((((BoxIs.at ?_).alloc _).alloc _).alloc _).alloc _).alloc _).alloc _; simp; done) | (refine (((((((BoxIs.at ?_).alloc _).alloc _).alloc _).alloc _).alloc _).alloc _).alloc _; simp; done) | (refine ((((((((BoxIs.at ?_).alloc _).alloc _).alloc _).alloc _).alloc _).alloc _).alloc _).alloc _; simp; done) | (refine (((((((((BoxIs.at ?_).alloc _).alloc _).alloc _).alloc _).alloc _).alloc _).alloc _).alloc _).alloc _; simp; done) | (refine ((((((((((BoxIs.at ?_).alloc _).alloc _).alloc _).alloc _).alloc _).alloc _).alloc _).alloc _).alloc _).alloc _; simp; done) | (refine (((((((((((BoxIs.at ?_).alloc _).alloc _).alloc _).alloc _).alloc _).alloc _).alloc _).alloc _).alloc _).alloc _).alloc _; simp; done)), sR.ext (by (repeat' (with_reducible first | assumption | exact Ext.refl _ | refine Ext.alloc ?_ _ | refine Ext.drew ?_ | refine Ext.drewN ?_ _ | (refine Ext.setCell ?_ (by first | (simp; done) | (simp; omega) | omega) _) | refine Ext.trans ?_ (by assumption))))⟩ (hS.below (by (repeat' (with_reducible first | assumption | exact Ext.refl _ | refine Ext.alloc ?_ _ | refine Ext.drew ?_ | refine Ext.drewN ?_ _ | (refine Ext.setCell ?_ (by first | (simp; done) | (simp; omega) | omega) _) | refine Ext.trans ?_ (by assumption))))), hX0.below (by (repeat' (with_reducible first | assumption | exact Ext.refl _ | refine Ext.alloc ?_ _ | refine Ext.drew ?_ | refine Ext.drewN ?_ _ | (refine Ext.setCell ?_ (by first | (simp; done) | (simp; omega) | omega) _) | refine Ext.trans ?_ (by assumption)))), by (repeat' (with_reducible first | assumption | exact Ext.refl _ | refine Ext.alloc ?_ _ | refine Ext.drew ?_ | refine Ext.drewN ?_ _ | (refine Ext.setCell ?_ (by first | (simp; done) | (simp; omega) | omega) _) | refine Ext.trans ?_ (by assumption)))⟩ ?_
  clear hWb hS hX0 hE sR kR r0 r1 r2 r3 wfy fry pry
  generalize uR.heap.size = b3 at *
  rintro W4 ⟨hS, hX0, hE⟩
  have e0 := (hX0.cells 0).1
  have fr0 : 0 ≤ c0 % 100 ∧ c0 % 100 < 100 := ⟨Int.emod_nonneg _ (by omega), Int.emod_lt_of_pos _ (by omega)⟩
  go_upto_region 5 with (fail)
  generalize c0 % 100 = fr at *
  clear e0
  obtain ⟨an, hqan, hsan⟩ := and_ex Sx.out Sy.out
  have Qan := Lib.hid hqan
  have San := Lib.hid hsan
  clear hqan hsan
  obtain ⟨hA_5, cA_5, gA⟩ := hS.at 1 rfl
  have qa0 := (gA.box.cells 0).1
  have qa1 := (gA.box.cells 1).1
  have qa2 := (gA.box.cells 2).1
  have qa3 := (gA.box.cells 3).1
  obtain ⟨hB_5, cB_5, gB⟩ := hS.at 0 rfl
  have qb0 := (gB.box.cells 0).1
  have qb1 := (gB.box.cells 1).1
  have qb2 := (gB.box.cells 2).1
  have qb3 := (gB.box.cells 3).1
  go_upto_region 6 with (go_at_call 22; refine (And_sm hA_5 cA_5 hB_5 cB_5 x y an 20 12 12 _ (gA.is.ext (by (repeat' (with_reducible first | assumption | exact Ext.refl _ | refine Ext.alloc ?_ _ | refine Ext.drew ?_ | refine Ext.drewN ?_ _ | (refine Ext.setCell ?_ (by first | (simp; done) | (simp; omega) | omega) _) | refine Ext.trans ?_ (by assumption))))) (gB.is.ext (by (repeat' (with_reducible first | assumption | exact Ext.refl _ | refine Ext.alloc ?_ _ | refine Ext.drew ?_ | refine Ext.drewN ?_ _ | (refine Ext.setCell ?_ (by first | (simp; done) | (simp; omega) | omega) _) | refine Ext.trans ?_ (by assumption))))) Sx.out Sy.out (by omega) Qan.out).mono ?_; rintro e uR ⟨hR_5, cR_5, rfl, oR, kR⟩; have sR := oR.is; obtain ⟨x1_5, y1_5, x2_5, y2_5, rfl, rfl⟩ := oR.form; clear oR)
  refine wp_abs (F := fun U => Sets U ((uR.heap.size, an) :: [(b3, y), (b2, x)]) ∧ BoxIs U (w.heap.size + 1 + 1) #[.int .u32 c0, .int .u32 c1, .int .u32 c2, .int .u32 c3] 45 ∧ Below w.heap.size w U) ⟨Sets.cons ⟨.slice x1_5 (an : Per).head.length y1_5, .slice x2_5 (an : Per).cycle.length y2_5, by (first | (refine BoxIs.at ?_; simp; done) | (refine (BoxIs.at ?_).alloc _; simp; done) | (refine ((BoxIs.at ?_).alloc _).alloc _; simp; done) | (refine (((BoxIs.at ?_).alloc _).alloc _).alloc _; simp; done) | (refine ((((BoxIs.at ?_).alloc _).alloc _).alloc _).alloc _; simp; done) | (refine (((((BoxIs.at ?_).alloc _).alloc _).alloc _).alloc _).alloc _; simp; done) | (refine ((((((BoxIs.at ?_).alloc _).alloc _).alloc _).alloc _).alloc _).alloc _; simp; done) | (refine (((((((BoxIs.at ?_).alloc _).alloc _).alloc _).alloc _).alloc _).alloc _).alloc _; simp; done) | (refine ((((((((BoxIs.at ?_).alloc _).alloc _).alloc _).alloc _).alloc _).alloc _).alloc _).alloc _; simp; done) | (refine (((((((((BoxIs.at ?_).alloc _).alloc _).alloc _).alloc _).alloc _).alloc _).alloc _).alloc _).alloc _; simp; done) | (refine ((((((((((BoxIs.at ?_).alloc _).alloc _).alloc _).alloc _).alloc _).alloc _).alloc _).alloc _).alloc _).alloc _; simp; done) | (refine (((((((((((BoxIs.at ?_).alloc _).alloc _).alloc _).alloc _).alloc _).alloc _).alloc _).alloc _).alloc _).alloc _).alloc _; simp; done)), sR.ext (by (repeat' (with_reducible first | assumption | exact Ext.refl _ | refine Ext.alloc ?_ _ | refine Ext.drew ?_ | refine Ext.drewN ?_ _ | (refine Ext.setCell ?_ (by first | (simp; done) | (simp; omega) | omega) _) | refine Ext.trans ?_ (by assumption))))⟩ (hS.below (by (repeat' (with_reducible first | assumption | exact Ext.refl _ | refine Ext.alloc ?_ _ | refine Ext.drew ?_ | refine Ext.drewN ?_ _ | (refine Ext.setCell ?_ (by first | (simp; done) | (simp; omega) | omega) _) | refine Ext.trans ?_ (by assumption))))), hX0.below (by (repeat' (with_reducible first | assumption | exact Ext.refl _ | refine Ext.alloc ?_ _ | refine Ext.drew ?_ | refine Ext.drewN ?_ _ | (refine Ext.setCell ?_ (by first | (simp; done) | (simp; omega) | omega) _) | refine Ext.trans ?_ (by assumption)))), by (repeat' (with_reducible first | assumption | exact Ext.refl _ | refine Ext.alloc ?_ _ | refine Ext.drew ?_ | refine Ext.drewN ?_ _ | (refine Ext.setCell ?_ (by first | (simp; done) | (simp; omega) | omega) _) | refine Ext.trans ?_ (by assumption)))⟩ ?_
  clear hS hX0 hE sR kR gA qa0 qa1 qa2 qa3 gB qb0 qb1 qb2 qb3
  generalize uR.heap.size = b5 at *
  rintro W5 ⟨hS, hX0, hE⟩
  obtain ⟨hA_6, cA_6, gA⟩ := hS.at 2 rfl
  have qa0 := (gA.box.cells 0).1
  have qa1 := (gA.box.cells 1).1
  have qa2 := (gA.box.cells 2).1
  have qa3 := (gA.box.cells 3).1
  obtain ⟨hB_6, cB_6, gB⟩ := hS.at 1 rfl
  have qb0 := (gB.box.cells 0).1
  have qb1 := (gB.box.cells 1).1
  have qb2 := (gB.box.cells 2).1
  have qb3 := (gB.box.cells 3).1
  obtain ⟨qx, hqx, tx⟩ := Sx.out.canon
  obtain ⟨qy, hqy, ty⟩ := Sy.out.canon
  have QX := Lib.hid hqx
  have QY := Lib.hid hqy
  have hqyp : qy.period ≤ 12 := ty.per
  clear hqx hqy tx ty
  go_upto_region 7 with (go_at_call 25; refine (first_ok hA_6 cA_6 hB_6 cB_6 x y qx qy fr _ (gA.is.ext (by (repeat' (with_reducible first | assumption | exact Ext.refl _ | refine Ext.alloc ?_ _ | refine Ext.drew ?_ | refine Ext.drewN ?_ _ | (refine Ext.setCell ?_ (by first | (simp; done) | (simp; omega) | omega) _) | refine Ext.trans ?_ (by assumption))))) (gB.is.ext (by (repeat' (with_reducible first | assumption | exact Ext.refl _ | refine Ext.alloc ?_ _ | refine Ext.drew ?_ | refine Ext.drewN ?_ _ | (refine Ext.setCell ?_ (by first | (simp; done) | (simp; omega) | omega) _) | refine Ext.trans ?_ (by assumption))))) (Sx.out.valid (by omega)) (Sy.out.valid (by omega)) QX.out QY.out (by omega) (by omega) (by omega)).mono ?_; rintro e uF ⟨n1, ok1, rfl, hF, kF⟩)
  rw [show max fr 0 = fr from by omega] at hF
  have HF := Lib.hid hF
  clear hF hqyp
  refine wp_abs (F := fun U => Sets U [(b5, an), (b3, y), (b2, x)] ∧ BoxIs U (w.heap.size + 1 + 1) #[.int .u32 c0, .int .u32 c1, .int .u32 c2, .int .u32 c3] 45 ∧ Below w.heap.size w U) ⟨hS.below (by (repeat' (with_reducible first | assumption | exact Ext.refl _ | refine Ext.alloc ?_ _ | refine Ext.drew ?_ | refine Ext.drewN ?_ _ | (refine Ext.setCell ?_ (by first | (simp; done) | (simp; omega) | omega) _) | refine Ext.trans ?_ (by assumption)))), hX0.below (by (repeat' (with_reducible first | assumption | exact Ext.refl _ | refine Ext.alloc ?_ _ | refine Ext.drew ?_ | refine Ext.drewN ?_ _ | (refine Ext.setCell ?_ (by first | (simp; done) | (simp; omega) | omega) _) | refine Ext.trans ?_ (by assumption)))), by (repeat' (with_reducible first | assumption | exact Ext.refl _ | refine Ext.alloc ?_ _ | refine Ext.drew ?_ | refine Ext.drewN ?_ _ | (refine Ext.setCell ?_ (by first | (simp; done) | (simp; omega) | omega) _) | refine Ext.trans ?_ (by assumption)))⟩ ?_
  clear hS hX0 hE kF gA qa0 qa1 qa2 qa3 gB qb0 qb1 qb2 qb3
  rintro W6 ⟨hS, hX0, hE⟩
  obtain ⟨hA_7, cA_7, gA⟩ := hS.at 0 rfl
  have qa0 := (gA.box.cells 0).1
  have qa1 := (gA.box.cells 1).1
  have qa2 := (gA.box.cells 2).1
  have qa3 := (gA.box.cells 3).1
  go_upto_region 8 with (go_at_call 26; refine (next_ok hA_7 cA_7 an fr _ (gA.is.ext (by (repeat' (with_reducible first | assumption | exact Ext.refl _ | refine Ext.alloc ?_ _ | refine Ext.drew ?_ | refine Ext.drewN ?_ _ | (refine Ext.setCell ?_ (by first | (simp; done) | (simp; omega) | omega) _) | refine Ext.trans ?_ (by assumption))))) (San.out.valid (by omega)) (by omega) (by omega)).mono ?_; rintro e uN ⟨n2, ok2, rfl, hN, kN⟩)
  rw [show max fr 0 = fr from by omega] at hN
  obtain ⟨rfl, rfl⟩ := first_next San.out Qan.out fr0.2 HF.out hN
  clear hN
  refine wp_abs (F := fun U => Sets U [(b5, an), (b3, y), (b2, x)] ∧ BoxIs U (w.heap.size + 1 + 1) #[.int .u32 c0, .int .u32 c1, .int .u32 c2, .int .u32 c3] 45 ∧ Below w.heap.size w U) ⟨hS.below (by (repeat' (with_reducible first | assumption | exact Ext.refl _ | refine Ext.alloc ?_ _ | refine Ext.drew ?_ | refine Ext.drewN ?_ _ | (refine Ext.setCell ?_ (by first | (simp; done) | (simp; omega) | omega) _) | refine Ext.trans ?_ (by assumption)))), hX0.below (by (repeat' (with_reducible first | assumption | exact Ext.refl _ | refine Ext.alloc ?_ _ | refine Ext.drew ?_ | refine Ext.drewN ?_ _ | (refine Ext.setCell ?_ (by first | (simp; done) | (simp; omega) | omega) _) | refine Ext.trans ?_ (by assumption)))), by (repeat' (with_reducible first | assumption | exact Ext.refl _ | refine Ext.alloc ?_ _ | refine Ext.drew ?_ | refine Ext.drewN ?_ _ | (refine Ext.setCell ?_ (by first | (simp; done) | (simp; omega) | omega) _) | refine Ext.trans ?_ (by assumption)))⟩ ?_
  clear hS hX0 hE kN gA qa0 qa1 qa2 qa3
  rintro W7 ⟨hS, hX0, hE⟩
  clear HF
  have e1 := (hX0.cells 1).1
  have e2 := (hX0.cells 2).1
  have e3 := (hX0.cells 3).1
  have p0 : 0 ≤ c1 % 1048576 ∧ c1 % 1048576 < 1048576 := ⟨Int.emod_nonneg _ (by omega), Int.emod_lt_of_pos _ (by omega)⟩
  have p1 : 0 ≤ c2 % 1048576 ∧ c2 % 1048576 < 1048576 := ⟨Int.emod_nonneg _ (by omega), Int.emod_lt_of_pos _ (by omega)⟩
  go_upto_region 11 with (fail)
  generalize c1 % 1048576 = z1 at *
  generalize c2 % 1048576 = z2 at *
  obtain ⟨pp, hpp⟩ : ∃ pp, pp = 1 + z1 := ⟨_, rfl⟩
  obtain ⟨qq, hqq⟩ : ∃ qq, qq = 1 + z2 := ⟨_, rfl⟩
  rw [← hpp, ← hqq]
  have P0 : 1 ≤ pp := by omega
  have P1 : pp ≤ 1048576 := by omega
  have Q0 : 1 ≤ qq := by omega
  have Q1 : qq ≤ 1048576 := by omega
  clear hpp hqq p0 p1 e1 e2 e3 hX0
  have a0 := Int.emod_nonneg c3 (show pp ≠ 0 by omega)
  have a1 := Int.emod_lt_of_pos c3 (show 0 < pp by omega)
  have b0 := Int.emod_nonneg c3 (show qq ≠ 0 by omega)
  have b1 := Int.emod_lt_of_pos c3 (show 0 < qq by omega)
  obtain ⟨s, hs0, hs1, hs2, hs3, hs4, hs5⟩ := solve_first (c := c3) P0 P1 Q0 Q1 wl3 wh3
  have HS2 := Lib.hid hs2
  have HS3 := Lib.hid hs3
  have HS4 := Lib.hid hs4
  have HS5 := Lib.hid hs5
  clear hs2 hs3 hs4 hs5
  have HLL : Hid (lcmI pp qq ≤ 1099511627776) := Lib.hid (by have := lcm_le P0 Q0 P1 Q1; omega)
  have HDV : Hid ((c3 % qq % qq - c3 % pp % pp) % (Int.gcd pp qq : Nat) = 0) := Lib.hid (by
    rw [Int.emod_emod, Int.emod_emod, Int.sub_emod, Int.emod_emod_of_dvd _ (Int.gcd_dvd_right ..), Int.emod_emod_of_dvd _ (Int.gcd_dvd_left ..)]; simp)
  have t3 : s.tmod pp = c3 % pp := by rw [Int.tmod_eq_emod_of_nonneg hs0, HS2.out]
  have t4 : s.tmod qq = c3 % qq := by rw [Int.tmod_eq_emod_of_nonneg hs0, HS3.out]
  have t1 : c3.tmod pp = c3 % pp := Int.tmod_eq_emod_of_nonneg wl3
  have t2 : c3.tmod qq = c3 % qq := Int.tmod_eq_emod_of_nonneg wl3
  have hle : decide (s ≤ c3) = true := decide_eq_true hs1
  generalize c3 % pp = ra at *
  generalize c3 % qq = rb at *
  refine wp_abs (F := fun U => Below w.heap.size w U) (by (repeat' (with_reducible first | assumption | exact Ext.refl _ | refine Ext.alloc ?_ _ | refine Ext.drew ?_ | refine Ext.drewN ?_ _ | (refine Ext.setCell ?_ (by first | (simp; done) | (simp; omega) | omega) _) | refine Ext.trans ?_ (by assumption)))) ?_
  clear hS hE
  rintro W10 hE
  refine wp_region_factsH (w0 := W10) [0, 1, 2, 3, 4, 5, 6, 7, 8, 9, 10, 11, 12, 13, 14] [15] (fun v => ⟨#[Value.agg #[Value.slice a1a hla.length c1a, Value.int IntKind.u8 fa, Value.int IntKind.u8 ta, Value.slice a2a cla.length c2a], Value.agg #[Value.slice a1b hlb.length c1b, Value.int IntKind.u8 fb, Value.int IntKind.u8 tb, Value.slice a2b clb.length c2b], Value.agg #[Value.int IntKind.u32 c0, Value.int IntKind.u32 c1, Value.int IntKind.u32 c2, Value.int IntKind.u32 c3], Value.pointer (some { block := w.heap.size, off := 0 }), Value.pointer (some { block := w.heap.size + 1, off := 0 }), Value.pointer (some { block := w.heap.size + 1 + 1, off := 0 }), Value.bool false, Value.bool true, Value.pointer (some { block := b2, off := 0 }), Value.pointer (some { block := b3, off := 0 }), Value.int IntKind.i64 fr, Value.pointer (some { block := b5, off := 0 }), Value.int IntKind.i64 0, Value.int IntKind.i64 n1, Value.bool ok1, Value.int IntKind.i64 n1, Value.bool ok1, Value.int IntKind.i64 pp, Value.int IntKind.i64 qq, Value.int IntKind.i64 c3, v 14, undef, undef, undef, undef, Value.bool true, Value.agg #[Value.slice a1a hla.length c1a, Value.int IntKind.u8 fa, Value.int IntKind.u8 ta, Value.slice a2a cla.length c2a], perV (Value.slice x1_2 x.head.length y1_2) (Value.slice x2_2 x.cycle.length y2_2) x.frm x.period, Value.agg #[Value.slice a1b hlb.length c1b, Value.int IntKind.u8 fb, Value.int IntKind.u8 tb, Value.slice a2b clb.length c2b], perV (Value.slice x1_3 y.head.length y1_3) (Value.slice x2_3 y.cycle.length y2_3) y.frm y.period, Value.pointer (some { block := w.heap.size + 1 + 1, off := 0 }), Value.int IntKind.u32 c0, Value.int IntKind.u32 fr, Value.int IntKind.i64 fr, Value.tuple #[perV (Value.slice x1_5 an.head.length y1_5) (Value.slice x2_5 an.cycle.length y2_5) an.frm an.period, Value.int IntKind.i64 0], Value.agg #[hA_5, Value.int IntKind.i64 x.frm, Value.int IntKind.i64 x.period, cA_5], Value.agg #[hB_5, Value.int IntKind.i64 y.frm, Value.int IntKind.i64 y.period, cB_5], Value.tuple #[perV (Value.slice x1_5 an.head.length y1_5) (Value.slice x2_5 an.cycle.length y2_5) an.frm an.period, Value.int IntKind.i64 0], perV (Value.slice x1_5 an.head.length y1_5) (Value.slice x2_5 an.cycle.length y2_5) an.frm an.period, Value.int IntKind.i64 0, Value.tuple #[Value.int IntKind.i64 n1, Value.bool ok1], Value.agg #[hA_6, Value.int IntKind.i64 x.frm, Value.int IntKind.i64 x.period, cA_6], Value.agg #[hB_6, Value.int IntKind.i64 y.frm, Value.int IntKind.i64 y.period, cB_6], Value.int IntKind.i64 fr, Value.tuple #[Value.int IntKind.i64 n1, Value.bool ok1], Value.int IntKind.i64 n1, Value.bool ok1, Value.tuple #[Value.int IntKind.i64 n1, Value.bool ok1], Value.agg #[hA_7, Value.int IntKind.i64 an.frm, Value.int IntKind.i64 an.period, cA_7], Value.int IntKind.i64 fr, Value.tuple #[Value.int IntKind.i64 n1, Value.bool ok1], Value.int IntKind.i64 n1, Value.bool ok1, Value.pointer (some { block := w.heap.size + 1 + 1, off := 1 }), Value.int IntKind.u32 c1, Value.int IntKind.u32 z1, Value.int IntKind.i64 z1, Value.int IntKind.i64 pp, Value.pointer (some { block := w.heap.size + 1 + 1, off := 2 }), Value.int IntKind.u32 c2, Value.int IntKind.u32 z2, Value.int IntKind.i64 z2, Value.int IntKind.i64 qq, Value.pointer (some { block := w.heap.size + 1 + 1, off := 3 }), Value.int IntKind.u32 c3, Value.int IntKind.i64 c3, v 11, v 0, v 1, v 2, v 3, v 4, v 5, v 6, v 7, v 8, v 9, v 10, v 12, v 13, undef, undef, undef, undef, undef, undef, undef, undef, undef, undef, undef, undef, undef, undef, undef, undef, undef, undef, undef, undef, undef, undef, undef, undef, undef, undef, undef, undef, undef, undef, undef, undef, undef, undef, undef, undef, undef, undef, undef, undef, undef, undef, undef, undef, undef, undef, undef, undef, undef, undef, undef, undef, undef, undef, undef, undef, undef, undef, undef, undef, undef, undef, undef], []⟩) (fun _ => undef)
    (fun i v lo hi W => match i with
      | 0 => v 0 = .int .i64 c3
      | 1 => v 1 = .int .i64 pp
      | 2 => v 2 = .int .i64 ra
      | 3 => v 3 = .int .i64 pp
      | 4 => SetV W (v 4) (ev ra pp)
      | 5 => v 5 = .int .i64 c3
      | 6 => v 6 = .int .i64 qq
      | 7 => v 7 = .int .i64 rb
      | 8 => v 8 = .int .i64 qq
      | 9 => SetV W (v 9) (ev rb qq)
      | 10 => v 10 = .tuple #[.int .i64 s, .bool true]
      | 11 => v 11 = .tuple #[.int .i64 s, .bool true]
      | 12 => v 12 = .int .i64 s
      | 13 => v 13 = .bool true
      | 14 => v 14 = .int .i64 s
      | _ => True)
    (fun W => True) rfl (by kernel_rfl) (by decide) rfl ?stab ?loc (fun W hb => trivial) ?steps ?fin
  case stab =>
    rintro (_ | _ | _ | _ | _ | _ | _ | _ | _ | _ | _ | _ | _ | _ | _ | i) v lo hi W W' h hb
    · exact h
    · exact h
    · exact h
    · exact h
    · exact h.below hb
    · exact h
    · exact h
    · exact h
    · exact h
    · exact h.below hb
    · exact h
    · exact h
    · exact h
    · exact h
    · exact h
    · trivial
  case loc =>
    rintro (_ | _ | _ | _ | _ | _ | _ | _ | _ | _ | _ | _ | _ | _ | _ | i) v v' lo lo' hi hi' W hag h
    · have q := hag 0 (.inl rfl)
      (try dsimp only at h ⊢); (try simp only [q.1, q.2.1, q.2.2] at h); exact h
    · have q := hag 1 (.inl rfl)
      (try dsimp only at h ⊢); (try simp only [q.1, q.2.1, q.2.2] at h); exact h
    · have q := hag 2 (.inl rfl)
      have q0 := hag 0 (.inr (Region.dep (by kernel_rfl)))
      have q1 := hag 1 (.inr (Region.dep (by kernel_rfl)))
      (try dsimp only at h ⊢); (try simp only [q.1, q.2.1, q.2.2, q0.1, q0.2.1, q0.2.2, q1.1, q1.2.1, q1.2.2] at h); exact h
    · have q := hag 3 (.inl rfl)
      (try dsimp only at h ⊢); (try simp only [q.1, q.2.1, q.2.2] at h); exact h
    · have q := hag 4 (.inl rfl)
      have q2 := hag 2 (.inr (Region.dep (by kernel_rfl)))
      have q3 := hag 3 (.inr (Region.dep (by kernel_rfl)))
      (try dsimp only at h ⊢); (try simp only [q.1, q.2.1, q.2.2, q2.1, q2.2.1, q2.2.2, q3.1, q3.2.1, q3.2.2] at h); exact h
    · have q := hag 5 (.inl rfl)
      (try dsimp only at h ⊢); (try simp only [q.1, q.2.1, q.2.2] at h); exact h
    · have q := hag 6 (.inl rfl)
      (try dsimp only at h ⊢); (try simp only [q.1, q.2.1, q.2.2] at h); exact h
    · have q := hag 7 (.inl rfl)
      have q5 := hag 5 (.inr (Region.dep (by kernel_rfl)))
      have q6 := hag 6 (.inr (Region.dep (by kernel_rfl)))
      (try dsimp only at h ⊢); (try simp only [q.1, q.2.1, q.2.2, q5.1, q5.2.1, q5.2.2, q6.1, q6.2.1, q6.2.2] at h); exact h
    · have q := hag 8 (.inl rfl)
      (try dsimp only at h ⊢); (try simp only [q.1, q.2.1, q.2.2] at h); exact h
    · have q := hag 9 (.inl rfl)
      have q4 := hag 4 (.inr (Region.dep (by kernel_rfl)))
      have q7 := hag 7 (.inr (Region.dep (by kernel_rfl)))
      have q8 := hag 8 (.inr (Region.dep (by kernel_rfl)))
      (try dsimp only at h ⊢); (try simp only [q.1, q.2.1, q.2.2, q4.1, q4.2.1, q4.2.2, q7.1, q7.2.1, q7.2.2, q8.1, q8.2.1, q8.2.2] at h); exact h
    · have q := hag 10 (.inl rfl)
      have q4 := hag 4 (.inr (Region.dep (by kernel_rfl)))
      have q9 := hag 9 (.inr (Region.dep (by kernel_rfl)))
      (try dsimp only at h ⊢); (try simp only [q.1, q.2.1, q.2.2, q4.1, q4.2.1, q4.2.2, q9.1, q9.2.1, q9.2.2] at h); exact h
    · have q := hag 11 (.inl rfl)
      have q10 := hag 10 (.inr (Region.dep (by kernel_rfl)))
      (try dsimp only at h ⊢); (try simp only [q.1, q.2.1, q.2.2, q10.1, q10.2.1, q10.2.2] at h); exact h
    · have q := hag 12 (.inl rfl)
      have q11 := hag 11 (.inr (Region.dep (by kernel_rfl)))
      (try dsimp only at h ⊢); (try simp only [q.1, q.2.1, q.2.2, q11.1, q11.2.1, q11.2.2] at h); exact h
    · have q := hag 13 (.inl rfl)
      have q11 := hag 11 (.inr (Region.dep (by kernel_rfl)))
      (try dsimp only at h ⊢); (try simp only [q.1, q.2.1, q.2.2, q11.1, q11.2.1, q11.2.2] at h); exact h
    · have q := hag 14 (.inl rfl)
      have q0 := hag 0 (.inr (Region.dep (by kernel_rfl)))
      have q1 := hag 1 (.inr (Region.dep (by kernel_rfl)))
      have q2 := hag 2 (.inr (Region.dep (by kernel_rfl)))
      have q3 := hag 3 (.inr (Region.dep (by kernel_rfl)))
      have q4 := hag 4 (.inr (Region.dep (by kernel_rfl)))
      have q5 := hag 5 (.inr (Region.dep (by kernel_rfl)))
      have q6 := hag 6 (.inr (Region.dep (by kernel_rfl)))
      have q7 := hag 7 (.inr (Region.dep (by kernel_rfl)))
      have q8 := hag 8 (.inr (Region.dep (by kernel_rfl)))
      have q9 := hag 9 (.inr (Region.dep (by kernel_rfl)))
      have q10 := hag 10 (.inr (Region.dep (by kernel_rfl)))
      have q11 := hag 11 (.inr (Region.dep (by kernel_rfl)))
      have q12 := hag 12 (.inr (Region.dep (by kernel_rfl)))
      (try dsimp only at h ⊢); (try simp only [q.1, q.2.1, q.2.2, q0.1, q0.2.1, q0.2.2, q1.1, q1.2.1, q1.2.2, q2.1, q2.2.1, q2.2.2, q3.1, q3.2.1, q3.2.2, q4.1, q4.2.1, q4.2.2, q5.1, q5.2.1, q5.2.2, q6.1, q6.2.1, q6.2.2, q7.1, q7.2.1, q7.2.2, q8.1, q8.2.1, q8.2.2, q9.1, q9.2.1, q9.2.2, q10.1, q10.2.1, q10.2.2, q11.1, q11.2.1, q11.2.2, q12.1, q12.2.1, q12.2.2] at h); exact h
    · trivial
  case steps =>
    refine StepsH.cons rfl ?_ (StepsH.cons rfl ?_ (StepsH.cons rfl ?_ (StepsH.cons rfl ?_ (StepsH.cons rfl ?_ (StepsH.cons rfl ?_ (StepsH.cons rfl ?_ (StepsH.cons rfl ?_ (StepsH.cons rfl ?_ (StepsH.cons rfl ?_ (StepsH.cons rfl ?_ (StepsH.cons rfl ?_ (StepsH.cons rfl ?_ (StepsH.cons rfl ?_ (StepsH.cons rfl ?_ StepsH.nil))))))))))))))
    · rintro v lo hi W hb _ hd
      clear hd
      refine ⟨rfl, ?_⟩
      intro K hK
      dsimp only
      go_wp2_with fail
      exact act_cast (hK (.int .i64 c3) W (Below.refl _ _) rfl) (by simp)
    · rintro v lo hi W hb _ hd
      clear hd
      refine ⟨rfl, ?_⟩
      intro K hK
      dsimp only
      go_wp2_with fail
      exact act_cast (hK (.int .i64 pp) W (Below.refl _ _) rfl) (by simp)
    · rintro v lo hi W hb _ hd
      have e0 : v 0 = .int .i64 c3 := (hd 0 (Region.dep (by kernel_rfl))).2.2
      have e1 : v 1 = .int .i64 pp := (hd 1 (Region.dep (by kernel_rfl))).2.2
      clear hd
      refine ⟨rfl, ?_⟩
      intro K hK
      dsimp only
      (try simp only [e0, e1])
      go_wp2_with fail
      exact act_cast (hK (.int .i64 ra) W (Below.refl _ _) rfl) (by simp [e0, e1])
    · rintro v lo hi W hb _ hd
      clear hd
      refine ⟨rfl, ?_⟩
      intro K hK
      dsimp only
      go_wp2_with fail
      exact act_cast (hK (.int .i64 pp) W (Below.refl _ _) rfl) (by simp)
    · rintro v lo hi W hb _ hd
      have e2 : v 2 = .int .i64 ra := (hd 2 (Region.dep (by kernel_rfl))).2.2
      have e3 : v 3 = .int .i64 pp := (hd 3 (Region.dep (by kernel_rfl))).2.2
      clear hd
      refine ⟨rfl, ?_⟩
      intro K hK
      dsimp only
      (try simp only [e2, e3])
      go_wp2_with (go_at_call 27; refine (every_any _ _ _ ⟨by omega, by omega⟩).mono ?_; rintro e w9 ⟨h, c, rfl, hs, hb9⟩)
      exact act_cast (hK (perV h c 0 pp) w9 hb9 ⟨h, c, rfl, hs⟩) (by simp [e2, e3])
    · rintro v lo hi W hb _ hd
      clear hd
      refine ⟨rfl, ?_⟩
      intro K hK
      dsimp only
      go_wp2_with fail
      exact act_cast (hK (.int .i64 c3) W (Below.refl _ _) rfl) (by simp)
    · rintro v lo hi W hb _ hd
      clear hd
      refine ⟨rfl, ?_⟩
      intro K hK
      dsimp only
      go_wp2_with fail
      exact act_cast (hK (.int .i64 qq) W (Below.refl _ _) rfl) (by simp)
    · rintro v lo hi W hb _ hd
      have e5 : v 5 = .int .i64 c3 := (hd 5 (Region.dep (by kernel_rfl))).2.2
      have e6 : v 6 = .int .i64 qq := (hd 6 (Region.dep (by kernel_rfl))).2.2
      clear hd
      refine ⟨rfl, ?_⟩
      intro K hK
      dsimp only
      (try simp only [e5, e6])
      go_wp2_with fail
      exact act_cast (hK (.int .i64 rb) W (Below.refl _ _) rfl) (by simp [e5, e6])
    · rintro v lo hi W hb _ hd
      clear hd
      refine ⟨rfl, ?_⟩
      intro K hK
      dsimp only
      go_wp2_with fail
      exact act_cast (hK (.int .i64 qq) W (Below.refl _ _) rfl) (by simp)
    · rintro v lo hi W hb _ hd
      obtain ⟨la4, lb4, D4⟩ := hd 4 (Region.dep (by kernel_rfl))
      have e7 : v 7 = .int .i64 rb := (hd 7 (Region.dep (by kernel_rfl))).2.2
      have e8 : v 8 = .int .i64 qq := (hd 8 (Region.dep (by kernel_rfl))).2.2
      clear hd
      refine ⟨rfl, ?_⟩
      intro K hK
      dsimp only
      (try simp only [e7, e8])
      go_wp2_with (go_at_call 27; refine (every_any _ _ _ ⟨by omega, by omega⟩).mono ?_; rintro e w9 ⟨h, c, rfl, hs, hb9⟩)
      exact act_cast (hK (perV h c 0 qq) w9 hb9 ⟨h, c, rfl, hs⟩) (by simp [e7, e8])
    · rintro v lo hi W hb _ hd
      obtain ⟨la4, lb4, D4⟩ := hd 4 (Region.dep (by kernel_rfl))
      obtain ⟨la9, lb9, D9⟩ := hd 9 (Region.dep (by kernel_rfl))
      clear hd
      refine ⟨rfl, ?_⟩
      intro K hK
      dsimp only
      obtain ⟨h0, c0_, e0, s0⟩ := D4
      obtain ⟨h1, c1_, e1, s1⟩ := D9
      simp only [e0, e1]
      go_wp2_with (go_at_call 25; refine (first_ok h0 c0_ h1 c1_ (ev ra pp) (ev rb qq) (ev ra pp) (ev rb qq) 0 _ s0 s1 (ev_valid (by omega) (by omega) (by omega)) (ev_valid (by omega) (by omega) (by omega)) (ev_canon (by omega) (by omega)) (ev_canon (by omega) (by omega)) (show qq ≤ 4294967295 by omega) (by omega) (by omega)).mono ?_; rintro e w9 ⟨n, b, rfl, hF, hb9⟩; obtain ⟨rfl, rfl⟩ := HS5.out.unique hF)
      exact act_cast (hK (.tuple #[.int .i64 s, .bool true]) w9 hb9 rfl) (by simp [ite_true, e0, e1])
    · rintro v lo hi W hb _ hd
      have e10 : v 10 = .tuple #[.int .i64 s, .bool true] := (hd 10 (Region.dep (by kernel_rfl))).2.2
      clear hd
      refine ⟨rfl, ?_⟩
      intro K hK
      dsimp only
      (try simp only [e10])
      go_wp2_with fail
      exact act_cast (hK (.tuple #[.int .i64 s, .bool true]) W (Below.refl _ _) rfl) (by simp [e10])
    · rintro v lo hi W hb _ hd
      have e11 : v 11 = .tuple #[.int .i64 s, .bool true] := (hd 11 (Region.dep (by kernel_rfl))).2.2
      clear hd
      refine ⟨rfl, ?_⟩
      intro K hK
      dsimp only
      (try simp only [e11])
      go_wp2_with fail
      exact act_cast (hK (.int .i64 s) W (Below.refl _ _) rfl) (by simp [e11])
    · rintro v lo hi W hb _ hd
      have e11 : v 11 = .tuple #[.int .i64 s, .bool true] := (hd 11 (Region.dep (by kernel_rfl))).2.2
      clear hd
      refine ⟨rfl, ?_⟩
      intro K hK
      dsimp only
      (try simp only [e11])
      go_wp2_with fail
      exact act_cast (hK (.bool true) W (Below.refl _ _) rfl) (by simp [e11])
    · rintro v lo hi W hb _ hd
      have e0 : v 0 = .int .i64 c3 := (hd 0 (Region.dep (by kernel_rfl))).2.2
      have e1 : v 1 = .int .i64 pp := (hd 1 (Region.dep (by kernel_rfl))).2.2
      have e2 : v 2 = .int .i64 ra := (hd 2 (Region.dep (by kernel_rfl))).2.2
      have e3 : v 3 = .int .i64 pp := (hd 3 (Region.dep (by kernel_rfl))).2.2
      obtain ⟨la4, lb4, D4⟩ := hd 4 (Region.dep (by kernel_rfl))
      have e5 : v 5 = .int .i64 c3 := (hd 5 (Region.dep (by kernel_rfl))).2.2
      have e6 : v 6 = .int .i64 qq := (hd 6 (Region.dep (by kernel_rfl))).2.2
      have e7 : v 7 = .int .i64 rb := (hd 7 (Region.dep (by kernel_rfl))).2.2
      have e8 : v 8 = .int .i64 qq := (hd 8 (Region.dep (by kernel_rfl))).2.2
      obtain ⟨la9, lb9, D9⟩ := hd 9 (Region.dep (by kernel_rfl))
      have e10 : v 10 = .tuple #[.int .i64 s, .bool true] := (hd 10 (Region.dep (by kernel_rfl))).2.2
      have e11 : v 11 = .tuple #[.int .i64 s, .bool true] := (hd 11 (Region.dep (by kernel_rfl))).2.2
      have e12 : v 12 = .int .i64 s := (hd 12 (Region.dep (by kernel_rfl))).2.2
      clear hd
      refine ⟨rfl, ?_⟩
      intro K hK
      dsimp only
      (try simp only [e0, e1, e2, e3, e5, e6, e7, e8, e10, e11, e12])
      go_wp2_with fail
      exact act_cast (hK (.int .i64 s) W (Below.refl _ _) rfl) (by simp [e0, e1, e2, e3, e5, e6, e7, e8, e10, e11, e12])
  case fin =>
    rintro v lo hi W2 hb2 _ hf _
    show wpList _ _ _ [_] _ _
    have f14 : v 14 = .int .i64 s := (hf 14 rfl).2.2.2
    have f13 : v 13 = .bool true := (hf 13 rfl).2.2.2
    clear hf
    dsimp only
    rw [f13, f14]
    clear f13 f14
    generalize v 0 = x0
    generalize v 1 = x1
    generalize v 2 = x2
    generalize v 3 = x3
    generalize v 4 = x4
    generalize v 5 = x5
    generalize v 6 = x6
    generalize v 7 = x7
    generalize v 8 = x8
    generalize v 9 = x9
    generalize v 10 = x10
    generalize v 11 = x11
    generalize v 12 = x12
    go_wp2_with fail
    have HSV : Hid (∀ W, Calls Try.prog 28 #[.int .i64 ra, .int .i64 pp, .int .i64 rb, .int .i64 qq] W fun e w' => e = .returned (.tuple #[.int .i64 s, .int .i64 (lcmI pp qq), .int .i64 0]) ∧ ∃ n, w' = W.drewN n) := Lib.hid fun W => by
      have h := solve_any ra pp rb qq W ⟨by omega, by omega⟩ ⟨by omega, by omega⟩ P0 (by omega) Q0 (by omega) HLL.out HDV.out
      rw [HS4.out] at h
      exact h
    go_quiet ((go_at_call 28; (first | exact Calls.quiet_of (HSV.out _) | exact quiet_add (HSV.out _))))
    go_wp2_with fail
    go_quiet (fail)
    go_wp2_with fail
    go_ret
    exact ⟨rfl, by (repeat' (with_reducible first | assumption | exact Ext.refl _ | refine Ext.alloc ?_ _ | refine Ext.drew ?_ | refine Ext.drewN ?_ _ | (refine Ext.setCell ?_ (by first | (simp; done) | (simp; omega) | omega) _) | refine Ext.trans ?_ (by assumption)))⟩
end Go.Proofs.Ytjilkhhokkncoaa
