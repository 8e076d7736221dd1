/- Walks: PeriodicCanonical (package kalendslaw04). -/
import Derived.Test.YtjilkhhokkncoaaWalkRh
import Derived.Test.YtjilkhhokkncoaaRegS
set_option linter.unusedVariables false
set_option linter.unusedSimpArgs false
namespace Go.Proofs.Ytjilkhhokkncoaa
open Go.RowKit Go.Maps Kal

theorem inI_of {x : Int} (h1 : -9223372036854775808 ≤ x) (h2 : x ≤ 9223372036854775807) : InI x := ⟨h1, h2⟩

/-- the first k days are members of both or of none -/
def agB (x y : Per) (k : Nat) : Bool := (List.range k).all fun i => memB x i == memB y i
theorem agB_succ (x y : Per) (k : Nat) : agB x y (k + 1) = (agB x y k && (memB x k == memB y k)) := by
  unfold agB; rw [List.range_succ, List.all_append]; simp

theorem lcm_132 {a b : Int} (ha : 1 ≤ a) (hb : 1 ≤ b) (h1 : a ≤ 12) (h2 : b ≤ 12) : lcmI a b ≤ 132 := by
  rcases Int.lt_or_le a 12 with h | h
  · have := lcm_le ha hb (show a ≤ 11 by omega) h2; omega
  · rcases Int.lt_or_le b 12 with h' | h'
    · have := lcm_le ha hb h1 (show b ≤ 11 by omega); omega
    · obtain rfl : a = 12 := by omega
      obtain rfl : b = 12 := by omega
      decide

theorem agB_all {x y cx cy : Per} (sx : Sm 20 12 x) (sy : Sm 20 12 y) (hx : IsCanon cx x.mem) (hy : IsCanon cy y.mem) : agB x y 152 = decide (cx = cy) := by
  rw [Bool.eq_iff_iff, decide_eq_true_eq, hx.eq_iff hy]
  unfold agB
  rw [List.all_eq_true]
  have a0 := sx.wf.per
  have b0 := sy.wf.per
  have hl := lcm_132 a0 b0 sx.per sy.per
  have hl0 := lcmI_pos a0 b0
  constructor
  · intro h n
    have px := sx.pf.of_dvd a0 hl0 (lcmI_dvd_left (n := y.period))
    have py := sy.pf.of_dvd b0 hl0 (lcmI_dvd_right (m := x.period))
    have key : ∀ m : Int, 0 ≤ m → m < 152 → (x.mem m ↔ y.mem m) := fun m h0 h1 => by
      have h2 := h m.toNat (by rw [List.mem_range]; omega)
      rw [beq_iff_eq, Int.toNat_of_nonneg h0, Bool.eq_iff_iff, memB_iff h0, memB_iff h0] at h2
      exact h2
    rcases Int.lt_or_le n 0 with hn | hn
    · exact ⟨fun h => absurd h.1 (by omega), fun h => absurd h.1 (by omega)⟩
    · rcases Int.lt_or_le n 20 with hn2 | hn2
      · exact key n hn (by omega)
      · rw [px.shift hl0 hn2, py.shift hl0 hn2]
        have g1 := Int.emod_nonneg (n - 20) (show lcmI x.period y.period ≠ 0 by omega)
        have g2 := Int.emod_lt_of_pos (n - 20) (show 0 < lcmI x.period y.period by omega)
        exact key _ (by omega) (by omega)
  · intro h i hi
    rw [beq_iff_eq, Bool.eq_iff_iff, memB_iff (by omega), memB_iff (by omega)]
    exact h i

set_option maxRecDepth 100000 in
set_option maxHeartbeats 8000000 in
theorem PeriodicCanonical_any (va : Value) (vb : Value) (w : World) (hra : RawIs w va) (hrb : RawIs w vb) :
    Calls Try.prog 9 #[va, vb] w fun e w' => e = .returned (.bool true) ∧ Below w.heap.size w w' := by
  obtain ⟨hva, cva, hla, cla, fa, ta, rfl, hBa, hCa, f0a, f1a, t0a, t1a⟩ := hra
  have HBa := Lib.hid hBa
  have HCa := Lib.hid hCa
  obtain ⟨⟨a1a, c1a, rfl, jA⟩, jB, jC⟩ := hBa
  clear jA jB jC
  obtain ⟨⟨a2a, c2a, rfl, jA⟩, jB, jC⟩ := hCa
  clear jA jB jC
  obtain ⟨hvb, cvb, hlb, clb, fb, tb, rfl, hBb, hCb, f0b, f1b, t0b, t1b⟩ := hrb
  have HBb := Lib.hid hBb
  have HCb := Lib.hid hCb
  obtain ⟨⟨a1b, c1b, rfl, jA⟩, jB, jC⟩ := hBb
  clear jA jB jC
  obtain ⟨⟨a2b, c2b, rfl, jA⟩, jB, jC⟩ := hCb
  clear jA jB jC
  go_enter Try.func9, Try.ntmps9
  go_upto_region 1 with (fail)
  refine wp_abs (F := fun U => BoxIs U (w.heap.size) #[.slice a1a hla.length c1a, .int .u8 fa, .int .u8 ta, .slice a2a cla.length c2a] 24 ∧ BoxIs U (w.heap.size + 1) #[.slice a1b hlb.length c1b, .int .u8 fb, .int .u8 tb, .slice a2b clb.length c2b] 24 ∧ Sets U [] ∧ Below w.heap.size w U) ⟨by (first | (refine BoxIs.at ?_; simp; done) | (refine (BoxIs.at ?_).alloc _; simp; done) | (refine ((BoxIs.at ?_).alloc _).alloc _; simp; done) | (refine (((BoxIs.at ?_).alloc _).alloc _).alloc _; simp; done) | (refine ((((BoxIs.at ?_).alloc _).alloc _).alloc _).alloc _; simp; done) | (refine (((((BoxIs.at ?_).alloc _).alloc _).alloc _).alloc _).alloc _; simp; done) | (refine ((((((BoxIs.at ?_).alloc _).alloc _).alloc _).alloc _).alloc _).alloc _; simp; done) | (refine (((((((BoxIs.at ?_).alloc _).alloc _).alloc _).alloc _).alloc _).alloc _).alloc _; simp; done) | (refine ((((((((BoxIs.at ?_).alloc _).alloc _).alloc _).alloc _).alloc _).alloc _).alloc _).alloc _; simp; done) | (refine (((((((((BoxIs.at ?_).alloc _).alloc _).alloc _).alloc _).alloc _).alloc _).alloc _).alloc _).alloc _; simp; done) | (refine ((((((((((BoxIs.at ?_).alloc _).alloc _).alloc _).alloc _).alloc _).alloc _).alloc _).alloc _).alloc _).alloc _; simp; done) | (refine (((((((((((BoxIs.at ?_).alloc _).alloc _).alloc _).alloc _).alloc _).alloc _).alloc _).alloc _).alloc _).alloc _).alloc _; simp; done)), by (first | (refine BoxIs.at ?_; simp; done) | (refine (BoxIs.at ?_).alloc _; simp; done) | (refine ((BoxIs.at ?_).alloc _).alloc _; simp; done) | (refine (((BoxIs.at ?_).alloc _).alloc _).alloc _; simp; done) | (refine ((((BoxIs.at ?_).alloc _).alloc _).alloc _).alloc _; simp; done) | (refine (((((BoxIs.at ?_).alloc _).alloc _).alloc _).alloc _).alloc _; simp; done) | (refine ((((((BoxIs.at ?_).alloc _).alloc _).alloc _).alloc _).alloc _).alloc _; simp; done) | (refine (((((((BoxIs.at ?_).alloc _).alloc _).alloc _).alloc _).alloc _).alloc _).alloc _; simp; done) | (refine ((((((((BoxIs.at ?_).alloc _).alloc _).alloc _).alloc _).alloc _).alloc _).alloc _).alloc _; simp; done) | (refine (((((((((BoxIs.at ?_).alloc _).alloc _).alloc _).alloc _).alloc _).alloc _).alloc _).alloc _).alloc _; simp; done) | (refine ((((((((((BoxIs.at ?_).alloc _).alloc _).alloc _).alloc _).alloc _).alloc _).alloc _).alloc _).alloc _).alloc _; simp; done) | (refine (((((((((((BoxIs.at ?_).alloc _).alloc _).alloc _).alloc _).alloc _).alloc _).alloc _).alloc _).alloc _).alloc _).alloc _; simp; done)), Sets.nil _, by (repeat' (with_reducible first | assumption | exact Ext.refl _ | refine Ext.alloc ?_ _ | refine Ext.drew ?_ | refine Ext.drewN ?_ _ | (refine Ext.setCell ?_ (by first | (simp; done) | (simp; omega) | omega) _) | refine Ext.trans ?_ (by assumption)))⟩ ?_
  rintro W1 ⟨hWa, hWb, hS, hE⟩
  go_upto_region 2 with (go_at_call 13; refine (sanity_any _).mono ?_; rintro e u1 ⟨rfl, k1⟩)
  refine wp_abs (F := fun U => BoxIs U (w.heap.size) #[.slice a1a hla.length c1a, .int .u8 fa, .int .u8 ta, .slice a2a cla.length c2a] 24 ∧ BoxIs U (w.heap.size + 1) #[.slice a1b hlb.length c1b, .int .u8 fb, .int .u8 tb, .slice a2b clb.length c2b] 24 ∧ Sets U [] ∧ Below w.heap.size w U) ⟨hWa.below (by (repeat' (with_reducible first | assumption | exact Ext.refl _ | refine Ext.alloc ?_ _ | refine Ext.drew ?_ | refine Ext.drewN ?_ _ | (refine Ext.setCell ?_ (by first | (simp; done) | (simp; omega) | omega) _) | refine Ext.trans ?_ (by assumption)))), hWb.below (by (repeat' (with_reducible first | assumption | exact Ext.refl _ | refine Ext.alloc ?_ _ | refine Ext.drew ?_ | refine Ext.drewN ?_ _ | (refine Ext.setCell ?_ (by first | (simp; done) | (simp; omega) | omega) _) | refine Ext.trans ?_ (by assumption)))), hS.below (by (repeat' (with_reducible first | assumption | exact Ext.refl _ | refine Ext.alloc ?_ _ | refine Ext.drew ?_ | refine Ext.drewN ?_ _ | (refine Ext.setCell ?_ (by first | (simp; done) | (simp; omega) | omega) _) | refine Ext.trans ?_ (by assumption)))), by (repeat' (with_reducible first | assumption | exact Ext.refl _ | refine Ext.alloc ?_ _ | refine Ext.drew ?_ | refine Ext.drewN ?_ _ | (refine Ext.setCell ?_ (by first | (simp; done) | (simp; omega) | omega) _) | refine Ext.trans ?_ (by assumption)))⟩ ?_
  clear hWa hWb hS hE k1
  rintro W2 ⟨hWa, hWb, hS, hE⟩
  have r0 := (hWa.cells 0).1
  have r1 := (hWa.cells 1).1
  have r2 := (hWa.cells 2).1
  have r3 := (hWa.cells 3).1
  go_upto_region 3 with (go_at_call 14; refine (Made_any _ _ hla cla fa ta _ (HBa.out.ext (by (repeat' (with_reducible first | assumption | exact Ext.refl _ | refine Ext.alloc ?_ _ | refine Ext.drew ?_ | refine Ext.drewN ?_ _ | (refine Ext.setCell ?_ (by first | (simp; done) | (simp; omega) | omega) _) | refine Ext.trans ?_ (by assumption))))) (HCa.out.ext (by (repeat' (with_reducible first | assumption | exact Ext.refl _ | refine Ext.alloc ?_ _ | refine Ext.drew ?_ | refine Ext.drewN ?_ _ | (refine Ext.setCell ?_ (by first | (simp; done) | (simp; omega) | omega) _) | refine Ext.trans ?_ (by assumption))))) f0a f1a t0a t1a).mono ?_; rintro e uR ⟨hR, cR, x, rfl, oR, wfx, frx, prx, kR⟩; have sR := oR.is; obtain ⟨x1_2, y1_2, x2_2, y2_2, rfl, rfl⟩ := oR.form; clear oR)
  have Sx : Hid (Sm 20 12 x) := Lib.hid ⟨wfx, frx, prx⟩
  refine wp_abs (F := fun U => BoxIs U (w.heap.size + 1) #[.slice a1b hlb.length c1b, .int .u8 fb, .int .u8 tb, .slice a2b clb.length c2b] 24 ∧ Sets U ((uR.heap.size, x) :: []) ∧ Below w.heap.size w U) ⟨hWb.below (by (repeat' (with_reducible first | assumption | exact Ext.refl _ | refine Ext.alloc ?_ _ | refine Ext.drew ?_ | refine Ext.drewN ?_ _ | (refine Ext.setCell ?_ (by first | (simp; done) | (simp; omega) | omega) _) | refine Ext.trans ?_ (by assumption)))), Sets.cons ⟨.slice x1_2 (x : Per).head.length y1_2, .slice x2_2 (x : Per).cycle.length y2_2, by (first | (refine BoxIs.at ?_; simp; done) | (refine (BoxIs.at ?_).alloc _; simp; done) | (refine ((BoxIs.at ?_).alloc _).alloc _; simp; done) | (refine (((BoxIs.at ?_).alloc _).alloc _).alloc _; simp; done) | (refine ((((BoxIs.at ?_).alloc _).alloc _).alloc _).alloc _; simp; done) | (refine (((((BoxIs.at ?_).alloc _).alloc _).alloc _).alloc _).alloc _; simp; done) | (refine ((((((BoxIs.at ?_).alloc _).alloc _).alloc _).alloc _).alloc _).alloc _; simp; done) | (refine (((((((BoxIs.at ?_).alloc _).alloc _).alloc _).alloc _).alloc _).alloc _).alloc _; simp; done) | (refine ((((((((BoxIs.at ?_).alloc _).alloc _).alloc _).alloc _).alloc _).alloc _).alloc _).alloc _; simp; done) | (refine (((((((((BoxIs.at ?_).alloc _).alloc _).alloc _).alloc _).alloc _).alloc _).alloc _).alloc _).alloc _; simp; done) | (refine ((((((((((BoxIs.at ?_).alloc _).alloc _).alloc _).alloc _).alloc _).alloc _).alloc _).alloc _).alloc _).alloc _; simp; done) | (refine (((((((((((BoxIs.at ?_).alloc _).alloc _).alloc _).alloc _).alloc _).alloc _).alloc _).alloc _).alloc _).alloc _).alloc _; simp; done)), sR.ext (by (repeat' (with_reducible first | assumption | exact Ext.refl _ | refine Ext.alloc ?_ _ | refine Ext.drew ?_ | refine Ext.drewN ?_ _ | (refine Ext.setCell ?_ (by first | (simp; done) | (simp; omega) | omega) _) | refine Ext.trans ?_ (by assumption))))⟩ (hS.below (by (repeat' (with_reducible first | assumption | exact Ext.refl _ | refine Ext.alloc ?_ _ | refine Ext.drew ?_ | refine Ext.drewN ?_ _ | (refine Ext.setCell ?_ (by first | (simp; done) | (simp; omega) | omega) _) | refine Ext.trans ?_ (by assumption))))), by (repeat' (with_reducible first | assumption | exact Ext.refl _ | refine Ext.alloc ?_ _ | refine Ext.drew ?_ | refine Ext.drewN ?_ _ | (refine Ext.setCell ?_ (by first | (simp; done) | (simp; omega) | omega) _) | refine Ext.trans ?_ (by assumption)))⟩ ?_
  clear hWa hWb hS hE sR kR r0 r1 r2 r3 wfx frx prx
  generalize uR.heap.size = b2 at *
  rintro W3 ⟨hWb, hS, hE⟩
  have r0 := (hWb.cells 0).1
  have r1 := (hWb.cells 1).1
  have r2 := (hWb.cells 2).1
  have r3 := (hWb.cells 3).1
  go_upto_region 4 with (go_at_call 14; refine (Made_any _ _ hlb clb fb tb _ (HBb.out.ext (by (repeat' (with_reducible first | assumption | exact Ext.refl _ | refine Ext.alloc ?_ _ | refine Ext.drew ?_ | refine Ext.drewN ?_ _ | (refine Ext.setCell ?_ (by first | (simp; done) | (simp; omega) | omega) _) | refine Ext.trans ?_ (by assumption))))) (HCb.out.ext (by (repeat' (with_reducible first | assumption | exact Ext.refl _ | refine Ext.alloc ?_ _ | refine Ext.drew ?_ | refine Ext.drewN ?_ _ | (refine Ext.setCell ?_ (by first | (simp; done) | (simp; omega) | omega) _) | refine Ext.trans ?_ (by assumption))))) f0b f1b t0b t1b).mono ?_; rintro e uR ⟨hR, cR, y, rfl, oR, wfy, fry, pry, kR⟩; have sR := oR.is; obtain ⟨x1_3, y1_3, x2_3, y2_3, rfl, rfl⟩ := oR.form; clear oR)
  have Sy : Hid (Sm 20 12 y) := Lib.hid ⟨wfy, fry, pry⟩
  refine wp_abs (F := fun U => Sets U ((uR.heap.size, y) :: [(b2, x)]) ∧ Below w.heap.size w U) ⟨Sets.cons ⟨.slice x1_3 (y : Per).head.length y1_3, .slice x2_3 (y : Per).cycle.length y2_3, by (first | (refine BoxIs.at ?_; simp; done) | (refine (BoxIs.at ?_).alloc _; simp; done) | (refine ((BoxIs.at ?_).alloc _).alloc _; simp; done) | (refine (((BoxIs.at ?_).alloc _).alloc _).alloc _; simp; done) | (refine ((((BoxIs.at ?_).alloc _).alloc _).alloc _).alloc _; simp; done) | (refine (((((BoxIs.at ?_).alloc _).alloc _).alloc _).alloc _).alloc _; simp; done) | (refine ((((((BoxIs.at ?_).alloc _).alloc _).alloc _).alloc _).alloc _).alloc _; simp; done) | (refine (((((((BoxIs.at ?_).alloc _).alloc _).alloc _).alloc _).alloc _).alloc _).alloc _; simp; done) | (refine ((((((((BoxIs.at ?_).alloc _).alloc _).alloc _).alloc _).alloc _).alloc _).alloc _).alloc _; simp; done) | (refine (((((((((BoxIs.at ?_).alloc _).alloc _).alloc _).alloc _).alloc _).alloc _).alloc _).alloc _).alloc _; simp; done) | (refine ((((((((((BoxIs.at ?_).alloc _).alloc _).alloc _).alloc _).alloc _).alloc _).alloc _).alloc _).alloc _).alloc _; simp; done) | (refine (((((((((((BoxIs.at ?_).alloc _).alloc _).alloc _).alloc _).alloc _).alloc _).alloc _).alloc _).alloc _).alloc _).alloc _; simp; done)), sR.ext (by (repeat' (with_reducible first | assumption | exact Ext.refl _ | refine Ext.alloc ?_ _ | refine Ext.drew ?_ | refine Ext.drewN ?_ _ | (refine Ext.setCell ?_ (by first | (simp; done) | (simp; omega) | omega) _) | refine Ext.trans ?_ (by assumption))))⟩ (hS.below (by (repeat' (with_reducible first | assumption | exact Ext.refl _ | refine Ext.alloc ?_ _ | refine Ext.drew ?_ | refine Ext.drewN ?_ _ | (refine Ext.setCell ?_ (by first | (simp; done) | (simp; omega) | omega) _) | refine Ext.trans ?_ (by assumption))))), by (repeat' (with_reducible first | assumption | exact Ext.refl _ | refine Ext.alloc ?_ _ | refine Ext.drew ?_ | refine Ext.drewN ?_ _ | (refine Ext.setCell ?_ (by first | (simp; done) | (simp; omega) | omega) _) | refine Ext.trans ?_ (by assumption)))⟩ ?_
  clear hWb hS hE sR kR r0 r1 r2 r3 wfy fry pry
  generalize uR.heap.size = b3 at *
  rintro W4 ⟨hS, hE⟩
  obtain ⟨cx, hqcx, hscx⟩ := Sx.out.canon
  have Qcx := Lib.hid hqcx
  have Scx := Lib.hid hscx
  clear hqcx hscx
  obtain ⟨cy, hqcy, hscy⟩ := Sy.out.canon
  have Qcy := Lib.hid hqcy
  have Scy := Lib.hid hscy
  clear hqcy hscy
  obtain ⟨hA_4, cA_4, gA⟩ := hS.at 1 rfl
  have qa0 := (gA.box.cells 0).1
  have qa1 := (gA.box.cells 1).1
  have qa2 := (gA.box.cells 2).1
  have qa3 := (gA.box.cells 3).1
  go_upto_region 5 with (go_at_call 31; refine (Canon_ok hA_4 cA_4 x cx _ (gA.is.ext (by (repeat' (with_reducible first | assumption | exact Ext.refl _ | refine Ext.alloc ?_ _ | refine Ext.drew ?_ | refine Ext.drewN ?_ _ | (refine Ext.setCell ?_ (by first | (simp; done) | (simp; omega) | omega) _) | refine Ext.trans ?_ (by assumption))))) (Sx.out.valid (by omega)) Qcx.out).mono ?_; rintro e uR ⟨hR_4, cR_4, rfl, oR, kR⟩; have sR := oR.is; obtain ⟨x1_4, y1_4, x2_4, y2_4, rfl, rfl⟩ := oR.form; clear oR)
  refine wp_abs (F := fun U => Sets U ((uR.heap.size, cx) :: [(b3, y), (b2, x)]) ∧ Below w.heap.size w U) ⟨Sets.cons ⟨.slice x1_4 (cx : Per).head.length y1_4, .slice x2_4 (cx : Per).cycle.length y2_4, by (first | (refine BoxIs.at ?_; simp; done) | (refine (BoxIs.at ?_).alloc _; simp; done) | (refine ((BoxIs.at ?_).alloc _).alloc _; simp; done) | (refine (((BoxIs.at ?_).alloc _).alloc _).alloc _; simp; done) | (refine ((((BoxIs.at ?_).alloc _).alloc _).alloc _).alloc _; simp; done) | (refine (((((BoxIs.at ?_).alloc _).alloc _).alloc _).alloc _).alloc _; simp; done) | (refine ((((((BoxIs.at ?_).alloc _).alloc _).alloc _).alloc _).alloc _).alloc _; simp; done) | (refine (((((((BoxIs.at ?_).alloc _).alloc _).alloc _).alloc _).alloc _).alloc _).alloc _; simp; done) | (refine ((((((((BoxIs.at ?_).alloc _).alloc _).alloc _).alloc _).alloc _).alloc _).alloc _).alloc _; simp; done) | (refine (((((((((BoxIs.at ?_).alloc _).alloc _).alloc _).alloc _).alloc _).alloc _).alloc _).alloc _).alloc _; simp; done) | (refine ((((((((((BoxIs.at ?_).alloc _).alloc _).alloc _).alloc _).alloc _).alloc _).alloc _).alloc _).alloc _).alloc _; simp; done) | (refine (((((((((((BoxIs.at ?_).alloc _).alloc _).alloc _).alloc _).alloc _).alloc _).alloc _).alloc _).alloc _).alloc _).alloc _; simp; done)), sR.ext (by (repeat' (with_reducible first | assumption | exact Ext.refl _ | refine Ext.alloc ?_ _ | refine Ext.drew ?_ | refine Ext.drewN ?_ _ | (refine Ext.setCell ?_ (by first | (simp; done) | (simp; omega) | omega) _) | refine Ext.trans ?_ (by assumption))))⟩ (hS.below (by (repeat' (with_reducible first | assumption | exact Ext.refl _ | refine Ext.alloc ?_ _ | refine Ext.drew ?_ | refine Ext.drewN ?_ _ | (refine Ext.setCell ?_ (by first | (simp; done) | (simp; omega) | omega) _) | refine Ext.trans ?_ (by assumption))))), by (repeat' (with_reducible first | assumption | exact Ext.refl _ | refine Ext.alloc ?_ _ | refine Ext.drew ?_ | refine Ext.drewN ?_ _ | (refine Ext.setCell ?_ (by first | (simp; done) | (simp; omega) | omega) _) | refine Ext.trans ?_ (by assumption)))⟩ ?_
  clear hS hE sR kR gA qa0 qa1 qa2 qa3
  generalize uR.heap.size = b4 at *
  rintro W5 ⟨hS, hE⟩
  obtain ⟨hA_5, cA_5, gA⟩ := hS.at 1 rfl
  have qa0 := (gA.box.cells 0).1
  have qa1 := (gA.box.cells 1).1
  have qa2 := (gA.box.cells 2).1
  have qa3 := (gA.box.cells 3).1
  go_upto_region 6 with (go_at_call 31; refine (Canon_ok hA_5 cA_5 y cy _ (gA.is.ext (by (repeat' (with_reducible first | assumption | exact Ext.refl _ | refine Ext.alloc ?_ _ | refine Ext.drew ?_ | refine Ext.drewN ?_ _ | (refine Ext.setCell ?_ (by first | (simp; done) | (simp; omega) | omega) _) | refine Ext.trans ?_ (by assumption))))) (Sy.out.valid (by omega)) Qcy.out).mono ?_; rintro e uR ⟨hR_5, cR_5, rfl, oR, kR⟩; have sR := oR.is; obtain ⟨x1_5, y1_5, x2_5, y2_5, rfl, rfl⟩ := oR.form; clear oR)
  refine wp_abs (F := fun U => Sets U ((uR.heap.size, cy) :: [(b4, cx), (b3, y), (b2, x)]) ∧ Below w.heap.size w U) ⟨Sets.cons ⟨.slice x1_5 (cy : Per).head.length y1_5, .slice x2_5 (cy : Per).cycle.length y2_5, by (first | (refine BoxIs.at ?_; simp; done) | (refine (BoxIs.at ?_).alloc _; simp; done) | (refine ((BoxIs.at ?_).alloc _).alloc _; simp; done) | (refine (((BoxIs.at ?_).alloc _).alloc _).alloc _; simp; done) | (refine ((((BoxIs.at ?_).alloc _).alloc _).alloc _).alloc _; simp; done) | (refine (((((BoxIs.at ?_).alloc _).alloc _).alloc _).alloc _).alloc _; simp; done) | (refine ((((((BoxIs.at ?_).alloc _).alloc _).alloc _).alloc _).alloc _).alloc _; simp; done) | (refine (((((((BoxIs.at ?_).alloc _).alloc _).alloc _).alloc _).alloc _).alloc _).alloc _; simp; done) | (refine ((((((((BoxIs.at ?_).alloc _).alloc _).alloc _).alloc _).alloc _).alloc _).alloc _).alloc _; simp; done) | (refine (((((((((BoxIs.at ?_).alloc _).alloc _).alloc _).alloc _).alloc _).alloc _).alloc _).alloc _).alloc _; simp; done) | (refine ((((((((((BoxIs.at ?_).alloc _).alloc _).alloc _).alloc _).alloc _).alloc _).alloc _).alloc _).alloc _).alloc _; simp; done) | (refine (((((((((((BoxIs.at ?_).alloc _).alloc _).alloc _).alloc _).alloc _).alloc _).alloc _).alloc _).alloc _).alloc _).alloc _; simp; done)), sR.ext (by (repeat' (with_reducible first | assumption | exact Ext.refl _ | refine Ext.alloc ?_ _ | refine Ext.drew ?_ | refine Ext.drewN ?_ _ | (refine Ext.setCell ?_ (by first | (simp; done) | (simp; omega) | omega) _) | refine Ext.trans ?_ (by assumption))))⟩ (hS.below (by (repeat' (with_reducible first | assumption | exact Ext.refl _ | refine Ext.alloc ?_ _ | refine Ext.drew ?_ | refine Ext.drewN ?_ _ | (refine Ext.setCell ?_ (by first | (simp; done) | (simp; omega) | omega) _) | refine Ext.trans ?_ (by assumption))))), by (repeat' (with_reducible first | assumption | exact Ext.refl _ | refine Ext.alloc ?_ _ | refine Ext.drew ?_ | refine Ext.drewN ?_ _ | (refine Ext.setCell ?_ (by first | (simp; done) | (simp; omega) | omega) _) | refine Ext.trans ?_ (by assumption)))⟩ ?_
  clear hS hE sR kR gA qa0 qa1 qa2 qa3
  generalize uR.heap.size = b5 at *
  rintro W6 ⟨hS, hE⟩
  have Qag : Hid (IsCanon cx cx.mem) := Lib.hid (Qcx.out.congr fun n => (Qcx.out.mem n).symm)
  obtain ⟨hA_6, cA_6, gA⟩ := hS.at 1 rfl
  have qa0 := (gA.box.cells 0).1
  have qa1 := (gA.box.cells 1).1
  have qa2 := (gA.box.cells 2).1
  have qa3 := (gA.box.cells 3).1
  go_upto_region 7 with (go_at_call 31; refine (Canon_ok hA_6 cA_6 cx cx _ (gA.is.ext (by (repeat' (with_reducible first | assumption | exact Ext.refl _ | refine Ext.alloc ?_ _ | refine Ext.drew ?_ | refine Ext.drewN ?_ _ | (refine Ext.setCell ?_ (by first | (simp; done) | (simp; omega) | omega) _) | refine Ext.trans ?_ (by assumption))))) (Scx.out.valid (by omega)) Qag.out).mono ?_; rintro e uR ⟨hR_6, cR_6, rfl, oR, kR⟩; have sR := oR.is; obtain ⟨x1_6, y1_6, x2_6, y2_6, rfl, rfl⟩ := oR.form; clear oR)
  refine wp_abs (F := fun U => Sets U ((uR.heap.size, cx) :: [(b5, cy), (b4, cx), (b3, y), (b2, x)]) ∧ Below w.heap.size w U) ⟨Sets.cons ⟨.slice x1_6 (cx : Per).head.length y1_6, .slice x2_6 (cx : Per).cycle.length y2_6, by (first | (refine BoxIs.at ?_; simp; done) | (refine (BoxIs.at ?_).alloc _; simp; done) | (refine ((BoxIs.at ?_).alloc _).alloc _; simp; done) | (refine (((BoxIs.at ?_).alloc _).alloc _).alloc _; simp; done) | (refine ((((BoxIs.at ?_).alloc _).alloc _).alloc _).alloc _; simp; done) | (refine (((((BoxIs.at ?_).alloc _).alloc _).alloc _).alloc _).alloc _; simp; done) | (refine ((((((BoxIs.at ?_).alloc _).alloc _).alloc _).alloc _).alloc _).alloc _; simp; done) | (refine (((((((BoxIs.at ?_).alloc _).alloc _).alloc _).alloc _).alloc _).alloc _).alloc _; simp; done) | (refine ((((((((BoxIs.at ?_).alloc _).alloc _).alloc _).alloc _).alloc _).alloc _).alloc _).alloc _; simp; done) | (refine (((((((((BoxIs.at ?_).alloc _).alloc _).alloc _).alloc _).alloc _).alloc _).alloc _).alloc _).alloc _; simp; done) | (refine ((((((((((BoxIs.at ?_).alloc _).alloc _).alloc _).alloc _).alloc _).alloc _).alloc _).alloc _).alloc _).alloc _; simp; done) | (refine (((((((((((BoxIs.at ?_).alloc _).alloc _).alloc _).alloc _).alloc _).alloc _).alloc _).alloc _).alloc _).alloc _).alloc _; simp; done)), sR.ext (by (repeat' (with_reducible first | assumption | exact Ext.refl _ | refine Ext.alloc ?_ _ | refine Ext.drew ?_ | refine Ext.drewN ?_ _ | (refine Ext.setCell ?_ (by first | (simp; done) | (simp; omega) | omega) _) | refine Ext.trans ?_ (by assumption))))⟩ (hS.below (by (repeat' (with_reducible first | assumption | exact Ext.refl _ | refine Ext.alloc ?_ _ | refine Ext.drew ?_ | refine Ext.drewN ?_ _ | (refine Ext.setCell ?_ (by first | (simp; done) | (simp; omega) | omega) _) | refine Ext.trans ?_ (by assumption))))), by (repeat' (with_reducible first | assumption | exact Ext.refl _ | refine Ext.alloc ?_ _ | refine Ext.drew ?_ | refine Ext.drewN ?_ _ | (refine Ext.setCell ?_ (by first | (simp; done) | (simp; omega) | omega) _) | refine Ext.trans ?_ (by assumption)))⟩ ?_
  clear hS hE sR kR gA qa0 qa1 qa2 qa3
  generalize uR.heap.size = b6 at *
  rintro W7 ⟨hS, hE⟩
  have HS := Lib.hid hS
  have HE := Lib.hid hE
  clear hS hE
  go_wp2_with fail
  go_loopw [14, 15] (fun vs vk wr => ∃ k : Nat, k ≤ 152 ∧ vk = .int .i64 k ∧ vs = .bool (agB x y k) ∧ Below W7.heap.size W7 wr) (fun _ k _ => 152 - (intOf k).toNat)
  case atStart => exact ⟨0, by omega, rfl, rfl, Below.refl _ _⟩
  case round =>
    obtain ⟨k, hk, rfl, rfl, hb⟩ := hrel
    have HB := Lib.hid hb
    clear hb
    by_cases hlt : k < 152
    · have hkI : (k : Int) < 152 := by omega
      have hS := HS.out.below HB.out
      have HSU := Lib.hid (agB_succ x y k)
      obtain ⟨bx, hbx⟩ : ∃ bx, bx = memB x k := ⟨_, rfl⟩
      obtain ⟨by_, hby⟩ : ∃ by_, by_ = memB y k := ⟨_, rfl⟩
      have HX : Hid ((validB x && decide (0 ≤ (k : Int)) && memB x k) = bx) := Lib.hid (by rw [(validB_iff x).2 (Sx.out.valid (by omega)), decide_eq_true (show 0 ≤ (k : Int) by omega), hbx]; rfl)
      have HY : Hid ((validB y && decide (0 ≤ (k : Int)) && memB y k) = by_) := Lib.hid (by rw [(validB_iff y).2 (Sy.out.valid (by omega)), decide_eq_true (show 0 ≤ (k : Int) by omega), hby]; rfl)
      have HC : Hid ((validB cx && decide (0 ≤ (k : Int)) && memB cx k) = bx) := Lib.hid (by
        rw [(validB_iff cx).2 (Scx.out.valid (by omega)), decide_eq_true (show 0 ≤ (k : Int) by omega), hbx, Bool.eq_iff_iff]
        show memB cx k = true ↔ _
        rw [memB_iff (by omega), memB_iff (by omega)]; exact Qcx.out.mem k)
      rw [← hbx, ← hby] at HSU
      clear hbx hby
      obtain ⟨sm, hsm⟩ : ∃ sm, sm = agB x y k := ⟨_, rfl⟩
      rw [← hsm] at HSU
      rw [← hsm]
      clear hsm
      have VX := Lib.hid (Sx.out.valid (by omega))
      have VY := Lib.hid (Sy.out.valid (by omega))
      have IX : Hid (InI x.frm ∧ InI x.period) := Lib.hid (by have h1 := Sx.out.wf.frm; have h2 := Sx.out.wf.per; have h3 := Sx.out.frm; have h4 := Sx.out.per; exact ⟨inI_of (by omega) (by omega), inI_of (by omega) (by omega)⟩)
      have IY : Hid (InI y.frm ∧ InI y.period) := Lib.hid (by have h1 := Sy.out.wf.frm; have h2 := Sy.out.wf.per; have h3 := Sy.out.frm; have h4 := Sy.out.per; exact ⟨inI_of (by omega) (by omega), inI_of (by omega) (by omega)⟩)
      cases sm
      · go_wp2_with fail
        refine wp_region_factsS (w0 := wr) [0, 1, 2, 3, 4, 5, 6, 7, 8, 9] [10] (fun v => ⟨#[Value.agg #[Value.slice a1a hla.length c1a, Value.int IntKind.u8 fa, Value.int IntKind.u8 ta, Value.slice a2a cla.length c2a], Value.agg #[Value.slice a1b hlb.length c1b, Value.int IntKind.u8 fb, Value.int IntKind.u8 tb, Value.slice a2b clb.length c2b], Value.pointer (some { block := w.heap.size, off := 0 }), Value.pointer (some { block := w.heap.size + 1, off := 0 }), u4, Value.bool true, Value.pointer (some { block := b2, off := 0 }), Value.pointer (some { block := b3, off := 0 }), Value.pointer (some { block := b4, off := 0 }), Value.int IntKind.i64 0, Value.pointer (some { block := b5, off := 0 }), Value.int IntKind.i64 0, Value.pointer (some { block := b6, off := 0 }), Value.int IntKind.i64 0, Value.bool false, Value.int IntKind.i64 ↑k, Value.bool true, Value.agg #[Value.slice a1a hla.length c1a, Value.int IntKind.u8 fa, Value.int IntKind.u8 ta, Value.slice a2a cla.length c2a], perV (Value.slice x1_2 x.head.length y1_2) (Value.slice x2_2 x.cycle.length y2_2) x.frm x.period, Value.agg #[Value.slice a1b hlb.length c1b, Value.int IntKind.u8 fb, Value.int IntKind.u8 tb, Value.slice a2b clb.length c2b], perV (Value.slice x1_3 y.head.length y1_3) (Value.slice x2_3 y.cycle.length y2_3) y.frm y.period, Value.tuple #[perV (Value.slice x1_4 cx.head.length y1_4) (Value.slice x2_4 cx.cycle.length y2_4) cx.frm cx.period, Value.int IntKind.i64 0], Value.agg #[hA_4, Value.int IntKind.i64 x.frm, Value.int IntKind.i64 x.period, cA_4], Value.tuple #[perV (Value.slice x1_4 cx.head.length y1_4) (Value.slice x2_4 cx.cycle.length y2_4) cx.frm cx.period, Value.int IntKind.i64 0], perV (Value.slice x1_4 cx.head.length y1_4) (Value.slice x2_4 cx.cycle.length y2_4) cx.frm cx.period, Value.int IntKind.i64 0, Value.tuple #[perV (Value.slice x1_5 cy.head.length y1_5) (Value.slice x2_5 cy.cycle.length y2_5) cy.frm cy.period, Value.int IntKind.i64 0], Value.agg #[hA_5, Value.int IntKind.i64 y.frm, Value.int IntKind.i64 y.period, cA_5], Value.tuple #[perV (Value.slice x1_5 cy.head.length y1_5) (Value.slice x2_5 cy.cycle.length y2_5) cy.frm cy.period, Value.int IntKind.i64 0], perV (Value.slice x1_5 cy.head.length y1_5) (Value.slice x2_5 cy.cycle.length y2_5) cy.frm cy.period, Value.int IntKind.i64 0, Value.tuple #[perV (Value.slice x1_6 cx.head.length y1_6) (Value.slice x2_6 cx.cycle.length y2_6) cx.frm cx.period, Value.int IntKind.i64 0], Value.agg #[hA_6, Value.int IntKind.i64 cx.frm, Value.int IntKind.i64 cx.period, cA_6], Value.tuple #[perV (Value.slice x1_6 cx.head.length y1_6) (Value.slice x2_6 cx.cycle.length y2_6) cx.frm cx.period, Value.int IntKind.i64 0], perV (Value.slice x1_6 cx.head.length y1_6) (Value.slice x2_6 cx.cycle.length y2_6) cx.frm cx.period, Value.int IntKind.i64 0, Value.int IntKind.i64 ↑k, Value.bool true, u38, u39, v 0, v 1, v 2, v 3, v 4, v 5, v 6, v 7, v 8, v 9, u50, u51, u52, u53, u54, u55, u56, undef, undef, undef, undef, undef, undef, undef, undef, undef, undef, undef, undef, undef, undef, undef, undef, undef, undef, undef, undef, undef, undef, undef, undef, undef, undef, undef, undef, undef, undef, undef, undef, undef, undef, undef, undef, undef, undef, undef, undef, undef, undef, undef, undef, undef, undef, undef, undef, undef, undef, undef, undef, undef, undef, undef, undef, undef, undef, undef, undef, undef, undef, undef], []⟩) (fun j => match j with | 0 => u40 | 1 => u41 | 2 => u42 | 3 => u43 | 4 => u44 | 5 => u45 | 6 => u46 | 7 => u47 | 8 => u48 | 9 => u49 | _ => undef)
          (fun i v lo hi W => match i with
            | 0 => v 0 = .bool false
            | 1 => v 1 = .bool false
            | 2 => v 2 = undef
            | 3 => v 3 = undef
            | 4 => v 4 = undef
            | 5 => v 5 = undef
            | 6 => v 6 = undef
            | 7 => v 7 = undef
            | 8 => v 8 = undef
            | 9 => v 9 = .bool false
            | _ => True)
          (fun W => Sets W [(b6, cx), (b5, cy), (b4, cx), (b3, y), (b2, x)]) rfl (by kernel_rfl) (by decide) rfl ?stab ?loc (fun W hb => hS.below hb) ?steps ?fin
        case stab =>
          rintro (_ | _ | _ | _ | _ | _ | _ | _ | _ | _ | i) v lo hi W W' h hb
          · exact h
          · exact h
          · exact h
          · exact h
          · exact h
          · exact h
          · exact h
          · exact h
          · exact h
          · exact h
          · trivial
        case loc =>
          rintro (_ | _ | _ | _ | _ | _ | _ | _ | _ | _ | i) v v' lo lo' hi hi' W hag h
          · exact (hag 0 (.inl rfl)).1 ▸ h
          · exact (hag 1 (.inl rfl)).1 ▸ h
          · exact (hag 2 (.inl rfl)).1 ▸ h
          · exact (hag 3 (.inl rfl)).1 ▸ h
          · exact (hag 4 (.inl rfl)).1 ▸ h
          · exact (hag 5 (.inl rfl)).1 ▸ h
          · exact (hag 6 (.inl rfl)).1 ▸ h
          · exact (hag 7 (.inl rfl)).1 ▸ h
          · exact (hag 8 (.inl rfl)).1 ▸ h
          · exact (hag 9 (.inl rfl)).1 ▸ h
          · trivial
        case steps =>
          refine StepsS.cons rfl ?_ (StepsS.cons rfl ?_ (StepsS.cons rfl ?_ (StepsS.cons rfl ?_ (StepsS.cons rfl ?_ (StepsS.cons rfl ?_ (StepsS.cons rfl ?_ (StepsS.cons rfl ?_ (StepsS.cons rfl ?_ (StepsS.cons rfl ?_ StepsS.nil)))))))))
          · rintro v lo hi W hb hs_ hd
            clear hd
            refine .inl ⟨rfl, ?_⟩
            intro K hK
            dsimp only
            go_wp2_with fail
            exact act_cast (hK (.bool false) W (Below.refl _ _) rfl) (by simp)
          · rintro v lo hi W hb hs_ hd
            have e0 : v 0 = .bool false := (hd 0 (Region.dep (by kernel_rfl))).2.2
            clear hd
            refine .inl ⟨rfl, ?_⟩
            intro K hK
            dsimp only
            (try simp only [e0])
            go_wp2_with fail
            exact act_cast (hK (.bool false) W (Below.refl _ _) rfl) (by simp [e0])
          · rintro v lo hi W hb hs_ hd
            have e1 : v 1 = .bool false := (hd 1 (Region.dep (by kernel_rfl))).2.2
            clear hd
            refine .inr ⟨(by show ((match some (v 1) with | some (Value.bool b) => some b | _ => none) == some true) = false; rw [e1]; rfl), ?_⟩
            intro K hK
            exact act_cast (hK undef W (Below.refl _ _) rfl) (by simp [Act.put])
          · rintro v lo hi W hb hs_ hd
            have e1 : v 1 = .bool false := (hd 1 (Region.dep (by kernel_rfl))).2.2
            clear hd
            refine .inr ⟨(by show ((match some (v 1) with | some (Value.bool b) => some b | _ => none) == some true) = false; rw [e1]; rfl), ?_⟩
            intro K hK
            exact act_cast (hK undef W (Below.refl _ _) rfl) (by simp [Act.put])
          · rintro v lo hi W hb hs_ hd
            have e1 : v 1 = .bool false := (hd 1 (Region.dep (by kernel_rfl))).2.2
            have e2 : v 2 = undef := (hd 2 (Region.dep (by kernel_rfl))).2.2
            have e3 : v 3 = undef := (hd 3 (Region.dep (by kernel_rfl))).2.2
            clear hd
            refine .inr ⟨(by show ((match some (v 1) with | some (Value.bool b) => some b | _ => none) == some true) = false; rw [e1]; rfl), ?_⟩
            intro K hK
            exact act_cast (hK undef W (Below.refl _ _) rfl) (by simp [Act.put])
          · rintro v lo hi W hb hs_ hd
            have e1 : v 1 = .bool false := (hd 1 (Region.dep (by kernel_rfl))).2.2
            clear hd
            refine .inr ⟨(by show ((match some (v 1) with | some (Value.bool b) => some b | _ => none) == some true) = false; rw [e1]; rfl), ?_⟩
            intro K hK
            exact act_cast (hK undef W (Below.refl _ _) rfl) (by simp [Act.put])
          · rintro v lo hi W hb hs_ hd
            have e1 : v 1 = .bool false := (hd 1 (Region.dep (by kernel_rfl))).2.2
            clear hd
            refine .inr ⟨(by show ((match some (v 1) with | some (Value.bool b) => some b | _ => none) == some true) = false; rw [e1]; rfl), ?_⟩
            intro K hK
            exact act_cast (hK undef W (Below.refl _ _) rfl) (by simp [Act.put])
          · rintro v lo hi W hb hs_ hd
            have e1 : v 1 = .bool false := (hd 1 (Region.dep (by kernel_rfl))).2.2
            have e5 : v 5 = undef := (hd 5 (Region.dep (by kernel_rfl))).2.2
            have e6 : v 6 = undef := (hd 6 (Region.dep (by kernel_rfl))).2.2
            clear hd
            refine .inr ⟨(by show ((match some (v 1) with | some (Value.bool b) => some b | _ => none) == some true) = false; rw [e1]; rfl), ?_⟩
            intro K hK
            exact act_cast (hK undef W (Below.refl _ _) rfl) (by simp [Act.put])
          · rintro v lo hi W hb hs_ hd
            have e1 : v 1 = .bool false := (hd 1 (Region.dep (by kernel_rfl))).2.2
            have e4 : v 4 = undef := (hd 4 (Region.dep (by kernel_rfl))).2.2
            have e7 : v 7 = undef := (hd 7 (Region.dep (by kernel_rfl))).2.2
            clear hd
            refine .inr ⟨(by show ((match some (v 1) with | some (Value.bool b) => some b | _ => none) == some true) = false; rw [e1]; rfl), ?_⟩
            intro K hK
            exact act_cast (hK undef W (Below.refl _ _) rfl) (by simp [Act.put])
          · rintro v lo hi W hb hs_ hd
            have e1 : v 1 = .bool false := (hd 1 (Region.dep (by kernel_rfl))).2.2
            have e8 : v 8 = undef := (hd 8 (Region.dep (by kernel_rfl))).2.2
            clear hd
            refine .inl ⟨rfl, ?_⟩
            intro K hK
            dsimp only
            (try simp only [e1, e8])
            go_wp2_with fail
            exact act_cast (hK (.bool false) W (Below.refl _ _) rfl) (by simp [e1, e8])
        case fin =>
          rintro v lo hi W2 hb2 _ hf _
          show wpList _ _ _ [_] _ _
          have f9 : v 9 = .bool false := (hf 9 rfl).2.2.2
          clear hf
          dsimp only
          rw [f9]
          clear f9
          generalize v 0 = x0
          generalize v 1 = x1
          generalize v 2 = x2
          generalize v 3 = x3
          generalize v 4 = x4
          generalize v 5 = x5
          generalize v 6 = x6
          generalize v 7 = x7
          generalize v 8 = x8
          have hS2 := hS.below hb2
          go_wp2_with fail
          refine wp_region_factsS (w0 := W2) [0, 1, 2, 3, 4, 5, 6] [] (fun v => ⟨#[Value.agg #[Value.slice a1a hla.length c1a, Value.int IntKind.u8 fa, Value.int IntKind.u8 ta, Value.slice a2a cla.length c2a], Value.agg #[Value.slice a1b hlb.length c1b, Value.int IntKind.u8 fb, Value.int IntKind.u8 tb, Value.slice a2b clb.length c2b], Value.pointer (some { block := w.heap.size, off := 0 }), Value.pointer (some { block := w.heap.size + 1, off := 0 }), u4, Value.bool true, Value.pointer (some { block := b2, off := 0 }), Value.pointer (some { block := b3, off := 0 }), Value.pointer (some { block := b4, off := 0 }), Value.int IntKind.i64 0, Value.pointer (some { block := b5, off := 0 }), Value.int IntKind.i64 0, Value.pointer (some { block := b6, off := 0 }), Value.int IntKind.i64 0, Value.bool false, Value.int IntKind.i64 ↑k, Value.bool true, Value.agg #[Value.slice a1a hla.length c1a, Value.int IntKind.u8 fa, Value.int IntKind.u8 ta, Value.slice a2a cla.length c2a], perV (Value.slice x1_2 x.head.length y1_2) (Value.slice x2_2 x.cycle.length y2_2) x.frm x.period, Value.agg #[Value.slice a1b hlb.length c1b, Value.int IntKind.u8 fb, Value.int IntKind.u8 tb, Value.slice a2b clb.length c2b], perV (Value.slice x1_3 y.head.length y1_3) (Value.slice x2_3 y.cycle.length y2_3) y.frm y.period, Value.tuple #[perV (Value.slice x1_4 cx.head.length y1_4) (Value.slice x2_4 cx.cycle.length y2_4) cx.frm cx.period, Value.int IntKind.i64 0], Value.agg #[hA_4, Value.int IntKind.i64 x.frm, Value.int IntKind.i64 x.period, cA_4], Value.tuple #[perV (Value.slice x1_4 cx.head.length y1_4) (Value.slice x2_4 cx.cycle.length y2_4) cx.frm cx.period, Value.int IntKind.i64 0], perV (Value.slice x1_4 cx.head.length y1_4) (Value.slice x2_4 cx.cycle.length y2_4) cx.frm cx.period, Value.int IntKind.i64 0, Value.tuple #[perV (Value.slice x1_5 cy.head.length y1_5) (Value.slice x2_5 cy.cycle.length y2_5) cy.frm cy.period, Value.int IntKind.i64 0], Value.agg #[hA_5, Value.int IntKind.i64 y.frm, Value.int IntKind.i64 y.period, cA_5], Value.tuple #[perV (Value.slice x1_5 cy.head.length y1_5) (Value.slice x2_5 cy.cycle.length y2_5) cy.frm cy.period, Value.int IntKind.i64 0], perV (Value.slice x1_5 cy.head.length y1_5) (Value.slice x2_5 cy.cycle.length y2_5) cy.frm cy.period, Value.int IntKind.i64 0, Value.tuple #[perV (Value.slice x1_6 cx.head.length y1_6) (Value.slice x2_6 cx.cycle.length y2_6) cx.frm cx.period, Value.int IntKind.i64 0], Value.agg #[hA_6, Value.int IntKind.i64 cx.frm, Value.int IntKind.i64 cx.period, cA_6], Value.tuple #[perV (Value.slice x1_6 cx.head.length y1_6) (Value.slice x2_6 cx.cycle.length y2_6) cx.frm cx.period, Value.int IntKind.i64 0], perV (Value.slice x1_6 cx.head.length y1_6) (Value.slice x2_6 cx.cycle.length y2_6) cx.frm cx.period, Value.int IntKind.i64 0, Value.int IntKind.i64 ↑k, Value.bool true, u38, u39, x0, x1, x2, x3, x4, x5, x6, x7, x8, Value.bool false, v 0, v 1, v 2, v 3, v 4, v 5, v 6, undef, undef, undef, undef, undef, undef, undef, undef, undef, undef, undef, undef, undef, undef, undef, undef, undef, undef, undef, undef, undef, undef, undef, undef, undef, undef, undef, undef, undef, undef, undef, undef, undef, undef, undef, undef, undef, undef, undef, undef, undef, undef, undef, undef, undef, undef, undef, undef, undef, undef, undef, undef, undef, undef, undef, undef, undef, undef, undef, undef, undef, undef, undef], []⟩) (fun j => match j with | 0 => u50 | 1 => u51 | 2 => u52 | 3 => u53 | 4 => u54 | 5 => u55 | 6 => u56 | _ => undef)
            (fun i v lo hi W => match i with
              | 0 => SetV W (v 0) cx
              | 1 => v 1 = .int .i64 k
              | 2 => v 2 = .bool bx
              | 3 => SetV W (v 3) x
              | 4 => v 4 = .int .i64 k
              | 5 => v 5 = .bool bx
              | 6 => v 6 = .bool false
              | _ => True)
            (fun W => Sets W [(b6, cx), (b5, cy), (b4, cx), (b3, y), (b2, x)]) rfl (by kernel_rfl) (by decide) rfl ?stab ?loc (fun W hb => hS2.below hb) ?steps ?fin
          case stab =>
            rintro (_ | _ | _ | _ | _ | _ | _ | i) v lo hi W W' h hb
            · exact h.below hb
            · exact h
            · exact h
            · exact h.below hb
            · exact h
            · exact h
            · exact h
            · trivial
          case loc =>
            rintro (_ | _ | _ | _ | _ | _ | _ | i) v v' lo lo' hi hi' W hag h
            · have q := hag 0 (.inl rfl)
              (try dsimp only at h ⊢); (try simp only [q.1, q.2.1, q.2.2] at h); exact h
            · exact (hag 1 (.inl rfl)).1 ▸ h
            · exact (hag 2 (.inl rfl)).1 ▸ h
            · have q := hag 3 (.inl rfl)
              (try dsimp only at h ⊢); (try simp only [q.1, q.2.1, q.2.2] at h); exact h
            · exact (hag 4 (.inl rfl)).1 ▸ h
            · exact (hag 5 (.inl rfl)).1 ▸ h
            · exact (hag 6 (.inl rfl)).1 ▸ h
            · trivial
          case steps =>
            refine StepsS.cons rfl ?_ (StepsS.cons rfl ?_ (StepsS.cons rfl ?_ (StepsS.cons rfl ?_ (StepsS.cons rfl ?_ (StepsS.cons rfl ?_ (StepsS.cons rfl ?_ StepsS.nil))))))
            · rintro v lo hi W hb hs_ hd
              clear hd
              refine .inl ⟨rfl, ?_⟩
              intro K hK
              dsimp only
              obtain ⟨h, c, g⟩ := hs_.at 2 rfl
              have q0 := (g.box.cells 0).1
              have q1 := (g.box.cells 1).1
              have q2 := (g.box.cells 2).1
              have q3 := (g.box.cells 3).1
              go_wp2_with fail
              exact act_cast (hK (perV h c (cx : Per).frm (cx : Per).period) W (Below.refl _ _) ⟨h, c, rfl, g.is⟩) (by simp [ite_true])
            · rintro v lo hi W hb hs_ hd
              clear hd
              refine .inl ⟨rfl, ?_⟩
              intro K hK
              dsimp only
              go_wp2_with fail
              exact act_cast (hK (.int .i64 k) W (Below.refl _ _) rfl) (by simp)
            · rintro v lo hi W hb hs_ hd
              obtain ⟨la0, lb0, D0⟩ := hd 0 (Region.dep (by kernel_rfl))
              have e1 : v 1 = .int .i64 k := (hd 1 (Region.dep (by kernel_rfl))).2.2
              clear hd
              refine .inl ⟨rfl, ?_⟩
              intro K hK
              dsimp only
              (try simp only [e1])
              obtain ⟨h0, c0, e0, s0⟩ := D0
              simp only [e0]
              go_wp2_with (go_at_call 24; refine (has_any h0 c0 cx k _ s0 (inI_of (by omega) (by omega)) (by omega)).mono ?_; rintro e w9 ⟨he, hb9⟩; rw [HC.out] at he; subst he)
              exact act_cast (hK (.bool bx) w9 hb9 rfl) (by simp [e1, e0])
            · rintro v lo hi W hb hs_ hd
              clear hd
              refine .inl ⟨rfl, ?_⟩
              intro K hK
              dsimp only
              obtain ⟨h, c, g⟩ := hs_.at 4 rfl
              have q0 := (g.box.cells 0).1
              have q1 := (g.box.cells 1).1
              have q2 := (g.box.cells 2).1
              have q3 := (g.box.cells 3).1
              go_wp2_with fail
              exact act_cast (hK (perV h c (x : Per).frm (x : Per).period) W (Below.refl _ _) ⟨h, c, rfl, g.is⟩) (by simp [ite_true])
            · rintro v lo hi W hb hs_ hd
              clear hd
              refine .inl ⟨rfl, ?_⟩
              intro K hK
              dsimp only
              go_wp2_with fail
              exact act_cast (hK (.int .i64 k) W (Below.refl _ _) rfl) (by simp)
            · rintro v lo hi W hb hs_ hd
              obtain ⟨la3, lb3, D3⟩ := hd 3 (Region.dep (by kernel_rfl))
              have e4 : v 4 = .int .i64 k := (hd 4 (Region.dep (by kernel_rfl))).2.2
              clear hd
              refine .inl ⟨rfl, ?_⟩
              intro K hK
              dsimp only
              (try simp only [e4])
              obtain ⟨h0, c0, e0, s0⟩ := D3
              simp only [e0]
              go_wp2_with (go_at_call 32; refine (RHas_any h0 c0 x k _ s0 IX.out.1 IX.out.2 (inI_of (by omega) (by omega))).mono ?_; rintro e w9 ⟨he, hb9⟩; rw [HX.out] at he; subst he)
              exact act_cast (hK (.bool bx) w9 hb9 rfl) (by simp [e4, e0])
            · rintro v lo hi W hb hs_ hd
              have e2 : v 2 = .bool bx := (hd 2 (Region.dep (by kernel_rfl))).2.2
              have e5 : v 5 = .bool bx := (hd 5 (Region.dep (by kernel_rfl))).2.2
              clear hd
              refine .inl ⟨rfl, ?_⟩
              intro K hK
              dsimp only
              (try simp only [e2, e5])
              go_wp2_with fail
              exact act_cast (hK (.bool false) W (Below.refl _ _) rfl) (by simp [e2, e5])
          case fin =>
            rintro v lo hi W3 hb3 _ hf _
            show wpList _ _ _ [] _ _
            have f6 : v 6 = .bool false := (hf 6 rfl).2.2.2
            clear hf
            dsimp only
            rw [f6]
            clear f6
            generalize v 0 = z0
            generalize v 1 = z1
            generalize v 2 = z2
            generalize v 3 = z3
            generalize v 4 = z4
            generalize v 5 = z5
            go_wp2_with fail
            go_roundw
            case rel => exact ⟨k + 1, by omega, by go_num, by rw [HSU.out]; rfl, by have hb := HB.out; (repeat' (with_reducible first | assumption | exact Ext.refl _ | refine Ext.alloc ?_ _ | refine Ext.drew ?_ | refine Ext.drewN ?_ _ | (refine Ext.setCell ?_ (by first | (simp; done) | (simp; omega) | omega) _) | refine Ext.trans ?_ (by assumption)))⟩
            case measure => simp [intOf]; omega
      · go_wp2_with fail
        refine wp_region_factsS (w0 := wr) [0, 1, 2, 3, 4, 5, 6, 7, 8, 9] [10] (fun v => ⟨#[Value.agg #[Value.slice a1a hla.length c1a, Value.int IntKind.u8 fa, Value.int IntKind.u8 ta, Value.slice a2a cla.length c2a], Value.agg #[Value.slice a1b hlb.length c1b, Value.int IntKind.u8 fb, Value.int IntKind.u8 tb, Value.slice a2b clb.length c2b], Value.pointer (some { block := w.heap.size, off := 0 }), Value.pointer (some { block := w.heap.size + 1, off := 0 }), u4, Value.bool true, Value.pointer (some { block := b2, off := 0 }), Value.pointer (some { block := b3, off := 0 }), Value.pointer (some { block := b4, off := 0 }), Value.int IntKind.i64 0, Value.pointer (some { block := b5, off := 0 }), Value.int IntKind.i64 0, Value.pointer (some { block := b6, off := 0 }), Value.int IntKind.i64 0, Value.bool true, Value.int IntKind.i64 ↑k, Value.bool true, Value.agg #[Value.slice a1a hla.length c1a, Value.int IntKind.u8 fa, Value.int IntKind.u8 ta, Value.slice a2a cla.length c2a], perV (Value.slice x1_2 x.head.length y1_2) (Value.slice x2_2 x.cycle.length y2_2) x.frm x.period, Value.agg #[Value.slice a1b hlb.length c1b, Value.int IntKind.u8 fb, Value.int IntKind.u8 tb, Value.slice a2b clb.length c2b], perV (Value.slice x1_3 y.head.length y1_3) (Value.slice x2_3 y.cycle.length y2_3) y.frm y.period, Value.tuple #[perV (Value.slice x1_4 cx.head.length y1_4) (Value.slice x2_4 cx.cycle.length y2_4) cx.frm cx.period, Value.int IntKind.i64 0], Value.agg #[hA_4, Value.int IntKind.i64 x.frm, Value.int IntKind.i64 x.period, cA_4], Value.tuple #[perV (Value.slice x1_4 cx.head.length y1_4) (Value.slice x2_4 cx.cycle.length y2_4) cx.frm cx.period, Value.int IntKind.i64 0], perV (Value.slice x1_4 cx.head.length y1_4) (Value.slice x2_4 cx.cycle.length y2_4) cx.frm cx.period, Value.int IntKind.i64 0, Value.tuple #[perV (Value.slice x1_5 cy.head.length y1_5) (Value.slice x2_5 cy.cycle.length y2_5) cy.frm cy.period, Value.int IntKind.i64 0], Value.agg #[hA_5, Value.int IntKind.i64 y.frm, Value.int IntKind.i64 y.period, cA_5], Value.tuple #[perV (Value.slice x1_5 cy.head.length y1_5) (Value.slice x2_5 cy.cycle.length y2_5) cy.frm cy.period, Value.int IntKind.i64 0], perV (Value.slice x1_5 cy.head.length y1_5) (Value.slice x2_5 cy.cycle.length y2_5) cy.frm cy.period, Value.int IntKind.i64 0, Value.tuple #[perV (Value.slice x1_6 cx.head.length y1_6) (Value.slice x2_6 cx.cycle.length y2_6) cx.frm cx.period, Value.int IntKind.i64 0], Value.agg #[hA_6, Value.int IntKind.i64 cx.frm, Value.int IntKind.i64 cx.period, cA_6], Value.tuple #[perV (Value.slice x1_6 cx.head.length y1_6) (Value.slice x2_6 cx.cycle.length y2_6) cx.frm cx.period, Value.int IntKind.i64 0], perV (Value.slice x1_6 cx.head.length y1_6) (Value.slice x2_6 cx.cycle.length y2_6) cx.frm cx.period, Value.int IntKind.i64 0, Value.int IntKind.i64 ↑k, Value.bool true, u38, u39, v 0, v 1, v 2, v 3, v 4, v 5, v 6, v 7, v 8, v 9, u50, u51, u52, u53, u54, u55, u56, undef, undef, undef, undef, undef, undef, undef, undef, undef, undef, undef, undef, undef, undef, undef, undef, undef, undef, undef, undef, undef, undef, undef, undef, undef, undef, undef, undef, undef, undef, undef, undef, undef, undef, undef, undef, undef, undef, undef, undef, undef, undef, undef, undef, undef, undef, undef, undef, undef, undef, undef, undef, undef, undef, undef, undef, undef, undef, undef, undef, undef, undef, undef], []⟩) (fun j => match j with | 0 => u40 | 1 => u41 | 2 => u42 | 3 => u43 | 4 => u44 | 5 => u45 | 6 => u46 | 7 => u47 | 8 => u48 | 9 => u49 | _ => undef)
          (fun i v lo hi W => match i with
            | 0 => v 0 = .bool true
            | 1 => v 1 = .bool true
            | 2 => SetV W (v 2) x
            | 3 => v 3 = .int .i64 k
            | 4 => v 4 = .bool bx
            | 5 => SetV W (v 5) y
            | 6 => v 6 = .int .i64 k
            | 7 => v 7 = .bool by_
            | 8 => v 8 = .bool (bx == by_)
            | 9 => v 9 = .bool (bx == by_)
            | _ => True)
          (fun W => Sets W [(b6, cx), (b5, cy), (b4, cx), (b3, y), (b2, x)]) rfl (by kernel_rfl) (by decide) rfl ?stab ?loc (fun W hb => hS.below hb) ?steps ?fin
        case stab =>
          rintro (_ | _ | _ | _ | _ | _ | _ | _ | _ | _ | i) v lo hi W W' h hb
          · exact h
          · exact h
          · exact h.below hb
          · exact h
          · exact h
          · exact h.below hb
          · exact h
          · exact h
          · exact h
          · exact h
          · trivial
        case loc =>
          rintro (_ | _ | _ | _ | _ | _ | _ | _ | _ | _ | i) v v' lo lo' hi hi' W hag h
          · exact (hag 0 (.inl rfl)).1 ▸ h
          · exact (hag 1 (.inl rfl)).1 ▸ h
          · have q := hag 2 (.inl rfl)
            have q1 := hag 1 (.inr (Region.dep (by kernel_rfl)))
            (try dsimp only at h ⊢); (try simp only [q.1, q.2.1, q.2.2, q1.1, q1.2.1, q1.2.2] at h); exact h
          · exact (hag 3 (.inl rfl)).1 ▸ h
          · exact (hag 4 (.inl rfl)).1 ▸ h
          · have q := hag 5 (.inl rfl)
            have q1 := hag 1 (.inr (Region.dep (by kernel_rfl)))
            (try dsimp only at h ⊢); (try simp only [q.1, q.2.1, q.2.2, q1.1, q1.2.1, q1.2.2] at h); exact h
          · exact (hag 6 (.inl rfl)).1 ▸ h
          · exact (hag 7 (.inl rfl)).1 ▸ h
          · exact (hag 8 (.inl rfl)).1 ▸ h
          · exact (hag 9 (.inl rfl)).1 ▸ h
          · trivial
        case steps =>
          refine StepsS.cons rfl ?_ (StepsS.cons rfl ?_ (StepsS.cons rfl ?_ (StepsS.cons rfl ?_ (StepsS.cons rfl ?_ (StepsS.cons rfl ?_ (StepsS.cons rfl ?_ (StepsS.cons rfl ?_ (StepsS.cons rfl ?_ (StepsS.cons rfl ?_ StepsS.nil)))))))))
          · rintro v lo hi W hb hs_ hd
            clear hd
            refine .inl ⟨rfl, ?_⟩
            intro K hK
            dsimp only
            go_wp2_with fail
            exact act_cast (hK (.bool true) W (Below.refl _ _) rfl) (by simp)
          · rintro v lo hi W hb hs_ hd
            have e0 : v 0 = .bool true := (hd 0 (Region.dep (by kernel_rfl))).2.2
            clear hd
            refine .inl ⟨rfl, ?_⟩
            intro K hK
            dsimp only
            (try simp only [e0])
            go_wp2_with fail
            exact act_cast (hK (.bool true) W (Below.refl _ _) rfl) (by simp [e0])
          · rintro v lo hi W hb hs_ hd
            have e1 : v 1 = .bool true := (hd 1 (Region.dep (by kernel_rfl))).2.2
            clear hd
            refine .inl ⟨(by show ((match some (v 1) with | some (Value.bool b) => some b | _ => none) == some true) = true; rw [e1]; rfl), ?_⟩
            intro K hK
            dsimp only
            (try simp only [e1])
            obtain ⟨h, c, g⟩ := hs_.at 4 rfl
            have q0 := (g.box.cells 0).1
            have q1 := (g.box.cells 1).1
            have q2 := (g.box.cells 2).1
            have q3 := (g.box.cells 3).1
            go_wp2_with fail
            exact act_cast (hK (perV h c (x : Per).frm (x : Per).period) W (Below.refl _ _) ⟨h, c, rfl, g.is⟩) (by simp [e1])
          · rintro v lo hi W hb hs_ hd
            have e1 : v 1 = .bool true := (hd 1 (Region.dep (by kernel_rfl))).2.2
            clear hd
            refine .inl ⟨(by show ((match some (v 1) with | some (Value.bool b) => some b | _ => none) == some true) = true; rw [e1]; rfl), ?_⟩
            intro K hK
            dsimp only
            (try simp only [e1])
            go_wp2_with fail
            exact act_cast (hK (.int .i64 k) W (Below.refl _ _) rfl) (by simp [e1])
          · rintro v lo hi W hb hs_ hd
            have e1 : v 1 = .bool true := (hd 1 (Region.dep (by kernel_rfl))).2.2
            obtain ⟨la2, lb2, D2⟩ := hd 2 (Region.dep (by kernel_rfl))
            have e3 : v 3 = .int .i64 k := (hd 3 (Region.dep (by kernel_rfl))).2.2
            clear hd
            refine .inl ⟨(by show ((match some (v 1) with | some (Value.bool b) => some b | _ => none) == some true) = true; rw [e1]; rfl), ?_⟩
            intro K hK
            dsimp only
            (try simp only [e1, e3])
            obtain ⟨h0, c0, e0, s0⟩ := D2
            simp only [e0]
            go_wp2_with (go_at_call 32; refine (RHas_any h0 c0 x k _ s0 IX.out.1 IX.out.2 (inI_of (by omega) (by omega))).mono ?_; rintro e w9 ⟨he, hb9⟩; rw [HX.out] at he; subst he)
            exact act_cast (hK (.bool bx) w9 hb9 rfl) (by simp [e1, e3, e0])
          · rintro v lo hi W hb hs_ hd
            have e1 : v 1 = .bool true := (hd 1 (Region.dep (by kernel_rfl))).2.2
            clear hd
            refine .inl ⟨(by show ((match some (v 1) with | some (Value.bool b) => some b | _ => none) == some true) = true; rw [e1]; rfl), ?_⟩
            intro K hK
            dsimp only
            (try simp only [e1])
            obtain ⟨h, c, g⟩ := hs_.at 3 rfl
            have q0 := (g.box.cells 0).1
            have q1 := (g.box.cells 1).1
            have q2 := (g.box.cells 2).1
            have q3 := (g.box.cells 3).1
            go_wp2_with fail
            exact act_cast (hK (perV h c (y : Per).frm (y : Per).period) W (Below.refl _ _) ⟨h, c, rfl, g.is⟩) (by simp [e1])
          · rintro v lo hi W hb hs_ hd
            have e1 : v 1 = .bool true := (hd 1 (Region.dep (by kernel_rfl))).2.2
            clear hd
            refine .inl ⟨(by show ((match some (v 1) with | some (Value.bool b) => some b | _ => none) == some true) = true; rw [e1]; rfl), ?_⟩
            intro K hK
            dsimp only
            (try simp only [e1])
            go_wp2_with fail
            exact act_cast (hK (.int .i64 k) W (Below.refl _ _) rfl) (by simp [e1])
          · rintro v lo hi W hb hs_ hd
            have e1 : v 1 = .bool true := (hd 1 (Region.dep (by kernel_rfl))).2.2
            obtain ⟨la5, lb5, D5⟩ := hd 5 (Region.dep (by kernel_rfl))
            have e6 : v 6 = .int .i64 k := (hd 6 (Region.dep (by kernel_rfl))).2.2
            clear hd
            refine .inl ⟨(by show ((match some (v 1) with | some (Value.bool b) => some b | _ => none) == some true) = true; rw [e1]; rfl), ?_⟩
            intro K hK
            dsimp only
            (try simp only [e1, e6])
            obtain ⟨h0, c0, e0, s0⟩ := D5
            simp only [e0]
            go_wp2_with (go_at_call 32; refine (RHas_any h0 c0 y k _ s0 IY.out.1 IY.out.2 (inI_of (by omega) (by omega))).mono ?_; rintro e w9 ⟨he, hb9⟩; rw [HY.out] at he; subst he)
            exact act_cast (hK (.bool by_) w9 hb9 rfl) (by simp [e1, e6, e0])
          · rintro v lo hi W hb hs_ hd
            have e1 : v 1 = .bool true := (hd 1 (Region.dep (by kernel_rfl))).2.2
            have e4 : v 4 = .bool bx := (hd 4 (Region.dep (by kernel_rfl))).2.2
            have e7 : v 7 = .bool by_ := (hd 7 (Region.dep (by kernel_rfl))).2.2
            clear hd
            refine .inl ⟨(by show ((match some (v 1) with | some (Value.bool b) => some b | _ => none) == some true) = true; rw [e1]; rfl), ?_⟩
            intro K hK
            dsimp only
            (try simp only [e1, e4, e7])
            go_wp2_with fail
            exact act_cast (hK (.bool (bx == by_)) W (Below.refl _ _) rfl) (by simp [e1, e4, e7])
          · rintro v lo hi W hb hs_ hd
            have e1 : v 1 = .bool true := (hd 1 (Region.dep (by kernel_rfl))).2.2
            have e8 : v 8 = .bool (bx == by_) := (hd 8 (Region.dep (by kernel_rfl))).2.2
            clear hd
            refine .inl ⟨rfl, ?_⟩
            intro K hK
            dsimp only
            (try simp only [e1, e8])
            go_wp2_with fail
            exact act_cast (hK (.bool (bx == by_)) W (Below.refl _ _) rfl) (by simp [e1, e8])
        case fin =>
          rintro v lo hi W2 hb2 _ hf _
          show wpList _ _ _ [_] _ _
          have f9 : v 9 = .bool (bx == by_) := (hf 9 rfl).2.2.2
          clear hf
          dsimp only
          rw [f9]
          clear f9
          generalize v 0 = x0
          generalize v 1 = x1
          generalize v 2 = x2
          generalize v 3 = x3
          generalize v 4 = x4
          generalize v 5 = x5
          generalize v 6 = x6
          generalize v 7 = x7
          generalize v 8 = x8
          have hS2 := hS.below hb2
          go_wp2_with fail
          refine wp_region_factsS (w0 := W2) [0, 1, 2, 3, 4, 5, 6] [] (fun v => ⟨#[Value.agg #[Value.slice a1a hla.length c1a, Value.int IntKind.u8 fa, Value.int IntKind.u8 ta, Value.slice a2a cla.length c2a], Value.agg #[Value.slice a1b hlb.length c1b, Value.int IntKind.u8 fb, Value.int IntKind.u8 tb, Value.slice a2b clb.length c2b], Value.pointer (some { block := w.heap.size, off := 0 }), Value.pointer (some { block := w.heap.size + 1, off := 0 }), u4, Value.bool true, Value.pointer (some { block := b2, off := 0 }), Value.pointer (some { block := b3, off := 0 }), Value.pointer (some { block := b4, off := 0 }), Value.int IntKind.i64 0, Value.pointer (some { block := b5, off := 0 }), Value.int IntKind.i64 0, Value.pointer (some { block := b6, off := 0 }), Value.int IntKind.i64 0, Value.bool (bx == by_), Value.int IntKind.i64 ↑k, Value.bool true, Value.agg #[Value.slice a1a hla.length c1a, Value.int IntKind.u8 fa, Value.int IntKind.u8 ta, Value.slice a2a cla.length c2a], perV (Value.slice x1_2 x.head.length y1_2) (Value.slice x2_2 x.cycle.length y2_2) x.frm x.period, Value.agg #[Value.slice a1b hlb.length c1b, Value.int IntKind.u8 fb, Value.int IntKind.u8 tb, Value.slice a2b clb.length c2b], perV (Value.slice x1_3 y.head.length y1_3) (Value.slice x2_3 y.cycle.length y2_3) y.frm y.period, Value.tuple #[perV (Value.slice x1_4 cx.head.length y1_4) (Value.slice x2_4 cx.cycle.length y2_4) cx.frm cx.period, Value.int IntKind.i64 0], Value.agg #[hA_4, Value.int IntKind.i64 x.frm, Value.int IntKind.i64 x.period, cA_4], Value.tuple #[perV (Value.slice x1_4 cx.head.length y1_4) (Value.slice x2_4 cx.cycle.length y2_4) cx.frm cx.period, Value.int IntKind.i64 0], perV (Value.slice x1_4 cx.head.length y1_4) (Value.slice x2_4 cx.cycle.length y2_4) cx.frm cx.period, Value.int IntKind.i64 0, Value.tuple #[perV (Value.slice x1_5 cy.head.length y1_5) (Value.slice x2_5 cy.cycle.length y2_5) cy.frm cy.period, Value.int IntKind.i64 0], Value.agg #[hA_5, Value.int IntKind.i64 y.frm, Value.int IntKind.i64 y.period, cA_5], Value.tuple #[perV (Value.slice x1_5 cy.head.length y1_5) (Value.slice x2_5 cy.cycle.length y2_5) cy.frm cy.period, Value.int IntKind.i64 0], perV (Value.slice x1_5 cy.head.length y1_5) (Value.slice x2_5 cy.cycle.length y2_5) cy.frm cy.period, Value.int IntKind.i64 0, Value.tuple #[perV (Value.slice x1_6 cx.head.length y1_6) (Value.slice x2_6 cx.cycle.length y2_6) cx.frm cx.period, Value.int IntKind.i64 0], Value.agg #[hA_6, Value.int IntKind.i64 cx.frm, Value.int IntKind.i64 cx.period, cA_6], Value.tuple #[perV (Value.slice x1_6 cx.head.length y1_6) (Value.slice x2_6 cx.cycle.length y2_6) cx.frm cx.period, Value.int IntKind.i64 0], perV (Value.slice x1_6 cx.head.length y1_6) (Value.slice x2_6 cx.cycle.length y2_6) cx.frm cx.period, Value.int IntKind.i64 0, Value.int IntKind.i64 ↑k, Value.bool true, u38, u39, x0, x1, x2, x3, x4, x5, x6, x7, x8, Value.bool (bx == by_), v 0, v 1, v 2, v 3, v 4, v 5, v 6, undef, undef, undef, undef, undef, undef, undef, undef, undef, undef, undef, undef, undef, undef, undef, undef, undef, undef, undef, undef, undef, undef, undef, undef, undef, undef, undef, undef, undef, undef, undef, undef, undef, undef, undef, undef, undef, undef, undef, undef, undef, undef, undef, undef, undef, undef, undef, undef, undef, undef, undef, undef, undef, undef, undef, undef, undef, undef, undef, undef, undef, undef, undef], []⟩) (fun j => match j with | 0 => u50 | 1 => u51 | 2 => u52 | 3 => u53 | 4 => u54 | 5 => u55 | 6 => u56 | _ => undef)
            (fun i v lo hi W => match i with
              | 0 => SetV W (v 0) cx
              | 1 => v 1 = .int .i64 k
              | 2 => v 2 = .bool bx
              | 3 => SetV W (v 3) x
              | 4 => v 4 = .int .i64 k
              | 5 => v 5 = .bool bx
              | 6 => v 6 = .bool false
              | _ => True)
            (fun W => Sets W [(b6, cx), (b5, cy), (b4, cx), (b3, y), (b2, x)]) rfl (by kernel_rfl) (by decide) rfl ?stab ?loc (fun W hb => hS2.below hb) ?steps ?fin
          case stab =>
            rintro (_ | _ | _ | _ | _ | _ | _ | i) v lo hi W W' h hb
            · exact h.below hb
            · exact h
            · exact h
            · exact h.below hb
            · exact h
            · exact h
            · exact h
            · trivial
          case loc =>
            rintro (_ | _ | _ | _ | _ | _ | _ | i) v v' lo lo' hi hi' W hag h
            · have q := hag 0 (.inl rfl)
              (try dsimp only at h ⊢); (try simp only [q.1, q.2.1, q.2.2] at h); exact h
            · exact (hag 1 (.inl rfl)).1 ▸ h
            · exact (hag 2 (.inl rfl)).1 ▸ h
            · have q := hag 3 (.inl rfl)
              (try dsimp only at h ⊢); (try simp only [q.1, q.2.1, q.2.2] at h); exact h
            · exact (hag 4 (.inl rfl)).1 ▸ h
            · exact (hag 5 (.inl rfl)).1 ▸ h
            · exact (hag 6 (.inl rfl)).1 ▸ h
            · trivial
          case steps =>
            refine StepsS.cons rfl ?_ (StepsS.cons rfl ?_ (StepsS.cons rfl ?_ (StepsS.cons rfl ?_ (StepsS.cons rfl ?_ (StepsS.cons rfl ?_ (StepsS.cons rfl ?_ StepsS.nil))))))
            · rintro v lo hi W hb hs_ hd
              clear hd
              refine .inl ⟨rfl, ?_⟩
              intro K hK
              dsimp only
              obtain ⟨h, c, g⟩ := hs_.at 2 rfl
              have q0 := (g.box.cells 0).1
              have q1 := (g.box.cells 1).1
              have q2 := (g.box.cells 2).1
              have q3 := (g.box.cells 3).1
              go_wp2_with fail
              exact act_cast (hK (perV h c (cx : Per).frm (cx : Per).period) W (Below.refl _ _) ⟨h, c, rfl, g.is⟩) (by simp [ite_true])
            · rintro v lo hi W hb hs_ hd
              clear hd
              refine .inl ⟨rfl, ?_⟩
              intro K hK
              dsimp only
              go_wp2_with fail
              exact act_cast (hK (.int .i64 k) W (Below.refl _ _) rfl) (by simp)
            · rintro v lo hi W hb hs_ hd
              obtain ⟨la0, lb0, D0⟩ := hd 0 (Region.dep (by kernel_rfl))
              have e1 : v 1 = .int .i64 k := (hd 1 (Region.dep (by kernel_rfl))).2.2
              clear hd
              refine .inl ⟨rfl, ?_⟩
              intro K hK
              dsimp only
              (try simp only [e1])
              obtain ⟨h0, c0, e0, s0⟩ := D0
              simp only [e0]
              go_wp2_with (go_at_call 24; refine (has_any h0 c0 cx k _ s0 (inI_of (by omega) (by omega)) (by omega)).mono ?_; rintro e w9 ⟨he, hb9⟩; rw [HC.out] at he; subst he)
              exact act_cast (hK (.bool bx) w9 hb9 rfl) (by simp [e1, e0])
            · rintro v lo hi W hb hs_ hd
              clear hd
              refine .inl ⟨rfl, ?_⟩
              intro K hK
              dsimp only
              obtain ⟨h, c, g⟩ := hs_.at 4 rfl
              have q0 := (g.box.cells 0).1
              have q1 := (g.box.cells 1).1
              have q2 := (g.box.cells 2).1
              have q3 := (g.box.cells 3).1
              go_wp2_with fail
              exact act_cast (hK (perV h c (x : Per).frm (x : Per).period) W (Below.refl _ _) ⟨h, c, rfl, g.is⟩) (by simp [ite_true])
            · rintro v lo hi W hb hs_ hd
              clear hd
              refine .inl ⟨rfl, ?_⟩
              intro K hK
              dsimp only
              go_wp2_with fail
              exact act_cast (hK (.int .i64 k) W (Below.refl _ _) rfl) (by simp)
            · rintro v lo hi W hb hs_ hd
              obtain ⟨la3, lb3, D3⟩ := hd 3 (Region.dep (by kernel_rfl))
              have e4 : v 4 = .int .i64 k := (hd 4 (Region.dep (by kernel_rfl))).2.2
              clear hd
              refine .inl ⟨rfl, ?_⟩
              intro K hK
              dsimp only
              (try simp only [e4])
              obtain ⟨h0, c0, e0, s0⟩ := D3
              simp only [e0]
              go_wp2_with (go_at_call 32; refine (RHas_any h0 c0 x k _ s0 IX.out.1 IX.out.2 (inI_of (by omega) (by omega))).mono ?_; rintro e w9 ⟨he, hb9⟩; rw [HX.out] at he; subst he)
              exact act_cast (hK (.bool bx) w9 hb9 rfl) (by simp [e4, e0])
            · rintro v lo hi W hb hs_ hd
              have e2 : v 2 = .bool bx := (hd 2 (Region.dep (by kernel_rfl))).2.2
              have e5 : v 5 = .bool bx := (hd 5 (Region.dep (by kernel_rfl))).2.2
              clear hd
              refine .inl ⟨rfl, ?_⟩
              intro K hK
              dsimp only
              (try simp only [e2, e5])
              go_wp2_with fail
              exact act_cast (hK (.bool false) W (Below.refl _ _) rfl) (by simp [e2, e5])
          case fin =>
            rintro v lo hi W3 hb3 _ hf _
            show wpList _ _ _ [] _ _
            have f6 : v 6 = .bool false := (hf 6 rfl).2.2.2
            clear hf
            dsimp only
            rw [f6]
            clear f6
            generalize v 0 = z0
            generalize v 1 = z1
            generalize v 2 = z2
            generalize v 3 = z3
            generalize v 4 = z4
            generalize v 5 = z5
            go_wp2_with fail
            go_roundw
            case rel => exact ⟨k + 1, by omega, by go_num, by rw [HSU.out]; rfl, by have hb := HB.out; (repeat' (with_reducible first | assumption | exact Ext.refl _ | refine Ext.alloc ?_ _ | refine Ext.drew ?_ | refine Ext.drewN ?_ _ | (refine Ext.setCell ?_ (by first | (simp; done) | (simp; omega) | omega) _) | refine Ext.trans ?_ (by assumption)))⟩
            case measure => simp [intOf]; omega
    · have e4 : (k : Int) = 152 := by omega
      have hk9 : k = 152 := by omega
      have HAG : Hid (agB x y k = decide (cx = cy)) := Lib.hid (by rw [hk9]; exact agB_all Sx.out Sy.out Qcx.out Qcy.out)
      rw [HAG.out, e4]
      clear e4 hlt hk9 hk HAG
      have hS := HS.out.below HB.out
      have hE : Below w.heap.size w wr := by have hb := HB.out; have hE := HE.out; (repeat' (with_reducible first | assumption | exact Ext.refl _ | refine Ext.alloc ?_ _ | refine Ext.drew ?_ | refine Ext.drewN ?_ _ | (refine Ext.setCell ?_ (by first | (simp; done) | (simp; omega) | omega) _) | refine Ext.trans ?_ (by assumption)))
      obtain ⟨E, hEq⟩ : ∃ E, E = decide (cx = cy) := ⟨_, rfl⟩
      have HD : Hid (decide (cx = cy) = E) := Lib.hid hEq.symm
      have HSM : Hid (sameB cx cy = E) := Lib.hid (by rw [hEq, Bool.eq_iff_iff, sameB_iff, decide_eq_true_eq])
      rw [← hEq]
      clear hEq
      obtain ⟨sf, sp, _, shd, scy⟩ := Qcx.out.smaller Sx.out.wf
      have lx1 := Sx.out.wf.head.length_le Sx.out.wf.frm
      have lx2 := Sx.out.wf.cyc.length_le (show (0 : Int) ≤ x.period by have := Sx.out.wf.per; omega)
      have lx3 := Sx.out.frm
      have lx4 := Sx.out.per
      have VX := Lib.hid (Sx.out.valid (by omega))
      have VY := Lib.hid (Sy.out.valid (by omega))
      have hle1 : decide (cx.frm ≤ x.frm) = true := decide_eq_true sf
      have hle2 : decide (cx.period ≤ x.period) = true := decide_eq_true sp
      have hsI : (cx.head.length : Int) + cx.cycle.length ≤ x.head.length + x.cycle.length := by omega
      obtain ⟨hG, cG, gG⟩ := hS.at 0 rfl
      obtain ⟨jaG, jbG, jcG, jdG, rfl, rfl⟩ := gG.is.inn.form
      have qG0 := (gG.box.cells 0).1
      have qG1 := (gG.box.cells 1).1
      have qG2 := (gG.box.cells 2).1
      have qG3 := (gG.box.cells 3).1
      have zG := gG.box.lt
      obtain ⟨hC, cC, gC⟩ := hS.at 2 rfl
      obtain ⟨jaC, jbC, jcC, jdC, rfl, rfl⟩ := gC.is.inn.form
      have qC0 := (gC.box.cells 0).1
      have qC1 := (gC.box.cells 1).1
      have qC2 := (gC.box.cells 2).1
      have qC3 := (gC.box.cells 3).1
      have zC := gC.box.lt
      obtain ⟨hD, cD, gD⟩ := hS.at 1 rfl
      obtain ⟨jaD, jbD, jcD, jdD, rfl, rfl⟩ := gD.is.inn.form
      have qD0 := (gD.box.cells 0).1
      have qD1 := (gD.box.cells 1).1
      have qD2 := (gD.box.cells 2).1
      have qD3 := (gD.box.cells 3).1
      have zD := gD.box.lt
      obtain ⟨hX, cX, gX⟩ := hS.at 4 rfl
      obtain ⟨jaX, jbX, jcX, jdX, rfl, rfl⟩ := gX.is.inn.form
      have qX0 := (gX.box.cells 0).1
      have qX1 := (gX.box.cells 1).1
      have qX2 := (gX.box.cells 2).1
      have qX3 := (gX.box.cells 3).1
      have zX := gX.box.lt
      obtain ⟨hY, cY, gY⟩ := hS.at 3 rfl
      obtain ⟨jaY, jbY, jcY, jdY, rfl, rfl⟩ := gY.is.inn.form
      have qY0 := (gY.box.cells 0).1
      have qY1 := (gY.box.cells 1).1
      have qY2 := (gY.box.cells 2).1
      have qY3 := (gY.box.cells 3).1
      have zY := gY.box.lt
      go_wp2_with (first | (go_at_call 19; (with_reducible refine (Equal_any (.slice jaG (cx : Per).head.length jbG) (.slice jcG (cx : Per).cycle.length jdG) (.slice jaC (cx : Per).head.length jbC) (.slice jcC (cx : Per).cycle.length jdC) cx cx _ (gG.is.ext (by (repeat' (with_reducible first | assumption | exact Ext.refl _ | refine Ext.alloc ?_ _ | refine Ext.drew ?_ | refine Ext.drewN ?_ _ | (refine Ext.setCell ?_ (by first | (simp; done) | (simp; omega) | omega) _) | refine Ext.trans ?_ (by assumption))))) (gC.is.ext (by (repeat' (with_reducible first | assumption | exact Ext.refl _ | refine Ext.alloc ?_ _ | refine Ext.drew ?_ | refine Ext.drewN ?_ _ | (refine Ext.setCell ?_ (by first | (simp; done) | (simp; omega) | omega) _) | refine Ext.trans ?_ (by assumption)))))).mono ?_); rintro e u1 ⟨he, k1⟩; rw [decide_eq_true rfl] at he; subst he; obtain ⟨kc1, kf1⟩ := bcell k1; (try simp only [World.size_alloc, World.size_drew, size_drewN, World.size_setCell] at kc1 kf1); have yb6_1 : b6 < u1.heap.size := (by have h7 := k1.size; (try simp only [World.size_alloc, World.size_drew, size_drewN, World.size_setCell] at h7); omega); have yb5_1 : b5 < u1.heap.size := (by have h7 := k1.size; (try simp only [World.size_alloc, World.size_drew, size_drewN, World.size_setCell] at h7); omega); have yb4_1 : b4 < u1.heap.size := (by have h7 := k1.size; (try simp only [World.size_alloc, World.size_drew, size_drewN, World.size_setCell] at h7); omega); have yb3_1 : b3 < u1.heap.size := (by have h7 := k1.size; (try simp only [World.size_alloc, World.size_drew, size_drewN, World.size_setCell] at h7); omega); have yb2_1 : b2 < u1.heap.size := (by have h7 := k1.size; (try simp only [World.size_alloc, World.size_drew, size_drewN, World.size_setCell] at h7); omega)) | (go_at_call 19; (with_reducible refine (Equal_any (.slice jaC (cx : Per).head.length jbC) (.slice jcC (cx : Per).cycle.length jdC) (.slice jaD (cy : Per).head.length jbD) (.slice jcD (cy : Per).cycle.length jdD) cx cy _ (gC.is.ext (by (repeat' (with_reducible first | assumption | exact Ext.refl _ | refine Ext.alloc ?_ _ | refine Ext.drew ?_ | refine Ext.drewN ?_ _ | (refine Ext.setCell ?_ (by first | (simp; done) | (simp; omega) | omega) _) | refine Ext.trans ?_ (by assumption))))) (gD.is.ext (by (repeat' (with_reducible first | assumption | exact Ext.refl _ | refine Ext.alloc ?_ _ | refine Ext.drew ?_ | refine Ext.drewN ?_ _ | (refine Ext.setCell ?_ (by first | (simp; done) | (simp; omega) | omega) _) | refine Ext.trans ?_ (by assumption)))))).mono ?_); rintro e u2 ⟨he, k2⟩; rw [HD.out] at he; subst he; obtain ⟨kc2, kf2⟩ := bcell k2; (try simp only [World.size_alloc, World.size_drew, size_drewN, World.size_setCell] at kc2 kf2); have yb6_2 : b6 < u2.heap.size := (by have h7 := k2.size; (try simp only [World.size_alloc, World.size_drew, size_drewN, World.size_setCell] at h7); omega); have yb5_2 : b5 < u2.heap.size := (by have h7 := k2.size; (try simp only [World.size_alloc, World.size_drew, size_drewN, World.size_setCell] at h7); omega); have yb4_2 : b4 < u2.heap.size := (by have h7 := k2.size; (try simp only [World.size_alloc, World.size_drew, size_drewN, World.size_setCell] at h7); omega); have yb3_2 : b3 < u2.heap.size := (by have h7 := k2.size; (try simp only [World.size_alloc, World.size_drew, size_drewN, World.size_setCell] at h7); omega); have yb2_2 : b2 < u2.heap.size := (by have h7 := k2.size; (try simp only [World.size_alloc, World.size_drew, size_drewN, World.size_setCell] at h7); omega)) | (go_at_call 33; (with_reducible refine (same_ok (.slice jaX (x : Per).head.length jbX) (.slice jcX (x : Per).cycle.length jdX) (.slice jaY (y : Per).head.length jbY) (.slice jcY (y : Per).cycle.length jdY) x y cx cy _ (gX.is.ext (by (repeat' (with_reducible first | assumption | exact Ext.refl _ | refine Ext.alloc ?_ _ | refine Ext.drew ?_ | refine Ext.drewN ?_ _ | (refine Ext.setCell ?_ (by first | (simp; done) | (simp; omega) | omega) _) | refine Ext.trans ?_ (by assumption))))) (gY.is.ext (by (repeat' (with_reducible first | assumption | exact Ext.refl _ | refine Ext.alloc ?_ _ | refine Ext.drew ?_ | refine Ext.drewN ?_ _ | (refine Ext.setCell ?_ (by first | (simp; done) | (simp; omega) | omega) _) | refine Ext.trans ?_ (by assumption))))) VX.out VY.out Qcx.out Qcy.out).mono ?_); rintro e u3 ⟨he, k3⟩; rw [HSM.out] at he; subst he; obtain ⟨kc3, kf3⟩ := bcell k3; (try simp only [World.size_alloc, World.size_drew, size_drewN, World.size_setCell] at kc3 kf3); have yb6_3 : b6 < u3.heap.size := (by have h7 := k3.size; (try simp only [World.size_alloc, World.size_drew, size_drewN, World.size_setCell] at h7); omega); have yb5_3 : b5 < u3.heap.size := (by have h7 := k3.size; (try simp only [World.size_alloc, World.size_drew, size_drewN, World.size_setCell] at h7); omega); have yb4_3 : b4 < u3.heap.size := (by have h7 := k3.size; (try simp only [World.size_alloc, World.size_drew, size_drewN, World.size_setCell] at h7); omega); have yb3_3 : b3 < u3.heap.size := (by have h7 := k3.size; (try simp only [World.size_alloc, World.size_drew, size_drewN, World.size_setCell] at h7); omega); have yb2_3 : b2 < u3.heap.size := (by have h7 := k3.size; (try simp only [World.size_alloc, World.size_drew, size_drewN, World.size_setCell] at h7); omega)))
      go_ret
      exact ⟨rfl, by (repeat' (with_reducible first | assumption | exact Ext.refl _ | refine Ext.alloc ?_ _ | refine Ext.drew ?_ | refine Ext.drewN ?_ _ | (refine Ext.setCell ?_ (by first | (simp; done) | (simp; omega) | omega) _) | refine Ext.trans ?_ (by assumption)))⟩
end Go.Proofs.Ytjilkhhokkncoaa
