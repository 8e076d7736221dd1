/- Walks: PeriodicMembers (package kalendslaw04). -/
import Derived.Test.YtjilkhhokkncoaaK15
import Derived.Test.YtjilkhhokkncoaaK3
set_option linter.unusedVariables false
set_option linter.unusedSimpArgs false
namespace Go.Proofs.Ytjilkhhokkncoaa
open Go.RowKit Go.Maps Kal

theorem has_and {p1 p2 q : Per} (hq : IsCanon q (fun n => p1.mem n ∧ p2.mem n)) (n : Int) : (true && decide (0 ≤ n) && memB q n) = ((decide (0 ≤ n) && memB p1 n) && (decide (0 ≤ n) && memB p2 n)) := by
  by_cases h : 0 ≤ n
  · rw [decide_eq_true h, Bool.eq_iff_iff]; simp [memB_iff h, hq.mem]
  · rw [decide_eq_false h]; simp
theorem has_or {p1 p2 q : Per} (hq : IsCanon q (fun n => p1.mem n ∨ p2.mem n)) (n : Int) : (true && decide (0 ≤ n) && memB q n) = ((decide (0 ≤ n) && memB p1 n) || (decide (0 ≤ n) && memB p2 n)) := by
  by_cases h : 0 ≤ n
  · rw [decide_eq_true h, Bool.eq_iff_iff]; simp [memB_iff h, hq.mem]
  · rw [decide_eq_false h]; simp
theorem has_minus {p1 p2 q : Per} (hq : IsCanon q (fun n => p1.mem n ∧ ¬ p2.mem n)) (n : Int) : (true && decide (0 ≤ n) && memB q n) = ((decide (0 ≤ n) && memB p1 n) && !(decide (0 ≤ n) && memB p2 n)) := by
  by_cases h : 0 ≤ n
  · rw [decide_eq_true h, Bool.eq_iff_iff]
    have h1 := memB_iff (p := p2) h
    cases h2 : memB p2 n <;> simp [h2] at h1 <;> simp [memB_iff h, hq.mem, h1]
  · rw [decide_eq_false h]; simp

theorem grown_set {W W1 : World} {b : Nat} (hg : W.grownBy W1 (some b)) (i : Nat) (v : Value) : W.grownBy (W1.setCell ⟨b, i, none⟩ v) (some b) :=
  ⟨hg.os, hg.tape, hg.output, by have := hg.size; simp; omega, fun q hq hne => (Below.heap_setCell _ _ _ q (by simpa using hne)).trans (hg.block q hq hne)⟩

def DaysIs (w : World) (b : Nat) : Prop := ∃ (t : TypeId) (ds : List Int), BoxIs w b (ds.map (Value.int .i64)).toArray t ∧ ds.length = 4 ∧ ∀ z ∈ ds, InI z
theorem DaysIs.below {w w' : World} {b : Nat} (h : DaysIs w b) (hb : Below w.heap.size w w') : DaysIs w' b := by
  obtain ⟨t, ds, h1, h2, h3⟩ := h; exact ⟨t, ds, h1.below hb, h2, h3⟩
theorem DaysIs.set {w : World} {b i : Nat} {y : Int} (h : DaysIs w b) (hi : i < 4) (hy : InI y) : DaysIs (w.setCell ⟨b, i, none⟩ (.int .i64 y)) b := by
  obtain ⟨t, ds, h1, h2, h3⟩ := h
  refine ⟨t, ds.set i y, ?_, by simpa using h2, fun z hz => ?_⟩
  · have h9 := heap_set_at i (.int .i64 y) h1
    have e : ((ds.set i y).map (Value.int .i64)).toArray = ((ds.map (Value.int .i64)).toArray).setIfInBounds i (.int .i64 y) := by simp [List.map_set]
    unfold BoxIs; rw [e]; exact h9
  · rcases List.mem_or_eq_of_mem_set hz with h | h
    · exact h3 z h
    · subst h; exact hy

set_option maxRecDepth 100000 in
set_option maxHeartbeats 2000000 in
theorem PeriodicMembers_any (va : Value) (vb : Value) (day : Int) (w : World) (hra : RawIs w va) (hrb : RawIs w vb) (dy0 : -9223372036854775808 ≤ day) (dy1 : day ≤ 9223372036854775807) :
    Calls Try.prog 6 #[va, vb, .int .i64 day] w fun e w' => e = .returned (.bool true) ∧ Below w.heap.size w w' := by
  obtain ⟨hva, cva, hla, cla, fa, ta, rfl, hBa, hCa, f0a, f1a, t0a, t1a⟩ := hra
  have HBa := Lib.hid hBa
  have HCa := Lib.hid hCa
  obtain ⟨⟨a1a, c1a, rfl, jA⟩, jB, jC⟩ := hBa
  clear jA jB jC
  obtain ⟨⟨a2a, c2a, rfl, jA⟩, jB, jC⟩ := hCa
  clear jA jB jC
  obtain ⟨hvb, cvb, hlb, clb, fb, tb, rfl, hBb, hCb, f0b, f1b, t0b, t1b⟩ := hrb
  have HBb := Lib.hid hBb
  have HCb := Lib.hid hCb
  obtain ⟨⟨a1b, c1b, rfl, jA⟩, jB, jC⟩ := hBb
  clear jA jB jC
  obtain ⟨⟨a2b, c2b, rfl, jA⟩, jB, jC⟩ := hCb
  clear jA jB jC
  go_enter Try.func6, Try.ntmps6
  go_upto_region 1 with (fail)
  refine wp_abs (F := fun U => BoxIs U (w.heap.size) #[.slice a1a hla.length c1a, .int .u8 fa, .int .u8 ta, .slice a2a cla.length c2a] 24 ∧ BoxIs U (w.heap.size + 1) #[.slice a1b hlb.length c1b, .int .u8 fb, .int .u8 tb, .slice a2b clb.length c2b] 24 ∧ Sets U [] ∧ Below w.heap.size w U) ⟨by (first | (refine BoxIs.at ?_; simp; done) | (refine (BoxIs.at ?_).alloc _; simp; done) | (refine ((BoxIs.at ?_).alloc _).alloc _; simp; done) | (refine (((BoxIs.at ?_).alloc _).alloc _).alloc _; simp; done) | (refine ((((BoxIs.at ?_).alloc _).alloc _).alloc _).alloc _; simp; done) | (refine (((((BoxIs.at ?_).alloc _).alloc _).alloc _).alloc _).alloc _; simp; done) | (refine ((((((BoxIs.at ?_).alloc _).alloc _).alloc _).alloc _).alloc _).alloc _; simp; done) | (refine (((((((BoxIs.at ?_).alloc _).alloc _).alloc _).alloc _).alloc _).alloc _).alloc _; simp; done) | (refine ((((((((BoxIs.at ?_).alloc _).alloc _).alloc _).alloc _).alloc _).alloc _).alloc _).alloc _; simp; done) | (refine (((((((((BoxIs.at ?_).alloc _).alloc _).alloc _).alloc _).alloc _).alloc _).alloc _).alloc _).alloc _; simp; done) | (refine ((((((((((BoxIs.at ?_).alloc _).alloc _).alloc _).alloc _).alloc _).alloc _).alloc _).alloc _).alloc _).alloc _; simp; done) | (refine (((((((((((BoxIs.at ?_).alloc _).alloc _).alloc _).alloc _).alloc _).alloc _).alloc _).alloc _).alloc _).alloc _).alloc _; simp; done)), by (first | (refine BoxIs.at ?_; simp; done) | (refine (BoxIs.at ?_).alloc _; simp; done) | (refine ((BoxIs.at ?_).alloc _).alloc _; simp; done) | (refine (((BoxIs.at ?_).alloc _).alloc _).alloc _; simp; done) | (refine ((((BoxIs.at ?_).alloc _).alloc _).alloc _).alloc _; simp; done) | (refine (((((BoxIs.at ?_).alloc _).alloc _).alloc _).alloc _).alloc _; simp; done) | (refine ((((((BoxIs.at ?_).alloc _).alloc _).alloc _).alloc _).alloc _).alloc _; simp; done) | (refine (((((((BoxIs.at ?_).alloc _).alloc _).alloc _).alloc _).alloc _).alloc _).alloc _; simp; done) | (refine ((((((((BoxIs.at ?_).alloc _).alloc _).alloc _).alloc _).alloc _).alloc _).alloc _).alloc _; simp; done) | (refine (((((((((BoxIs.at ?_).alloc _).alloc _).alloc _).alloc _).alloc _).alloc _).alloc _).alloc _).alloc _; simp; done) | (refine ((((((((((BoxIs.at ?_).alloc _).alloc _).alloc _).alloc _).alloc _).alloc _).alloc _).alloc _).alloc _).alloc _; simp; done) | (refine (((((((((((BoxIs.at ?_).alloc _).alloc _).alloc _).alloc _).alloc _).alloc _).alloc _).alloc _).alloc _).alloc _).alloc _; simp; done)), Sets.nil _, by (repeat' (first | (with_reducible first | exact Ext.refl _ | assumption | refine Ext.alloc ?_ _ | refine Ext.drew ?_ | refine Ext.drewN ?_ _ | refine Ext.setCell ?_ (by first | (simp; done) | (simp; omega) | omega) _) | exact Ext.refl _ | assumption | refine Ext.alloc ?_ _ | refine Ext.drew ?_ | refine Ext.drewN ?_ _ | refine Ext.setCell ?_ (by first | (simp; done) | (simp; omega) | omega) _ | refine Ext.trans ?_ (by assumption)))⟩ ?_
  rintro W1 ⟨hWa, hWb, hS, hE⟩
  go_upto_region 2 with (go_at_call 13; refine (sanity_any _).mono ?_; rintro e u1 ⟨rfl, k1⟩)
  refine wp_abs (F := fun U => BoxIs U (w.heap.size) #[.slice a1a hla.length c1a, .int .u8 fa, .int .u8 ta, .slice a2a cla.length c2a] 24 ∧ BoxIs U (w.heap.size + 1) #[.slice a1b hlb.length c1b, .int .u8 fb, .int .u8 tb, .slice a2b clb.length c2b] 24 ∧ Sets U [] ∧ Below w.heap.size w U) ⟨hWa.below (by (repeat' (first | (with_reducible first | exact Ext.refl _ | assumption | refine Ext.alloc ?_ _ | refine Ext.drew ?_ | refine Ext.drewN ?_ _ | refine Ext.setCell ?_ (by first | (simp; done) | (simp; omega) | omega) _) | exact Ext.refl _ | assumption | refine Ext.alloc ?_ _ | refine Ext.drew ?_ | refine Ext.drewN ?_ _ | refine Ext.setCell ?_ (by first | (simp; done) | (simp; omega) | omega) _ | refine Ext.trans ?_ (by assumption)))), hWb.below (by (repeat' (first | (with_reducible first | exact Ext.refl _ | assumption | refine Ext.alloc ?_ _ | refine Ext.drew ?_ | refine Ext.drewN ?_ _ | refine Ext.setCell ?_ (by first | (simp; done) | (simp; omega) | omega) _) | exact Ext.refl _ | assumption | refine Ext.alloc ?_ _ | refine Ext.drew ?_ | refine Ext.drewN ?_ _ | refine Ext.setCell ?_ (by first | (simp; done) | (simp; omega) | omega) _ | refine Ext.trans ?_ (by assumption)))), hS.below (by (repeat' (first | (with_reducible first | exact Ext.refl _ | assumption | refine Ext.alloc ?_ _ | refine Ext.drew ?_ | refine Ext.drewN ?_ _ | refine Ext.setCell ?_ (by first | (simp; done) | (simp; omega) | omega) _) | exact Ext.refl _ | assumption | refine Ext.alloc ?_ _ | refine Ext.drew ?_ | refine Ext.drewN ?_ _ | refine Ext.setCell ?_ (by first | (simp; done) | (simp; omega) | omega) _ | refine Ext.trans ?_ (by assumption)))), by (repeat' (first | (with_reducible first | exact Ext.refl _ | assumption | refine Ext.alloc ?_ _ | refine Ext.drew ?_ | refine Ext.drewN ?_ _ | refine Ext.setCell ?_ (by first | (simp; done) | (simp; omega) | omega) _) | exact Ext.refl _ | assumption | refine Ext.alloc ?_ _ | refine Ext.drew ?_ | refine Ext.drewN ?_ _ | refine Ext.setCell ?_ (by first | (simp; done) | (simp; omega) | omega) _ | refine Ext.trans ?_ (by assumption)))⟩ ?_
  clear hWa hWb hS hE k1
  rintro W2 ⟨hWa, hWb, hS, hE⟩
  have r0 := (hWa.cells 0).1
  have r1 := (hWa.cells 1).1
  have r2 := (hWa.cells 2).1
  have r3 := (hWa.cells 3).1
  go_upto_region 3 with (go_at_call 14; refine (Made_any _ _ hla cla fa ta _ (HBa.out.ext (by (repeat' (first | (with_reducible first | exact Ext.refl _ | assumption | refine Ext.alloc ?_ _ | refine Ext.drew ?_ | refine Ext.drewN ?_ _ | refine Ext.setCell ?_ (by first | (simp; done) | (simp; omega) | omega) _) | exact Ext.refl _ | assumption | refine Ext.alloc ?_ _ | refine Ext.drew ?_ | refine Ext.drewN ?_ _ | refine Ext.setCell ?_ (by first | (simp; done) | (simp; omega) | omega) _ | refine Ext.trans ?_ (by assumption))))) (HCa.out.ext (by (repeat' (first | (with_reducible first | exact Ext.refl _ | assumption | refine Ext.alloc ?_ _ | refine Ext.drew ?_ | refine Ext.drewN ?_ _ | refine Ext.setCell ?_ (by first | (simp; done) | (simp; omega) | omega) _) | exact Ext.refl _ | assumption | refine Ext.alloc ?_ _ | refine Ext.drew ?_ | refine Ext.drewN ?_ _ | refine Ext.setCell ?_ (by first | (simp; done) | (simp; omega) | omega) _ | refine Ext.trans ?_ (by assumption))))) f0a f1a t0a t1a).mono ?_; rintro e uR ⟨hR, cR, x, rfl, oR, wfx, frx, prx, kR⟩; have sR := oR.is; obtain ⟨x1_2, y1_2, x2_2, y2_2, rfl, rfl⟩ := oR.form; clear oR)
  have Sx : Hid (Sm 20 12 x) := Lib.hid ⟨wfx, frx, prx⟩
  refine wp_abs (F := fun U => BoxIs U (w.heap.size + 1) #[.slice a1b hlb.length c1b, .int .u8 fb, .int .u8 tb, .slice a2b clb.length c2b] 24 ∧ Sets U ((uR.heap.size, x) :: []) ∧ Below w.heap.size w U) ⟨hWb.below (by (repeat' (first | (with_reducible first | exact Ext.refl _ | assumption | refine Ext.alloc ?_ _ | refine Ext.drew ?_ | refine Ext.drewN ?_ _ | refine Ext.setCell ?_ (by first | (simp; done) | (simp; omega) | omega) _) | exact Ext.refl _ | assumption | refine Ext.alloc ?_ _ | refine Ext.drew ?_ | refine Ext.drewN ?_ _ | refine Ext.setCell ?_ (by first | (simp; done) | (simp; omega) | omega) _ | refine Ext.trans ?_ (by assumption)))), Sets.cons ⟨.slice x1_2 (x : Per).head.length y1_2, .slice x2_2 (x : Per).cycle.length y2_2, by (first | (refine BoxIs.at ?_; simp; done) | (refine (BoxIs.at ?_).alloc _; simp; done) | (refine ((BoxIs.at ?_).alloc _).alloc _; simp; done) | (refine (((BoxIs.at ?_).alloc _).alloc _).alloc _; simp; done) | (refine ((((BoxIs.at ?_).alloc _).alloc _).alloc _).alloc _; simp; done) | (refine (((((BoxIs.at ?_).alloc _).alloc _).alloc _).alloc _).alloc _; simp; done) | (refine ((((((BoxIs.at ?_).alloc _).alloc _).alloc _).alloc _).alloc _).alloc _; simp; done) | (refine (((((((BoxIs.at ?_).alloc _).alloc _).alloc _).alloc _).alloc _).alloc _).alloc _; simp; done) | (refine ((((((((BoxIs.at ?_).alloc _).alloc _).alloc _).alloc _).alloc _).alloc _).alloc _).alloc _; simp; done) | (refine (((((((((BoxIs.at ?_).alloc _).alloc _).alloc _).alloc _).alloc _).alloc _).alloc _).alloc _).alloc _; simp; done) | (refine ((((((((((BoxIs.at ?_).alloc _).alloc _).alloc _).alloc _).alloc _).alloc _).alloc _).alloc _).alloc _).alloc _; simp; done) | (refine (((((((((((BoxIs.at ?_).alloc _).alloc _).alloc _).alloc _).alloc _).alloc _).alloc _).alloc _).alloc _).alloc _).alloc _; simp; done)), sR.ext (by (repeat' (first | (with_reducible first | exact Ext.refl _ | assumption | refine Ext.alloc ?_ _ | refine Ext.drew ?_ | refine Ext.drewN ?_ _ | refine Ext.setCell ?_ (by first | (simp; done) | (simp; omega) | omega) _) | exact Ext.refl _ | assumption | refine Ext.alloc ?_ _ | refine Ext.drew ?_ | refine Ext.drewN ?_ _ | refine Ext.setCell ?_ (by first | (simp; done) | (simp; omega) | omega) _ | refine Ext.trans ?_ (by assumption))))⟩ (hS.below (by (repeat' (first | (with_reducible first | exact Ext.refl _ | assumption | refine Ext.alloc ?_ _ | refine Ext.drew ?_ | refine Ext.drewN ?_ _ | refine Ext.setCell ?_ (by first | (simp; done) | (simp; omega) | omega) _) | exact Ext.refl _ | assumption | refine Ext.alloc ?_ _ | refine Ext.drew ?_ | refine Ext.drewN ?_ _ | refine Ext.setCell ?_ (by first | (simp; done) | (simp; omega) | omega) _ | refine Ext.trans ?_ (by assumption))))), by (repeat' (first | (with_reducible first | exact Ext.refl _ | assumption | refine Ext.alloc ?_ _ | refine Ext.drew ?_ | refine Ext.drewN ?_ _ | refine Ext.setCell ?_ (by first | (simp; done) | (simp; omega) | omega) _) | exact Ext.refl _ | assumption | refine Ext.alloc ?_ _ | refine Ext.drew ?_ | refine Ext.drewN ?_ _ | refine Ext.setCell ?_ (by first | (simp; done) | (simp; omega) | omega) _ | refine Ext.trans ?_ (by assumption)))⟩ ?_
  clear hWa hWb hS hE sR kR r0 r1 r2 r3 wfx frx prx
  generalize uR.heap.size = b2 at *
  rintro W3 ⟨hWb, hS, hE⟩
  have r0 := (hWb.cells 0).1
  have r1 := (hWb.cells 1).1
  have r2 := (hWb.cells 2).1
  have r3 := (hWb.cells 3).1
  go_upto_region 4 with (go_at_call 14; refine (Made_any _ _ hlb clb fb tb _ (HBb.out.ext (by (repeat' (first | (with_reducible first | exact Ext.refl _ | assumption | refine Ext.alloc ?_ _ | refine Ext.drew ?_ | refine Ext.drewN ?_ _ | refine Ext.setCell ?_ (by first | (simp; done) | (simp; omega) | omega) _) | exact Ext.refl _ | assumption | refine Ext.alloc ?_ _ | refine Ext.drew ?_ | refine Ext.drewN ?_ _ | refine Ext.setCell ?_ (by first | (simp; done) | (simp; omega) | omega) _ | refine Ext.trans ?_ (by assumption))))) (HCb.out.ext (by (repeat' (first | (with_reducible first | exact Ext.refl _ | assumption | refine Ext.alloc ?_ _ | refine Ext.drew ?_ | refine Ext.drewN ?_ _ | refine Ext.setCell ?_ (by first | (simp; done) | (simp; omega) | omega) _) | exact Ext.refl _ | assumption | refine Ext.alloc ?_ _ | refine Ext.drew ?_ | refine Ext.drewN ?_ _ | refine Ext.setCell ?_ (by first | (simp; done) | (simp; omega) | omega) _ | refine Ext.trans ?_ (by assumption))))) f0b f1b t0b t1b).mono ?_; rintro e uR ⟨hR, cR, y, rfl, oR, wfy, fry, pry, kR⟩; have sR := oR.is; obtain ⟨x1_3, y1_3, x2_3, y2_3, rfl, rfl⟩ := oR.form; clear oR)
  have Sy : Hid (Sm 20 12 y) := Lib.hid ⟨wfy, fry, pry⟩
  refine wp_abs (F := fun U => Sets U ((uR.heap.size, y) :: [(b2, x)]) ∧ Below w.heap.size w U) ⟨Sets.cons ⟨.slice x1_3 (y : Per).head.length y1_3, .slice x2_3 (y : Per).cycle.length y2_3, by (first | (refine BoxIs.at ?_; simp; done) | (refine (BoxIs.at ?_).alloc _; simp; done) | (refine ((BoxIs.at ?_).alloc _).alloc _; simp; done) | (refine (((BoxIs.at ?_).alloc _).alloc _).alloc _; simp; done) | (refine ((((BoxIs.at ?_).alloc _).alloc _).alloc _).alloc _; simp; done) | (refine (((((BoxIs.at ?_).alloc _).alloc _).alloc _).alloc _).alloc _; simp; done) | (refine ((((((BoxIs.at ?_).alloc _).alloc _).alloc _).alloc _).alloc _).alloc _; simp; done) | (refine (((((((BoxIs.at ?_).alloc _).alloc _).alloc _).alloc _).alloc _).alloc _).alloc _; simp; done) | (refine ((((((((BoxIs.at ?_).alloc _).alloc _).alloc _).alloc _).alloc _).alloc _).alloc _).alloc _; simp; done) | (refine (((((((((BoxIs.at ?_).alloc _).alloc _).alloc _).alloc _).alloc _).alloc _).alloc _).alloc _).alloc _; simp; done) | (refine ((((((((((BoxIs.at ?_).alloc _).alloc _).alloc _).alloc _).alloc _).alloc _).alloc _).alloc _).alloc _).alloc _; simp; done) | (refine (((((((((((BoxIs.at ?_).alloc _).alloc _).alloc _).alloc _).alloc _).alloc _).alloc _).alloc _).alloc _).alloc _).alloc _; simp; done)), sR.ext (by (repeat' (first | (with_reducible first | exact Ext.refl _ | assumption | refine Ext.alloc ?_ _ | refine Ext.drew ?_ | refine Ext.drewN ?_ _ | refine Ext.setCell ?_ (by first | (simp; done) | (simp; omega) | omega) _) | exact Ext.refl _ | assumption | refine Ext.alloc ?_ _ | refine Ext.drew ?_ | refine Ext.drewN ?_ _ | refine Ext.setCell ?_ (by first | (simp; done) | (simp; omega) | omega) _ | refine Ext.trans ?_ (by assumption))))⟩ (hS.below (by (repeat' (first | (with_reducible first | exact Ext.refl _ | assumption | refine Ext.alloc ?_ _ | refine Ext.drew ?_ | refine Ext.drewN ?_ _ | refine Ext.setCell ?_ (by first | (simp; done) | (simp; omega) | omega) _) | exact Ext.refl _ | assumption | refine Ext.alloc ?_ _ | refine Ext.drew ?_ | refine Ext.drewN ?_ _ | refine Ext.setCell ?_ (by first | (simp; done) | (simp; omega) | omega) _ | refine Ext.trans ?_ (by assumption))))), by (repeat' (first | (with_reducible first | exact Ext.refl _ | assumption | refine Ext.alloc ?_ _ | refine Ext.drew ?_ | refine Ext.drewN ?_ _ | refine Ext.setCell ?_ (by first | (simp; done) | (simp; omega) | omega) _) | exact Ext.refl _ | assumption | refine Ext.alloc ?_ _ | refine Ext.drew ?_ | refine Ext.drewN ?_ _ | refine Ext.setCell ?_ (by first | (simp; done) | (simp; omega) | omega) _ | refine Ext.trans ?_ (by assumption)))⟩ ?_
  clear hWb hS hE sR kR r0 r1 r2 r3 wfy fry pry
  generalize uR.heap.size = b3 at *
  rintro W4 ⟨hS, hE⟩
  obtain ⟨n_, hqn_, hsn_⟩ := and_ex Sx.out Sy.out
  have Qn_ := Lib.hid hqn_
  have Sn_ := Lib.hid hsn_
  clear hqn_ hsn_
  obtain ⟨o, hqo, hso⟩ := or_ex Sx.out Sy.out
  have Qo := Lib.hid hqo
  have So := Lib.hid hso
  clear hqo hso
  obtain ⟨d, hqd, hsd⟩ := minus_ex Sx.out Sy.out
  have Qd := Lib.hid hqd
  have Sd := Lib.hid hsd
  clear hqd hsd
  obtain ⟨hA, cA, gA⟩ := hS.at 1 rfl
  have qa0 := (gA.box.cells 0).1
  have qa1 := (gA.box.cells 1).1
  have qa2 := (gA.box.cells 2).1
  have qa3 := (gA.box.cells 3).1
  obtain ⟨hB, cB, gB⟩ := hS.at 0 rfl
  have qb0 := (gB.box.cells 0).1
  have qb1 := (gB.box.cells 1).1
  have qb2 := (gB.box.cells 2).1
  have qb3 := (gB.box.cells 3).1
  go_upto_region 5 with (go_at_call 22; refine (And_sm hA cA hB cB x y n_ 20 12 12 _ (gA.is.ext (by (repeat' (first | (with_reducible first | exact Ext.refl _ | assumption | refine Ext.alloc ?_ _ | refine Ext.drew ?_ | refine Ext.drewN ?_ _ | refine Ext.setCell ?_ (by first | (simp; done) | (simp; omega) | omega) _) | exact Ext.refl _ | assumption | refine Ext.alloc ?_ _ | refine Ext.drew ?_ | refine Ext.drewN ?_ _ | refine Ext.setCell ?_ (by first | (simp; done) | (simp; omega) | omega) _ | refine Ext.trans ?_ (by assumption))))) (gB.is.ext (by (repeat' (first | (with_reducible first | exact Ext.refl _ | assumption | refine Ext.alloc ?_ _ | refine Ext.drew ?_ | refine Ext.drewN ?_ _ | refine Ext.setCell ?_ (by first | (simp; done) | (simp; omega) | omega) _) | exact Ext.refl _ | assumption | refine Ext.alloc ?_ _ | refine Ext.drew ?_ | refine Ext.drewN ?_ _ | refine Ext.setCell ?_ (by first | (simp; done) | (simp; omega) | omega) _ | refine Ext.trans ?_ (by assumption))))) Sx.out Sy.out (by omega) Qn_.out).mono ?_; rintro e uR ⟨hR, cR, rfl, oR, kR⟩; have sR := oR.is; obtain ⟨x1_4, y1_4, x2_4, y2_4, rfl, rfl⟩ := oR.form; clear oR)
  refine wp_abs (F := fun U => Sets U ((uR.heap.size, n_) :: [(b3, y), (b2, x)]) ∧ Below w.heap.size w U) ⟨Sets.cons ⟨.slice x1_4 (n_ : Per).head.length y1_4, .slice x2_4 (n_ : Per).cycle.length y2_4, by (first | (refine BoxIs.at ?_; simp; done) | (refine (BoxIs.at ?_).alloc _; simp; done) | (refine ((BoxIs.at ?_).alloc _).alloc _; simp; done) | (refine (((BoxIs.at ?_).alloc _).alloc _).alloc _; simp; done) | (refine ((((BoxIs.at ?_).alloc _).alloc _).alloc _).alloc _; simp; done) | (refine (((((BoxIs.at ?_).alloc _).alloc _).alloc _).alloc _).alloc _; simp; done) | (refine ((((((BoxIs.at ?_).alloc _).alloc _).alloc _).alloc _).alloc _).alloc _; simp; done) | (refine (((((((BoxIs.at ?_).alloc _).alloc _).alloc _).alloc _).alloc _).alloc _).alloc _; simp; done) | (refine ((((((((BoxIs.at ?_).alloc _).alloc _).alloc _).alloc _).alloc _).alloc _).alloc _).alloc _; simp; done) | (refine (((((((((BoxIs.at ?_).alloc _).alloc _).alloc _).alloc _).alloc _).alloc _).alloc _).alloc _).alloc _; simp; done) | (refine ((((((((((BoxIs.at ?_).alloc _).alloc _).alloc _).alloc _).alloc _).alloc _).alloc _).alloc _).alloc _).alloc _; simp; done) | (refine (((((((((((BoxIs.at ?_).alloc _).alloc _).alloc _).alloc _).alloc _).alloc _).alloc _).alloc _).alloc _).alloc _).alloc _; simp; done)), sR.ext (by (repeat' (first | (with_reducible first | exact Ext.refl _ | assumption | refine Ext.alloc ?_ _ | refine Ext.drew ?_ | refine Ext.drewN ?_ _ | refine Ext.setCell ?_ (by first | (simp; done) | (simp; omega) | omega) _) | exact Ext.refl _ | assumption | refine Ext.alloc ?_ _ | refine Ext.drew ?_ | refine Ext.drewN ?_ _ | refine Ext.setCell ?_ (by first | (simp; done) | (simp; omega) | omega) _ | refine Ext.trans ?_ (by assumption))))⟩ (hS.below (by (repeat' (first | (with_reducible first | exact Ext.refl _ | assumption | refine Ext.alloc ?_ _ | refine Ext.drew ?_ | refine Ext.drewN ?_ _ | refine Ext.setCell ?_ (by first | (simp; done) | (simp; omega) | omega) _) | exact Ext.refl _ | assumption | refine Ext.alloc ?_ _ | refine Ext.drew ?_ | refine Ext.drewN ?_ _ | refine Ext.setCell ?_ (by first | (simp; done) | (simp; omega) | omega) _ | refine Ext.trans ?_ (by assumption))))), by (repeat' (first | (with_reducible first | exact Ext.refl _ | assumption | refine Ext.alloc ?_ _ | refine Ext.drew ?_ | refine Ext.drewN ?_ _ | refine Ext.setCell ?_ (by first | (simp; done) | (simp; omega) | omega) _) | exact Ext.refl _ | assumption | refine Ext.alloc ?_ _ | refine Ext.drew ?_ | refine Ext.drewN ?_ _ | refine Ext.setCell ?_ (by first | (simp; done) | (simp; omega) | omega) _ | refine Ext.trans ?_ (by assumption)))⟩ ?_
  clear hS hE sR kR gA qa0 qa1 qa2 qa3 gB qb0 qb1 qb2 qb3
  generalize uR.heap.size = b4 at *
  rintro W5 ⟨hS, hE⟩
  obtain ⟨hA, cA, gA⟩ := hS.at 2 rfl
  have qa0 := (gA.box.cells 0).1
  have qa1 := (gA.box.cells 1).1
  have qa2 := (gA.box.cells 2).1
  have qa3 := (gA.box.cells 3).1
  obtain ⟨hB, cB, gB⟩ := hS.at 1 rfl
  have qb0 := (gB.box.cells 0).1
  have qb1 := (gB.box.cells 1).1
  have qb2 := (gB.box.cells 2).1
  have qb3 := (gB.box.cells 3).1
  go_upto_region 6 with (go_at_call 21; refine (Or_sm hA cA hB cB x y o 20 12 12 _ (gA.is.ext (by (repeat' (first | (with_reducible first | exact Ext.refl _ | assumption | refine Ext.alloc ?_ _ | refine Ext.drew ?_ | refine Ext.drewN ?_ _ | refine Ext.setCell ?_ (by first | (simp; done) | (simp; omega) | omega) _) | exact Ext.refl _ | assumption | refine Ext.alloc ?_ _ | refine Ext.drew ?_ | refine Ext.drewN ?_ _ | refine Ext.setCell ?_ (by first | (simp; done) | (simp; omega) | omega) _ | refine Ext.trans ?_ (by assumption))))) (gB.is.ext (by (repeat' (first | (with_reducible first | exact Ext.refl _ | assumption | refine Ext.alloc ?_ _ | refine Ext.drew ?_ | refine Ext.drewN ?_ _ | refine Ext.setCell ?_ (by first | (simp; done) | (simp; omega) | omega) _) | exact Ext.refl _ | assumption | refine Ext.alloc ?_ _ | refine Ext.drew ?_ | refine Ext.drewN ?_ _ | refine Ext.setCell ?_ (by first | (simp; done) | (simp; omega) | omega) _ | refine Ext.trans ?_ (by assumption))))) Sx.out Sy.out (by omega) Qo.out).mono ?_; rintro e uR ⟨hR, cR, rfl, oR, kR⟩; have sR := oR.is; obtain ⟨x1_5, y1_5, x2_5, y2_5, rfl, rfl⟩ := oR.form; clear oR)
  refine wp_abs (F := fun U => Sets U ((uR.heap.size, o) :: [(b4, n_), (b3, y), (b2, x)]) ∧ Below w.heap.size w U) ⟨Sets.cons ⟨.slice x1_5 (o : Per).head.length y1_5, .slice x2_5 (o : Per).cycle.length y2_5, by (first | (refine BoxIs.at ?_; simp; done) | (refine (BoxIs.at ?_).alloc _; simp; done) | (refine ((BoxIs.at ?_).alloc _).alloc _; simp; done) | (refine (((BoxIs.at ?_).alloc _).alloc _).alloc _; simp; done) | (refine ((((BoxIs.at ?_).alloc _).alloc _).alloc _).alloc _; simp; done) | (refine (((((BoxIs.at ?_).alloc _).alloc _).alloc _).alloc _).alloc _; simp; done) | (refine ((((((BoxIs.at ?_).alloc _).alloc _).alloc _).alloc _).alloc _).alloc _; simp; done) | (refine (((((((BoxIs.at ?_).alloc _).alloc _).alloc _).alloc _).alloc _).alloc _).alloc _; simp; done) | (refine ((((((((BoxIs.at ?_).alloc _).alloc _).alloc _).alloc _).alloc _).alloc _).alloc _).alloc _; simp; done) | (refine (((((((((BoxIs.at ?_).alloc _).alloc _).alloc _).alloc _).alloc _).alloc _).alloc _).alloc _).alloc _; simp; done) | (refine ((((((((((BoxIs.at ?_).alloc _).alloc _).alloc _).alloc _).alloc _).alloc _).alloc _).alloc _).alloc _).alloc _; simp; done) | (refine (((((((((((BoxIs.at ?_).alloc _).alloc _).alloc _).alloc _).alloc _).alloc _).alloc _).alloc _).alloc _).alloc _).alloc _; simp; done)), sR.ext (by (repeat' (first | (with_reducible first | exact Ext.refl _ | assumption | refine Ext.alloc ?_ _ | refine Ext.drew ?_ | refine Ext.drewN ?_ _ | refine Ext.setCell ?_ (by first | (simp; done) | (simp; omega) | omega) _) | exact Ext.refl _ | assumption | refine Ext.alloc ?_ _ | refine Ext.drew ?_ | refine Ext.drewN ?_ _ | refine Ext.setCell ?_ (by first | (simp; done) | (simp; omega) | omega) _ | refine Ext.trans ?_ (by assumption))))⟩ (hS.below (by (repeat' (first | (with_reducible first | exact Ext.refl _ | assumption | refine Ext.alloc ?_ _ | refine Ext.drew ?_ | refine Ext.drewN ?_ _ | refine Ext.setCell ?_ (by first | (simp; done) | (simp; omega) | omega) _) | exact Ext.refl _ | assumption | refine Ext.alloc ?_ _ | refine Ext.drew ?_ | refine Ext.drewN ?_ _ | refine Ext.setCell ?_ (by first | (simp; done) | (simp; omega) | omega) _ | refine Ext.trans ?_ (by assumption))))), by (repeat' (first | (with_reducible first | exact Ext.refl _ | assumption | refine Ext.alloc ?_ _ | refine Ext.drew ?_ | refine Ext.drewN ?_ _ | refine Ext.setCell ?_ (by first | (simp; done) | (simp; omega) | omega) _) | exact Ext.refl _ | assumption | refine Ext.alloc ?_ _ | refine Ext.drew ?_ | refine Ext.drewN ?_ _ | refine Ext.setCell ?_ (by first | (simp; done) | (simp; omega) | omega) _ | refine Ext.trans ?_ (by assumption)))⟩ ?_
  clear hS hE sR kR gA qa0 qa1 qa2 qa3 gB qb0 qb1 qb2 qb3
  generalize uR.heap.size = b5 at *
  rintro W6 ⟨hS, hE⟩
  obtain ⟨hA, cA, gA⟩ := hS.at 3 rfl
  have qa0 := (gA.box.cells 0).1
  have qa1 := (gA.box.cells 1).1
  have qa2 := (gA.box.cells 2).1
  have qa3 := (gA.box.cells 3).1
  obtain ⟨hB, cB, gB⟩ := hS.at 2 rfl
  have qb0 := (gB.box.cells 0).1
  have qb1 := (gB.box.cells 1).1
  have qb2 := (gB.box.cells 2).1
  have qb3 := (gB.box.cells 3).1
  go_upto_region 7 with (go_at_call 23; refine (Minus_sm hA cA hB cB x y d 20 12 12 _ (gA.is.ext (by (repeat' (first | (with_reducible first | exact Ext.refl _ | assumption | refine Ext.alloc ?_ _ | refine Ext.drew ?_ | refine Ext.drewN ?_ _ | refine Ext.setCell ?_ (by first | (simp; done) | (simp; omega) | omega) _) | exact Ext.refl _ | assumption | refine Ext.alloc ?_ _ | refine Ext.drew ?_ | refine Ext.drewN ?_ _ | refine Ext.setCell ?_ (by first | (simp; done) | (simp; omega) | omega) _ | refine Ext.trans ?_ (by assumption))))) (gB.is.ext (by (repeat' (first | (with_reducible first | exact Ext.refl _ | assumption | refine Ext.alloc ?_ _ | refine Ext.drew ?_ | refine Ext.drewN ?_ _ | refine Ext.setCell ?_ (by first | (simp; done) | (simp; omega) | omega) _) | exact Ext.refl _ | assumption | refine Ext.alloc ?_ _ | refine Ext.drew ?_ | refine Ext.drewN ?_ _ | refine Ext.setCell ?_ (by first | (simp; done) | (simp; omega) | omega) _ | refine Ext.trans ?_ (by assumption))))) Sx.out Sy.out (by omega) Qd.out).mono ?_; rintro e uR ⟨hR, cR, rfl, oR, kR⟩; have sR := oR.is; obtain ⟨x1_6, y1_6, x2_6, y2_6, rfl, rfl⟩ := oR.form; clear oR)
  refine wp_abs (F := fun U => Sets U ((uR.heap.size, d) :: [(b5, o), (b4, n_), (b3, y), (b2, x)]) ∧ Below w.heap.size w U) ⟨Sets.cons ⟨.slice x1_6 (d : Per).head.length y1_6, .slice x2_6 (d : Per).cycle.length y2_6, by (first | (refine BoxIs.at ?_; simp; done) | (refine (BoxIs.at ?_).alloc _; simp; done) | (refine ((BoxIs.at ?_).alloc _).alloc _; simp; done) | (refine (((BoxIs.at ?_).alloc _).alloc _).alloc _; simp; done) | (refine ((((BoxIs.at ?_).alloc _).alloc _).alloc _).alloc _; simp; done) | (refine (((((BoxIs.at ?_).alloc _).alloc _).alloc _).alloc _).alloc _; simp; done) | (refine ((((((BoxIs.at ?_).alloc _).alloc _).alloc _).alloc _).alloc _).alloc _; simp; done) | (refine (((((((BoxIs.at ?_).alloc _).alloc _).alloc _).alloc _).alloc _).alloc _).alloc _; simp; done) | (refine ((((((((BoxIs.at ?_).alloc _).alloc _).alloc _).alloc _).alloc _).alloc _).alloc _).alloc _; simp; done) | (refine (((((((((BoxIs.at ?_).alloc _).alloc _).alloc _).alloc _).alloc _).alloc _).alloc _).alloc _).alloc _; simp; done) | (refine ((((((((((BoxIs.at ?_).alloc _).alloc _).alloc _).alloc _).alloc _).alloc _).alloc _).alloc _).alloc _).alloc _; simp; done) | (refine (((((((((((BoxIs.at ?_).alloc _).alloc _).alloc _).alloc _).alloc _).alloc _).alloc _).alloc _).alloc _).alloc _).alloc _; simp; done)), sR.ext (by (repeat' (first | (with_reducible first | exact Ext.refl _ | assumption | refine Ext.alloc ?_ _ | refine Ext.drew ?_ | refine Ext.drewN ?_ _ | refine Ext.setCell ?_ (by first | (simp; done) | (simp; omega) | omega) _) | exact Ext.refl _ | assumption | refine Ext.alloc ?_ _ | refine Ext.drew ?_ | refine Ext.drewN ?_ _ | refine Ext.setCell ?_ (by first | (simp; done) | (simp; omega) | omega) _ | refine Ext.trans ?_ (by assumption))))⟩ (hS.below (by (repeat' (first | (with_reducible first | exact Ext.refl _ | assumption | refine Ext.alloc ?_ _ | refine Ext.drew ?_ | refine Ext.drewN ?_ _ | refine Ext.setCell ?_ (by first | (simp; done) | (simp; omega) | omega) _) | exact Ext.refl _ | assumption | refine Ext.alloc ?_ _ | refine Ext.drew ?_ | refine Ext.drewN ?_ _ | refine Ext.setCell ?_ (by first | (simp; done) | (simp; omega) | omega) _ | refine Ext.trans ?_ (by assumption))))), by (repeat' (first | (with_reducible first | exact Ext.refl _ | assumption | refine Ext.alloc ?_ _ | refine Ext.drew ?_ | refine Ext.drewN ?_ _ | refine Ext.setCell ?_ (by first | (simp; done) | (simp; omega) | omega) _) | exact Ext.refl _ | assumption | refine Ext.alloc ?_ _ | refine Ext.drew ?_ | refine Ext.drewN ?_ _ | refine Ext.setCell ?_ (by first | (simp; done) | (simp; omega) | omega) _ | refine Ext.trans ?_ (by assumption)))⟩ ?_
  clear hS hE sR kR gA qa0 qa1 qa2 qa3 gB qb0 qb1 qb2 qb3
  generalize uR.heap.size = b6 at *
  rintro W7 ⟨hS, hE⟩
  have HS7 := Lib.hid hS
  have HE7 := Lib.hid hE
  go_upto_region 10 with (fail)
  refine wp_abs (F := fun U => DaysIs U W7.heap.size ∧ Below W7.heap.size W7 U) ⟨⟨_, [day, 0, 0, 0], by (first | (refine BoxIs.at ?_; simp; done) | (refine (BoxIs.at ?_).alloc _; simp; done) | (refine ((BoxIs.at ?_).alloc _).alloc _; simp; done) | (refine (((BoxIs.at ?_).alloc _).alloc _).alloc _; simp; done) | (refine ((((BoxIs.at ?_).alloc _).alloc _).alloc _).alloc _; simp; done) | (refine (((((BoxIs.at ?_).alloc _).alloc _).alloc _).alloc _).alloc _; simp; done) | (refine ((((((BoxIs.at ?_).alloc _).alloc _).alloc _).alloc _).alloc _).alloc _; simp; done) | (refine (((((((BoxIs.at ?_).alloc _).alloc _).alloc _).alloc _).alloc _).alloc _).alloc _; simp; done) | (refine ((((((((BoxIs.at ?_).alloc _).alloc _).alloc _).alloc _).alloc _).alloc _).alloc _).alloc _; simp; done) | (refine (((((((((BoxIs.at ?_).alloc _).alloc _).alloc _).alloc _).alloc _).alloc _).alloc _).alloc _).alloc _; simp; done) | (refine ((((((((((BoxIs.at ?_).alloc _).alloc _).alloc _).alloc _).alloc _).alloc _).alloc _).alloc _).alloc _).alloc _; simp; done) | (refine (((((((((((BoxIs.at ?_).alloc _).alloc _).alloc _).alloc _).alloc _).alloc _).alloc _).alloc _).alloc _).alloc _).alloc _; simp; done)), rfl, by intro z hz; simp at hz; unfold InI; omega⟩, by (repeat' (first | (with_reducible first | exact Ext.refl _ | assumption | refine Ext.alloc ?_ _ | refine Ext.drew ?_ | refine Ext.drewN ?_ _ | refine Ext.setCell ?_ (by first | (simp; done) | (simp; omega) | omega) _) | exact Ext.refl _ | assumption | refine Ext.alloc ?_ _ | refine Ext.drew ?_ | refine Ext.drewN ?_ _ | refine Ext.setCell ?_ (by first | (simp; done) | (simp; omega) | omega) _ | refine Ext.trans ?_ (by assumption)))⟩ ?_
  clear hS hE
  obtain ⟨db, hdb⟩ : ∃ db, db = W7.heap.size := ⟨_, rfl⟩
  rw [← hdb]
  have HDB := Lib.hid hdb
  clear hdb
  rintro W8 ⟨hD, hE⟩
  have HE8 := Lib.hid hE
  clear hE
  obtain ⟨z, hz⟩ : ∃ z, z = day.tmod 40 := ⟨_, rfl⟩
  have hz0 : -40 < z ∧ z < 40 := by rw [hz]; exact ⟨by have := Int.lt_tmod_of_pos day (show (0 : Int) < 40 by omega); omega, Int.tmod_lt_of_pos day (by omega)⟩
  have hzt : day.tmod 40 = z := hz.symm
  clear hz
  have hy0 := Int.emod_nonneg (z + 40) (show (40 : Int) ≠ 0 by omega)
  have hy1 := Int.emod_lt_of_pos (z + 40) (show (0 : Int) < 40 by omega)
  go_wp2_with fail
  go_loopw [17] (fun i wr => ∃ k : Nat, 1 ≤ k ∧ k ≤ 4 ∧ i = .int .i64 k ∧ DaysIs wr db ∧ W8.grownBy wr (some db)) (fun i _ => 4 - (intOf i).toNat)
  case atStart => exact ⟨1, by omega, by omega, rfl, hD, World.grownBy.of_below (Below.refl _ _) _⟩
  case round =>
    obtain ⟨k, hk1, hk, rfl, hD2, hg⟩ := hrel
    have HG := Lib.hid hg
    have HD := Lib.hid hD2
    obtain ⟨dt, ds, hbx, hdl, hdr⟩ := hD2
    by_cases hlt : k < 4
    · have hcl := (hbx.cells k).1
      have hfr := (hbx.cells k).2
      have hkI : (k : Int) < 4 := by omega
      obtain ⟨v, hv⟩ : ∃ v, wr.cell? ⟨db, k, none⟩ = some v := by
        rw [hcl]; exact ⟨(.int .i64 (ds[k]'(by omega))), by rw [List.getElem?_toArray, List.getElem?_map, List.getElem?_eq_getElem (by omega)]; rfl⟩
      clear hcl hdr hdl hg
      go_wp2_with fail
      go_roundw
      case rel => exact ⟨k + 1, by omega, by omega, by go_num, HD.out.set (by omega) ⟨by omega, by omega⟩, grown_set HG.out _ _⟩
      case measure => simp [intOf]; omega
    · have e4 : (k : Int) = 4 := by omega
      rw [e4]
      clear e4 hbx hdr hdl hg
      go_wp2_with fail
      refine wp_abs (F := fun U => Sets U [(b6, d), (b5, o), (b4, n_), (b3, y), (b2, x)] ∧ DaysIs U db ∧ Below w.heap.size w U) ?absF ?absK
      case absF =>
        have h7 := HDB.out
        have h8 := HE8.out
        have h9 : Below W7.heap.size W7 wr := by
          rw [← h7]
          exact ⟨HG.out.os.trans h8.os, HG.out.tape.trans h8.tape, HG.out.output.trans h8.output, Nat.le_trans h8.size HG.out.size, fun q hq => (HG.out.block q (by have := h8.size; omega) (by simp; omega)).trans (h8.block q hq)⟩
        exact ⟨HS7.out.below h9, HD.out, HE7.out.trans (h9.mono HE7.out.size)⟩
      case absK =>
        rintro W9 ⟨hS, hD, hE⟩
        have HS9 := Lib.hid hS
        have HD9 := Lib.hid hD
        have HE9 := Lib.hid hE
        clear hS hE hD
        go_loopw [18] (fun i wr => ∃ k : Nat, k ≤ 4 ∧ i = .int .i64 k ∧ Below W9.heap.size W9 wr) (fun i _ => 4 - (intOf i).toNat)
        case atStart => exact ⟨0, by omega, rfl, Below.refl _ _⟩
        case round =>
          obtain ⟨k, hk, rfl, hb⟩ := hrel
          have HB := Lib.hid hb
          by_cases hlt : k < 4
          · obtain ⟨dt, ds, hbx, hdl, hdr⟩ := HD9.out.below hb
            have hcl : wr.cell? ⟨db, k, none⟩ = some (.int .i64 (ds[k]'(by omega))) := by
              rw [(hbx.cells k).1, List.getElem?_toArray, List.getElem?_map, List.getElem?_eq_getElem (by omega)]; rfl
            have hnI := hdr _ (List.getElem_mem (l := ds) (n := k) (by omega))
            generalize ds[k]'(by omega) = n at *
            have hkI : (k : Int) < 4 := by omega
            have hS := HS9.out.below hb
            clear hbx hdl hdr hb
            have HnI := Lib.hid hnI
            unfold InI at hnI
            obtain ⟨P, hP⟩ : ∃ P, P = (decide (0 ≤ n) && memB x n) := ⟨_, rfl⟩
            obtain ⟨Q, hQ⟩ : ∃ Q, Q = (decide (0 ≤ n) && memB y n) := ⟨_, rfl⟩
            have HX : Hid ((validB x && decide (0 ≤ n) && memB x n) = P) := Lib.hid (by rw [(validB_iff x).2 (Sx.out.valid (by omega)), hP]; rfl)
            have HY : Hid ((validB y && decide (0 ≤ n) && memB y n) = Q) := Lib.hid (by rw [(validB_iff y).2 (Sy.out.valid (by omega)), hQ]; rfl)
            have HA : Hid ((validB n_ && decide (0 ≤ n) && memB n_ n) = (P && Q)) := Lib.hid (by rw [(validB_iff n_).2 (Sn_.out.valid (by omega)), hP, hQ]; exact has_and Qn_.out n)
            have HO : Hid ((validB o && decide (0 ≤ n) && memB o n) = (P || Q)) := Lib.hid (by rw [(validB_iff o).2 (So.out.valid (by omega)), hP, hQ]; exact has_or Qo.out n)
            have HM : Hid ((validB d && decide (0 ≤ n) && memB d n) = (P && !Q)) := Lib.hid (by rw [(validB_iff d).2 (Sd.out.valid (by omega)), hP, hQ]; exact has_minus Qd.out n)
            clear hP hQ
            cases P <;> cases Q
            all_goals
              obtain ⟨hX, cX, gX⟩ := hS.at 4 rfl
              have qX0 := (gX.box.cells 0).1
              have qX1 := (gX.box.cells 1).1
              have qX2 := (gX.box.cells 2).1
              have qX3 := (gX.box.cells 3).1
              have zX := gX.box.lt
              go_upto_region 19 with ((go_at_call 24; (with_reducible refine (has_far hX cX x n _ (gX.is.ext (by (repeat' (first | (with_reducible first | exact Ext.refl _ | assumption | refine Ext.alloc ?_ _ | refine Ext.drew ?_ | refine Ext.drewN ?_ _ | refine Ext.setCell ?_ (by first | (simp; done) | (simp; omega) | omega) _) | exact Ext.refl _ | assumption | refine Ext.alloc ?_ _ | refine Ext.drew ?_ | refine Ext.drewN ?_ _ | refine Ext.setCell ?_ (by first | (simp; done) | (simp; omega) | omega) _ | refine Ext.trans ?_ (by assumption))))) HnI.out).mono ?_); rintro e u1 ⟨he, k1⟩; rw [HX.out] at he; subst he))
              refine wp_abs (F := fun U => Sets U [(b6, d), (b5, o), (b4, n_), (b3, y), (b2, x)] ∧ Below W9.heap.size W9 U) ⟨hS.below (by (repeat' (first | (with_reducible first | exact Ext.refl _ | assumption | refine Ext.alloc ?_ _ | refine Ext.drew ?_ | refine Ext.drewN ?_ _ | refine Ext.setCell ?_ (by first | (simp; done) | (simp; omega) | omega) _) | exact Ext.refl _ | assumption | refine Ext.alloc ?_ _ | refine Ext.drew ?_ | refine Ext.drewN ?_ _ | refine Ext.setCell ?_ (by first | (simp; done) | (simp; omega) | omega) _ | refine Ext.trans ?_ (by assumption)))), by have hb := HB.out; (repeat' (first | (with_reducible first | exact Ext.refl _ | assumption | refine Ext.alloc ?_ _ | refine Ext.drew ?_ | refine Ext.drewN ?_ _ | refine Ext.setCell ?_ (by first | (simp; done) | (simp; omega) | omega) _) | exact Ext.refl _ | assumption | refine Ext.alloc ?_ _ | refine Ext.drew ?_ | refine Ext.drewN ?_ _ | refine Ext.setCell ?_ (by first | (simp; done) | (simp; omega) | omega) _ | refine Ext.trans ?_ (by assumption)))⟩ ?_
              clear gX qX0 qX1 qX2 qX3 zX k1 hS HX
              rintro W10 ⟨hS, hb10⟩
              obtain ⟨hY, cY, gY⟩ := hS.at 3 rfl
              have qY0 := (gY.box.cells 0).1
              have qY1 := (gY.box.cells 1).1
              have qY2 := (gY.box.cells 2).1
              have qY3 := (gY.box.cells 3).1
              have zY := gY.box.lt
              go_upto_region 20 with ((go_at_call 24; (with_reducible refine (has_far hY cY y n _ (gY.is.ext (by (repeat' (first | (with_reducible first | exact Ext.refl _ | assumption | refine Ext.alloc ?_ _ | refine Ext.drew ?_ | refine Ext.drewN ?_ _ | refine Ext.setCell ?_ (by first | (simp; done) | (simp; omega) | omega) _) | exact Ext.refl _ | assumption | refine Ext.alloc ?_ _ | refine Ext.drew ?_ | refine Ext.drewN ?_ _ | refine Ext.setCell ?_ (by first | (simp; done) | (simp; omega) | omega) _ | refine Ext.trans ?_ (by assumption))))) HnI.out).mono ?_); rintro e u2 ⟨he, k2⟩; rw [HY.out] at he; subst he))
              refine wp_abs (F := fun U => Sets U [(b6, d), (b5, o), (b4, n_), (b3, y), (b2, x)] ∧ Below W9.heap.size W9 U) ⟨hS.below (by (repeat' (first | (with_reducible first | exact Ext.refl _ | assumption | refine Ext.alloc ?_ _ | refine Ext.drew ?_ | refine Ext.drewN ?_ _ | refine Ext.setCell ?_ (by first | (simp; done) | (simp; omega) | omega) _) | exact Ext.refl _ | assumption | refine Ext.alloc ?_ _ | refine Ext.drew ?_ | refine Ext.drewN ?_ _ | refine Ext.setCell ?_ (by first | (simp; done) | (simp; omega) | omega) _ | refine Ext.trans ?_ (by assumption)))), by (repeat' (first | (with_reducible first | exact Ext.refl _ | assumption | refine Ext.alloc ?_ _ | refine Ext.drew ?_ | refine Ext.drewN ?_ _ | refine Ext.setCell ?_ (by first | (simp; done) | (simp; omega) | omega) _) | exact Ext.refl _ | assumption | refine Ext.alloc ?_ _ | refine Ext.drew ?_ | refine Ext.drewN ?_ _ | refine Ext.setCell ?_ (by first | (simp; done) | (simp; omega) | omega) _ | refine Ext.trans ?_ (by assumption)))⟩ ?_
              clear gY qY0 qY1 qY2 qY3 zY k2 hS hb10 HY
              rintro W11 ⟨hS, hb11⟩
              obtain ⟨hA, cA, gA⟩ := hS.at 2 rfl
              have qA0 := (gA.box.cells 0).1
              have qA1 := (gA.box.cells 1).1
              have qA2 := (gA.box.cells 2).1
              have qA3 := (gA.box.cells 3).1
              have zA := gA.box.lt
              obtain ⟨hO, cO, gO⟩ := hS.at 1 rfl
              have qO0 := (gO.box.cells 0).1
              have qO1 := (gO.box.cells 1).1
              have qO2 := (gO.box.cells 2).1
              have qO3 := (gO.box.cells 3).1
              have zO := gO.box.lt
              obtain ⟨hD, cD, gD⟩ := hS.at 0 rfl
              have qD0 := (gD.box.cells 0).1
              have qD1 := (gD.box.cells 1).1
              have qD2 := (gD.box.cells 2).1
              have qD3 := (gD.box.cells 3).1
              have zD := gD.box.lt
              go_wp2_with (first | (go_at_call 24; (with_reducible refine (has_far hA cA n_ n _ (gA.is.ext (by (repeat' (first | (with_reducible first | exact Ext.refl _ | assumption | refine Ext.alloc ?_ _ | refine Ext.drew ?_ | refine Ext.drewN ?_ _ | refine Ext.setCell ?_ (by first | (simp; done) | (simp; omega) | omega) _) | exact Ext.refl _ | assumption | refine Ext.alloc ?_ _ | refine Ext.drew ?_ | refine Ext.drewN ?_ _ | refine Ext.setCell ?_ (by first | (simp; done) | (simp; omega) | omega) _ | refine Ext.trans ?_ (by assumption))))) HnI.out).mono ?_); rintro e u3 ⟨he, k3⟩; rw [HA.out] at he; subst he; obtain ⟨kc3, kf3⟩ := bcell k3; (try simp only [World.size_alloc, World.size_drew, size_drewN, World.size_setCell] at kc3 kf3); have yb5_3 : b5 < u3.heap.size := (by have h7 := k3.size; (try simp only [World.size_alloc, World.size_drew, size_drewN, World.size_setCell] at h7); omega); have yb6_3 : b6 < u3.heap.size := (by have h7 := k3.size; (try simp only [World.size_alloc, World.size_drew, size_drewN, World.size_setCell] at h7); omega)) | (go_at_call 24; (with_reducible refine (has_far hO cO o n _ (gO.is.ext (by (repeat' (first | (with_reducible first | exact Ext.refl _ | assumption | refine Ext.alloc ?_ _ | refine Ext.drew ?_ | refine Ext.drewN ?_ _ | refine Ext.setCell ?_ (by first | (simp; done) | (simp; omega) | omega) _) | exact Ext.refl _ | assumption | refine Ext.alloc ?_ _ | refine Ext.drew ?_ | refine Ext.drewN ?_ _ | refine Ext.setCell ?_ (by first | (simp; done) | (simp; omega) | omega) _ | refine Ext.trans ?_ (by assumption))))) HnI.out).mono ?_); rintro e u4 ⟨he, k4⟩; rw [HO.out] at he; subst he; obtain ⟨kc4, kf4⟩ := bcell k4; (try simp only [World.size_alloc, World.size_drew, size_drewN, World.size_setCell] at kc4 kf4); have yb6_4 : b6 < u4.heap.size := (by have h7 := k4.size; (try simp only [World.size_alloc, World.size_drew, size_drewN, World.size_setCell] at h7); omega)) | (go_at_call 24; (with_reducible refine (has_far hD cD d n _ (gD.is.ext (by (repeat' (first | (with_reducible first | exact Ext.refl _ | assumption | refine Ext.alloc ?_ _ | refine Ext.drew ?_ | refine Ext.drewN ?_ _ | refine Ext.setCell ?_ (by first | (simp; done) | (simp; omega) | omega) _) | exact Ext.refl _ | assumption | refine Ext.alloc ?_ _ | refine Ext.drew ?_ | refine Ext.drewN ?_ _ | refine Ext.setCell ?_ (by first | (simp; done) | (simp; omega) | omega) _ | refine Ext.trans ?_ (by assumption))))) HnI.out).mono ?_); rintro e u5 ⟨he, k5⟩; rw [HM.out] at he; subst he))
              go_roundw
              case rel => exact ⟨k + 1, by omega, by go_num, by (repeat' (first | (with_reducible first | exact Ext.refl _ | assumption | refine Ext.alloc ?_ _ | refine Ext.drew ?_ | refine Ext.drewN ?_ _ | refine Ext.setCell ?_ (by first | (simp; done) | (simp; omega) | omega) _) | exact Ext.refl _ | assumption | refine Ext.alloc ?_ _ | refine Ext.drew ?_ | refine Ext.drewN ?_ _ | refine Ext.setCell ?_ (by first | (simp; done) | (simp; omega) | omega) _ | refine Ext.trans ?_ (by assumption)))⟩
              case measure => simp [intOf]; omega
          · go_wp2_with fail
            go_ret
            exact ⟨rfl, by have hE := HE9.out; have hb := HB.out; (repeat' (first | (with_reducible first | exact Ext.refl _ | assumption | refine Ext.alloc ?_ _ | refine Ext.drew ?_ | refine Ext.drewN ?_ _ | refine Ext.setCell ?_ (by first | (simp; done) | (simp; omega) | omega) _) | exact Ext.refl _ | assumption | refine Ext.alloc ?_ _ | refine Ext.drew ?_ | refine Ext.drewN ?_ _ | refine Ext.setCell ?_ (by first | (simp; done) | (simp; omega) | omega) _ | refine Ext.trans ?_ (by assumption)))⟩
end Go.Proofs.Ytjilkhhokkncoaa
