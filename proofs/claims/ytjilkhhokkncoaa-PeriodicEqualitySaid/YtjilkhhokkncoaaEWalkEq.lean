/- Walks: PeriodicEquality (package kalendslaw04). -/
import Derived.Test.YtjilkhhokkncoaaEWalkEa
import Derived.Test.YtjilkhhokkncoaaEK16
import Derived.Test.YtjilkhhokkncoaaERegS
set_option linter.unusedVariables false
set_option linter.unusedSimpArgs false
namespace Go.Proofs.Ytjilkhhokkncoaa
open Go.RowKit Go.Maps Kal

set_option maxRecDepth 100000 in
set_option maxHeartbeats 8000000 in
theorem PeriodicEquality_any (va : Value) (vb : Value) (w : World) (hra : RawIs w va) (hrb : RawIs w vb) :
    Calls Try.prog 11 #[va, vb] w fun e w' => e = .returned (.bool true) ∧ Below w.heap.size w w' := by
  obtain ⟨hva, cva, hla, cla, fa, ta, rfl, hBa, hCa, f0a, f1a, t0a, t1a⟩ := hra
  have HBa := Lib.hid hBa
  have HCa := Lib.hid hCa
  obtain ⟨⟨a1a, c1a, rfl, jA⟩, jB, jC⟩ := hBa
  clear jA jB jC
  obtain ⟨⟨a2a, c2a, rfl, jA⟩, jB, jC⟩ := hCa
  clear jA jB jC
  obtain ⟨hvb, cvb, hlb, clb, fb, tb, rfl, hBb, hCb, f0b, f1b, t0b, t1b⟩ := hrb
  have HBb := Lib.hid hBb
  have HCb := Lib.hid hCb
  obtain ⟨⟨a1b, c1b, rfl, jA⟩, jB, jC⟩ := hBb
  clear jA jB jC
  obtain ⟨⟨a2b, c2b, rfl, jA⟩, jB, jC⟩ := hCb
  clear jA jB jC
  go_enter Try.func11, Try.ntmps11
  go_upto_region 1 with (fail)
  refine wp_abs (F := fun U => BoxIs U (w.heap.size) #[.slice a1a hla.length c1a, .int .u8 fa, .int .u8 ta, .slice a2a cla.length c2a] 24 ∧ BoxIs U (w.heap.size + 1) #[.slice a1b hlb.length c1b, .int .u8 fb, .int .u8 tb, .slice a2b clb.length c2b] 24 ∧ Sets U [] ∧ Below w.heap.size w U) ⟨by (first | (refine BoxIs.at ?_; simp; done) | (refine (BoxIs.at ?_).alloc _; simp; done) | (refine ((BoxIs.at ?_).alloc _).alloc _; simp; done) | (refine (((BoxIs.at ?_).alloc _).alloc _).alloc _; simp; done) | (refine ((((BoxIs.at ?_).alloc _).alloc _).alloc _).alloc _; simp; done) | (refine (((((BoxIs.at ?_).alloc _).alloc _).alloc _).alloc _).alloc _; simp; done) | (refine ((((((BoxIs.at ?_).alloc _).alloc _).alloc _).alloc _).alloc _).alloc _; simp; done) | (refine (((((((BoxIs.at ?_).alloc _).alloc _).alloc _).alloc _).alloc _).alloc _).alloc _; simp; done) | (refine ((((((((BoxIs.at ?_).alloc _).alloc _).alloc _).alloc _).alloc _).alloc _).alloc _).alloc _; simp; done) | (refine (((((((((BoxIs.at ?_).alloc _).alloc _).alloc _).alloc _).alloc _).alloc _).alloc _).alloc _).alloc _; simp; done) | (refine ((((((((((BoxIs.at ?_).alloc _).alloc _).alloc _).alloc _).alloc _).alloc _).alloc _).alloc _).alloc _).alloc _; simp; done) | (refine (((((((((((BoxIs.at ?_).alloc _).alloc _).alloc _).alloc _).alloc _).alloc _).alloc _).alloc _).alloc _).alloc _).alloc _; simp; done)), by (first | (refine BoxIs.at ?_; simp; done) | (refine (BoxIs.at ?_).alloc _; simp; done) | (refine ((BoxIs.at ?_).alloc _).alloc _; simp; done) | (refine (((BoxIs.at ?_).alloc _).alloc _).alloc _; simp; done) | (refine ((((BoxIs.at ?_).alloc _).alloc _).alloc _).alloc _; simp; done) | (refine (((((BoxIs.at ?_).alloc _).alloc _).alloc _).alloc _).alloc _; simp; done) | (refine ((((((BoxIs.at ?_).alloc _).alloc _).alloc _).alloc _).alloc _).alloc _; simp; done) | (refine (((((((BoxIs.at ?_).alloc _).alloc _).alloc _).alloc _).alloc _).alloc _).alloc _; simp; done) | (refine ((((((((BoxIs.at ?_).alloc _).alloc _).alloc _).alloc _).alloc _).alloc _).alloc _).alloc _; simp; done) | (refine (((((((((BoxIs.at ?_).alloc _).alloc _).alloc _).alloc _).alloc _).alloc _).alloc _).alloc _).alloc _; simp; done) | (refine ((((((((((BoxIs.at ?_).alloc _).alloc _).alloc _).alloc _).alloc _).alloc _).alloc _).alloc _).alloc _).alloc _; simp; done) | (refine (((((((((((BoxIs.at ?_).alloc _).alloc _).alloc _).alloc _).alloc _).alloc _).alloc _).alloc _).alloc _).alloc _).alloc _; simp; done)), Sets.nil _, by (repeat' (with_reducible first | assumption | exact Ext.refl _ | refine Ext.alloc ?_ _ | refine Ext.drew ?_ | refine Ext.drewN ?_ _ | (refine Ext.setCell ?_ (by first | (simp; done) | (simp; omega) | omega) _) | refine Ext.trans ?_ (by assumption)))⟩ ?_
  rintro W1 ⟨hWa, hWb, hS, hE⟩
  go_upto_region 2 with (go_at_call 13; refine (sanity_any _).mono ?_; rintro e u1 ⟨rfl, k1⟩)
  refine wp_abs (F := fun U => BoxIs U (w.heap.size) #[.slice a1a hla.length c1a, .int .u8 fa, .int .u8 ta, .slice a2a cla.length c2a] 24 ∧ BoxIs U (w.heap.size + 1) #[.slice a1b hlb.length c1b, .int .u8 fb, .int .u8 tb, .slice a2b clb.length c2b] 24 ∧ Sets U [] ∧ Below w.heap.size w U) ⟨hWa.below (by (repeat' (with_reducible first | assumption | exact Ext.refl _ | refine Ext.alloc ?_ _ | refine Ext.drew ?_ | refine Ext.drewN ?_ _ | (refine Ext.setCell ?_ (by first | (simp; done) | (simp; omega) | omega) _) | refine Ext.trans ?_ (by assumption)))), hWb.below (by (repeat' (with_reducible first | assumption | exact Ext.refl _ | refine Ext.alloc ?_ _ | refine Ext.drew ?_ | refine Ext.drewN ?_ _ | (refine Ext.setCell ?_ (by first | (simp; done) | (simp; omega) | omega) _) | refine Ext.trans ?_ (by assumption)))), hS.below (by (repeat' (with_reducible first | assumption | exact Ext.refl _ | refine Ext.alloc ?_ _ | refine Ext.drew ?_ | refine Ext.drewN ?_ _ | (refine Ext.setCell ?_ (by first | (simp; done) | (simp; omega) | omega) _) | refine Ext.trans ?_ (by assumption)))), by (repeat' (with_reducible first | assumption | exact Ext.refl _ | refine Ext.alloc ?_ _ | refine Ext.drew ?_ | refine Ext.drewN ?_ _ | (refine Ext.setCell ?_ (by first | (simp; done) | (simp; omega) | omega) _) | refine Ext.trans ?_ (by assumption)))⟩ ?_
  clear hWa hWb hS hE k1
  rintro W2 ⟨hWa, hWb, hS, hE⟩
  have r0 := (hWa.cells 0).1
  have r1 := (hWa.cells 1).1
  have r2 := (hWa.cells 2).1
  have r3 := (hWa.cells 3).1
  go_upto_region 3 with (go_at_call 14; refine (Made_any _ _ hla cla fa ta _ (HBa.out.ext (by (repeat' (with_reducible first | assumption | exact Ext.refl _ | refine Ext.alloc ?_ _ | refine Ext.drew ?_ | refine Ext.drewN ?_ _ | (refine Ext.setCell ?_ (by first | (simp; done) | (simp; omega) | omega) _) | refine Ext.trans ?_ (by assumption))))) (HCa.out.ext (by (repeat' (with_reducible first | assumption | exact Ext.refl _ | refine Ext.alloc ?_ _ | refine Ext.drew ?_ | refine Ext.drewN ?_ _ | (refine Ext.setCell ?_ (by first | (simp; done) | (simp; omega) | omega) _) | refine Ext.trans ?_ (by assumption))))) f0a f1a t0a t1a).mono ?_; rintro e uR ⟨hR, cR, x, rfl, oR, wfx, frx, prx, kR⟩; have sR := oR.is; obtain ⟨x1_2, y1_2, x2_2, y2_2, rfl, rfl⟩ := oR.form; clear oR)
  have Sx : Hid (Sm 20 12 x) := Lib.hid ⟨wfx, frx, prx⟩
  refine wp_abs (F := fun U => BoxIs U (w.heap.size + 1) #[.slice a1b hlb.length c1b, .int .u8 fb, .int .u8 tb, .slice a2b clb.length c2b] 24 ∧ Sets U ((uR.heap.size, x) :: []) ∧ Below w.heap.size w U) ⟨hWb.below (by (repeat' (with_reducible first | assumption | exact Ext.refl _ | refine Ext.alloc ?_ _ | refine Ext.drew ?_ | refine Ext.drewN ?_ _ | (refine Ext.setCell ?_ (by first | (simp; done) | (simp; omega) | omega) _) | refine Ext.trans ?_ (by assumption)))), Sets.cons ⟨.slice x1_2 (x : Per).head.length y1_2, .slice x2_2 (x : Per).cycle.length y2_2, by (first | (refine BoxIs.at ?_; simp; done) | (refine (BoxIs.at ?_).alloc _; simp; done) | (refine ((BoxIs.at ?_).alloc _).alloc _; simp; done) | (refine (((BoxIs.at ?_).alloc _).alloc _).alloc _; simp; done) | (refine ((((BoxIs.at ?_).alloc _).alloc _).alloc _).alloc _; simp; done) | (refine (((((BoxIs.at ?_).alloc _).alloc _).alloc _).alloc _).alloc _; simp; done) | (refine ((((((BoxIs.at ?_).alloc _).alloc _).alloc _).alloc _).alloc _).alloc _; simp; done) | (refine (((((((BoxIs.at ?_).alloc _).alloc _).alloc _).alloc _).alloc _).alloc _).alloc _; simp; done) | (refine ((((((((BoxIs.at ?_).alloc _).alloc _).alloc _).alloc _).alloc _).alloc _).alloc _).alloc _; simp; done) | (refine (((((((((BoxIs.at ?_).alloc _).alloc _).alloc _).alloc _).alloc _).alloc _).alloc _).alloc _).alloc _; simp; done) | (refine ((((((((((BoxIs.at ?_).alloc _).alloc _).alloc _).alloc _).alloc _).alloc _).alloc _).alloc _).alloc _).alloc _; simp; done) | (refine (((((((((((BoxIs.at ?_).alloc _).alloc _).alloc _).alloc _).alloc _).alloc _).alloc _).alloc _).alloc _).alloc _).alloc _; simp; done)), sR.ext (by (repeat' (with_reducible first | assumption | exact Ext.refl _ | refine Ext.alloc ?_ _ | refine Ext.drew ?_ | refine Ext.drewN ?_ _ | (refine Ext.setCell ?_ (by first | (simp; done) | (simp; omega) | omega) _) | refine Ext.trans ?_ (by assumption))))⟩ (hS.below (by (repeat' (with_reducible first | assumption | exact Ext.refl _ | refine Ext.alloc ?_ _ | refine Ext.drew ?_ | refine Ext.drewN ?_ _ | (refine Ext.setCell ?_ (by first | (simp; done) | (simp; omega) | omega) _) | refine Ext.trans ?_ (by assumption))))), by (repeat' (with_reducible first | assumption | exact Ext.refl _ | refine Ext.alloc ?_ _ | refine Ext.drew ?_ | refine Ext.drewN ?_ _ | (refine Ext.setCell ?_ (by first | (simp; done) | (simp; omega) | omega) _) | refine Ext.trans ?_ (by assumption)))⟩ ?_
  clear hWa hWb hS hE sR kR r0 r1 r2 r3 wfx frx prx
  generalize uR.heap.size = b2 at *
  rintro W3 ⟨hWb, hS, hE⟩
  have r0 := (hWb.cells 0).1
  have r1 := (hWb.cells 1).1
  have r2 := (hWb.cells 2).1
  have r3 := (hWb.cells 3).1
  go_upto_region 4 with (go_at_call 14; refine (Made_any _ _ hlb clb fb tb _ (HBb.out.ext (by (repeat' (with_reducible first | assumption | exact Ext.refl _ | refine Ext.alloc ?_ _ | refine Ext.drew ?_ | refine Ext.drewN ?_ _ | (refine Ext.setCell ?_ (by first | (simp; done) | (simp; omega) | omega) _) | refine Ext.trans ?_ (by assumption))))) (HCb.out.ext (by (repeat' (with_reducible first | assumption | exact Ext.refl _ | refine Ext.alloc ?_ _ | refine Ext.drew ?_ | refine Ext.drewN ?_ _ | (refine Ext.setCell ?_ (by first | (simp; done) | (simp; omega) | omega) _) | refine Ext.trans ?_ (by assumption))))) f0b f1b t0b t1b).mono ?_; rintro e uR ⟨hR, cR, y, rfl, oR, wfy, fry, pry, kR⟩; have sR := oR.is; obtain ⟨x1_3, y1_3, x2_3, y2_3, rfl, rfl⟩ := oR.form; clear oR)
  have Sy : Hid (Sm 20 12 y) := Lib.hid ⟨wfy, fry, pry⟩
  refine wp_abs (F := fun U => Sets U ((uR.heap.size, y) :: [(b2, x)]) ∧ Below w.heap.size w U) ⟨Sets.cons ⟨.slice x1_3 (y : Per).head.length y1_3, .slice x2_3 (y : Per).cycle.length y2_3, by (first | (refine BoxIs.at ?_; simp; done) | (refine (BoxIs.at ?_).alloc _; simp; done) | (refine ((BoxIs.at ?_).alloc _).alloc _; simp; done) | (refine (((BoxIs.at ?_).alloc _).alloc _).alloc _; simp; done) | (refine ((((BoxIs.at ?_).alloc _).alloc _).alloc _).alloc _; simp; done) | (refine (((((BoxIs.at ?_).alloc _).alloc _).alloc _).alloc _).alloc _; simp; done) | (refine ((((((BoxIs.at ?_).alloc _).alloc _).alloc _).alloc _).alloc _).alloc _; simp; done) | (refine (((((((BoxIs.at ?_).alloc _).alloc _).alloc _).alloc _).alloc _).alloc _).alloc _; simp; done) | (refine ((((((((BoxIs.at ?_).alloc _).alloc _).alloc _).alloc _).alloc _).alloc _).alloc _).alloc _; simp; done) | (refine (((((((((BoxIs.at ?_).alloc _).alloc _).alloc _).alloc _).alloc _).alloc _).alloc _).alloc _).alloc _; simp; done) | (refine ((((((((((BoxIs.at ?_).alloc _).alloc _).alloc _).alloc _).alloc _).alloc _).alloc _).alloc _).alloc _).alloc _; simp; done) | (refine (((((((((((BoxIs.at ?_).alloc _).alloc _).alloc _).alloc _).alloc _).alloc _).alloc _).alloc _).alloc _).alloc _).alloc _; simp; done)), sR.ext (by (repeat' (with_reducible first | assumption | exact Ext.refl _ | refine Ext.alloc ?_ _ | refine Ext.drew ?_ | refine Ext.drewN ?_ _ | (refine Ext.setCell ?_ (by first | (simp; done) | (simp; omega) | omega) _) | refine Ext.trans ?_ (by assumption))))⟩ (hS.below (by (repeat' (with_reducible first | assumption | exact Ext.refl _ | refine Ext.alloc ?_ _ | refine Ext.drew ?_ | refine Ext.drewN ?_ _ | (refine Ext.setCell ?_ (by first | (simp; done) | (simp; omega) | omega) _) | refine Ext.trans ?_ (by assumption))))), by (repeat' (with_reducible first | assumption | exact Ext.refl _ | refine Ext.alloc ?_ _ | refine Ext.drew ?_ | refine Ext.drewN ?_ _ | (refine Ext.setCell ?_ (by first | (simp; done) | (simp; omega) | omega) _) | refine Ext.trans ?_ (by assumption)))⟩ ?_
  clear hWb hS hE sR kR r0 r1 r2 r3 wfy fry pry
  generalize uR.heap.size = b3 at *
  rintro W4 ⟨hS, hE⟩
  obtain ⟨cx, hqcx, hscx⟩ := Sx.out.canon
  have Qcx := Lib.hid hqcx
  have Scx := Lib.hid hscx
  clear hqcx hscx
  obtain ⟨cy, hqcy, hscy⟩ := Sy.out.canon
  have Qcy := Lib.hid hqcy
  have Scy := Lib.hid hscy
  clear hqcy hscy
  obtain ⟨d, hqd, hsd⟩ := minus_ex Sx.out Sy.out
  have Qd := Lib.hid hqd
  have Sd := Lib.hid hsd
  clear hqd hsd
  obtain ⟨n, ok, hap, hnb⟩ : ∃ (n : Int) (ok : Bool), ApartIs x.mem y.mem n ok ∧ n < 20 + 12 * 12 := by
    by_cases hd : ∃ n, 0 ≤ n ∧ ¬ (x.mem n ↔ y.mem n)
    · obtain ⟨n, h1, h2⟩ := apart_ex Sx.out Sy.out hd
      exact ⟨n, true, h1, h2⟩
    · exact ⟨0, false, .inr ⟨rfl, rfl, fun z hz => Classical.byContradiction fun h => hd ⟨z, hz, h⟩⟩, by omega⟩
  have HAP := Lib.hid hap
  obtain ⟨sm, hsm⟩ : ∃ sm, sm = !ok := ⟨_, rfl⟩
  have HSM : Hid (sameB cx cy = sm) := Lib.hid (by rw [hsm]; exact apart_same_iff Qcx.out Qcy.out hap)
  have hok : (ok == sm) = false := by rw [hsm]; cases ok <;> rfl
  have hn0 : 0 ≤ n := by rcases hap with ⟨_, g, _⟩ | ⟨_, g, _⟩ <;> omega
  obtain ⟨bs, hbs⟩ : ∃ bs : Bool, bs = true ↔ ∀ n, x.mem n → y.mem n := by
    by_cases h : ∀ n, x.mem n → y.mem n
    · exact ⟨true, fun _ => h, fun _ => rfl⟩
    · exact ⟨false, fun g => by (cases g), fun g => absurd g h⟩
  obtain ⟨bt, hbt⟩ : ∃ bt : Bool, bt = true ↔ ∀ n, y.mem n → x.mem n := by
    by_cases h : ∀ n, y.mem n → x.mem n
    · exact ⟨true, fun _ => h, fun _ => rfl⟩
    · exact ⟨false, fun g => by (cases g), fun g => absurd g h⟩
  have HBS := Lib.hid hbs
  have HBT := Lib.hid hbt
  have HEM : Hid (emptyB d = bs) := Lib.hid (empty_canon Qd.out (Sd.out.valid (by omega)) bs (hbs.trans ⟨fun h n hn => hn.2 (h n hn.1), fun h n hn => Classical.byContradiction fun g => h n ⟨hn, g⟩⟩))
  have hbb : (bs != bs) = false := by cases bs <;> rfl
  clear hap hsm hbs hbt
  obtain ⟨hA_4, cA_4, gA⟩ := hS.at 1 rfl
  have qa0 := (gA.box.cells 0).1
  have qa1 := (gA.box.cells 1).1
  have qa2 := (gA.box.cells 2).1
  have qa3 := (gA.box.cells 3).1
  obtain ⟨hB_4, cB_4, gB⟩ := hS.at 0 rfl
  have qb0 := (gB.box.cells 0).1
  have qb1 := (gB.box.cells 1).1
  have qb2 := (gB.box.cells 2).1
  have qb3 := (gB.box.cells 3).1
  go_upto_region 5 with (go_at_call 35; refine (apart_sm hA_4 cA_4 hB_4 cB_4 x y cx cy n ok _ (gA.is.ext (by (repeat' (with_reducible first | assumption | exact Ext.refl _ | refine Ext.alloc ?_ _ | refine Ext.drew ?_ | refine Ext.drewN ?_ _ | (refine Ext.setCell ?_ (by first | (simp; done) | (simp; omega) | omega) _) | refine Ext.trans ?_ (by assumption))))) (gB.is.ext (by (repeat' (with_reducible first | assumption | exact Ext.refl _ | refine Ext.alloc ?_ _ | refine Ext.drew ?_ | refine Ext.drewN ?_ _ | (refine Ext.setCell ?_ (by first | (simp; done) | (simp; omega) | omega) _) | refine Ext.trans ?_ (by assumption))))) Sx.out Sy.out Qcx.out Qcy.out HAP.out).mono ?_; rintro e uE ⟨rfl, kE⟩)
  refine wp_abs (F := fun U => Sets U [(b3, y), (b2, x)] ∧ Below w.heap.size w U) ⟨hS.below (by (repeat' (with_reducible first | assumption | exact Ext.refl _ | refine Ext.alloc ?_ _ | refine Ext.drew ?_ | refine Ext.drewN ?_ _ | (refine Ext.setCell ?_ (by first | (simp; done) | (simp; omega) | omega) _) | refine Ext.trans ?_ (by assumption)))), by (repeat' (with_reducible first | assumption | exact Ext.refl _ | refine Ext.alloc ?_ _ | refine Ext.drew ?_ | refine Ext.drewN ?_ _ | (refine Ext.setCell ?_ (by first | (simp; done) | (simp; omega) | omega) _) | refine Ext.trans ?_ (by assumption)))⟩ ?_
  clear hS hE kE gA qa0 qa1 qa2 qa3 gB qb0 qb1 qb2 qb3
  rintro W5 ⟨hS, hE⟩
  obtain ⟨hA_5, cA_5, gA⟩ := hS.at 1 rfl
  have qa0 := (gA.box.cells 0).1
  have qa1 := (gA.box.cells 1).1
  have qa2 := (gA.box.cells 2).1
  have qa3 := (gA.box.cells 3).1
  obtain ⟨hB_5, cB_5, gB⟩ := hS.at 0 rfl
  have qb0 := (gB.box.cells 0).1
  have qb1 := (gB.box.cells 1).1
  have qb2 := (gB.box.cells 2).1
  have qb3 := (gB.box.cells 3).1
  go_upto_region 6 with (go_at_call 23; refine (Minus_sm hA_5 cA_5 hB_5 cB_5 x y d 20 12 12 _ (gA.is.ext (by (repeat' (with_reducible first | assumption | exact Ext.refl _ | refine Ext.alloc ?_ _ | refine Ext.drew ?_ | refine Ext.drewN ?_ _ | (refine Ext.setCell ?_ (by first | (simp; done) | (simp; omega) | omega) _) | refine Ext.trans ?_ (by assumption))))) (gB.is.ext (by (repeat' (with_reducible first | assumption | exact Ext.refl _ | refine Ext.alloc ?_ _ | refine Ext.drew ?_ | refine Ext.drewN ?_ _ | (refine Ext.setCell ?_ (by first | (simp; done) | (simp; omega) | omega) _) | refine Ext.trans ?_ (by assumption))))) Sx.out Sy.out (by omega) Qd.out).mono ?_; rintro e uR ⟨hR_5, cR_5, rfl, oR, kR⟩; have sR := oR.is; obtain ⟨x1_5, y1_5, x2_5, y2_5, rfl, rfl⟩ := oR.form; clear oR)
  refine wp_abs (F := fun U => Sets U ((uR.heap.size, d) :: [(b3, y), (b2, x)]) ∧ Below w.heap.size w U) ⟨Sets.cons ⟨.slice x1_5 (d : Per).head.length y1_5, .slice x2_5 (d : Per).cycle.length y2_5, by (first | (refine BoxIs.at ?_; simp; done) | (refine (BoxIs.at ?_).alloc _; simp; done) | (refine ((BoxIs.at ?_).alloc _).alloc _; simp; done) | (refine (((BoxIs.at ?_).alloc _).alloc _).alloc _; simp; done) | (refine ((((BoxIs.at ?_).alloc _).alloc _).alloc _).alloc _; simp; done) | (refine (((((BoxIs.at ?_).alloc _).alloc _).alloc _).alloc _).alloc _; simp; done) | (refine ((((((BoxIs.at ?_).alloc _).alloc _).alloc _).alloc _).alloc _).alloc _; simp; done) | (refine (((((((BoxIs.at ?_).alloc _).alloc _).alloc _).alloc _).alloc _).alloc _).alloc _; simp; done) | (refine ((((((((BoxIs.at ?_).alloc _).alloc _).alloc _).alloc _).alloc _).alloc _).alloc _).alloc _; simp; done) | (refine (((((((((BoxIs.at ?_).alloc _).alloc _).alloc _).alloc _).alloc _).alloc _).alloc _).alloc _).alloc _; simp; done) | (refine ((((((((((BoxIs.at ?_).alloc _).alloc _).alloc _).alloc _).alloc _).alloc _).alloc _).alloc _).alloc _).alloc _; simp; done) | (refine (((((((((((BoxIs.at ?_).alloc _).alloc _).alloc _).alloc _).alloc _).alloc _).alloc _).alloc _).alloc _).alloc _).alloc _; simp; done)), sR.ext (by (repeat' (with_reducible first | assumption | exact Ext.refl _ | refine Ext.alloc ?_ _ | refine Ext.drew ?_ | refine Ext.drewN ?_ _ | (refine Ext.setCell ?_ (by first | (simp; done) | (simp; omega) | omega) _) | refine Ext.trans ?_ (by assumption))))⟩ (hS.below (by (repeat' (with_reducible first | assumption | exact Ext.refl _ | refine Ext.alloc ?_ _ | refine Ext.drew ?_ | refine Ext.drewN ?_ _ | (refine Ext.setCell ?_ (by first | (simp; done) | (simp; omega) | omega) _) | refine Ext.trans ?_ (by assumption))))), by (repeat' (with_reducible first | assumption | exact Ext.refl _ | refine Ext.alloc ?_ _ | refine Ext.drew ?_ | refine Ext.drewN ?_ _ | (refine Ext.setCell ?_ (by first | (simp; done) | (simp; omega) | omega) _) | refine Ext.trans ?_ (by assumption)))⟩ ?_
  clear hS hE sR kR gA qa0 qa1 qa2 qa3 gB qb0 qb1 qb2 qb3
  generalize uR.heap.size = b5 at *
  rintro W6 ⟨hS, hE⟩
  have HS := Lib.hid hS
  have HE := Lib.hid hE
  go_upto_region 6 with (fail)
  refine wp_region_factsS (w0 := W6) [0, 1, 2, 3, 4, 5, 6, 7, 8, 9, 10, 11, 12, 13, 14, 15, 16] [] (fun v => ⟨#[Value.agg #[Value.slice a1a hla.length c1a, Value.int IntKind.u8 fa, Value.int IntKind.u8 ta, Value.slice a2a cla.length c2a], Value.agg #[Value.slice a1b hlb.length c1b, Value.int IntKind.u8 fb, Value.int IntKind.u8 tb, Value.slice a2b clb.length c2b], Value.pointer (some { block := w.heap.size, off := 0 }), Value.pointer (some { block := w.heap.size + 1, off := 0 }), Value.bool false, Value.bool true, Value.pointer (some { block := b2, off := 0 }), Value.pointer (some { block := b3, off := 0 }), Value.int IntKind.i64 n, Value.bool ok, Value.pointer (some { block := b5, off := 0 }), Value.int IntKind.i64 0, undef, Value.bool true, Value.agg #[Value.slice a1a hla.length c1a, Value.int IntKind.u8 fa, Value.int IntKind.u8 ta, Value.slice a2a cla.length c2a], perV (Value.slice x1_2 x.head.length y1_2) (Value.slice x2_2 x.cycle.length y2_2) x.frm x.period, Value.agg #[Value.slice a1b hlb.length c1b, Value.int IntKind.u8 fb, Value.int IntKind.u8 tb, Value.slice a2b clb.length c2b], perV (Value.slice x1_3 y.head.length y1_3) (Value.slice x2_3 y.cycle.length y2_3) y.frm y.period, Value.tuple #[Value.int IntKind.i64 n, Value.bool ok], Value.agg #[hA_4, Value.int IntKind.i64 x.frm, Value.int IntKind.i64 x.period, cA_4], Value.agg #[hB_4, Value.int IntKind.i64 y.frm, Value.int IntKind.i64 y.period, cB_4], Value.tuple #[Value.int IntKind.i64 n, Value.bool ok], Value.int IntKind.i64 n, Value.bool ok, Value.tuple #[perV (Value.slice x1_5 d.head.length y1_5) (Value.slice x2_5 d.cycle.length y2_5) d.frm d.period, Value.int IntKind.i64 0], Value.agg #[hA_5, Value.int IntKind.i64 x.frm, Value.int IntKind.i64 x.period, cA_5], Value.agg #[hB_5, Value.int IntKind.i64 y.frm, Value.int IntKind.i64 y.period, cB_5], Value.tuple #[perV (Value.slice x1_5 d.head.length y1_5) (Value.slice x2_5 d.cycle.length y2_5) d.frm d.period, Value.int IntKind.i64 0], perV (Value.slice x1_5 d.head.length y1_5) (Value.slice x2_5 d.cycle.length y2_5) d.frm d.period, Value.int IntKind.i64 0, v 0, v 1, v 2, v 3, v 4, v 5, v 6, v 7, v 8, v 9, v 10, v 11, v 12, v 13, v 14, v 15, v 16, undef, undef, undef, undef, undef, undef, undef, undef, undef, undef, undef, undef, undef, undef, undef, undef, undef, undef, undef, undef, undef, undef, undef, undef, undef, undef, undef, undef, undef, undef, undef, undef, undef, undef, undef, undef, undef, undef, undef, undef, undef, undef, undef, undef, undef, undef, undef, undef, undef, undef, undef, undef, undef, undef], []⟩) (fun _ => undef)
    (fun i v lo hi W => match i with
      | 0 => v 0 = .int .i64 0
      | 1 => v 1 = .bool false
      | 2 => v 2 = .bool false
      | 3 => v 3 = .bool ok
      | 4 => SetV W (v 4) x
      | 5 => SetV W (v 5) y
      | 6 => v 6 = .bool sm
      | 7 => v 7 = .bool false
      | 8 => v 8 = .bool false
      | 9 => v 9 = .bool false
      | 10 => SetV W (v 10) x
      | 11 => SetV W (v 11) y
      | 12 => v 12 = .bool bs
      | 13 => SetV W (v 13) d
      | 14 => v 14 = .bool bs
      | 15 => v 15 = .bool false
      | 16 => v 16 = .bool false
      | _ => True)
    (fun W => Sets W [(b5, d), (b3, y), (b2, x)]) rfl (by kernel_rfl) (by decide) rfl ?stab ?loc (fun W hb => hS.below hb) ?steps ?fin
  case stab =>
    rintro (_ | _ | _ | _ | _ | _ | _ | _ | _ | _ | _ | _ | _ | _ | _ | _ | _ | i) v lo hi W W' h hb
    · exact h
    · exact h
    · exact h
    · exact h
    · exact h.below hb
    · exact h.below hb
    · exact h
    · exact h
    · exact h
    · exact h
    · exact h.below hb
    · exact h.below hb
    · exact h
    · exact h.below hb
    · exact h
    · exact h
    · exact h
    · trivial
  case loc =>
    rintro (_ | _ | _ | _ | _ | _ | _ | _ | _ | _ | _ | _ | _ | _ | _ | _ | _ | i) v v' lo lo' hi hi' W hag h
    · exact (hag 0 (.inl rfl)).1 ▸ h
    · exact (hag 1 (.inl rfl)).1 ▸ h
    · exact (hag 2 (.inl rfl)).1 ▸ h
    · exact (hag 3 (.inl rfl)).1 ▸ h
    · have q := hag 4 (.inl rfl)
      have q2 := hag 2 (.inr (Region.dep (by kernel_rfl)))
      (try dsimp only at h ⊢); (try simp only [q.1, q.2.1, q.2.2, q2.1, q2.2.1, q2.2.2] at h); exact h
    · have q := hag 5 (.inl rfl)
      have q2 := hag 2 (.inr (Region.dep (by kernel_rfl)))
      (try dsimp only at h ⊢); (try simp only [q.1, q.2.1, q.2.2, q2.1, q2.2.1, q2.2.2] at h); exact h
    · exact (hag 6 (.inl rfl)).1 ▸ h
    · exact (hag 7 (.inl rfl)).1 ▸ h
    · exact (hag 8 (.inl rfl)).1 ▸ h
    · exact (hag 9 (.inl rfl)).1 ▸ h
    · have q := hag 10 (.inl rfl)
      have q9 := hag 9 (.inr (Region.dep (by kernel_rfl)))
      (try dsimp only at h ⊢); (try simp only [q.1, q.2.1, q.2.2, q9.1, q9.2.1, q9.2.2] at h); exact h
    · have q := hag 11 (.inl rfl)
      have q9 := hag 9 (.inr (Region.dep (by kernel_rfl)))
      (try dsimp only at h ⊢); (try simp only [q.1, q.2.1, q.2.2, q9.1, q9.2.1, q9.2.2] at h); exact h
    · exact (hag 12 (.inl rfl)).1 ▸ h
    · have q := hag 13 (.inl rfl)
      have q9 := hag 9 (.inr (Region.dep (by kernel_rfl)))
      (try dsimp only at h ⊢); (try simp only [q.1, q.2.1, q.2.2, q9.1, q9.2.1, q9.2.2] at h); exact h
    · exact (hag 14 (.inl rfl)).1 ▸ h
    · exact (hag 15 (.inl rfl)).1 ▸ h
    · exact (hag 16 (.inl rfl)).1 ▸ h
    · trivial
  case steps =>
    refine StepsS.cons rfl ?_ (StepsS.cons rfl ?_ (StepsS.cons rfl ?_ (StepsS.cons rfl ?_ (StepsS.cons rfl ?_ (StepsS.cons rfl ?_ (StepsS.cons rfl ?_ (StepsS.cons rfl ?_ (StepsS.cons rfl ?_ (StepsS.cons rfl ?_ (StepsS.cons rfl ?_ (StepsS.cons rfl ?_ (StepsS.cons rfl ?_ (StepsS.cons rfl ?_ (StepsS.cons rfl ?_ (StepsS.cons rfl ?_ (StepsS.cons rfl ?_ StepsS.nil))))))))))))))))
    · rintro v lo hi W hb hS hd
      clear hd
      refine .inl ⟨rfl, ?_⟩
      intro K hK
      dsimp only
      go_wp2_with fail
      exact act_cast (hK (.int .i64 0) W (Below.refl _ _) rfl) (by simp)
    · rintro v lo hi W hb hS hd
      have e0 : v 0 = .int .i64 0 := (hd 0 (Region.dep (by kernel_rfl))).2.2
      clear hd
      refine .inl ⟨rfl, ?_⟩
      intro K hK
      dsimp only
      (try simp only [e0])
      go_wp2_with fail
      exact act_cast (hK (.bool false) W (Below.refl _ _) rfl) (by simp [e0])
    · rintro v lo hi W hb hS hd
      have e1 : v 1 = .bool false := (hd 1 (Region.dep (by kernel_rfl))).2.2
      clear hd
      refine .inl ⟨rfl, ?_⟩
      intro K hK
      dsimp only
      (try simp only [e1])
      go_wp2_with fail
      exact act_cast (hK (.bool false) W (Below.refl _ _) rfl) (by simp [e1])
    · rintro v lo hi W hb hS hd
      have e2 : v 2 = .bool false := (hd 2 (Region.dep (by kernel_rfl))).2.2
      clear hd
      refine .inl ⟨(by show ((match some (v 2) with | some (Value.bool b) => some b | _ => none) == some false) = true; rw [e2]; rfl), ?_⟩
      intro K hK
      dsimp only
      (try simp only [e2])
      go_wp2_with fail
      exact act_cast (hK (.bool ok) W (Below.refl _ _) rfl) (by simp [e2])
    · rintro v lo hi W hb hS hd
      have e2 : v 2 = .bool false := (hd 2 (Region.dep (by kernel_rfl))).2.2
      clear hd
      refine .inl ⟨(by show ((match some (v 2) with | some (Value.bool b) => some b | _ => none) == some false) = true; rw [e2]; rfl), ?_⟩
      intro K hK
      dsimp only
      (try simp only [e2])
      obtain ⟨h, c, g⟩ := hS.at 2 rfl
      have q0 := (g.box.cells 0).1
      have q1 := (g.box.cells 1).1
      have q2 := (g.box.cells 2).1
      have q3 := (g.box.cells 3).1
      go_wp2_with fail
      exact act_cast (hK (perV h c (x : Per).frm (x : Per).period) W (Below.refl _ _) ⟨h, c, rfl, g.is⟩) (by simp [e2])
    · rintro v lo hi W hb hS hd
      have e2 : v 2 = .bool false := (hd 2 (Region.dep (by kernel_rfl))).2.2
      clear hd
      refine .inl ⟨(by show ((match some (v 2) with | some (Value.bool b) => some b | _ => none) == some false) = true; rw [e2]; rfl), ?_⟩
      intro K hK
      dsimp only
      (try simp only [e2])
      obtain ⟨h, c, g⟩ := hS.at 1 rfl
      have q0 := (g.box.cells 0).1
      have q1 := (g.box.cells 1).1
      have q2 := (g.box.cells 2).1
      have q3 := (g.box.cells 3).1
      go_wp2_with fail
      exact act_cast (hK (perV h c (y : Per).frm (y : Per).period) W (Below.refl _ _) ⟨h, c, rfl, g.is⟩) (by simp [e2])
    · rintro v lo hi W hb hS hd
      have e2 : v 2 = .bool false := (hd 2 (Region.dep (by kernel_rfl))).2.2
      obtain ⟨la4, lb4, D4⟩ := hd 4 (Region.dep (by kernel_rfl))
      obtain ⟨la5, lb5, D5⟩ := hd 5 (Region.dep (by kernel_rfl))
      clear hd
      refine .inl ⟨(by show ((match some (v 2) with | some (Value.bool b) => some b | _ => none) == some false) = true; rw [e2]; rfl), ?_⟩
      intro K hK
      dsimp only
      (try simp only [e2])
      obtain ⟨h0, c0, e0, s0⟩ := D4
      obtain ⟨h1, c1, e1, s1⟩ := D5
      simp only [e0, e1]
      go_wp2_with (go_at_call 33; refine (same_ok h0 c0 h1 c1 x y cx cy _ s0 s1 (Sx.out.valid (by omega)) (Sy.out.valid (by omega)) Qcx.out Qcy.out).mono ?_; rintro e w9 ⟨he, hb9⟩; rw [HSM.out] at he; subst he)
      exact act_cast (hK (.bool sm) w9 hb9 rfl) (by simp [e2, e0, e1])
    · rintro v lo hi W hb hS hd
      have e2 : v 2 = .bool false := (hd 2 (Region.dep (by kernel_rfl))).2.2
      have e3 : v 3 = .bool ok := (hd 3 (Region.dep (by kernel_rfl))).2.2
      have e6 : v 6 = .bool sm := (hd 6 (Region.dep (by kernel_rfl))).2.2
      clear hd
      refine .inl ⟨(by show ((match some (v 2) with | some (Value.bool b) => some b | _ => none) == some false) = true; rw [e2]; rfl), ?_⟩
      intro K hK
      dsimp only
      (try simp only [e2, e3, e6])
      go_wp2_with fail
      exact act_cast (hK (.bool false) W (Below.refl _ _) rfl) (by simp [e2, e3, e6])
    · rintro v lo hi W hb hS hd
      have e2 : v 2 = .bool false := (hd 2 (Region.dep (by kernel_rfl))).2.2
      have e7 : v 7 = .bool false := (hd 7 (Region.dep (by kernel_rfl))).2.2
      clear hd
      refine .inl ⟨rfl, ?_⟩
      intro K hK
      dsimp only
      (try simp only [e2, e7])
      go_wp2_with fail
      exact act_cast (hK (.bool false) W (Below.refl _ _) rfl) (by simp [e2, e7])
    · rintro v lo hi W hb hS hd
      have e8 : v 8 = .bool false := (hd 8 (Region.dep (by kernel_rfl))).2.2
      clear hd
      refine .inl ⟨rfl, ?_⟩
      intro K hK
      dsimp only
      (try simp only [e8])
      go_wp2_with fail
      exact act_cast (hK (.bool false) W (Below.refl _ _) rfl) (by simp [e8])
    · rintro v lo hi W hb hS hd
      have e9 : v 9 = .bool false := (hd 9 (Region.dep (by kernel_rfl))).2.2
      clear hd
      refine .inl ⟨(by show ((match some (v 9) with | some (Value.bool b) => some b | _ => none) == some false) = true; rw [e9]; rfl), ?_⟩
      intro K hK
      dsimp only
      (try simp only [e9])
      obtain ⟨h, c, g⟩ := hS.at 2 rfl
      have q0 := (g.box.cells 0).1
      have q1 := (g.box.cells 1).1
      have q2 := (g.box.cells 2).1
      have q3 := (g.box.cells 3).1
      go_wp2_with fail
      exact act_cast (hK (perV h c (x : Per).frm (x : Per).period) W (Below.refl _ _) ⟨h, c, rfl, g.is⟩) (by simp [e9])
    · rintro v lo hi W hb hS hd
      have e9 : v 9 = .bool false := (hd 9 (Region.dep (by kernel_rfl))).2.2
      clear hd
      refine .inl ⟨(by show ((match some (v 9) with | some (Value.bool b) => some b | _ => none) == some false) = true; rw [e9]; rfl), ?_⟩
      intro K hK
      dsimp only
      (try simp only [e9])
      obtain ⟨h, c, g⟩ := hS.at 1 rfl
      have q0 := (g.box.cells 0).1
      have q1 := (g.box.cells 1).1
      have q2 := (g.box.cells 2).1
      have q3 := (g.box.cells 3).1
      go_wp2_with fail
      exact act_cast (hK (perV h c (y : Per).frm (y : Per).period) W (Below.refl _ _) ⟨h, c, rfl, g.is⟩) (by simp [e9])
    · rintro v lo hi W hb hS hd
      have e9 : v 9 = .bool false := (hd 9 (Region.dep (by kernel_rfl))).2.2
      obtain ⟨la10, lb10, D10⟩ := hd 10 (Region.dep (by kernel_rfl))
      obtain ⟨la11, lb11, D11⟩ := hd 11 (Region.dep (by kernel_rfl))
      clear hd
      refine .inl ⟨(by show ((match some (v 9) with | some (Value.bool b) => some b | _ => none) == some false) = true; rw [e9]; rfl), ?_⟩
      intro K hK
      dsimp only
      (try simp only [e9])
      obtain ⟨h0, c0, e0, s0⟩ := D10
      obtain ⟨h1, c1, e1, s1⟩ := D11
      simp only [e0, e1]
      go_wp2_with (go_at_call 36; refine (subset_sm h0 c0 h1 c1 x y cx cy bs _ s0 s1 Sx.out Sy.out Qcx.out Qcy.out HBS.out).mono ?_; rintro e w9 ⟨he, hb9⟩; subst he)
      exact act_cast (hK (.bool bs) w9 hb9 rfl) (by simp [e9, e0, e1])
    · rintro v lo hi W hb hS hd
      have e9 : v 9 = .bool false := (hd 9 (Region.dep (by kernel_rfl))).2.2
      clear hd
      refine .inl ⟨(by show ((match some (v 9) with | some (Value.bool b) => some b | _ => none) == some false) = true; rw [e9]; rfl), ?_⟩
      intro K hK
      dsimp only
      (try simp only [e9])
      obtain ⟨h, c, g⟩ := hS.at 0 rfl
      have q0 := (g.box.cells 0).1
      have q1 := (g.box.cells 1).1
      have q2 := (g.box.cells 2).1
      have q3 := (g.box.cells 3).1
      go_wp2_with fail
      exact act_cast (hK (perV h c (d : Per).frm (d : Per).period) W (Below.refl _ _) ⟨h, c, rfl, g.is⟩) (by simp [e9])
    · rintro v lo hi W hb hS hd
      have e9 : v 9 = .bool false := (hd 9 (Region.dep (by kernel_rfl))).2.2
      obtain ⟨la13, lb13, D13⟩ := hd 13 (Region.dep (by kernel_rfl))
      clear hd
      refine .inl ⟨(by show ((match some (v 9) with | some (Value.bool b) => some b | _ => none) == some false) = true; rw [e9]; rfl), ?_⟩
      intro K hK
      dsimp only
      (try simp only [e9])
      obtain ⟨h0, c0, e0, s0⟩ := D13
      simp only [e0]
      go_wp2_with (go_at_call 37; refine (empty_any h0 c0 d _ s0).mono ?_; rintro e w9 ⟨he, hb9⟩; rw [HEM.out] at he; subst he)
      exact act_cast (hK (.bool bs) w9 hb9 rfl) (by simp [e9, e0])
    · rintro v lo hi W hb hS hd
      have e9 : v 9 = .bool false := (hd 9 (Region.dep (by kernel_rfl))).2.2
      have e12 : v 12 = .bool bs := (hd 12 (Region.dep (by kernel_rfl))).2.2
      have e14 : v 14 = .bool bs := (hd 14 (Region.dep (by kernel_rfl))).2.2
      clear hd
      refine .inl ⟨(by show ((match some (v 9) with | some (Value.bool b) => some b | _ => none) == some false) = true; rw [e9]; rfl), ?_⟩
      intro K hK
      dsimp only
      (try simp only [e9, e12, e14])
      go_wp2_with fail
      exact act_cast (hK (.bool false) W (Below.refl _ _) rfl) (by simp [e9, e12, e14])
    · rintro v lo hi W hb hS hd
      have e9 : v 9 = .bool false := (hd 9 (Region.dep (by kernel_rfl))).2.2
      have e15 : v 15 = .bool false := (hd 15 (Region.dep (by kernel_rfl))).2.2
      clear hd
      refine .inl ⟨rfl, ?_⟩
      intro K hK
      dsimp only
      (try simp only [e9, e15])
      go_wp2_with fail
      exact act_cast (hK (.bool false) W (Below.refl _ _) rfl) (by simp [e9, e15])
  case fin =>
    rintro v lo hi W9 hb9 hS9 hf _
    show wpList _ _ _ [] _ _
    have f16 : v 16 = .bool false := (hf 16 rfl).2.2.2
    clear hf
    dsimp only
    rw [f16]
    clear f16
    generalize v 0 = x0
    generalize v 1 = x1
    generalize v 2 = x2
    generalize v 3 = x3
    generalize v 4 = x4
    generalize v 5 = x5
    generalize v 6 = x6
    generalize v 7 = x7
    generalize v 8 = x8
    generalize v 9 = x9
    generalize v 10 = x10
    generalize v 11 = x11
    generalize v 12 = x12
    generalize v 13 = x13
    generalize v 14 = x14
    generalize v 15 = x15
    have hS := HS.out.below hb9
    have hE9 : Below w.heap.size w W9 := by have hE := HE.out; (repeat' (with_reducible first | assumption | exact Ext.refl _ | refine Ext.alloc ?_ _ | refine Ext.drew ?_ | refine Ext.drewN ?_ _ | (refine Ext.setCell ?_ (by first | (simp; done) | (simp; omega) | omega) _) | refine Ext.trans ?_ (by assumption)))
    have HS9 := Lib.hid hS
    have HE9 := Lib.hid hE9
    clear HS HE hb9 hS9
    cases ok
    · obtain ⟨hn, hall⟩ : n = 0 ∧ ∀ z, 0 ≤ z → (x.mem z ↔ y.mem z) := by
        rcases HAP.out with ⟨g, _⟩ | ⟨_, g1, g2⟩
        · cases g
        · exact ⟨g1, g2⟩
      obtain rfl : bs = true := HBS.out.2 fun z hz => (hall z hz.1).1 hz
      obtain rfl : bt = true := HBT.out.2 fun z hz => (hall z hz.1).2 hz
      subst hn
      have HS1 : Hid (∀ n, x.mem n → y.mem n) := Lib.hid fun m hm => (hall m hm.1).1 hm
      have HT1 : Hid (∀ n, y.mem n → x.mem n) := Lib.hid fun m hm => (hall m hm.1).2 hm
      clear hall
      obtain ⟨hA, cA, gA⟩ := hS.at 2 rfl
      obtain ⟨hB, cB, gB⟩ := hS.at 1 rfl
      have qa0 := (gA.box.cells 0).1
      have qa1 := (gA.box.cells 1).1
      have qa2 := (gA.box.cells 2).1
      have qa3 := (gA.box.cells 3).1
      have qb0 := (gB.box.cells 0).1
      have qb1 := (gB.box.cells 1).1
      have qb2 := (gB.box.cells 2).1
      have qb3 := (gB.box.cells 3).1
      have zA := gA.box.lt
      have zB := gB.box.lt
      have HSA : Hid (∀ W, Below W9.heap.size W9 W → Calls Try.prog 36 #[.agg #[hA, .int .i64 x.frm, .int .i64 x.period, cA], .agg #[hB, .int .i64 y.frm, .int .i64 y.period, cB]] W fun e w' => e = .returned (.bool true) ∧ Below W.heap.size W w') := Lib.hid (fun W hb => subset_sm hA cA hB cB x y cx cy true W (gA.is.ext hb) (gB.is.ext hb) Sx.out Sy.out Qcx.out Qcy.out ⟨fun _ => HS1.out, fun _ => rfl⟩)
      have HSB : Hid (∀ W, Below W9.heap.size W9 W → Calls Try.prog 36 #[.agg #[hB, .int .i64 y.frm, .int .i64 y.period, cB], .agg #[hA, .int .i64 x.frm, .int .i64 x.period, cA]] W fun e w' => e = .returned (.bool true) ∧ Below W.heap.size W w') := Lib.hid (fun W hb => subset_sm hB cB hA cA y x cy cx true W (gB.is.ext hb) (gA.is.ext hb) Sy.out Sx.out Qcy.out Qcx.out ⟨fun _ => HT1.out, fun _ => rfl⟩)
      go_wp2_with (go_at_call 36; first | ((with_reducible refine (HSA.out _ (by (repeat' (with_reducible first | assumption | exact Ext.refl _ | refine Ext.alloc ?_ _ | refine Ext.drew ?_ | refine Ext.drewN ?_ _ | (refine Ext.setCell ?_ (by first | (simp; done) | (simp; omega) | omega) _) | refine Ext.trans ?_ (by assumption))))).mono ?_); rintro e u1 ⟨rfl, k1⟩; obtain ⟨kc1, kf1⟩ := bcell k1; (try simp only [World.size_alloc, World.size_drew, size_drewN, World.size_setCell] at kc1 kf1); have y1 : b2 < u1.heap.size := (by have h7 := k1.size; omega); have y2 : b3 < u1.heap.size := (by have h7 := k1.size; omega)) | ((with_reducible refine (HSB.out _ (by (repeat' (with_reducible first | assumption | exact Ext.refl _ | refine Ext.alloc ?_ _ | refine Ext.drew ?_ | refine Ext.drewN ?_ _ | (refine Ext.setCell ?_ (by first | (simp; done) | (simp; omega) | omega) _) | refine Ext.trans ?_ (by assumption))))).mono ?_); rintro e u2 ⟨rfl, k2⟩))
      go_ret
      exact ⟨rfl, by (repeat' (with_reducible first | assumption | exact Ext.refl _ | refine Ext.alloc ?_ _ | refine Ext.drew ?_ | refine Ext.drewN ?_ _ | (refine Ext.setCell ?_ (by first | (simp; done) | (simp; omega) | omega) _) | refine Ext.trans ?_ (by assumption)))⟩
    · obtain ⟨hdf, hall⟩ : ¬ (x.mem n ↔ y.mem n) ∧ ∀ z, 0 ≤ z → z < n → (x.mem z ↔ y.mem z) := by
        rcases HAP.out with ⟨_, _, g1, g2⟩ | ⟨g, _⟩
        · exact ⟨g1, g2⟩
        · cases g
      have HDF := Lib.hid hdf
      have HALL := Lib.hid hall
      clear hdf hall hS hE9
      have VX := Lib.hid (Sx.out.valid (by omega))
      have VY := Lib.hid (Sy.out.valid (by omega))
      go_wp2_with fail
      go_loopw [12] (fun i wr => ∃ k : Nat, (k : Int) ≤ n ∧ k ≤ 400 ∧ i = .int .i64 k ∧ Below W9.heap.size W9 wr) (fun i _ => 400 - (intOf i).toNat)
      case atStart => exact ⟨0, by omega, by omega, rfl, Below.refl _ _⟩
      case round =>
        obtain ⟨k, hk, hk4, rfl, hb⟩ := hrel
        have HB := Lib.hid hb
        clear hb
        have hn4 : n < 400 := by omega
        by_cases hlt : (k : Int) < n
        · have hk40 : (k : Int) < 400 := by omega
          obtain ⟨bx, hbx⟩ : ∃ bx, bx = memB x k := ⟨_, rfl⟩
          have HX : Hid ((validB x && decide (0 ≤ (k : Int)) && memB x k) = bx) := Lib.hid (by rw [(validB_iff x).2 VX.out, decide_eq_true (show 0 ≤ (k : Int) by omega), hbx]; rfl)
          have HY : Hid ((validB y && decide (0 ≤ (k : Int)) && memB y k) = bx) := Lib.hid (by
            rw [(validB_iff y).2 VY.out, decide_eq_true (show 0 ≤ (k : Int) by omega), hbx, Bool.eq_iff_iff]
            show memB y k = true ↔ _
            rw [memB_iff (by omega), memB_iff (by omega)]; exact (HALL.out k (by omega) hlt).symm)
          have hxx : (bx != bx) = false := by cases bx <;> rfl
          have HnI : Hid (InI (k : Int)) := Lib.hid (⟨by omega, by omega⟩)
          clear hbx
          have hS := HS9.out.below HB.out
          go_wp2_with fail
          refine wp_region_facts (w0 := wr) [0, 1, 2, 3, 4, 5, 6] [] (fun v => ⟨#[Value.agg #[Value.slice a1a hla.length c1a, Value.int IntKind.u8 fa, Value.int IntKind.u8 ta, Value.slice a2a cla.length c2a], Value.agg #[Value.slice a1b hlb.length c1b, Value.int IntKind.u8 fb, Value.int IntKind.u8 tb, Value.slice a2b clb.length c2b], Value.pointer (some { block := w.heap.size, off := 0 }), Value.pointer (some { block := w.heap.size + 1, off := 0 }), u4, Value.bool true, Value.pointer (some { block := b2, off := 0 }), Value.pointer (some { block := b3, off := 0 }), Value.int IntKind.i64 n, Value.bool true, Value.pointer (some { block := b5, off := 0 }), Value.int IntKind.i64 0, Value.int IntKind.i64 ↑k, Value.bool true, Value.agg #[Value.slice a1a hla.length c1a, Value.int IntKind.u8 fa, Value.int IntKind.u8 ta, Value.slice a2a cla.length c2a], perV (Value.slice x1_2 x.head.length y1_2) (Value.slice x2_2 x.cycle.length y2_2) x.frm x.period, Value.agg #[Value.slice a1b hlb.length c1b, Value.int IntKind.u8 fb, Value.int IntKind.u8 tb, Value.slice a2b clb.length c2b], perV (Value.slice x1_3 y.head.length y1_3) (Value.slice x2_3 y.cycle.length y2_3) y.frm y.period, Value.tuple #[Value.int IntKind.i64 n, Value.bool true], Value.agg #[hA_4, Value.int IntKind.i64 x.frm, Value.int IntKind.i64 x.period, cA_4], Value.agg #[hB_4, Value.int IntKind.i64 y.frm, Value.int IntKind.i64 y.period, cB_4], Value.tuple #[Value.int IntKind.i64 n, Value.bool true], Value.int IntKind.i64 n, Value.bool true, Value.tuple #[perV (Value.slice x1_5 d.head.length y1_5) (Value.slice x2_5 d.cycle.length y2_5) d.frm d.period, Value.int IntKind.i64 0], Value.agg #[hA_5, Value.int IntKind.i64 x.frm, Value.int IntKind.i64 x.period, cA_5], Value.agg #[hB_5, Value.int IntKind.i64 y.frm, Value.int IntKind.i64 y.period, cB_5], Value.tuple #[perV (Value.slice x1_5 d.head.length y1_5) (Value.slice x2_5 d.cycle.length y2_5) d.frm d.period, Value.int IntKind.i64 0], perV (Value.slice x1_5 d.head.length y1_5) (Value.slice x2_5 d.cycle.length y2_5) d.frm d.period, Value.int IntKind.i64 0, x0, x1, x2, x3, x4, x5, x6, x7, x8, x9, x10, x11, x12, x13, x14, x15, Value.bool false, Value.bool true, Value.bool false, undef, undef, undef, undef, undef, undef, undef, undef, undef, undef, undef, undef, undef, undef, undef, Value.int IntKind.i64 ↑k, Value.int IntKind.i64 n, Value.bool true, Value.bool true, Value.int IntKind.i64 ↑k, Value.bool true, Value.bool true, u71, u72, v 0, v 1, v 2, v 3, v 4, v 5, v 6, undef, undef, undef, undef, undef, undef, undef, undef, undef, undef, undef, undef, undef, undef, undef, undef, undef, undef, undef, undef, undef], []⟩) (fun j => match j with | 0 => u73 | 1 => u74 | 2 => u75 | 3 => u76 | 4 => u77 | 5 => u78 | 6 => u79 | _ => undef)
            (fun i v lo hi W => match i with
              | 0 => SetV W (v 0) x
              | 1 => v 1 = .int .i64 k
              | 2 => v 2 = .bool bx
              | 3 => SetV W (v 3) y
              | 4 => v 4 = .int .i64 k
              | 5 => v 5 = .bool bx
              | 6 => v 6 = .bool false
              | _ => True)
            (fun W => Sets W [(b5, d), (b3, y), (b2, x)]) rfl (by kernel_rfl) (by decide) rfl ?stab ?loc (fun W hb => hS.below hb) ?steps ?fin
          case stab =>
            rintro (_ | _ | _ | _ | _ | _ | _ | i) v lo hi W W' h hb
            · exact h.below hb
            · exact h
            · exact h
            · exact h.below hb
            · exact h
            · exact h
            · exact h
            · trivial
          case loc =>
            rintro (_ | _ | _ | _ | _ | _ | _ | i) v v' lo lo' hi hi' W hag h
            · have q := hag 0 (.inl rfl)
              (try dsimp only at h ⊢); (try simp only [q.1, q.2.1, q.2.2] at h); exact h
            · exact (hag 1 (.inl rfl)).1 ▸ h
            · exact (hag 2 (.inl rfl)).1 ▸ h
            · have q := hag 3 (.inl rfl)
              (try dsimp only at h ⊢); (try simp only [q.1, q.2.1, q.2.2] at h); exact h
            · exact (hag 4 (.inl rfl)).1 ▸ h
            · exact (hag 5 (.inl rfl)).1 ▸ h
            · exact (hag 6 (.inl rfl)).1 ▸ h
            · trivial
          case steps =>
            refine StepsF.cons rfl ?_ (StepsF.cons rfl ?_ (StepsF.cons rfl ?_ (StepsF.cons rfl ?_ (StepsF.cons rfl ?_ (StepsF.cons rfl ?_ (StepsF.cons rfl ?_ StepsF.nil))))))
            · rintro v lo hi W hb hS hd K hK
              clear hd
              dsimp only
              obtain ⟨h, c, g⟩ := hS.at 2 rfl
              have q0 := (g.box.cells 0).1
              have q1 := (g.box.cells 1).1
              have q2 := (g.box.cells 2).1
              have q3 := (g.box.cells 3).1
              go_wp2_with fail
              exact act_cast (hK (perV h c (x : Per).frm (x : Per).period) W (Below.refl _ _) ⟨h, c, rfl, g.is⟩) (by simp [ite_true])
            · rintro v lo hi W hb hS hd K hK
              clear hd
              dsimp only
              go_wp2_with fail
              exact act_cast (hK (.int .i64 k) W (Below.refl _ _) rfl) (by simp)
            · rintro v lo hi W hb hS hd K hK
              obtain ⟨la0, lb0, D0⟩ := hd 0 (Region.dep (by kernel_rfl))
              have e1 : v 1 = .int .i64 k := (hd 1 (Region.dep (by kernel_rfl))).2.2
              clear hd
              dsimp only
              (try simp only [e1])
              obtain ⟨h0, c0, e0, s0⟩ := D0
              simp only [e0]
              go_wp2_with (go_at_call 24; refine (has_far h0 c0 x k _ s0 HnI.out).mono ?_; rintro e w9 ⟨he, hb9⟩; rw [HX.out] at he; subst he)
              exact act_cast (hK (.bool bx) w9 hb9 rfl) (by simp [e1, e0])
            · rintro v lo hi W hb hS hd K hK
              clear hd
              dsimp only
              obtain ⟨h, c, g⟩ := hS.at 1 rfl
              have q0 := (g.box.cells 0).1
              have q1 := (g.box.cells 1).1
              have q2 := (g.box.cells 2).1
              have q3 := (g.box.cells 3).1
              go_wp2_with fail
              exact act_cast (hK (perV h c (y : Per).frm (y : Per).period) W (Below.refl _ _) ⟨h, c, rfl, g.is⟩) (by simp [ite_true])
            · rintro v lo hi W hb hS hd K hK
              clear hd
              dsimp only
              go_wp2_with fail
              exact act_cast (hK (.int .i64 k) W (Below.refl _ _) rfl) (by simp)
            · rintro v lo hi W hb hS hd K hK
              obtain ⟨la3, lb3, D3⟩ := hd 3 (Region.dep (by kernel_rfl))
              have e4 : v 4 = .int .i64 k := (hd 4 (Region.dep (by kernel_rfl))).2.2
              clear hd
              dsimp only
              (try simp only [e4])
              obtain ⟨h0, c0, e0, s0⟩ := D3
              simp only [e0]
              go_wp2_with (go_at_call 24; refine (has_far h0 c0 y k _ s0 HnI.out).mono ?_; rintro e w9 ⟨he, hb9⟩; rw [HY.out] at he; subst he)
              exact act_cast (hK (.bool bx) w9 hb9 rfl) (by simp [e4, e0])
            · rintro v lo hi W hb hS hd K hK
              have e2 : v 2 = .bool bx := (hd 2 (Region.dep (by kernel_rfl))).2.2
              have e5 : v 5 = .bool bx := (hd 5 (Region.dep (by kernel_rfl))).2.2
              clear hd
              dsimp only
              (try simp only [e2, e5])
              go_wp2_with fail
              exact act_cast (hK (.bool false) W (Below.refl _ _) rfl) (by simp [e2, e5])
          case fin =>
            rintro v lo hi W2 hb2 hS2 hf _
            show wpList _ _ _ [] _ _
            have f6 : v 6 = .bool false := (hf 6 rfl).2.2.2
            clear hf hS2
            dsimp only
            rw [f6]
            clear f6
            generalize v 0 = y0
            generalize v 1 = y1
            generalize v 2 = y2
            generalize v 3 = y3
            generalize v 4 = y4
            generalize v 5 = y5
            go_wp2_with fail
            go_roundw
            case rel => exact ⟨k + 1, by omega, by omega, by go_num, by have hb := HB.out; (repeat' (with_reducible first | assumption | exact Ext.refl _ | refine Ext.alloc ?_ _ | refine Ext.drew ?_ | refine Ext.drewN ?_ _ | (refine Ext.setCell ?_ (by first | (simp; done) | (simp; omega) | omega) _) | refine Ext.trans ?_ (by assumption)))⟩
            case measure => simp [intOf]; omega
        · have hke : (k : Int) = n := by omega
          have hnI : n < 400 := by omega
          obtain ⟨bx, hbx⟩ : ∃ bx, bx = memB x n := ⟨_, rfl⟩
          obtain ⟨by_, hby⟩ : ∃ by_, by_ = memB y n := ⟨_, rfl⟩
          have HX : Hid ((validB x && decide (0 ≤ n) && memB x n) = bx) := Lib.hid (by rw [(validB_iff x).2 VX.out, decide_eq_true hn0, hbx]; rfl)
          have HY : Hid ((validB y && decide (0 ≤ n) && memB y n) = by_) := Lib.hid (by rw [(validB_iff y).2 VY.out, decide_eq_true hn0, hby]; rfl)
          have hxy : (bx != by_) = true := by
            have h1 : ¬ (bx = true ↔ by_ = true) := by rw [hbx, hby, memB_iff hn0, memB_iff hn0]; exact HDF.out
            cases bx <;> cases by_ <;> first | rfl | (exact absurd Iff.rfl h1)
          have hst : ¬ (bs = true ∧ bt = true) := fun h => HDF.out ⟨HBS.out.1 h.1 n, HBT.out.1 h.2 n⟩
          have HnI : Hid (InI n) := Lib.hid (⟨by omega, by omega⟩)
          clear hbx hby
          have hS := HS9.out.below HB.out
          have hE : Below w.heap.size w wr := by have hb := HB.out; have hE := HE9.out; (repeat' (with_reducible first | assumption | exact Ext.refl _ | refine Ext.alloc ?_ _ | refine Ext.drew ?_ | refine Ext.drewN ?_ _ | (refine Ext.setCell ?_ (by first | (simp; done) | (simp; omega) | omega) _) | refine Ext.trans ?_ (by assumption)))
          rw [hke]
          clear hke hlt hk
          have HXY : Hid (¬ bx = by_) := Lib.hid (fun e => by rw [e] at hxy; simp at hxy)
          cases bs
          · clear hst
            have HNS : Hid (¬ ∀ n, x.mem n → y.mem n) := Lib.hid fun h => by have := HBS.out.2 h; cases this
            go_wp2_with fail
            refine wp_region_factsS (w0 := wr) [0, 1, 2, 3, 4, 5, 6, 7, 8, 9, 10, 11, 12, 13, 14, 15, 16, 17, 18, 19, 20] [21] (fun v => ⟨#[Value.agg #[Value.slice a1a hla.length c1a, Value.int IntKind.u8 fa, Value.int IntKind.u8 ta, Value.slice a2a cla.length c2a], Value.agg #[Value.slice a1b hlb.length c1b, Value.int IntKind.u8 fb, Value.int IntKind.u8 tb, Value.slice a2b clb.length c2b], Value.pointer (some { block := w.heap.size, off := 0 }), Value.pointer (some { block := w.heap.size + 1, off := 0 }), u4, Value.bool true, Value.pointer (some { block := b2, off := 0 }), Value.pointer (some { block := b3, off := 0 }), Value.int IntKind.i64 n, Value.bool true, Value.pointer (some { block := b5, off := 0 }), Value.int IntKind.i64 0, Value.int IntKind.i64 n, Value.bool true, Value.agg #[Value.slice a1a hla.length c1a, Value.int IntKind.u8 fa, Value.int IntKind.u8 ta, Value.slice a2a cla.length c2a], perV (Value.slice x1_2 x.head.length y1_2) (Value.slice x2_2 x.cycle.length y2_2) x.frm x.period, Value.agg #[Value.slice a1b hlb.length c1b, Value.int IntKind.u8 fb, Value.int IntKind.u8 tb, Value.slice a2b clb.length c2b], perV (Value.slice x1_3 y.head.length y1_3) (Value.slice x2_3 y.cycle.length y2_3) y.frm y.period, Value.tuple #[Value.int IntKind.i64 n, Value.bool true], Value.agg #[hA_4, Value.int IntKind.i64 x.frm, Value.int IntKind.i64 x.period, cA_4], Value.agg #[hB_4, Value.int IntKind.i64 y.frm, Value.int IntKind.i64 y.period, cB_4], Value.tuple #[Value.int IntKind.i64 n, Value.bool true], Value.int IntKind.i64 n, Value.bool true, Value.tuple #[perV (Value.slice x1_5 d.head.length y1_5) (Value.slice x2_5 d.cycle.length y2_5) d.frm d.period, Value.int IntKind.i64 0], Value.agg #[hA_5, Value.int IntKind.i64 x.frm, Value.int IntKind.i64 x.period, cA_5], Value.agg #[hB_5, Value.int IntKind.i64 y.frm, Value.int IntKind.i64 y.period, cB_5], Value.tuple #[perV (Value.slice x1_5 d.head.length y1_5) (Value.slice x2_5 d.cycle.length y2_5) d.frm d.period, Value.int IntKind.i64 0], perV (Value.slice x1_5 d.head.length y1_5) (Value.slice x2_5 d.cycle.length y2_5) d.frm d.period, Value.int IntKind.i64 0, x0, x1, x2, x3, x4, x5, x6, x7, x8, x9, x10, x11, x12, x13, x14, x15, Value.bool false, Value.bool true, Value.bool false, undef, undef, undef, undef, undef, undef, undef, undef, undef, undef, undef, undef, undef, undef, undef, Value.int IntKind.i64 n, Value.int IntKind.i64 n, Value.bool false, Value.bool false, undef, undef, Value.bool false, u71, u72, u73, u74, u75, u76, u77, u78, u79, v 0, v 1, v 2, v 3, v 4, v 5, v 6, v 7, v 8, v 9, v 10, v 11, v 12, v 13, v 14, v 15, v 16, v 17, v 18, v 19, v 20], []⟩) (fun _ => undef)
              (fun i v lo hi W => match i with
                | 0 => v 0 = .bool true
                | 1 => v 1 = .bool true
                | 2 => SetV W (v 2) x
                | 3 => v 3 = .int .i64 n
                | 4 => v 4 = .bool bx
                | 5 => SetV W (v 5) y
                | 6 => v 6 = .int .i64 n
                | 7 => v 7 = .bool by_
                | 8 => v 8 = .bool true
                | 9 => v 9 = .bool true
                | 10 => v 10 = .bool true
                | 11 => SetV W (v 11) x
                | 12 => SetV W (v 12) y
                | 13 => v 13 = .bool false
                | 14 => v 14 = .bool false
                | 15 => v 15 = undef
                | 16 => v 16 = undef
                | 17 => v 17 = undef
                | 18 => v 18 = .bool false
                | 19 => v 19 = .bool true
                | 20 => v 20 = .bool true
                | _ => True)
              (fun W => Sets W [(b5, d), (b3, y), (b2, x)]) rfl (by kernel_rfl) (by decide) rfl ?stab ?loc (fun W hb => hS.below hb) ?steps ?fin
            case stab =>
              rintro (_ | _ | _ | _ | _ | _ | _ | _ | _ | _ | _ | _ | _ | _ | _ | _ | _ | _ | _ | _ | _ | i) v lo hi W W' h hb
              · exact h
              · exact h
              · exact h.below hb
              · exact h
              · exact h
              · exact h.below hb
              · exact h
              · exact h
              · exact h
              · exact h
              · exact h
              · exact h.below hb
              · exact h.below hb
              · exact h
              · exact h
              · exact h
              · exact h
              · exact h
              · exact h
              · exact h
              · exact h
              · trivial
            case loc =>
              rintro (_ | _ | _ | _ | _ | _ | _ | _ | _ | _ | _ | _ | _ | _ | _ | _ | _ | _ | _ | _ | _ | i) v v' lo lo' hi hi' W hag h
              · exact (hag 0 (.inl rfl)).1 ▸ h
              · exact (hag 1 (.inl rfl)).1 ▸ h
              · have q := hag 2 (.inl rfl)
                have q1 := hag 1 (.inr (Region.dep (by kernel_rfl)))
                (try dsimp only at h ⊢); (try simp only [q.1, q.2.1, q.2.2, q1.1, q1.2.1, q1.2.2] at h); exact h
              · exact (hag 3 (.inl rfl)).1 ▸ h
              · exact (hag 4 (.inl rfl)).1 ▸ h
              · have q := hag 5 (.inl rfl)
                have q1 := hag 1 (.inr (Region.dep (by kernel_rfl)))
                (try dsimp only at h ⊢); (try simp only [q.1, q.2.1, q.2.2, q1.1, q1.2.1, q1.2.2] at h); exact h
              · exact (hag 6 (.inl rfl)).1 ▸ h
              · exact (hag 7 (.inl rfl)).1 ▸ h
              · exact (hag 8 (.inl rfl)).1 ▸ h
              · exact (hag 9 (.inl rfl)).1 ▸ h
              · exact (hag 10 (.inl rfl)).1 ▸ h
              · have q := hag 11 (.inl rfl)
                have q10 := hag 10 (.inr (Region.dep (by kernel_rfl)))
                (try dsimp only at h ⊢); (try simp only [q.1, q.2.1, q.2.2, q10.1, q10.2.1, q10.2.2] at h); exact h
              · have q := hag 12 (.inl rfl)
                have q10 := hag 10 (.inr (Region.dep (by kernel_rfl)))
                (try dsimp only at h ⊢); (try simp only [q.1, q.2.1, q.2.2, q10.1, q10.2.1, q10.2.2] at h); exact h
              · exact (hag 13 (.inl rfl)).1 ▸ h
              · exact (hag 14 (.inl rfl)).1 ▸ h
              · exact (hag 15 (.inl rfl)).1 ▸ h
              · exact (hag 16 (.inl rfl)).1 ▸ h
              · exact (hag 17 (.inl rfl)).1 ▸ h
              · exact (hag 18 (.inl rfl)).1 ▸ h
              · exact (hag 19 (.inl rfl)).1 ▸ h
              · exact (hag 20 (.inl rfl)).1 ▸ h
              · trivial
            case steps =>
              refine StepsS.cons rfl ?_ (StepsS.cons rfl ?_ (StepsS.cons rfl ?_ (StepsS.cons rfl ?_ (StepsS.cons rfl ?_ (StepsS.cons rfl ?_ (StepsS.cons rfl ?_ (StepsS.cons rfl ?_ (StepsS.cons rfl ?_ (StepsS.cons rfl ?_ (StepsS.cons rfl ?_ (StepsS.cons rfl ?_ (StepsS.cons rfl ?_ (StepsS.cons rfl ?_ (StepsS.cons rfl ?_ (StepsS.cons rfl ?_ (StepsS.cons rfl ?_ (StepsS.cons rfl ?_ (StepsS.cons rfl ?_ (StepsS.cons rfl ?_ (StepsS.cons rfl ?_ StepsS.nil))))))))))))))))))))
              · rintro v lo hi W hb hS hd
                clear hd
                refine .inl ⟨rfl, ?_⟩
                intro K hK
                dsimp only
                go_wp2_with fail
                exact act_cast (hK (.bool true) W (Below.refl _ _) rfl) (by simp)
              · rintro v lo hi W hb hS hd
                have e0 : v 0 = .bool true := (hd 0 (Region.dep (by kernel_rfl))).2.2
                clear hd
                refine .inl ⟨rfl, ?_⟩
                intro K hK
                dsimp only
                (try simp only [e0])
                go_wp2_with fail
                exact act_cast (hK (.bool true) W (Below.refl _ _) rfl) (by simp [e0])
              · rintro v lo hi W hb hS hd
                have e1 : v 1 = .bool true := (hd 1 (Region.dep (by kernel_rfl))).2.2
                clear hd
                refine .inl ⟨(by show ((match some (v 1) with | some (Value.bool b) => some b | _ => none) == some true) = true; rw [e1]; rfl), ?_⟩
                intro K hK
                dsimp only
                (try simp only [e1])
                obtain ⟨h, c, g⟩ := hS.at 2 rfl
                have q0 := (g.box.cells 0).1
                have q1 := (g.box.cells 1).1
                have q2 := (g.box.cells 2).1
                have q3 := (g.box.cells 3).1
                go_wp2_with fail
                exact act_cast (hK (perV h c (x : Per).frm (x : Per).period) W (Below.refl _ _) ⟨h, c, rfl, g.is⟩) (by simp [e1])
              · rintro v lo hi W hb hS hd
                have e1 : v 1 = .bool true := (hd 1 (Region.dep (by kernel_rfl))).2.2
                clear hd
                refine .inl ⟨(by show ((match some (v 1) with | some (Value.bool b) => some b | _ => none) == some true) = true; rw [e1]; rfl), ?_⟩
                intro K hK
                dsimp only
                (try simp only [e1])
                go_wp2_with fail
                exact act_cast (hK (.int .i64 n) W (Below.refl _ _) rfl) (by simp [e1])
              · rintro v lo hi W hb hS hd
                have e1 : v 1 = .bool true := (hd 1 (Region.dep (by kernel_rfl))).2.2
                obtain ⟨la2, lb2, D2⟩ := hd 2 (Region.dep (by kernel_rfl))
                have e3 : v 3 = .int .i64 n := (hd 3 (Region.dep (by kernel_rfl))).2.2
                clear hd
                refine .inl ⟨(by show ((match some (v 1) with | some (Value.bool b) => some b | _ => none) == some true) = true; rw [e1]; rfl), ?_⟩
                intro K hK
                dsimp only
                (try simp only [e1, e3])
                obtain ⟨h0, c0, e0, s0⟩ := D2
                simp only [e0]
                go_wp2_with (go_at_call 24; refine (has_far h0 c0 x n _ s0 HnI.out).mono ?_; rintro e w9 ⟨he, hb9⟩; rw [HX.out] at he; subst he)
                exact act_cast (hK (.bool bx) w9 hb9 rfl) (by simp [e1, e3, e0])
              · rintro v lo hi W hb hS hd
                have e1 : v 1 = .bool true := (hd 1 (Region.dep (by kernel_rfl))).2.2
                clear hd
                refine .inl ⟨(by show ((match some (v 1) with | some (Value.bool b) => some b | _ => none) == some true) = true; rw [e1]; rfl), ?_⟩
                intro K hK
                dsimp only
                (try simp only [e1])
                obtain ⟨h, c, g⟩ := hS.at 1 rfl
                have q0 := (g.box.cells 0).1
                have q1 := (g.box.cells 1).1
                have q2 := (g.box.cells 2).1
                have q3 := (g.box.cells 3).1
                go_wp2_with fail
                exact act_cast (hK (perV h c (y : Per).frm (y : Per).period) W (Below.refl _ _) ⟨h, c, rfl, g.is⟩) (by simp [e1])
              · rintro v lo hi W hb hS hd
                have e1 : v 1 = .bool true := (hd 1 (Region.dep (by kernel_rfl))).2.2
                clear hd
                refine .inl ⟨(by show ((match some (v 1) with | some (Value.bool b) => some b | _ => none) == some true) = true; rw [e1]; rfl), ?_⟩
                intro K hK
                dsimp only
                (try simp only [e1])
                go_wp2_with fail
                exact act_cast (hK (.int .i64 n) W (Below.refl _ _) rfl) (by simp [e1])
              · rintro v lo hi W hb hS hd
                have e1 : v 1 = .bool true := (hd 1 (Region.dep (by kernel_rfl))).2.2
                obtain ⟨la5, lb5, D5⟩ := hd 5 (Region.dep (by kernel_rfl))
                have e6 : v 6 = .int .i64 n := (hd 6 (Region.dep (by kernel_rfl))).2.2
                clear hd
                refine .inl ⟨(by show ((match some (v 1) with | some (Value.bool b) => some b | _ => none) == some true) = true; rw [e1]; rfl), ?_⟩
                intro K hK
                dsimp only
                (try simp only [e1, e6])
                obtain ⟨h0, c0, e0, s0⟩ := D5
                simp only [e0]
                go_wp2_with (go_at_call 24; refine (has_far h0 c0 y n _ s0 HnI.out).mono ?_; rintro e w9 ⟨he, hb9⟩; rw [HY.out] at he; subst he)
                exact act_cast (hK (.bool by_) w9 hb9 rfl) (by simp [e1, e6, e0])
              · rintro v lo hi W hb hS hd
                have e1 : v 1 = .bool true := (hd 1 (Region.dep (by kernel_rfl))).2.2
                have e4 : v 4 = .bool bx := (hd 4 (Region.dep (by kernel_rfl))).2.2
                have e7 : v 7 = .bool by_ := (hd 7 (Region.dep (by kernel_rfl))).2.2
                clear hd
                refine .inl ⟨(by show ((match some (v 1) with | some (Value.bool b) => some b | _ => none) == some true) = true; rw [e1]; rfl), ?_⟩
                intro K hK
                dsimp only
                (try simp only [e1, e4, e7])
                go_wp2_with fail
                exact act_cast (hK (.bool true) W (Below.refl _ _) rfl) (by simp [e1, e4, e7]; exact HXY.out)
              · rintro v lo hi W hb hS hd
                have e1 : v 1 = .bool true := (hd 1 (Region.dep (by kernel_rfl))).2.2
                have e8 : v 8 = .bool true := (hd 8 (Region.dep (by kernel_rfl))).2.2
                clear hd
                refine .inl ⟨rfl, ?_⟩
                intro K hK
                dsimp only
                (try simp only [e1, e8])
                go_wp2_with fail
                exact act_cast (hK (.bool true) W (Below.refl _ _) rfl) (by simp [e1, e8])
              · rintro v lo hi W hb hS hd
                have e9 : v 9 = .bool true := (hd 9 (Region.dep (by kernel_rfl))).2.2
                clear hd
                refine .inl ⟨rfl, ?_⟩
                intro K hK
                dsimp only
                (try simp only [e9])
                go_wp2_with fail
                exact act_cast (hK (.bool true) W (Below.refl _ _) rfl) (by simp [e9])
              · rintro v lo hi W hb hS hd
                have e10 : v 10 = .bool true := (hd 10 (Region.dep (by kernel_rfl))).2.2
                clear hd
                refine .inl ⟨(by show ((match some (v 10) with | some (Value.bool b) => some b | _ => none) == some true) = true; rw [e10]; rfl), ?_⟩
                intro K hK
                dsimp only
                (try simp only [e10])
                obtain ⟨h, c, g⟩ := hS.at 2 rfl
                have q0 := (g.box.cells 0).1
                have q1 := (g.box.cells 1).1
                have q2 := (g.box.cells 2).1
                have q3 := (g.box.cells 3).1
                go_wp2_with fail
                exact act_cast (hK (perV h c (x : Per).frm (x : Per).period) W (Below.refl _ _) ⟨h, c, rfl, g.is⟩) (by simp [e10])
              · rintro v lo hi W hb hS hd
                have e10 : v 10 = .bool true := (hd 10 (Region.dep (by kernel_rfl))).2.2
                clear hd
                refine .inl ⟨(by show ((match some (v 10) with | some (Value.bool b) => some b | _ => none) == some true) = true; rw [e10]; rfl), ?_⟩
                intro K hK
                dsimp only
                (try simp only [e10])
                obtain ⟨h, c, g⟩ := hS.at 1 rfl
                have q0 := (g.box.cells 0).1
                have q1 := (g.box.cells 1).1
                have q2 := (g.box.cells 2).1
                have q3 := (g.box.cells 3).1
                go_wp2_with fail
                exact act_cast (hK (perV h c (y : Per).frm (y : Per).period) W (Below.refl _ _) ⟨h, c, rfl, g.is⟩) (by simp [e10])
              · rintro v lo hi W hb hS hd
                have e10 : v 10 = .bool true := (hd 10 (Region.dep (by kernel_rfl))).2.2
                obtain ⟨la11, lb11, D11⟩ := hd 11 (Region.dep (by kernel_rfl))
                obtain ⟨la12, lb12, D12⟩ := hd 12 (Region.dep (by kernel_rfl))
                clear hd
                refine .inl ⟨(by show ((match some (v 10) with | some (Value.bool b) => some b | _ => none) == some true) = true; rw [e10]; rfl), ?_⟩
                intro K hK
                dsimp only
                (try simp only [e10])
                obtain ⟨h0, c0, e0, s0⟩ := D11
                obtain ⟨h1, c1, e1, s1⟩ := D12
                simp only [e0, e1]
                go_wp2_with (go_at_call 36; refine (subset_sm h0 c0 h1 c1 x y cx cy false _ s0 s1 Sx.out Sy.out Qcx.out Qcy.out ⟨fun h => Bool.noConfusion h, fun h => absurd h HNS.out⟩).mono ?_; rintro e w9 ⟨he, hb9⟩; subst he)
                exact act_cast (hK (.bool false) w9 hb9 rfl) (by simp [e10, e0, e1])
              · rintro v lo hi W hb hS hd
                have e10 : v 10 = .bool true := (hd 10 (Region.dep (by kernel_rfl))).2.2
                have e13 : v 13 = .bool false := (hd 13 (Region.dep (by kernel_rfl))).2.2
                clear hd
                refine .inl ⟨(by show ((match some (v 10) with | some (Value.bool b) => some b | _ => none) == some true) = true; rw [e10]; rfl), ?_⟩
                intro K hK
                dsimp only
                (try simp only [e10, e13])
                go_wp2_with fail
                exact act_cast (hK (.bool false) W (Below.refl _ _) rfl) (by simp [e10, e13])
              · rintro v lo hi W hb hS hd
                have e14 : v 14 = .bool false := (hd 14 (Region.dep (by kernel_rfl))).2.2
                clear hd
                refine .inr ⟨(by show ((match some (v 14) with | some (Value.bool b) => some b | _ => none) == some true) = false; rw [e14]; rfl), ?_⟩
                intro K hK
                exact act_cast (hK undef W (Below.refl _ _) rfl) (by simp [Act.put])
              · rintro v lo hi W hb hS hd
                have e14 : v 14 = .bool false := (hd 14 (Region.dep (by kernel_rfl))).2.2
                clear hd
                refine .inr ⟨(by show ((match some (v 14) with | some (Value.bool b) => some b | _ => none) == some true) = false; rw [e14]; rfl), ?_⟩
                intro K hK
                exact act_cast (hK undef W (Below.refl _ _) rfl) (by simp [Act.put])
              · rintro v lo hi W hb hS hd
                have e14 : v 14 = .bool false := (hd 14 (Region.dep (by kernel_rfl))).2.2
                have e15 : v 15 = undef := (hd 15 (Region.dep (by kernel_rfl))).2.2
                have e16 : v 16 = undef := (hd 16 (Region.dep (by kernel_rfl))).2.2
                clear hd
                refine .inr ⟨(by show ((match some (v 14) with | some (Value.bool b) => some b | _ => none) == some true) = false; rw [e14]; rfl), ?_⟩
                intro K hK
                exact act_cast (hK undef W (Below.refl _ _) rfl) (by simp [Act.put])
              · rintro v lo hi W hb hS hd
                have e10 : v 10 = .bool true := (hd 10 (Region.dep (by kernel_rfl))).2.2
                have e14 : v 14 = .bool false := (hd 14 (Region.dep (by kernel_rfl))).2.2
                have e17 : v 17 = undef := (hd 17 (Region.dep (by kernel_rfl))).2.2
                clear hd
                refine .inl ⟨(by show ((match some (v 10) with | some (Value.bool b) => some b | _ => none) == some true) = true; rw [e10]; rfl), ?_⟩
                intro K hK
                dsimp only
                (try simp only [e10, e14, e17])
                go_wp2_with fail
                exact act_cast (hK (.bool false) W (Below.refl _ _) rfl) (by simp [e10, e14, e17])
              · rintro v lo hi W hb hS hd
                have e10 : v 10 = .bool true := (hd 10 (Region.dep (by kernel_rfl))).2.2
                have e18 : v 18 = .bool false := (hd 18 (Region.dep (by kernel_rfl))).2.2
                clear hd
                refine .inl ⟨(by show ((match some (v 10) with | some (Value.bool b) => some b | _ => none) == some true) = true; rw [e10]; rfl), ?_⟩
                intro K hK
                dsimp only
                (try simp only [e10, e18])
                go_wp2_with fail
                exact act_cast (hK (.bool true) W (Below.refl _ _) rfl) (by simp [e10, e18])
              · rintro v lo hi W hb hS hd
                have e10 : v 10 = .bool true := (hd 10 (Region.dep (by kernel_rfl))).2.2
                have e19 : v 19 = .bool true := (hd 19 (Region.dep (by kernel_rfl))).2.2
                clear hd
                refine .inl ⟨rfl, ?_⟩
                intro K hK
                dsimp only
                (try simp only [e10, e19])
                go_wp2_with fail
                exact act_cast (hK (.bool true) W (Below.refl _ _) rfl) (by simp [e10, e19])
            case fin =>
              rintro v lo hi W2 hb2 hS2 hf _
              show wpList _ _ _ [_] _ _
              have f20 : v 20 = .bool true := (hf 20 rfl).2.2.2
              clear hf hS2
              dsimp only
              rw [f20]
              clear f20
              generalize v 0 = y0
              generalize v 1 = y1
              generalize v 2 = y2
              generalize v 3 = y3
              generalize v 4 = y4
              generalize v 5 = y5
              generalize v 6 = y6
              generalize v 7 = y7
              generalize v 8 = y8
              generalize v 9 = y9
              generalize v 10 = y10
              generalize v 11 = y11
              generalize v 12 = y12
              generalize v 13 = y13
              generalize v 14 = y14
              generalize v 15 = y15
              generalize v 16 = y16
              generalize v 17 = y17
              generalize v 18 = y18
              generalize v 19 = y19
              go_wp2_with fail
              go_ret
              exact ⟨rfl, by (repeat' (with_reducible first | assumption | exact Ext.refl _ | refine Ext.alloc ?_ _ | refine Ext.drew ?_ | refine Ext.drewN ?_ _ | (refine Ext.setCell ?_ (by first | (simp; done) | (simp; omega) | omega) _) | refine Ext.trans ?_ (by assumption)))⟩
          · obtain rfl : bt = false := by
              cases bt
              · rfl
              · exact absurd ⟨rfl, rfl⟩ hst
            clear hst
            have HYS : Hid (∀ n, x.mem n → y.mem n) := Lib.hid (HBS.out.1 rfl)
            have HNT : Hid (¬ ∀ n, y.mem n → x.mem n) := Lib.hid fun h => by have := HBT.out.2 h; cases this
            go_wp2_with fail
            refine wp_region_factsS (w0 := wr) [0, 1, 2, 3, 4, 5, 6, 7, 8, 9, 10, 11, 12, 13, 14, 15, 16, 17, 18, 19, 20] [21] (fun v => ⟨#[Value.agg #[Value.slice a1a hla.length c1a, Value.int IntKind.u8 fa, Value.int IntKind.u8 ta, Value.slice a2a cla.length c2a], Value.agg #[Value.slice a1b hlb.length c1b, Value.int IntKind.u8 fb, Value.int IntKind.u8 tb, Value.slice a2b clb.length c2b], Value.pointer (some { block := w.heap.size, off := 0 }), Value.pointer (some { block := w.heap.size + 1, off := 0 }), u4, Value.bool true, Value.pointer (some { block := b2, off := 0 }), Value.pointer (some { block := b3, off := 0 }), Value.int IntKind.i64 n, Value.bool true, Value.pointer (some { block := b5, off := 0 }), Value.int IntKind.i64 0, Value.int IntKind.i64 n, Value.bool true, Value.agg #[Value.slice a1a hla.length c1a, Value.int IntKind.u8 fa, Value.int IntKind.u8 ta, Value.slice a2a cla.length c2a], perV (Value.slice x1_2 x.head.length y1_2) (Value.slice x2_2 x.cycle.length y2_2) x.frm x.period, Value.agg #[Value.slice a1b hlb.length c1b, Value.int IntKind.u8 fb, Value.int IntKind.u8 tb, Value.slice a2b clb.length c2b], perV (Value.slice x1_3 y.head.length y1_3) (Value.slice x2_3 y.cycle.length y2_3) y.frm y.period, Value.tuple #[Value.int IntKind.i64 n, Value.bool true], Value.agg #[hA_4, Value.int IntKind.i64 x.frm, Value.int IntKind.i64 x.period, cA_4], Value.agg #[hB_4, Value.int IntKind.i64 y.frm, Value.int IntKind.i64 y.period, cB_4], Value.tuple #[Value.int IntKind.i64 n, Value.bool true], Value.int IntKind.i64 n, Value.bool true, Value.tuple #[perV (Value.slice x1_5 d.head.length y1_5) (Value.slice x2_5 d.cycle.length y2_5) d.frm d.period, Value.int IntKind.i64 0], Value.agg #[hA_5, Value.int IntKind.i64 x.frm, Value.int IntKind.i64 x.period, cA_5], Value.agg #[hB_5, Value.int IntKind.i64 y.frm, Value.int IntKind.i64 y.period, cB_5], Value.tuple #[perV (Value.slice x1_5 d.head.length y1_5) (Value.slice x2_5 d.cycle.length y2_5) d.frm d.period, Value.int IntKind.i64 0], perV (Value.slice x1_5 d.head.length y1_5) (Value.slice x2_5 d.cycle.length y2_5) d.frm d.period, Value.int IntKind.i64 0, x0, x1, x2, x3, x4, x5, x6, x7, x8, x9, x10, x11, x12, x13, x14, x15, Value.bool false, Value.bool true, Value.bool false, undef, undef, undef, undef, undef, undef, undef, undef, undef, undef, undef, undef, undef, undef, undef, Value.int IntKind.i64 n, Value.int IntKind.i64 n, Value.bool false, Value.bool false, undef, undef, Value.bool false, u71, u72, u73, u74, u75, u76, u77, u78, u79, v 0, v 1, v 2, v 3, v 4, v 5, v 6, v 7, v 8, v 9, v 10, v 11, v 12, v 13, v 14, v 15, v 16, v 17, v 18, v 19, v 20], []⟩) (fun _ => undef)
              (fun i v lo hi W => match i with
                | 0 => v 0 = .bool true
                | 1 => v 1 = .bool true
                | 2 => SetV W (v 2) x
                | 3 => v 3 = .int .i64 n
                | 4 => v 4 = .bool bx
                | 5 => SetV W (v 5) y
                | 6 => v 6 = .int .i64 n
                | 7 => v 7 = .bool by_
                | 8 => v 8 = .bool true
                | 9 => v 9 = .bool true
                | 10 => v 10 = .bool true
                | 11 => SetV W (v 11) x
                | 12 => SetV W (v 12) y
                | 13 => v 13 = .bool true
                | 14 => v 14 = .bool true
                | 15 => SetV W (v 15) y
                | 16 => SetV W (v 16) x
                | 17 => v 17 = .bool false
                | 18 => v 18 = .bool false
                | 19 => v 19 = .bool true
                | 20 => v 20 = .bool true
                | _ => True)
              (fun W => Sets W [(b5, d), (b3, y), (b2, x)]) rfl (by kernel_rfl) (by decide) rfl ?stab ?loc (fun W hb => hS.below hb) ?steps ?fin
            case stab =>
              rintro (_ | _ | _ | _ | _ | _ | _ | _ | _ | _ | _ | _ | _ | _ | _ | _ | _ | _ | _ | _ | _ | i) v lo hi W W' h hb
              · exact h
              · exact h
              · exact h.below hb
              · exact h
              · exact h
              · exact h.below hb
              · exact h
              · exact h
              · exact h
              · exact h
              · exact h
              · exact h.below hb
              · exact h.below hb
              · exact h
              · exact h
              · exact h.below hb
              · exact h.below hb
              · exact h
              · exact h
              · exact h
              · exact h
              · trivial
            case loc =>
              rintro (_ | _ | _ | _ | _ | _ | _ | _ | _ | _ | _ | _ | _ | _ | _ | _ | _ | _ | _ | _ | _ | i) v v' lo lo' hi hi' W hag h
              · exact (hag 0 (.inl rfl)).1 ▸ h
              · exact (hag 1 (.inl rfl)).1 ▸ h
              · have q := hag 2 (.inl rfl)
                have q1 := hag 1 (.inr (Region.dep (by kernel_rfl)))
                (try dsimp only at h ⊢); (try simp only [q.1, q.2.1, q.2.2, q1.1, q1.2.1, q1.2.2] at h); exact h
              · exact (hag 3 (.inl rfl)).1 ▸ h
              · exact (hag 4 (.inl rfl)).1 ▸ h
              · have q := hag 5 (.inl rfl)
                have q1 := hag 1 (.inr (Region.dep (by kernel_rfl)))
                (try dsimp only at h ⊢); (try simp only [q.1, q.2.1, q.2.2, q1.1, q1.2.1, q1.2.2] at h); exact h
              · exact (hag 6 (.inl rfl)).1 ▸ h
              · exact (hag 7 (.inl rfl)).1 ▸ h
              · exact (hag 8 (.inl rfl)).1 ▸ h
              · exact (hag 9 (.inl rfl)).1 ▸ h
              · exact (hag 10 (.inl rfl)).1 ▸ h
              · have q := hag 11 (.inl rfl)
                have q10 := hag 10 (.inr (Region.dep (by kernel_rfl)))
                (try dsimp only at h ⊢); (try simp only [q.1, q.2.1, q.2.2, q10.1, q10.2.1, q10.2.2] at h); exact h
              · have q := hag 12 (.inl rfl)
                have q10 := hag 10 (.inr (Region.dep (by kernel_rfl)))
                (try dsimp only at h ⊢); (try simp only [q.1, q.2.1, q.2.2, q10.1, q10.2.1, q10.2.2] at h); exact h
              · exact (hag 13 (.inl rfl)).1 ▸ h
              · exact (hag 14 (.inl rfl)).1 ▸ h
              · have q := hag 15 (.inl rfl)
                have q14 := hag 14 (.inr (Region.dep (by kernel_rfl)))
                (try dsimp only at h ⊢); (try simp only [q.1, q.2.1, q.2.2, q14.1, q14.2.1, q14.2.2] at h); exact h
              · have q := hag 16 (.inl rfl)
                have q14 := hag 14 (.inr (Region.dep (by kernel_rfl)))
                (try dsimp only at h ⊢); (try simp only [q.1, q.2.1, q.2.2, q14.1, q14.2.1, q14.2.2] at h); exact h
              · exact (hag 17 (.inl rfl)).1 ▸ h
              · exact (hag 18 (.inl rfl)).1 ▸ h
              · exact (hag 19 (.inl rfl)).1 ▸ h
              · exact (hag 20 (.inl rfl)).1 ▸ h
              · trivial
            case steps =>
              refine StepsS.cons rfl ?_ (StepsS.cons rfl ?_ (StepsS.cons rfl ?_ (StepsS.cons rfl ?_ (StepsS.cons rfl ?_ (StepsS.cons rfl ?_ (StepsS.cons rfl ?_ (StepsS.cons rfl ?_ (StepsS.cons rfl ?_ (StepsS.cons rfl ?_ (StepsS.cons rfl ?_ (StepsS.cons rfl ?_ (StepsS.cons rfl ?_ (StepsS.cons rfl ?_ (StepsS.cons rfl ?_ (StepsS.cons rfl ?_ (StepsS.cons rfl ?_ (StepsS.cons rfl ?_ (StepsS.cons rfl ?_ (StepsS.cons rfl ?_ (StepsS.cons rfl ?_ StepsS.nil))))))))))))))))))))
              · rintro v lo hi W hb hS hd
                clear hd
                refine .inl ⟨rfl, ?_⟩
                intro K hK
                dsimp only
                go_wp2_with fail
                exact act_cast (hK (.bool true) W (Below.refl _ _) rfl) (by simp)
              · rintro v lo hi W hb hS hd
                have e0 : v 0 = .bool true := (hd 0 (Region.dep (by kernel_rfl))).2.2
                clear hd
                refine .inl ⟨rfl, ?_⟩
                intro K hK
                dsimp only
                (try simp only [e0])
                go_wp2_with fail
                exact act_cast (hK (.bool true) W (Below.refl _ _) rfl) (by simp [e0])
              · rintro v lo hi W hb hS hd
                have e1 : v 1 = .bool true := (hd 1 (Region.dep (by kernel_rfl))).2.2
                clear hd
                refine .inl ⟨(by show ((match some (v 1) with | some (Value.bool b) => some b | _ => none) == some true) = true; rw [e1]; rfl), ?_⟩
                intro K hK
                dsimp only
                (try simp only [e1])
                obtain ⟨h, c, g⟩ := hS.at 2 rfl
                have q0 := (g.box.cells 0).1
                have q1 := (g.box.cells 1).1
                have q2 := (g.box.cells 2).1
                have q3 := (g.box.cells 3).1
                go_wp2_with fail
                exact act_cast (hK (perV h c (x : Per).frm (x : Per).period) W (Below.refl _ _) ⟨h, c, rfl, g.is⟩) (by simp [e1])
              · rintro v lo hi W hb hS hd
                have e1 : v 1 = .bool true := (hd 1 (Region.dep (by kernel_rfl))).2.2
                clear hd
                refine .inl ⟨(by show ((match some (v 1) with | some (Value.bool b) => some b | _ => none) == some true) = true; rw [e1]; rfl), ?_⟩
                intro K hK
                dsimp only
                (try simp only [e1])
                go_wp2_with fail
                exact act_cast (hK (.int .i64 n) W (Below.refl _ _) rfl) (by simp [e1])
              · rintro v lo hi W hb hS hd
                have e1 : v 1 = .bool true := (hd 1 (Region.dep (by kernel_rfl))).2.2
                obtain ⟨la2, lb2, D2⟩ := hd 2 (Region.dep (by kernel_rfl))
                have e3 : v 3 = .int .i64 n := (hd 3 (Region.dep (by kernel_rfl))).2.2
                clear hd
                refine .inl ⟨(by show ((match some (v 1) with | some (Value.bool b) => some b | _ => none) == some true) = true; rw [e1]; rfl), ?_⟩
                intro K hK
                dsimp only
                (try simp only [e1, e3])
                obtain ⟨h0, c0, e0, s0⟩ := D2
                simp only [e0]
                go_wp2_with (go_at_call 24; refine (has_far h0 c0 x n _ s0 HnI.out).mono ?_; rintro e w9 ⟨he, hb9⟩; rw [HX.out] at he; subst he)
                exact act_cast (hK (.bool bx) w9 hb9 rfl) (by simp [e1, e3, e0])
              · rintro v lo hi W hb hS hd
                have e1 : v 1 = .bool true := (hd 1 (Region.dep (by kernel_rfl))).2.2
                clear hd
                refine .inl ⟨(by show ((match some (v 1) with | some (Value.bool b) => some b | _ => none) == some true) = true; rw [e1]; rfl), ?_⟩
                intro K hK
                dsimp only
                (try simp only [e1])
                obtain ⟨h, c, g⟩ := hS.at 1 rfl
                have q0 := (g.box.cells 0).1
                have q1 := (g.box.cells 1).1
                have q2 := (g.box.cells 2).1
                have q3 := (g.box.cells 3).1
                go_wp2_with fail
                exact act_cast (hK (perV h c (y : Per).frm (y : Per).period) W (Below.refl _ _) ⟨h, c, rfl, g.is⟩) (by simp [e1])
              · rintro v lo hi W hb hS hd
                have e1 : v 1 = .bool true := (hd 1 (Region.dep (by kernel_rfl))).2.2
                clear hd
                refine .inl ⟨(by show ((match some (v 1) with | some (Value.bool b) => some b | _ => none) == some true) = true; rw [e1]; rfl), ?_⟩
                intro K hK
                dsimp only
                (try simp only [e1])
                go_wp2_with fail
                exact act_cast (hK (.int .i64 n) W (Below.refl _ _) rfl) (by simp [e1])
              · rintro v lo hi W hb hS hd
                have e1 : v 1 = .bool true := (hd 1 (Region.dep (by kernel_rfl))).2.2
                obtain ⟨la5, lb5, D5⟩ := hd 5 (Region.dep (by kernel_rfl))
                have e6 : v 6 = .int .i64 n := (hd 6 (Region.dep (by kernel_rfl))).2.2
                clear hd
                refine .inl ⟨(by show ((match some (v 1) with | some (Value.bool b) => some b | _ => none) == some true) = true; rw [e1]; rfl), ?_⟩
                intro K hK
                dsimp only
                (try simp only [e1, e6])
                obtain ⟨h0, c0, e0, s0⟩ := D5
                simp only [e0]
                go_wp2_with (go_at_call 24; refine (has_far h0 c0 y n _ s0 HnI.out).mono ?_; rintro e w9 ⟨he, hb9⟩; rw [HY.out] at he; subst he)
                exact act_cast (hK (.bool by_) w9 hb9 rfl) (by simp [e1, e6, e0])
              · rintro v lo hi W hb hS hd
                have e1 : v 1 = .bool true := (hd 1 (Region.dep (by kernel_rfl))).2.2
                have e4 : v 4 = .bool bx := (hd 4 (Region.dep (by kernel_rfl))).2.2
                have e7 : v 7 = .bool by_ := (hd 7 (Region.dep (by kernel_rfl))).2.2
                clear hd
                refine .inl ⟨(by show ((match some (v 1) with | some (Value.bool b) => some b | _ => none) == some true) = true; rw [e1]; rfl), ?_⟩
                intro K hK
                dsimp only
                (try simp only [e1, e4, e7])
                go_wp2_with fail
                exact act_cast (hK (.bool true) W (Below.refl _ _) rfl) (by simp [e1, e4, e7]; exact HXY.out)
              · rintro v lo hi W hb hS hd
                have e1 : v 1 = .bool true := (hd 1 (Region.dep (by kernel_rfl))).2.2
                have e8 : v 8 = .bool true := (hd 8 (Region.dep (by kernel_rfl))).2.2
                clear hd
                refine .inl ⟨rfl, ?_⟩
                intro K hK
                dsimp only
                (try simp only [e1, e8])
                go_wp2_with fail
                exact act_cast (hK (.bool true) W (Below.refl _ _) rfl) (by simp [e1, e8])
              · rintro v lo hi W hb hS hd
                have e9 : v 9 = .bool true := (hd 9 (Region.dep (by kernel_rfl))).2.2
                clear hd
                refine .inl ⟨rfl, ?_⟩
                intro K hK
                dsimp only
                (try simp only [e9])
                go_wp2_with fail
                exact act_cast (hK (.bool true) W (Below.refl _ _) rfl) (by simp [e9])
              · rintro v lo hi W hb hS hd
                have e10 : v 10 = .bool true := (hd 10 (Region.dep (by kernel_rfl))).2.2
                clear hd
                refine .inl ⟨(by show ((match some (v 10) with | some (Value.bool b) => some b | _ => none) == some true) = true; rw [e10]; rfl), ?_⟩
                intro K hK
                dsimp only
                (try simp only [e10])
                obtain ⟨h, c, g⟩ := hS.at 2 rfl
                have q0 := (g.box.cells 0).1
                have q1 := (g.box.cells 1).1
                have q2 := (g.box.cells 2).1
                have q3 := (g.box.cells 3).1
                go_wp2_with fail
                exact act_cast (hK (perV h c (x : Per).frm (x : Per).period) W (Below.refl _ _) ⟨h, c, rfl, g.is⟩) (by simp [e10])
              · rintro v lo hi W hb hS hd
                have e10 : v 10 = .bool true := (hd 10 (Region.dep (by kernel_rfl))).2.2
                clear hd
                refine .inl ⟨(by show ((match some (v 10) with | some (Value.bool b) => some b | _ => none) == some true) = true; rw [e10]; rfl), ?_⟩
                intro K hK
                dsimp only
                (try simp only [e10])
                obtain ⟨h, c, g⟩ := hS.at 1 rfl
                have q0 := (g.box.cells 0).1
                have q1 := (g.box.cells 1).1
                have q2 := (g.box.cells 2).1
                have q3 := (g.box.cells 3).1
                go_wp2_with fail
                exact act_cast (hK (perV h c (y : Per).frm (y : Per).period) W (Below.refl _ _) ⟨h, c, rfl, g.is⟩) (by simp [e10])
              · rintro v lo hi W hb hS hd
                have e10 : v 10 = .bool true := (hd 10 (Region.dep (by kernel_rfl))).2.2
                obtain ⟨la11, lb11, D11⟩ := hd 11 (Region.dep (by kernel_rfl))
                obtain ⟨la12, lb12, D12⟩ := hd 12 (Region.dep (by kernel_rfl))
                clear hd
                refine .inl ⟨(by show ((match some (v 10) with | some (Value.bool b) => some b | _ => none) == some true) = true; rw [e10]; rfl), ?_⟩
                intro K hK
                dsimp only
                (try simp only [e10])
                obtain ⟨h0, c0, e0, s0⟩ := D11
                obtain ⟨h1, c1, e1, s1⟩ := D12
                simp only [e0, e1]
                go_wp2_with (go_at_call 36; refine (subset_sm h0 c0 h1 c1 x y cx cy true _ s0 s1 Sx.out Sy.out Qcx.out Qcy.out ⟨fun _ => HYS.out, fun _ => rfl⟩).mono ?_; rintro e w9 ⟨he, hb9⟩; subst he)
                exact act_cast (hK (.bool true) w9 hb9 rfl) (by simp [e10, e0, e1])
              · rintro v lo hi W hb hS hd
                have e10 : v 10 = .bool true := (hd 10 (Region.dep (by kernel_rfl))).2.2
                have e13 : v 13 = .bool true := (hd 13 (Region.dep (by kernel_rfl))).2.2
                clear hd
                refine .inl ⟨(by show ((match some (v 10) with | some (Value.bool b) => some b | _ => none) == some true) = true; rw [e10]; rfl), ?_⟩
                intro K hK
                dsimp only
                (try simp only [e10, e13])
                go_wp2_with fail
                exact act_cast (hK (.bool true) W (Below.refl _ _) rfl) (by simp [e10, e13])
              · rintro v lo hi W hb hS hd
                have e14 : v 14 = .bool true := (hd 14 (Region.dep (by kernel_rfl))).2.2
                clear hd
                refine .inl ⟨(by show ((match some (v 14) with | some (Value.bool b) => some b | _ => none) == some true) = true; rw [e14]; rfl), ?_⟩
                intro K hK
                dsimp only
                (try simp only [e14])
                obtain ⟨h, c, g⟩ := hS.at 1 rfl
                have q0 := (g.box.cells 0).1
                have q1 := (g.box.cells 1).1
                have q2 := (g.box.cells 2).1
                have q3 := (g.box.cells 3).1
                go_wp2_with fail
                exact act_cast (hK (perV h c (y : Per).frm (y : Per).period) W (Below.refl _ _) ⟨h, c, rfl, g.is⟩) (by simp [e14])
              · rintro v lo hi W hb hS hd
                have e14 : v 14 = .bool true := (hd 14 (Region.dep (by kernel_rfl))).2.2
                clear hd
                refine .inl ⟨(by show ((match some (v 14) with | some (Value.bool b) => some b | _ => none) == some true) = true; rw [e14]; rfl), ?_⟩
                intro K hK
                dsimp only
                (try simp only [e14])
                obtain ⟨h, c, g⟩ := hS.at 2 rfl
                have q0 := (g.box.cells 0).1
                have q1 := (g.box.cells 1).1
                have q2 := (g.box.cells 2).1
                have q3 := (g.box.cells 3).1
                go_wp2_with fail
                exact act_cast (hK (perV h c (x : Per).frm (x : Per).period) W (Below.refl _ _) ⟨h, c, rfl, g.is⟩) (by simp [e14])
              · rintro v lo hi W hb hS hd
                have e14 : v 14 = .bool true := (hd 14 (Region.dep (by kernel_rfl))).2.2
                obtain ⟨la15, lb15, D15⟩ := hd 15 (Region.dep (by kernel_rfl))
                obtain ⟨la16, lb16, D16⟩ := hd 16 (Region.dep (by kernel_rfl))
                clear hd
                refine .inl ⟨(by show ((match some (v 14) with | some (Value.bool b) => some b | _ => none) == some true) = true; rw [e14]; rfl), ?_⟩
                intro K hK
                dsimp only
                (try simp only [e14])
                obtain ⟨h0, c0, e0, s0⟩ := D15
                obtain ⟨h1, c1, e1, s1⟩ := D16
                simp only [e0, e1]
                go_wp2_with (go_at_call 36; refine (subset_sm h0 c0 h1 c1 y x cy cx false _ s0 s1 Sy.out Sx.out Qcy.out Qcx.out ⟨fun h => Bool.noConfusion h, fun h => absurd h HNT.out⟩).mono ?_; rintro e w9 ⟨he, hb9⟩; subst he)
                exact act_cast (hK (.bool false) w9 hb9 rfl) (by simp [e14, e0, e1])
              · rintro v lo hi W hb hS hd
                have e10 : v 10 = .bool true := (hd 10 (Region.dep (by kernel_rfl))).2.2
                have e14 : v 14 = .bool true := (hd 14 (Region.dep (by kernel_rfl))).2.2
                have e17 : v 17 = .bool false := (hd 17 (Region.dep (by kernel_rfl))).2.2
                clear hd
                refine .inl ⟨(by show ((match some (v 10) with | some (Value.bool b) => some b | _ => none) == some true) = true; rw [e10]; rfl), ?_⟩
                intro K hK
                dsimp only
                (try simp only [e10, e14, e17])
                go_wp2_with fail
                exact act_cast (hK (.bool false) W (Below.refl _ _) rfl) (by simp [e10, e14, e17])
              · rintro v lo hi W hb hS hd
                have e10 : v 10 = .bool true := (hd 10 (Region.dep (by kernel_rfl))).2.2
                have e18 : v 18 = .bool false := (hd 18 (Region.dep (by kernel_rfl))).2.2
                clear hd
                refine .inl ⟨(by show ((match some (v 10) with | some (Value.bool b) => some b | _ => none) == some true) = true; rw [e10]; rfl), ?_⟩
                intro K hK
                dsimp only
                (try simp only [e10, e18])
                go_wp2_with fail
                exact act_cast (hK (.bool true) W (Below.refl _ _) rfl) (by simp [e10, e18])
              · rintro v lo hi W hb hS hd
                have e10 : v 10 = .bool true := (hd 10 (Region.dep (by kernel_rfl))).2.2
                have e19 : v 19 = .bool true := (hd 19 (Region.dep (by kernel_rfl))).2.2
                clear hd
                refine .inl ⟨rfl, ?_⟩
                intro K hK
                dsimp only
                (try simp only [e10, e19])
                go_wp2_with fail
                exact act_cast (hK (.bool true) W (Below.refl _ _) rfl) (by simp [e10, e19])
            case fin =>
              rintro v lo hi W2 hb2 hS2 hf _
              show wpList _ _ _ [_] _ _
              have f20 : v 20 = .bool true := (hf 20 rfl).2.2.2
              clear hf hS2
              dsimp only
              rw [f20]
              clear f20
              generalize v 0 = y0
              generalize v 1 = y1
              generalize v 2 = y2
              generalize v 3 = y3
              generalize v 4 = y4
              generalize v 5 = y5
              generalize v 6 = y6
              generalize v 7 = y7
              generalize v 8 = y8
              generalize v 9 = y9
              generalize v 10 = y10
              generalize v 11 = y11
              generalize v 12 = y12
              generalize v 13 = y13
              generalize v 14 = y14
              generalize v 15 = y15
              generalize v 16 = y16
              generalize v 17 = y17
              generalize v 18 = y18
              generalize v 19 = y19
              go_wp2_with fail
              go_ret
              exact ⟨rfl, by (repeat' (with_reducible first | assumption | exact Ext.refl _ | refine Ext.alloc ?_ _ | refine Ext.drew ?_ | refine Ext.drewN ?_ _ | (refine Ext.setCell ?_ (by first | (simp; done) | (simp; omega) | omega) _) | refine Ext.trans ?_ (by assumption)))⟩
end Go.Proofs.Ytjilkhhokkncoaa
