/- Walks: what the functions of package periodic return for invalid sets. -/
import Derived.Test.YtjilkhhokkncoaaK15
set_option linter.unusedVariables false
set_option linter.unusedSimpArgs false
namespace Go.Proofs.Ytjilkhhokkncoaa
open Go.RowKit Go.Maps Kal

set_option maxRecDepth 100000 in
set_option maxHeartbeats 1000000 in
theorem Shift_bad (h c : Value) (p : Per) (b : Int) (w : World) (hp : PerIs w h c p) (hv : validB p = false) :
    Calls Try.prog 34 #[perV h c p.frm p.period, .int .i64 b] w (PerErr 1 w) := by
  have hl : ∀ W, Below w.heap.size w W → PerIs W h c p := fun W hb => hp.ext hb
  clear hp
  have HV := Lib.hid hv
  clear hv
  go_enter Try.func34, Try.ntmps34
  go_wp2_with (go_at_call 38; refine (valid_any h c p _ (hl _ (by (repeat' (with_reducible first | assumption | exact Ext.refl _ | refine Ext.alloc ?_ _ | refine Ext.drew ?_ | refine Ext.drewN ?_ _ | (refine Ext.setCell ?_ (by first | (simp; done) | (simp; omega) | omega) _) | refine Ext.trans ?_ (by assumption)))))).mono ?_; rintro e w1 ⟨he, hb1⟩; rw [HV.out] at he; subst he; obtain ⟨hc1, hf1⟩ := bcell hb1; (try simp only [World.size_alloc, World.size_drew, size_drewN, World.size_setCell] at hc1 hf1); have hz1 := hb1.size; (try simp only [World.size_alloc, World.size_drew, size_drewN, World.size_setCell] at hz1); have hz1' : w.heap.size + 1 < w1.heap.size := by omega)
  refine bodyPost_ret (v := .tuple #[perV (.slice none 0 0) (.slice none 0 0) 0 0, .int .i64 1]) ?_ rfl ⟨rfl, by (repeat' (with_reducible first | assumption | exact Ext.refl _ | refine Ext.alloc ?_ _ | refine Ext.drew ?_ | refine Ext.drewN ?_ _ | (refine Ext.setCell ?_ (by first | (simp; done) | (simp; omega) | omega) _) | refine Ext.trans ?_ (by assumption)))⟩
  simp [results, Try.results34, go_sem, *]

set_option maxRecDepth 100000 in
set_option maxHeartbeats 1000000 in
theorem Residues_bad (h c : Value) (p : Per) (m : Int) (w : World) (hp : PerIs w h c p) (hv : validB p = false) :
    Calls Try.prog 17 #[perV h c p.frm p.period, .int .i64 m] w fun e w' => e = .returned (.tuple #[.slice none 0 0, .int .i64 1]) ∧ Below w.heap.size w w' := by
  have hl : ∀ W, Below w.heap.size w W → PerIs W h c p := fun W hb => hp.ext hb
  clear hp
  have HV := Lib.hid hv
  clear hv
  go_enter Try.func17, Try.ntmps17
  go_wp2_with (go_at_call 38; refine (valid_any h c p _ (hl _ (by (repeat' (with_reducible first | assumption | exact Ext.refl _ | refine Ext.alloc ?_ _ | refine Ext.drew ?_ | refine Ext.drewN ?_ _ | (refine Ext.setCell ?_ (by first | (simp; done) | (simp; omega) | omega) _) | refine Ext.trans ?_ (by assumption)))))).mono ?_; rintro e w1 ⟨he, hb1⟩; rw [HV.out] at he; subst he; obtain ⟨hc1, hf1⟩ := bcell hb1; (try simp only [World.size_alloc, World.size_drew, size_drewN, World.size_setCell] at hc1 hf1); have hz1 := hb1.size; (try simp only [World.size_alloc, World.size_drew, size_drewN, World.size_setCell] at hz1); have hz1' : w.heap.size < w1.heap.size := by omega)
  go_ret2
  exact ⟨rfl, by (repeat' (with_reducible first | assumption | exact Ext.refl _ | refine Ext.alloc ?_ _ | refine Ext.drew ?_ | refine Ext.drewN ?_ _ | (refine Ext.setCell ?_ (by first | (simp; done) | (simp; omega) | omega) _) | refine Ext.trans ?_ (by assumption)))⟩

set_option maxRecDepth 100000 in
set_option maxHeartbeats 1000000 in
theorem next_bad (h c : Value) (p : Per) (day : Int) (w : World) (hp : PerIs w h c p) (hv : validB p = false) :
    Calls Try.prog 26 #[perV h c p.frm p.period, .int .i64 day] w fun e w' => e = .returned (.tuple #[.int .i64 0, .bool false]) ∧ Below w.heap.size w w' := by
  have hl : ∀ W, Below w.heap.size w W → PerIs W h c p := fun W hb => hp.ext hb
  clear hp
  have HV := Lib.hid hv
  clear hv
  go_enter Try.func26, Try.ntmps26
  go_wp2_with (go_at_call 38; refine (valid_any h c p _ (hl _ (by (repeat' (with_reducible first | assumption | exact Ext.refl _ | refine Ext.alloc ?_ _ | refine Ext.drew ?_ | refine Ext.drewN ?_ _ | (refine Ext.setCell ?_ (by first | (simp; done) | (simp; omega) | omega) _) | refine Ext.trans ?_ (by assumption)))))).mono ?_; rintro e w1 ⟨he, hb1⟩; rw [HV.out] at he; subst he; obtain ⟨hc1, hf1⟩ := bcell hb1; (try simp only [World.size_alloc, World.size_drew, size_drewN, World.size_setCell] at hc1 hf1); have hz1 := hb1.size; (try simp only [World.size_alloc, World.size_drew, size_drewN, World.size_setCell] at hz1); have hz1' : w.heap.size + 2 < w1.heap.size := by omega)
  refine bodyPost_ret (v := .tuple #[.int .i64 0, .bool false]) ?_ rfl ⟨rfl, by (repeat' (with_reducible first | assumption | exact Ext.refl _ | refine Ext.alloc ?_ _ | refine Ext.drew ?_ | refine Ext.drewN ?_ _ | (refine Ext.setCell ?_ (by first | (simp; done) | (simp; omega) | omega) _) | refine Ext.trans ?_ (by assumption)))⟩
  simp [results, Try.results26, go_sem, *]

set_option maxRecDepth 100000 in
set_option maxHeartbeats 1000000 in
theorem first_bad (h1 c1 h2 c2 : Value) (p1 p2 : Per) (day : Int) (w : World) (hp1 : PerIs w h1 c1 p1) (hp2 : PerIs w h2 c2 p2) (hbad : validB p1 = false ∨ validB p2 = false) :
    Calls Try.prog 25 #[perV h1 c1 p1.frm p1.period, perV h2 c2 p2.frm p2.period, .int .i64 day] w fun e w' => e = .returned (.tuple #[.int .i64 0, .bool false]) ∧ Below w.heap.size w w' := by
  have hl1 : ∀ W, Below w.heap.size w W → PerIs W h1 c1 p1 := fun W hb => hp1.ext hb
  have hl2 : ∀ W, Below w.heap.size w W → PerIs W h2 c2 p2 := fun W hb => hp2.ext hb
  clear hp1 hp2
  by_cases hv : validB p1 = false
  · have HV := Lib.hid hv
    clear hv hbad
    go_enter Try.func25, Try.ntmps25
    go_wp2_with (go_at_call 38; refine (valid_any h1 c1 p1 _ (hl1 _ (by (repeat' (with_reducible first | assumption | exact Ext.refl _ | refine Ext.alloc ?_ _ | refine Ext.drew ?_ | refine Ext.drewN ?_ _ | (refine Ext.setCell ?_ (by first | (simp; done) | (simp; omega) | omega) _) | refine Ext.trans ?_ (by assumption)))))).mono ?_; rintro e w1 ⟨he, hb1⟩; rw [HV.out] at he; subst he)
    go_ret2
    exact ⟨rfl, by (repeat' (with_reducible first | assumption | exact Ext.refl _ | refine Ext.alloc ?_ _ | refine Ext.drew ?_ | refine Ext.drewN ?_ _ | (refine Ext.setCell ?_ (by first | (simp; done) | (simp; omega) | omega) _) | refine Ext.trans ?_ (by assumption)))⟩
  · have HV : Hid (validB p1 = true) := Lib.hid (by simpa using hv)
    have HW : Hid (validB p2 = false) := Lib.hid (hbad.resolve_left hv)
    clear hv hbad
    go_enter Try.func25, Try.ntmps25
    go_wp2_with (go_at_call 38; first
      | ((with_reducible refine (valid_any h1 c1 p1 _ (hl1 _ (by (repeat' (with_reducible first | assumption | exact Ext.refl _ | refine Ext.alloc ?_ _ | refine Ext.drew ?_ | refine Ext.drewN ?_ _ | (refine Ext.setCell ?_ (by first | (simp; done) | (simp; omega) | omega) _) | refine Ext.trans ?_ (by assumption)))))).mono ?_); rintro e w1 ⟨he, hb1⟩; rw [HV.out] at he; subst he; obtain ⟨hc1, hf1⟩ := bcell hb1; (try simp only [World.size_alloc, World.size_drew, size_drewN, World.size_setCell] at hc1 hf1); have hz1 := hb1.size; (try simp only [World.size_alloc, World.size_drew, size_drewN, World.size_setCell] at hz1); have hz1' : w.heap.size + 1 < w1.heap.size := by omega)
      | ((with_reducible refine (valid_any h2 c2 p2 _ (hl2 _ (by (repeat' (with_reducible first | assumption | exact Ext.refl _ | refine Ext.alloc ?_ _ | refine Ext.drew ?_ | refine Ext.drewN ?_ _ | (refine Ext.setCell ?_ (by first | (simp; done) | (simp; omega) | omega) _) | refine Ext.trans ?_ (by assumption)))))).mono ?_); rintro e w2 ⟨he, hb2⟩; rw [HW.out] at he; subst he))
    go_ret2
    exact ⟨rfl, by (repeat' (with_reducible first | assumption | exact Ext.refl _ | refine Ext.alloc ?_ _ | refine Ext.drew ?_ | refine Ext.drewN ?_ _ | (refine Ext.setCell ?_ (by first | (simp; done) | (simp; omega) | omega) _) | refine Ext.trans ?_ (by assumption)))⟩

set_option maxRecDepth 100000 in
set_option maxHeartbeats 1000000 in
theorem apart_bad (h1 c1 h2 c2 : Value) (p1 p2 : Per) (w : World) (hp1 : PerIs w h1 c1 p1) (hp2 : PerIs w h2 c2 p2) (hbad : validB p1 = false ∨ validB p2 = false) :
    Calls Try.prog 35 #[perV h1 c1 p1.frm p1.period, perV h2 c2 p2.frm p2.period] w fun e w' => e = .returned (.tuple #[.int .i64 0, .bool false]) ∧ Below w.heap.size w w' := by
  have hl1 : ∀ W, Below w.heap.size w W → PerIs W h1 c1 p1 := fun W hb => hp1.ext hb
  have hl2 : ∀ W, Below w.heap.size w W → PerIs W h2 c2 p2 := fun W hb => hp2.ext hb
  clear hp1 hp2
  by_cases hv : validB p1 = false
  · have HV := Lib.hid hv
    clear hv hbad
    go_enter Try.func35, Try.ntmps35
    go_wp2_with (go_at_call 38; refine (valid_any h1 c1 p1 _ (hl1 _ (by (repeat' (with_reducible first | assumption | exact Ext.refl _ | refine Ext.alloc ?_ _ | refine Ext.drew ?_ | refine Ext.drewN ?_ _ | (refine Ext.setCell ?_ (by first | (simp; done) | (simp; omega) | omega) _) | refine Ext.trans ?_ (by assumption)))))).mono ?_; rintro e w1 ⟨he, hb1⟩; rw [HV.out] at he; subst he)
    go_ret2
    exact ⟨rfl, by (repeat' (with_reducible first | assumption | exact Ext.refl _ | refine Ext.alloc ?_ _ | refine Ext.drew ?_ | refine Ext.drewN ?_ _ | (refine Ext.setCell ?_ (by first | (simp; done) | (simp; omega) | omega) _) | refine Ext.trans ?_ (by assumption)))⟩
  · have HV : Hid (validB p1 = true) := Lib.hid (by simpa using hv)
    have HW : Hid (validB p2 = false) := Lib.hid (hbad.resolve_left hv)
    clear hv hbad
    go_enter Try.func35, Try.ntmps35
    go_wp2_with (go_at_call 38; first
      | ((with_reducible refine (valid_any h1 c1 p1 _ (hl1 _ (by (repeat' (with_reducible first | assumption | exact Ext.refl _ | refine Ext.alloc ?_ _ | refine Ext.drew ?_ | refine Ext.drewN ?_ _ | (refine Ext.setCell ?_ (by first | (simp; done) | (simp; omega) | omega) _) | refine Ext.trans ?_ (by assumption)))))).mono ?_); rintro e w1 ⟨he, hb1⟩; rw [HV.out] at he; subst he; obtain ⟨hc1, hf1⟩ := bcell hb1; (try simp only [World.size_alloc, World.size_drew, size_drewN, World.size_setCell] at hc1 hf1); have hz1 := hb1.size; (try simp only [World.size_alloc, World.size_drew, size_drewN, World.size_setCell] at hz1); have hz1' : w.heap.size + 1 < w1.heap.size := by omega)
      | ((with_reducible refine (valid_any h2 c2 p2 _ (hl2 _ (by (repeat' (with_reducible first | assumption | exact Ext.refl _ | refine Ext.alloc ?_ _ | refine Ext.drew ?_ | refine Ext.drewN ?_ _ | (refine Ext.setCell ?_ (by first | (simp; done) | (simp; omega) | omega) _) | refine Ext.trans ?_ (by assumption)))))).mono ?_); rintro e w2 ⟨he, hb2⟩; rw [HW.out] at he; subst he))
    go_ret2
    exact ⟨rfl, by (repeat' (with_reducible first | assumption | exact Ext.refl _ | refine Ext.alloc ?_ _ | refine Ext.drew ?_ | refine Ext.drewN ?_ _ | (refine Ext.setCell ?_ (by first | (simp; done) | (simp; omega) | omega) _) | refine Ext.trans ?_ (by assumption)))⟩

set_option maxRecDepth 100000 in
set_option maxHeartbeats 1000000 in
theorem subset_bad (h1 c1 h2 c2 : Value) (p1 p2 : Per) (w : World) (hp1 : PerIs w h1 c1 p1) (hp2 : PerIs w h2 c2 p2) (hbad : validB p1 = false ∨ validB p2 = false) :
    Calls Try.prog 36 #[perV h1 c1 p1.frm p1.period, perV h2 c2 p2.frm p2.period] w fun e w' => e = .returned (.bool false) ∧ Below w.heap.size w w' := by
  have hl1 : ∀ W, Below w.heap.size w W → PerIs W h1 c1 p1 := fun W hb => hp1.ext hb
  have hl2 : ∀ W, Below w.heap.size w W → PerIs W h2 c2 p2 := fun W hb => hp2.ext hb
  clear hp1 hp2
  by_cases hv : validB p1 = false
  · have HV := Lib.hid hv
    clear hv hbad
    go_enter Try.func36, Try.ntmps36
    go_wp2_with (go_at_call 38; refine (valid_any h1 c1 p1 _ (hl1 _ (by (repeat' (with_reducible first | assumption | exact Ext.refl _ | refine Ext.alloc ?_ _ | refine Ext.drew ?_ | refine Ext.drewN ?_ _ | (refine Ext.setCell ?_ (by first | (simp; done) | (simp; omega) | omega) _) | refine Ext.trans ?_ (by assumption)))))).mono ?_; rintro e w1 ⟨he, hb1⟩; rw [HV.out] at he; subst he)
    go_ret
    exact ⟨rfl, by (repeat' (with_reducible first | assumption | exact Ext.refl _ | refine Ext.alloc ?_ _ | refine Ext.drew ?_ | refine Ext.drewN ?_ _ | (refine Ext.setCell ?_ (by first | (simp; done) | (simp; omega) | omega) _) | refine Ext.trans ?_ (by assumption)))⟩
  · have HV : Hid (validB p1 = true) := Lib.hid (by simpa using hv)
    have HW : Hid (validB p2 = false) := Lib.hid (hbad.resolve_left hv)
    clear hv hbad
    go_enter Try.func36, Try.ntmps36
    go_wp2_with (go_at_call 38; first
      | ((with_reducible refine (valid_any h1 c1 p1 _ (hl1 _ (by (repeat' (with_reducible first | assumption | exact Ext.refl _ | refine Ext.alloc ?_ _ | refine Ext.drew ?_ | refine Ext.drewN ?_ _ | (refine Ext.setCell ?_ (by first | (simp; done) | (simp; omega) | omega) _) | refine Ext.trans ?_ (by assumption)))))).mono ?_); rintro e w1 ⟨he, hb1⟩; rw [HV.out] at he; subst he; obtain ⟨hc1, hf1⟩ := bcell hb1; (try simp only [World.size_alloc, World.size_drew, size_drewN, World.size_setCell] at hc1 hf1); have hz1 := hb1.size; (try simp only [World.size_alloc, World.size_drew, size_drewN, World.size_setCell] at hz1); have hz1' : w.heap.size + 1 < w1.heap.size := by omega)
      | ((with_reducible refine (valid_any h2 c2 p2 _ (hl2 _ (by (repeat' (with_reducible first | assumption | exact Ext.refl _ | refine Ext.alloc ?_ _ | refine Ext.drew ?_ | refine Ext.drewN ?_ _ | (refine Ext.setCell ?_ (by first | (simp; done) | (simp; omega) | omega) _) | refine Ext.trans ?_ (by assumption)))))).mono ?_); rintro e w2 ⟨he, hb2⟩; rw [HW.out] at he; subst he))
    go_ret
    exact ⟨rfl, by (repeat' (with_reducible first | assumption | exact Ext.refl _ | refine Ext.alloc ?_ _ | refine Ext.drew ?_ | refine Ext.drewN ?_ _ | (refine Ext.setCell ?_ (by first | (simp; done) | (simp; omega) | omega) _) | refine Ext.trans ?_ (by assumption)))⟩

set_option maxRecDepth 100000 in
set_option maxHeartbeats 1000000 in
theorem same_bad (h1 c1 h2 c2 : Value) (p1 p2 : Per) (w : World) (hp1 : PerIs w h1 c1 p1) (hp2 : PerIs w h2 c2 p2) (hbad : validB p1 = false ∨ validB p2 = false) :
    Calls Try.prog 33 #[perV h1 c1 p1.frm p1.period, perV h2 c2 p2.frm p2.period] w fun e w' => e = .returned (.bool false) ∧ Below w.heap.size w w' := by
  have hl1 : ∀ W, Below w.heap.size w W → PerIs W h1 c1 p1 := fun W hb => hp1.ext hb
  have hl2 : ∀ W, Below w.heap.size w W → PerIs W h2 c2 p2 := fun W hb => hp2.ext hb
  clear hp1 hp2
  by_cases hv : validB p1 = false
  · have HV := Lib.hid hv
    clear hv hbad
    go_enter Try.func33, Try.ntmps33
    go_wp2_with (go_at_call 38; refine (valid_any h1 c1 p1 _ (hl1 _ (by (repeat' (with_reducible first | assumption | exact Ext.refl _ | refine Ext.alloc ?_ _ | refine Ext.drew ?_ | refine Ext.drewN ?_ _ | (refine Ext.setCell ?_ (by first | (simp; done) | (simp; omega) | omega) _) | refine Ext.trans ?_ (by assumption)))))).mono ?_; rintro e w1 ⟨he, hb1⟩; rw [HV.out] at he; subst he)
    go_ret
    exact ⟨rfl, by (repeat' (with_reducible first | assumption | exact Ext.refl _ | refine Ext.alloc ?_ _ | refine Ext.drew ?_ | refine Ext.drewN ?_ _ | (refine Ext.setCell ?_ (by first | (simp; done) | (simp; omega) | omega) _) | refine Ext.trans ?_ (by assumption)))⟩
  · have HV : Hid (validB p1 = true) := Lib.hid (by simpa using hv)
    have HW : Hid (validB p2 = false) := Lib.hid (hbad.resolve_left hv)
    clear hv hbad
    go_enter Try.func33, Try.ntmps33
    go_wp2_with (go_at_call 38; first
      | ((with_reducible refine (valid_any h1 c1 p1 _ (hl1 _ (by (repeat' (with_reducible first | assumption | exact Ext.refl _ | refine Ext.alloc ?_ _ | refine Ext.drew ?_ | refine Ext.drewN ?_ _ | (refine Ext.setCell ?_ (by first | (simp; done) | (simp; omega) | omega) _) | refine Ext.trans ?_ (by assumption)))))).mono ?_); rintro e w1 ⟨he, hb1⟩; rw [HV.out] at he; subst he; obtain ⟨hc1, hf1⟩ := bcell hb1; (try simp only [World.size_alloc, World.size_drew, size_drewN, World.size_setCell] at hc1 hf1); have hz1 := hb1.size; (try simp only [World.size_alloc, World.size_drew, size_drewN, World.size_setCell] at hz1); have hz1' : w.heap.size + 1 < w1.heap.size := by omega)
      | ((with_reducible refine (valid_any h2 c2 p2 _ (hl2 _ (by (repeat' (with_reducible first | assumption | exact Ext.refl _ | refine Ext.alloc ?_ _ | refine Ext.drew ?_ | refine Ext.drewN ?_ _ | (refine Ext.setCell ?_ (by first | (simp; done) | (simp; omega) | omega) _) | refine Ext.trans ?_ (by assumption)))))).mono ?_); rintro e w2 ⟨he, hb2⟩; rw [HW.out] at he; subst he))
    go_ret
    exact ⟨rfl, by (repeat' (with_reducible first | assumption | exact Ext.refl _ | refine Ext.alloc ?_ _ | refine Ext.drew ?_ | refine Ext.drewN ?_ _ | (refine Ext.setCell ?_ (by first | (simp; done) | (simp; omega) | omega) _) | refine Ext.trans ?_ (by assumption)))⟩


end Go.Proofs.Ytjilkhhokkncoaa
