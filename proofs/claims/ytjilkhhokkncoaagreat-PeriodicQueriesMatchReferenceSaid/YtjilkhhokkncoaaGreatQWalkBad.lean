/- Walks: what the functions of package periodic return for invalid sets. -/
import Derived.Test.YtjilkhhokkncoaaGreatQK15
set_option linter.unusedVariables false
set_option linter.unusedSimpArgs false
namespace Go.Proofs.YtjilkhhokkncoaaGreat
open Go.RowKit Go.Maps Kal

set_option maxRecDepth 100000 in
set_option maxHeartbeats 1000000 in
theorem Shift_bad (h c : Value) (p : Per) (b : Int) (w : World) (hp : PerIs w h c p) (hv : validB p = false) :
    Calls Tryz.prog 8 #[perV h c p.frm p.period, .int .i64 b] w (PerErr 1 w) := by
  have hl : ∀ W, Below w.heap.size w W → PerIs W h c p := fun W hb => hp.ext hb
  clear hp
  have HV := Lib.hid hv
  clear hv
  go_enter Tryz.func8, Tryz.ntmps8
  go_wp2_with (go_at_call 15; refine (valid_any h c p _ (hl _ (by (repeat' (with_reducible first | assumption | exact Ext.refl _ | refine Ext.alloc ?_ _ | refine Ext.drew ?_ | refine Ext.drewN ?_ _ | (refine Ext.setCell ?_ (by first | (simp; done) | (simp; omega) | omega) _) | refine Ext.trans ?_ (by assumption)))))).mono ?_; rintro e w1 ⟨he, hb1⟩; rw [HV.out] at he; subst he; obtain ⟨hc1, hf1⟩ := bcell hb1; (try simp only [World.size_alloc, World.size_drew, size_drewN, World.size_setCell] at hc1 hf1); have hz1 := hb1.size; (try simp only [World.size_alloc, World.size_drew, size_drewN, World.size_setCell] at hz1); have hz1' : w.heap.size + 1 < w1.heap.size := by omega)
  refine bodyPost_ret (v := .tuple #[perV (.slice none 0 0) (.slice none 0 0) 0 0, .int .i64 1]) ?_ rfl ⟨rfl, by (repeat' (with_reducible first | assumption | exact Ext.refl _ | refine Ext.alloc ?_ _ | refine Ext.drew ?_ | refine Ext.drewN ?_ _ | (refine Ext.setCell ?_ (by first | (simp; done) | (simp; omega) | omega) _) | refine Ext.trans ?_ (by assumption)))⟩
  simp [results, Tryz.results8, go_sem, *]

set_option maxRecDepth 100000 in
set_option maxHeartbeats 1000000 in
theorem next_bad (h c : Value) (p : Per) (day : Int) (w : World) (hp : PerIs w h c p) (hv : validB p = false) :
    Calls Tryz.prog 12 #[perV h c p.frm p.period, .int .i64 day] w fun e w' => e = .returned (.tuple #[.int .i64 0, .bool false]) ∧ Below w.heap.size w w' := by
  have hl : ∀ W, Below w.heap.size w W → PerIs W h c p := fun W hb => hp.ext hb
  clear hp
  have HV := Lib.hid hv
  clear hv
  go_enter Tryz.func12, Tryz.ntmps12
  go_wp2_with (go_at_call 15; refine (valid_any h c p _ (hl _ (by (repeat' (with_reducible first | assumption | exact Ext.refl _ | refine Ext.alloc ?_ _ | refine Ext.drew ?_ | refine Ext.drewN ?_ _ | (refine Ext.setCell ?_ (by first | (simp; done) | (simp; omega) | omega) _) | refine Ext.trans ?_ (by assumption)))))).mono ?_; rintro e w1 ⟨he, hb1⟩; rw [HV.out] at he; subst he; obtain ⟨hc1, hf1⟩ := bcell hb1; (try simp only [World.size_alloc, World.size_drew, size_drewN, World.size_setCell] at hc1 hf1); have hz1 := hb1.size; (try simp only [World.size_alloc, World.size_drew, size_drewN, World.size_setCell] at hz1); have hz1' : w.heap.size + 2 < w1.heap.size := by omega)
  refine bodyPost_ret (v := .tuple #[.int .i64 0, .bool false]) ?_ rfl ⟨rfl, by (repeat' (with_reducible first | assumption | exact Ext.refl _ | refine Ext.alloc ?_ _ | refine Ext.drew ?_ | refine Ext.drewN ?_ _ | (refine Ext.setCell ?_ (by first | (simp; done) | (simp; omega) | omega) _) | refine Ext.trans ?_ (by assumption)))⟩
  simp [results, Tryz.results12, go_sem, *]

end Go.Proofs.YtjilkhhokkncoaaGreat
