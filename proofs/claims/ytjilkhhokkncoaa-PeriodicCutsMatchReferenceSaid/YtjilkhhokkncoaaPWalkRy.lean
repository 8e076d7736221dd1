/- Walks: Residues of both packages, for any modulus. -/
import Derived.Test.YtjilkhhokkncoaaPWalkRr
set_option linter.unusedVariables false
set_option linter.unusedSimpArgs false
namespace Go.Proofs.Ytjilkhhokkncoaa
open Go.RowKit Go.Maps Kal

/-- the error of Residues -/
def resK (m : Int) : Int := if m < 1 then 1 else if 1048576 < m then 2 else 0
/-- the list of Residues -/
def resA (p : Per) (m : Int) : List Int := if m < 1 then [] else if 1048576 < m then [] else resL p m

def ResRes (p : Per) (m : Int) (w : World) (e : Ending) (w' : World) : Prop := ∃ v, e = .returned (.tuple #[v, .int .i64 (resK m)]) ∧ Ints w' v (resA p m) ∧ Below w.heap.size w w'

set_option maxRecDepth 100000 in
set_option maxHeartbeats 1000000 in
theorem Residues_arg (h c : Value) (p : Per) (m : Int) (w : World) (hp : PerIs w h c p) (hv : Valid p) (hm : m < 1 ∨ 1048576 < m) :
    Calls Try.prog 17 #[perV h c p.frm p.period, .int .i64 m] w fun e w' => e = .returned (.tuple #[.slice none 0 0, .int .i64 (resK m)]) ∧ Below w.heap.size w w' := by
  have hl : ∀ W, Below w.heap.size w W → PerIs W h c p := fun W hb => hp.ext hb
  have HVB := Lib.hid ((validB_iff p).2 hv)
  have HI1 : Hid (InI p.frm) := by have := hv.frm; have := hv.wf.frm; exact Lib.hid ⟨by omega, by omega⟩
  have HI2 : Hid (InI p.period) := by have := hv.per; have := hv.wf.per; exact Lib.hid ⟨by omega, by omega⟩
  clear hp hv
  rcases hm with hm | hm
  · have HK : Hid (resK m = 1) := Lib.hid (by unfold resK; rw [if_pos hm])
    go_enter Try.func17, Try.ntmps17
    go_wp2_with (go_at_call 38; refine (valid_any h c p _ (hl _ (by (repeat' (with_reducible first | assumption | exact Ext.refl _ | refine Ext.alloc ?_ _ | refine Ext.drew ?_ | refine Ext.drewN ?_ _ | (refine Ext.setCell ?_ (by first | (simp; done) | (simp; omega) | omega) _) | refine Ext.trans ?_ (by assumption)))))).mono ?_; rintro e w1 ⟨he, hb1⟩; rw [HVB.out] at he; subst he; obtain ⟨hc1, hf1⟩ := bcell hb1; (try simp only [World.size_alloc, World.size_drew, size_drewN, World.size_setCell] at hc1 hf1); have hz1 := hb1.size; (try simp only [World.size_alloc, World.size_drew, size_drewN, World.size_setCell] at hz1); have hz1' : w.heap.size < w1.heap.size := by omega)
    go_ret2
    exact ⟨by rw [HK.out]; rfl, by (repeat' (with_reducible first | assumption | exact Ext.refl _ | refine Ext.alloc ?_ _ | refine Ext.drew ?_ | refine Ext.drewN ?_ _ | (refine Ext.setCell ?_ (by first | (simp; done) | (simp; omega) | omega) _) | refine Ext.trans ?_ (by assumption)))⟩
  · have HK : Hid (resK m = 2) := Lib.hid (by unfold resK; rw [if_neg (by omega), if_pos hm])
    have hm1 : ¬ m < 1 := by omega
    go_enter Try.func17, Try.ntmps17
    go_wp2_with (go_at_call 38; refine (valid_any h c p _ (hl _ (by (repeat' (with_reducible first | assumption | exact Ext.refl _ | refine Ext.alloc ?_ _ | refine Ext.drew ?_ | refine Ext.drewN ?_ _ | (refine Ext.setCell ?_ (by first | (simp; done) | (simp; omega) | omega) _) | refine Ext.trans ?_ (by assumption)))))).mono ?_; rintro e w1 ⟨he, hb1⟩; rw [HVB.out] at he; subst he; obtain ⟨hc1, hf1⟩ := bcell hb1; (try simp only [World.size_alloc, World.size_drew, size_drewN, World.size_setCell] at hc1 hf1); have hz1 := hb1.size; (try simp only [World.size_alloc, World.size_drew, size_drewN, World.size_setCell] at hz1); have hz1' : w.heap.size < w1.heap.size := by omega)
    go_ret2
    exact ⟨by rw [HK.out]; rfl, by (repeat' (with_reducible first | assumption | exact Ext.refl _ | refine Ext.alloc ?_ _ | refine Ext.drew ?_ | refine Ext.drewN ?_ _ | (refine Ext.setCell ?_ (by first | (simp; done) | (simp; omega) | omega) _) | refine Ext.trans ?_ (by assumption)))⟩

theorem Residues_any (h c : Value) (p : Per) (m : Int) (w : World) (hp : PerIs w h c p) (hv : Valid p) :
    Calls Try.prog 17 #[perV h c p.frm p.period, .int .i64 m] w (ResRes p m w) := by
  by_cases h1 : m < 1
  · exact (Residues_arg h c p m w hp hv (.inl h1)).mono fun e w' ⟨he, hb⟩ => ⟨_, he, by unfold resA; rw [if_pos h1]; exact Ints.nil _, hb⟩
  · by_cases h2 : 1048576 < m
    · exact (Residues_arg h c p m w hp hv (.inr h2)).mono fun e w' ⟨he, hb⟩ => ⟨_, he, by unfold resA; rw [if_neg h1, if_pos h2]; exact Ints.nil _, hb⟩
    · refine (Residues_ok h c p m w hp hv (by omega) (by omega)).mono fun e w' ⟨v, he, hi, hb⟩ => ⟨v, ?_, ?_, hb⟩
      · unfold resK; rw [if_neg h1, if_neg h2]; exact he
      · unfold resA; rw [if_neg h1, if_neg h2]; exact hi

set_option maxRecDepth 100000 in
set_option maxHeartbeats 1000000 in
theorem RResidues_arg (h c : Value) (p : Per) (m : Int) (w : World) (hp : PerIs w h c p) (hv : Valid p) (hm : m < 1 ∨ 1048576 < m) :
    Calls Try.prog 18 #[perV h c p.frm p.period, .int .i64 m] w fun e w' => e = .returned (.tuple #[.slice none 0 0, .int .i64 (resK m)]) ∧ Below w.heap.size w w' := by
  have hl : ∀ W, Below w.heap.size w W → PerIs W h c p := fun W hb => hp.ext hb
  have HVB := Lib.hid ((validB_iff p).2 hv)
  have HI1 : Hid (InI p.frm) := by have := hv.frm; have := hv.wf.frm; exact Lib.hid ⟨by omega, by omega⟩
  have HI2 : Hid (InI p.period) := by have := hv.per; have := hv.wf.per; exact Lib.hid ⟨by omega, by omega⟩
  clear hp hv
  rcases hm with hm | hm
  · have HK : Hid (resK m = 1) := Lib.hid (by unfold resK; rw [if_pos hm])
    go_enter Try.func18, Try.ntmps18
    go_wp2_with (go_at_call 44; refine (RValid_any h c p _ (hl _ (by (repeat' (with_reducible first | assumption | exact Ext.refl _ | refine Ext.alloc ?_ _ | refine Ext.drew ?_ | refine Ext.drewN ?_ _ | (refine Ext.setCell ?_ (by first | (simp; done) | (simp; omega) | omega) _) | refine Ext.trans ?_ (by assumption))))) HI1.out HI2.out).mono ?_; rintro e w1 ⟨he, hb1⟩; rw [HVB.out] at he; subst he; obtain ⟨hc1, hf1⟩ := bcell hb1; (try simp only [World.size_alloc, World.size_drew, size_drewN, World.size_setCell] at hc1 hf1); have hz1 := hb1.size; (try simp only [World.size_alloc, World.size_drew, size_drewN, World.size_setCell] at hz1); have hz1' : w.heap.size < w1.heap.size := by omega)
    go_ret2
    exact ⟨by rw [HK.out]; rfl, by (repeat' (with_reducible first | assumption | exact Ext.refl _ | refine Ext.alloc ?_ _ | refine Ext.drew ?_ | refine Ext.drewN ?_ _ | (refine Ext.setCell ?_ (by first | (simp; done) | (simp; omega) | omega) _) | refine Ext.trans ?_ (by assumption)))⟩
  · have HK : Hid (resK m = 2) := Lib.hid (by unfold resK; rw [if_neg (by omega), if_pos hm])
    have hm1 : ¬ m < 1 := by omega
    go_enter Try.func18, Try.ntmps18
    go_wp2_with (go_at_call 44; refine (RValid_any h c p _ (hl _ (by (repeat' (with_reducible first | assumption | exact Ext.refl _ | refine Ext.alloc ?_ _ | refine Ext.drew ?_ | refine Ext.drewN ?_ _ | (refine Ext.setCell ?_ (by first | (simp; done) | (simp; omega) | omega) _) | refine Ext.trans ?_ (by assumption))))) HI1.out HI2.out).mono ?_; rintro e w1 ⟨he, hb1⟩; rw [HVB.out] at he; subst he; obtain ⟨hc1, hf1⟩ := bcell hb1; (try simp only [World.size_alloc, World.size_drew, size_drewN, World.size_setCell] at hc1 hf1); have hz1 := hb1.size; (try simp only [World.size_alloc, World.size_drew, size_drewN, World.size_setCell] at hz1); have hz1' : w.heap.size < w1.heap.size := by omega)
    go_ret2
    exact ⟨by rw [HK.out]; rfl, by (repeat' (with_reducible first | assumption | exact Ext.refl _ | refine Ext.alloc ?_ _ | refine Ext.drew ?_ | refine Ext.drewN ?_ _ | (refine Ext.setCell ?_ (by first | (simp; done) | (simp; omega) | omega) _) | refine Ext.trans ?_ (by assumption)))⟩

theorem RResidues_any (h c : Value) (p : Per) (m : Int) (w : World) (hp : PerIs w h c p) (hv : Valid p) :
    Calls Try.prog 18 #[perV h c p.frm p.period, .int .i64 m] w (ResRes p m w) := by
  by_cases h1 : m < 1
  · exact (RResidues_arg h c p m w hp hv (.inl h1)).mono fun e w' ⟨he, hb⟩ => ⟨_, he, by unfold resA; rw [if_pos h1]; exact Ints.nil _, hb⟩
  · by_cases h2 : 1048576 < m
    · exact (RResidues_arg h c p m w hp hv (.inr h2)).mono fun e w' ⟨he, hb⟩ => ⟨_, he, by unfold resA; rw [if_neg h1, if_pos h2]; exact Ints.nil _, hb⟩
    · refine (RResidues_ok h c p m w hp hv (by omega) (by omega)).mono fun e w' ⟨v, he, hi, hb⟩ => ⟨v, ?_, ?_, hb⟩
      · unfold resK; rw [if_neg h1, if_neg h2]; exact he
      · unfold resA; rw [if_neg h1, if_neg h2]; exact hi

end Go.Proofs.Ytjilkhhokkncoaa
