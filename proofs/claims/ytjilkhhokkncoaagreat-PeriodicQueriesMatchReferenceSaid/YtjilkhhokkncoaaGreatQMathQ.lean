/- Plain mathematics of the reference's operations: two rising lists combined. -/
import Derived.Test.YtjilkhhokkncoaaGreatQMathP
set_option linter.unusedVariables false
set_option linter.unusedSimpArgs false
namespace Go.Proofs.YtjilkhhokkncoaaGreat
open Kal

/-- the first of the members in a window that holds one round -/
theorem sel_head {U : Int → Prop} {lo hi x : Int} {l : List Int} (h0 : 0 ≤ lo) (h : sel U lo hi = x :: l) : lo ≤ x ∧ x < hi ∧ U x ∧ ∀ y, lo ≤ y → y < x → ¬ U y := by
  have hr := sel_rise (S := U) (hi := hi) h0
  have hx := (sel_mem h0 x).1 (show x ∈ sel U lo hi by rw [h]; simp)
  refine ⟨hx.1, hx.2.1, hx.2.2, fun y h1 h2 h3 => ?_⟩
  have hy := (sel_mem (hi := hi) h0 y).2 ⟨h1, by omega, h3⟩
  rw [h] at hr hy
  rcases List.mem_cons.1 hy with e | hy
  · omega
  · have := (List.pairwise_cons.1 hr.1).1 y hy; omega

theorem sel_none {U : Int → Prop} {f d lo : Int} (h0 : 0 ≤ lo) (hd : 1 ≤ d) (hp : PFrom U f d) (h : sel U lo (max f lo + d) = []) : ∀ n, lo ≤ n → ¬ U n := fun n hn hU => by
  have key : ∀ m, lo ≤ m → m < max f lo + d → ¬ U m := fun m h1 h2 h3 => by
    have := (sel_mem h0 m).2 ⟨h1, h2, h3⟩
    rw [h] at this; simp at this
  by_cases hlt : n < max f lo + d
  · exact key n hn hlt hU
  · have hp' := hp.mono (show f ≤ max f lo by omega)
    have e0 := Int.emod_nonneg (n - max f lo) (show d ≠ 0 by omega)
    have e1 := Int.emod_lt_of_pos (n - max f lo) (show 0 < d by omega)
    exact key _ (by omega) (by omega) ((hp'.shift hd (by omega)).1 hU)

end Go.Proofs.YtjilkhhokkncoaaGreat
