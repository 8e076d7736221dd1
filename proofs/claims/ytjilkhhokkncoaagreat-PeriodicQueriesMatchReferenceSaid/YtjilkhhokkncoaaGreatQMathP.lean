/- Plain mathematics of Apart: the search for the least day that exactly one of two sets has. -/
import Derived.Test.YtjilkhhokkncoaaGreatQMathO
set_option linter.unusedVariables false
set_option linter.unusedSimpArgs false
namespace Go.Proofs.YtjilkhhokkncoaaGreat
open Kal

/-- n is the least day that exactly one of two sets has; or there is none -/
def ApartIs (S T : Int → Prop) (n : Int) (b : Bool) : Prop := (b = true ∧ 0 ≤ n ∧ ¬ (S n ↔ T n) ∧ ∀ x, 0 ≤ x → x < n → (S x ↔ T x)) ∨ (b = false ∧ n = 0 ∧ ∀ x, 0 ≤ x → (S x ↔ T x))

theorem ApartIs.unique {S T : Int → Prop} {n m : Int} {b c : Bool} (h : ApartIs S T n b) (g : ApartIs S T m c) : n = m ∧ b = c := by
  rcases h with ⟨rfl, h1, h2, h3⟩ | ⟨rfl, rfl, h1⟩ <;> rcases g with ⟨rfl, g1, g2, g3⟩ | ⟨rfl, rfl, g1⟩
  · refine ⟨?_, rfl⟩
    rcases Int.lt_trichotomy n m with h | h | h
    · exact absurd (g3 n h1 h) h2
    · exact h
    · exact absurd (h3 m g1 h) g2
  · exact absurd (g1 n h1) h2
  · exact absurd (h1 m g1) g2
  · exact ⟨rfl, rfl⟩

/-- the days from st on and below b that P selects are in B -/
def Cov (st : Int) (P B : Int → Prop) (b : Int) : Prop := ∀ n, st ≤ n → (b = -1 ∨ n < b) → P n → B n
/-- b' is b, or less -/
def Less (b b' : Int) : Prop := b' = b ∨ (0 ≤ b' ∧ (b = -1 ∨ b' < b))
theorem Less.refl (b : Int) : Less b b := .inl rfl
theorem Less.trans {a b c : Int} (h : Less a b) (g : Less b c) : Less a c := by
  unfold Less at *; omega
theorem Cov.mono {st : Int} {P B : Int → Prop} {b b' : Int} (h : Cov st P B b) (hb : Less b b') : Cov st P B b' := fun n h1 h2 h3 => h n h1 (by unfold Less at hb; omega) h3
theorem Cov.congr {st : Int} {P P' B : Int → Prop} {b : Int} (h : Cov st P B b) (hp : ∀ n, st ≤ n → P' n → P n) : Cov st P' B b := fun n h1 h2 h3 => h n h1 h2 (hp n h1 h3)

/-- the first j days of residue x are in B as far as they are below b -/
def InX (B : Int → Prop) (st x P : Int) (j : Nat) (b : Int) : Prop := ∀ i : Int, 0 ≤ i → i < j → (b = -1 ∨ st + x + i * P < b) → B (st + x + i * P)

theorem InX.zero {B : Int → Prop} {st x P b : Int} : InX B st x P 0 b := fun i h0 h1 => by omega
theorem InX.has {B : Int → Prop} {st x P b : Int} {j : Nat} (h : InX B st x P j b) (hm : B (st + x + j * P)) : InX B st x P (j + 1) b := fun i h0 h1 h2 => by
  by_cases e : i = j
  · rw [e]; exact hm
  · exact h i h0 (by omega) h2
theorem mul_step {i j P : Int} (hP : 1 ≤ P) (h : i < j) : i * P + P ≤ j * P := by
  have := Int.mul_le_mul_of_nonneg_right (show i + 1 ≤ j by omega) (show 0 ≤ P by omega)
  rw [Int.add_mul] at this; omega
theorem InX.not {B : Int → Prop} {st x P b : Int} {j : Nat} (hP : 1 ≤ P) (h0 : 0 ≤ st + x) (h : InX B st x P j b) (hg : b = -1 ∨ st + x + j * P < b) : InX B st x P (j + 1) (st + x + j * P) := fun i h0 h1 h2 => by
  have hj : 0 ≤ (j : Int) * P := Int.mul_nonneg (by omega) (by omega)
  by_cases e : i < j
  · have := mul_step hP e
    exact h i h0 e (by omega)
  · obtain rfl : i = j := by omega
    omega
theorem InX.done {B : Int → Prop} {st x P b : Int} {j : Nat} (hP : 1 ≤ P) (h : InX B st x P j b) (h0 : 0 ≤ b) (hn : b ≤ st + x + j * P) : Cov st (fun n => (n - st) % P = x) B b := fun n h1 h2 h3 => by
  have e := Int.emod_add_mul_ediv (n - st) P
  have hq : 0 ≤ (n - st) / P := Int.ediv_nonneg (by omega) (by omega)
  generalize (n - st) / P = q at *
  replace h3 : (n - st) % P = x := h3
  rw [h3, Int.mul_comm] at e
  have e2 : n = st + x + q * P := by omega
  rw [e2]
  refine h q hq ?_ (.inr (by omega))
  rcases Int.lt_or_le q j with h5 | h5
  · exact h5
  · have := Int.mul_le_mul_of_nonneg_right h5 (show 0 ≤ P by omega)
    omega
theorem InX.lt {B : Int → Prop} {st x P Q j0 : Int} {j : Nat} (hP : 1 ≤ P) (hx : x < P) (h : InX B st x P j (-1)) (h0 : 0 ≤ j0) (h1 : j0 < Q) (hn : ¬ B (st + x + j0 * P)) : st + x + j * P < st + Q * P := by
  have hj : (j : Int) ≤ j0 := by
    rcases Int.lt_or_le j0 j with h5 | h5
    · exact absurd (h j0 h0 h5 (.inl rfl)) hn
    · exact h5
  have a1 := Int.mul_le_mul_of_nonneg_right hj (show 0 ≤ P by omega)
  have a2 := mul_step hP h1
  omega

end Go.Proofs.YtjilkhhokkncoaaGreat
