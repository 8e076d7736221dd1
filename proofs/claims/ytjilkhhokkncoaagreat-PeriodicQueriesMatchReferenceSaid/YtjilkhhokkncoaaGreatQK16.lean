/- The arguments of the laws, opened. -/
import Derived.Test.YtjilkhhokkncoaaGreatRows
import Derived.Test.YtjilkhhokkncoaaGreatQK15
import Derived.WalkKit
import Derived.ProofKit
import Derived.OpenShut
import Derived.ShutString
import Derived.ChangeOld
import Derived.Below
import Derived.Lib.SmallJoins
set_option linter.unusedVariables false
set_option linter.unusedSimpArgs false

/- The arguments of the laws: a struct Raw that reads as data is opened; what the rows ask beside the walk. -/
namespace Go.Proofs.YtjilkhhokkncoaaGreat
open Go.ChangeShapes Go.WideShapes Go.ChangeAt Go.RowKit Go.Joins Kal

theorem liftOwn : ownKnob Tryz.prog.godebug = none := by kernel_rfl
theorem liftLaid : laidOutB Tryz.prog = true := by kernel_rfl

section
variable {H : Type} {enc : TypeId × Value → H} {w : World} {base : Nat} {spare : Nat → Bool} {held : Bool}

theorem int_of {n : Nat} {t : TypeId} {k : IntKind} {v : Value} {y : DataW H × List MemPlace} (ht : Tryz.prog.underlying t = some (.int k)) (h : DataW.trod enc Tryz.prog w base spare held n t [v] = some y) : ∃ m, v = .int k m ∧ (Lit.int k m).wf = true := by
  obtain ⟨m, hcs, _, hw⟩ := DataW.trod_int ht h
  simp at hcs
  exact ⟨m, hcs, hw⟩

end

end Go.Proofs.YtjilkhhokkncoaaGreat
