/-
  No cell of these rows narrows 'for every input' (looked for: loops, veiled, ifaces, maps, wideKeys, modest, calm, conditions, laid).
  DERIVED. THE GIVEN ROWS OF THIS SEAT. 10 by the template 'for every input the law returns true; each argument reads behind the call as it read before'; 0 by the template 'total and deterministic' (their statements: YthjnojbeimchdaaGreatTotals.lean).
  GIVEN WITH THE SEED: the statements are not yours to turn. If you find one false, say at which input.
  Laid BY PROGRAM, IN A SANDBOX (cutbox-rows.mjs): the forced cells as the released guide's own fill.sh prints them over the translation 64b3c3b35ce5451c… (all of the seat's roots in one cut). By AI agents, Wed Nov 11 2026. No macro, syntax, notation, axiom, sorry.
-/
import Derived.Test.YthjnojbeimchdaaGreatChecked
import GoSem.Claim
import GoSem.ClaimJoined
import GoSem.ClaimMapViews
import Derived.JoinedTies
import Derived.KernelRfl
namespace Go.Proofs.YthjnojbeimchdaaGreat
/- THE CELL 'sum', in the pinned program and in every row, IS THE sha256 OF THE DUMP (.gsa) THAT YthjnojbeimchdaaGreatProg.lean LOADS. Nothing in Lean hashes anything: it is a label: what it is worth is what the hold of that sum in a sandbox is worth. -/
noncomputable def Tryz.pinned : Pinned := { name := "ythjnojbeimchdaagreat", sum := "64b3c3b35ce5451ce0620ff0aba4014518108ee365df00f28c4a97671d0c18db", checked := Tryz.checked }
namespace Rows
def none {H : Type} : Left H := { results := [], args := [] }

/-- 'kalendslaw05.MixedCounts': WHATEVER THE INPUT: true; the input reads as it did. -/
def mixedCountsSpec : ChangeSpec := { name := "mixedCounts", fn := fun _ => fun
  | [d1, d2, d3] => { results := [.lit (.bool true)], args := [d1, d2, d3] }
  | _ => none }
def mixedCountsRow : OpenClaim := { program := "ythjnojbeimchdaagreat", sum := "64b3c3b35ce5451ce0620ff0aba4014518108ee365df00f28c4a97671d0c18db", func := "kalends/kalendslaw05.MixedCounts", spec := "mixedCounts", unfollowed := true, recurses := true, named := ["math/bits.divideError", "math/bits.overflowError"], apart := false }
def MixedCountsSaid : Prop := mixedCountsRow.holds Tryz.pinned (OpenSpec.ofChange mixedCountsSpec)

/-- ITS FALSE NEIGHBOUR: 'it returns false'. Refute it at one input. -/
def mixedCountsWrong : ChangeSpec := { name := "mixedCounts", fn := fun _ => fun
  | [d1, d2, d3] => { results := [.lit (.bool false)], args := [d1, d2, d3] }
  | _ => none }
def MixedCountsWrongFalsely : Prop := mixedCountsRow.holds Tryz.pinned (OpenSpec.ofChange mixedCountsWrong)

/-- 'kalendslaw05.MixedChecksSets': WHATEVER THE INPUT: true; the input reads as it did. -/
def mixedChecksSetsSpec : ChangeSpec := { name := "mixedChecksSets", fn := fun _ => fun
  | [d1, d2] => { results := [.lit (.bool true)], args := [d1, d2] }
  | _ => none }
def mixedChecksSetsRow : OpenClaim := { program := "ythjnojbeimchdaagreat", sum := "64b3c3b35ce5451ce0620ff0aba4014518108ee365df00f28c4a97671d0c18db", func := "kalends/kalendslaw05.MixedChecksSets", spec := "mixedChecksSets", unfollowed := true, recurses := true, named := ["math/bits.divideError", "math/bits.overflowError"], apart := false }
def MixedChecksSetsSaid : Prop := mixedChecksSetsRow.holds Tryz.pinned (OpenSpec.ofChange mixedChecksSetsSpec)

/-- ITS FALSE NEIGHBOUR: 'it returns false'. Refute it at one input. -/
def mixedChecksSetsWrong : ChangeSpec := { name := "mixedChecksSets", fn := fun _ => fun
  | [d1, d2] => { results := [.lit (.bool false)], args := [d1, d2] }
  | _ => none }
def MixedChecksSetsWrongFalsely : Prop := mixedChecksSetsRow.holds Tryz.pinned (OpenSpec.ofChange mixedChecksSetsWrong)

/-- 'kalendslaw05.MixedAlgebra': WHATEVER THE INPUT: true; the input reads as it did. -/
def mixedAlgebraSpec : ChangeSpec := { name := "mixedAlgebra", fn := fun _ => fun
  | [d1, d2, d3] => { results := [.lit (.bool true)], args := [d1, d2, d3] }
  | _ => none }
def mixedAlgebraRow : OpenClaim := { program := "ythjnojbeimchdaagreat", sum := "64b3c3b35ce5451ce0620ff0aba4014518108ee365df00f28c4a97671d0c18db", func := "kalends/kalendslaw05.MixedAlgebra", spec := "mixedAlgebra", unfollowed := true, recurses := true, named := ["math/bits.divideError", "math/bits.overflowError"], apart := false }
def MixedAlgebraSaid : Prop := mixedAlgebraRow.holds Tryz.pinned (OpenSpec.ofChange mixedAlgebraSpec)

/-- ITS FALSE NEIGHBOUR: 'it returns false'. Refute it at one input. -/
def mixedAlgebraWrong : ChangeSpec := { name := "mixedAlgebra", fn := fun _ => fun
  | [d1, d2, d3] => { results := [.lit (.bool false)], args := [d1, d2, d3] }
  | _ => none }
def MixedAlgebraWrongFalsely : Prop := mixedAlgebraRow.holds Tryz.pinned (OpenSpec.ofChange mixedAlgebraWrong)

/-- 'kalendslaw05.MixedLeastMembers': WHATEVER THE INPUT: true; the input reads as it did. -/
def mixedLeastMembersSpec : ChangeSpec := { name := "mixedLeastMembers", fn := fun _ => fun
  | [d1, d2, d3] => { results := [.lit (.bool true)], args := [d1, d2, d3] }
  | _ => none }
def mixedLeastMembersRow : OpenClaim := { program := "ythjnojbeimchdaagreat", sum := "64b3c3b35ce5451ce0620ff0aba4014518108ee365df00f28c4a97671d0c18db", func := "kalends/kalendslaw05.MixedLeastMembers", spec := "mixedLeastMembers", unfollowed := true, recurses := true, named := ["math/bits.divideError", "math/bits.overflowError"], apart := false }
def MixedLeastMembersSaid : Prop := mixedLeastMembersRow.holds Tryz.pinned (OpenSpec.ofChange mixedLeastMembersSpec)

/-- ITS FALSE NEIGHBOUR: 'it returns false'. Refute it at one input. -/
def mixedLeastMembersWrong : ChangeSpec := { name := "mixedLeastMembers", fn := fun _ => fun
  | [d1, d2, d3] => { results := [.lit (.bool false)], args := [d1, d2, d3] }
  | _ => none }
def MixedLeastMembersWrongFalsely : Prop := mixedLeastMembersRow.holds Tryz.pinned (OpenSpec.ofChange mixedLeastMembersWrong)

/-- 'kalendslaw05.MixedFiniteSets': WHATEVER THE INPUT: true; the input reads as it did. -/
def mixedFiniteSetsSpec : ChangeSpec := { name := "mixedFiniteSets", fn := fun _ => fun
  | [d1, d2] => { results := [.lit (.bool true)], args := [d1, d2] }
  | _ => none }
def mixedFiniteSetsRow : OpenClaim := { program := "ythjnojbeimchdaagreat", sum := "64b3c3b35ce5451ce0620ff0aba4014518108ee365df00f28c4a97671d0c18db", func := "kalends/kalendslaw05.MixedFiniteSets", spec := "mixedFiniteSets", unfollowed := true, recurses := true, named := ["math/bits.divideError", "math/bits.overflowError"], apart := false }
def MixedFiniteSetsSaid : Prop := mixedFiniteSetsRow.holds Tryz.pinned (OpenSpec.ofChange mixedFiniteSetsSpec)

/-- ITS FALSE NEIGHBOUR: 'it returns false'. Refute it at one input. -/
def mixedFiniteSetsWrong : ChangeSpec := { name := "mixedFiniteSets", fn := fun _ => fun
  | [d1, d2] => { results := [.lit (.bool false)], args := [d1, d2] }
  | _ => none }
def MixedFiniteSetsWrongFalsely : Prop := mixedFiniteSetsRow.holds Tryz.pinned (OpenSpec.ofChange mixedFiniteSetsWrong)

/-- 'kalendslaw05.MixedDecisionsMatchReference': WHATEVER THE INPUT: true; the input reads as it did. -/
def mixedDecisionsMatchReferenceSpec : ChangeSpec := { name := "mixedDecisionsMatchReference", fn := fun _ => fun
  | [d1, d2, d3] => { results := [.lit (.bool true)], args := [d1, d2, d3] }
  | _ => none }
def mixedDecisionsMatchReferenceRow : OpenClaim := { program := "ythjnojbeimchdaagreat", sum := "64b3c3b35ce5451ce0620ff0aba4014518108ee365df00f28c4a97671d0c18db", func := "kalends/kalendslaw05.MixedDecisionsMatchReference", spec := "mixedDecisionsMatchReference", unfollowed := true, recurses := true, named := ["math/bits.divideError", "math/bits.overflowError"], apart := false }
def MixedDecisionsMatchReferenceSaid : Prop := mixedDecisionsMatchReferenceRow.holds Tryz.pinned (OpenSpec.ofChange mixedDecisionsMatchReferenceSpec)

/-- ITS FALSE NEIGHBOUR: 'it returns false'. Refute it at one input. -/
def mixedDecisionsMatchReferenceWrong : ChangeSpec := { name := "mixedDecisionsMatchReference", fn := fun _ => fun
  | [d1, d2, d3] => { results := [.lit (.bool false)], args := [d1, d2, d3] }
  | _ => none }
def MixedDecisionsMatchReferenceWrongFalsely : Prop := mixedDecisionsMatchReferenceRow.holds Tryz.pinned (OpenSpec.ofChange mixedDecisionsMatchReferenceWrong)

/-- 'kalendslaw05.MixedComparison': WHATEVER THE INPUT: true; the input reads as it did. -/
def mixedComparisonSpec : ChangeSpec := { name := "mixedComparison", fn := fun _ => fun
  | [d1, d2, d3] => { results := [.lit (.bool true)], args := [d1, d2, d3] }
  | _ => none }
def mixedComparisonRow : OpenClaim := { program := "ythjnojbeimchdaagreat", sum := "64b3c3b35ce5451ce0620ff0aba4014518108ee365df00f28c4a97671d0c18db", func := "kalends/kalendslaw05.MixedComparison", spec := "mixedComparison", unfollowed := true, recurses := true, named := ["math/bits.divideError", "math/bits.overflowError"], apart := false }
def MixedComparisonSaid : Prop := mixedComparisonRow.holds Tryz.pinned (OpenSpec.ofChange mixedComparisonSpec)

/-- ITS FALSE NEIGHBOUR: 'it returns false'. Refute it at one input. -/
def mixedComparisonWrong : ChangeSpec := { name := "mixedComparison", fn := fun _ => fun
  | [d1, d2, d3] => { results := [.lit (.bool false)], args := [d1, d2, d3] }
  | _ => none }
def MixedComparisonWrongFalsely : Prop := mixedComparisonRow.holds Tryz.pinned (OpenSpec.ofChange mixedComparisonWrong)

/-- 'kalendslaw05.MixedJoins': WHATEVER THE INPUT: true; the input reads as it did. -/
def mixedJoinsSpec : ChangeSpec := { name := "mixedJoins", fn := fun _ => fun
  | [d1, d2, d3] => { results := [.lit (.bool true)], args := [d1, d2, d3] }
  | _ => none }
def mixedJoinsRow : OpenClaim := { program := "ythjnojbeimchdaagreat", sum := "64b3c3b35ce5451ce0620ff0aba4014518108ee365df00f28c4a97671d0c18db", func := "kalends/kalendslaw05.MixedJoins", spec := "mixedJoins", unfollowed := true, recurses := true, named := ["math/bits.divideError", "math/bits.overflowError"], apart := false }
def MixedJoinsSaid : Prop := mixedJoinsRow.holds Tryz.pinned (OpenSpec.ofChange mixedJoinsSpec)

/-- ITS FALSE NEIGHBOUR: 'it returns false'. Refute it at one input. -/
def mixedJoinsWrong : ChangeSpec := { name := "mixedJoins", fn := fun _ => fun
  | [d1, d2, d3] => { results := [.lit (.bool false)], args := [d1, d2, d3] }
  | _ => none }
def MixedJoinsWrongFalsely : Prop := mixedJoinsRow.holds Tryz.pinned (OpenSpec.ofChange mixedJoinsWrong)

/-- 'kalendslaw05.MixedMatchesReference': WHATEVER THE INPUT: true; the input reads as it did. -/
def mixedMatchesReferenceSpec : ChangeSpec := { name := "mixedMatchesReference", fn := fun _ => fun
  | [d1, d2, d3] => { results := [.lit (.bool true)], args := [d1, d2, d3] }
  | _ => none }
def mixedMatchesReferenceRow : OpenClaim := { program := "ythjnojbeimchdaagreat", sum := "64b3c3b35ce5451ce0620ff0aba4014518108ee365df00f28c4a97671d0c18db", func := "kalends/kalendslaw05.MixedMatchesReference", spec := "mixedMatchesReference", unfollowed := true, recurses := true, named := ["math/bits.divideError", "math/bits.overflowError"], apart := false }
def MixedMatchesReferenceSaid : Prop := mixedMatchesReferenceRow.holds Tryz.pinned (OpenSpec.ofChange mixedMatchesReferenceSpec)

/-- ITS FALSE NEIGHBOUR: 'it returns false'. Refute it at one input. -/
def mixedMatchesReferenceWrong : ChangeSpec := { name := "mixedMatchesReference", fn := fun _ => fun
  | [d1, d2, d3] => { results := [.lit (.bool false)], args := [d1, d2, d3] }
  | _ => none }
def MixedMatchesReferenceWrongFalsely : Prop := mixedMatchesReferenceRow.holds Tryz.pinned (OpenSpec.ofChange mixedMatchesReferenceWrong)

/-- 'kalendslaw05.MixedShifts': WHATEVER THE INPUT: true; the input reads as it did. -/
def mixedShiftsSpec : ChangeSpec := { name := "mixedShifts", fn := fun _ => fun
  | [d1, d2, d3] => { results := [.lit (.bool true)], args := [d1, d2, d3] }
  | _ => none }
def mixedShiftsRow : OpenClaim := { program := "ythjnojbeimchdaagreat", sum := "64b3c3b35ce5451ce0620ff0aba4014518108ee365df00f28c4a97671d0c18db", func := "kalends/kalendslaw05.MixedShifts", spec := "mixedShifts", unfollowed := true, recurses := true, named := ["math/bits.divideError", "math/bits.overflowError"], apart := false }
def MixedShiftsSaid : Prop := mixedShiftsRow.holds Tryz.pinned (OpenSpec.ofChange mixedShiftsSpec)

/-- ITS FALSE NEIGHBOUR: 'it returns false'. Refute it at one input. -/
def mixedShiftsWrong : ChangeSpec := { name := "mixedShifts", fn := fun _ => fun
  | [d1, d2, d3] => { results := [.lit (.bool false)], args := [d1, d2, d3] }
  | _ => none }
def MixedShiftsWrongFalsely : Prop := mixedShiftsRow.holds Tryz.pinned (OpenSpec.ofChange mixedShiftsWrong)

/- THE SECOND FORM. 'bulk': how many values and letters a reading holds, each counted each time it is reached (what is shared counts as often as it is met; a slice's spare places count too). A statement '..UptoSaid' is the law's where the arguments, and the package variables that the reading takes, are together of bulk at most 1048576: NARROWER than '..Said'. Prove '..Said' where nothing that the law and all that it calls make is longer than what came in: it says more and counts as full. Else prove '..UptoSaid'. A law counts once. -/
mutual
def uptoBulk {H : Type} : DataW H → Nat
  | .lit (.string bytes) => bytes.length + 1
  | .lit _ => 1
  | .nil => 1
  | .ptr d => uptoBulk d + 1
  | .slice elems spare => uptoBulkAll elems + uptoBulkAll spare + 1
  | .agg parts => uptoBulkAll parts + 1
  | .iface _ d => uptoBulk d + 1
  | .map entries => uptoBulkEntries entries + 1
  | .held _ => 1
def uptoBulkAll {H : Type} : List (DataW H) → Nat
  | [] => 0
  | d :: r => uptoBulk d + uptoBulkAll r
def uptoBulkEntries {H : Type} : List (Lit × DataW H) → Nat
  | [] => 0
  | x :: r => uptoBulkEntry x + uptoBulkEntries r
def uptoBulkEntry {H : Type} : Lit × DataW H → Nat
  | (.string bytes, d) => bytes.length + uptoBulk d + 1
  | (_, d) => uptoBulk d + 1
 end
def uptoSmall : (H : Type) → List (DataW H) → Bool := fun _ ds => decide (uptoBulkAll ds ≤ 1048576)
def OpenSpec.upto (s : _root_.Go.ChangeSpec) : _root_.Go.OpenSpec := { _root_.Go.OpenSpec.ofChange s with cond := some uptoSmall }

/-- 'kalendslaw05.MixedCounts', WHERE WHAT IT READS IS OF BULK AT MOST 1048576: true; the input reads as it did. -/
def mixedCountsUptoRow : OpenClaim := { program := "ythjnojbeimchdaagreat", sum := "64b3c3b35ce5451ce0620ff0aba4014518108ee365df00f28c4a97671d0c18db", func := "kalends/kalendslaw05.MixedCounts", spec := "mixedCounts", unfollowed := true, recurses := true, named := ["math/bits.divideError", "math/bits.overflowError"], apart := false, narrowed := true }
def MixedCountsUptoSaid : Prop := mixedCountsUptoRow.holds Tryz.pinned (OpenSpec.upto mixedCountsSpec)

/-- 'kalendslaw05.MixedChecksSets', WHERE WHAT IT READS IS OF BULK AT MOST 1048576: true; the input reads as it did. -/
def mixedChecksSetsUptoRow : OpenClaim := { program := "ythjnojbeimchdaagreat", sum := "64b3c3b35ce5451ce0620ff0aba4014518108ee365df00f28c4a97671d0c18db", func := "kalends/kalendslaw05.MixedChecksSets", spec := "mixedChecksSets", unfollowed := true, recurses := true, named := ["math/bits.divideError", "math/bits.overflowError"], apart := false, narrowed := true }
def MixedChecksSetsUptoSaid : Prop := mixedChecksSetsUptoRow.holds Tryz.pinned (OpenSpec.upto mixedChecksSetsSpec)

/-- 'kalendslaw05.MixedAlgebra', WHERE WHAT IT READS IS OF BULK AT MOST 1048576: true; the input reads as it did. -/
def mixedAlgebraUptoRow : OpenClaim := { program := "ythjnojbeimchdaagreat", sum := "64b3c3b35ce5451ce0620ff0aba4014518108ee365df00f28c4a97671d0c18db", func := "kalends/kalendslaw05.MixedAlgebra", spec := "mixedAlgebra", unfollowed := true, recurses := true, named := ["math/bits.divideError", "math/bits.overflowError"], apart := false, narrowed := true }
def MixedAlgebraUptoSaid : Prop := mixedAlgebraUptoRow.holds Tryz.pinned (OpenSpec.upto mixedAlgebraSpec)

/-- 'kalendslaw05.MixedLeastMembers', WHERE WHAT IT READS IS OF BULK AT MOST 1048576: true; the input reads as it did. -/
def mixedLeastMembersUptoRow : OpenClaim := { program := "ythjnojbeimchdaagreat", sum := "64b3c3b35ce5451ce0620ff0aba4014518108ee365df00f28c4a97671d0c18db", func := "kalends/kalendslaw05.MixedLeastMembers", spec := "mixedLeastMembers", unfollowed := true, recurses := true, named := ["math/bits.divideError", "math/bits.overflowError"], apart := false, narrowed := true }
def MixedLeastMembersUptoSaid : Prop := mixedLeastMembersUptoRow.holds Tryz.pinned (OpenSpec.upto mixedLeastMembersSpec)

/-- 'kalendslaw05.MixedFiniteSets', WHERE WHAT IT READS IS OF BULK AT MOST 1048576: true; the input reads as it did. -/
def mixedFiniteSetsUptoRow : OpenClaim := { program := "ythjnojbeimchdaagreat", sum := "64b3c3b35ce5451ce0620ff0aba4014518108ee365df00f28c4a97671d0c18db", func := "kalends/kalendslaw05.MixedFiniteSets", spec := "mixedFiniteSets", unfollowed := true, recurses := true, named := ["math/bits.divideError", "math/bits.overflowError"], apart := false, narrowed := true }
def MixedFiniteSetsUptoSaid : Prop := mixedFiniteSetsUptoRow.holds Tryz.pinned (OpenSpec.upto mixedFiniteSetsSpec)

/-- 'kalendslaw05.MixedDecisionsMatchReference', WHERE WHAT IT READS IS OF BULK AT MOST 1048576: true; the input reads as it did. -/
def mixedDecisionsMatchReferenceUptoRow : OpenClaim := { program := "ythjnojbeimchdaagreat", sum := "64b3c3b35ce5451ce0620ff0aba4014518108ee365df00f28c4a97671d0c18db", func := "kalends/kalendslaw05.MixedDecisionsMatchReference", spec := "mixedDecisionsMatchReference", unfollowed := true, recurses := true, named := ["math/bits.divideError", "math/bits.overflowError"], apart := false, narrowed := true }
def MixedDecisionsMatchReferenceUptoSaid : Prop := mixedDecisionsMatchReferenceUptoRow.holds Tryz.pinned (OpenSpec.upto mixedDecisionsMatchReferenceSpec)

/-- 'kalendslaw05.MixedComparison', WHERE WHAT IT READS IS OF BULK AT MOST 1048576: true; the input reads as it did. -/
def mixedComparisonUptoRow : OpenClaim := { program := "ythjnojbeimchdaagreat", sum := "64b3c3b35ce5451ce0620ff0aba4014518108ee365df00f28c4a97671d0c18db", func := "kalends/kalendslaw05.MixedComparison", spec := "mixedComparison", unfollowed := true, recurses := true, named := ["math/bits.divideError", "math/bits.overflowError"], apart := false, narrowed := true }
def MixedComparisonUptoSaid : Prop := mixedComparisonUptoRow.holds Tryz.pinned (OpenSpec.upto mixedComparisonSpec)

/-- 'kalendslaw05.MixedJoins', WHERE WHAT IT READS IS OF BULK AT MOST 1048576: true; the input reads as it did. -/
def mixedJoinsUptoRow : OpenClaim := { program := "ythjnojbeimchdaagreat", sum := "64b3c3b35ce5451ce0620ff0aba4014518108ee365df00f28c4a97671d0c18db", func := "kalends/kalendslaw05.MixedJoins", spec := "mixedJoins", unfollowed := true, recurses := true, named := ["math/bits.divideError", "math/bits.overflowError"], apart := false, narrowed := true }
def MixedJoinsUptoSaid : Prop := mixedJoinsUptoRow.holds Tryz.pinned (OpenSpec.upto mixedJoinsSpec)

/-- 'kalendslaw05.MixedMatchesReference', WHERE WHAT IT READS IS OF BULK AT MOST 1048576: true; the input reads as it did. -/
def mixedMatchesReferenceUptoRow : OpenClaim := { program := "ythjnojbeimchdaagreat", sum := "64b3c3b35ce5451ce0620ff0aba4014518108ee365df00f28c4a97671d0c18db", func := "kalends/kalendslaw05.MixedMatchesReference", spec := "mixedMatchesReference", unfollowed := true, recurses := true, named := ["math/bits.divideError", "math/bits.overflowError"], apart := false, narrowed := true }
def MixedMatchesReferenceUptoSaid : Prop := mixedMatchesReferenceUptoRow.holds Tryz.pinned (OpenSpec.upto mixedMatchesReferenceSpec)

/-- 'kalendslaw05.MixedShifts', WHERE WHAT IT READS IS OF BULK AT MOST 1048576: true; the input reads as it did. -/
def mixedShiftsUptoRow : OpenClaim := { program := "ythjnojbeimchdaagreat", sum := "64b3c3b35ce5451ce0620ff0aba4014518108ee365df00f28c4a97671d0c18db", func := "kalends/kalendslaw05.MixedShifts", spec := "mixedShifts", unfollowed := true, recurses := true, named := ["math/bits.divideError", "math/bits.overflowError"], apart := false, narrowed := true }
def MixedShiftsUptoSaid : Prop := mixedShiftsUptoRow.holds Tryz.pinned (OpenSpec.upto mixedShiftsSpec)

end Rows
end Go.Proofs.YthjnojbeimchdaaGreat
