/-
  No cell of these rows narrows 'for every input' (looked for: loops, veiled, ifaces, maps, wideKeys, modest, calm, conditions, laid).
  DERIVED. THE GIVEN ROWS OF THIS SEAT. 10 by the template 'for every input the law returns true; each argument reads behind the call as it read before'; 0 by the template 'total and deterministic' (their statements: YtjilkhhokkncoaaTotals.lean).
  GIVEN WITH THE SEED: the statements are not yours to turn. If you find one false, say at which input.
  Laid BY PROGRAM, IN A SANDBOX (cutbox-rows.mjs): the forced cells as the released guide's own fill.sh prints them over the translation 5c1f23637aaf6381… (all of the seat's roots in one cut). By AI agents, Wed Nov 11 2026. No macro, syntax, notation, axiom, sorry.
-/
import Derived.Test.YtjilkhhokkncoaaChecked
import GoSem.Claim
import GoSem.ClaimJoined
import GoSem.ClaimMapViews
import Derived.JoinedTies
import Derived.KernelRfl
namespace Go.Proofs.Ytjilkhhokkncoaa
/- THE CELL 'sum', in the pinned program and in every row, IS THE sha256 OF THE DUMP (.gsa) THAT YtjilkhhokkncoaaProg.lean LOADS. Nothing in Lean hashes anything: it is a label: what it is worth is what the hold of that sum in a sandbox is worth. -/
noncomputable def Try.pinned : Pinned := { name := "ytjilkhhokkncoaa", sum := "5c1f23637aaf6381d53f06168872ac9cbc89166a722b7a8b483ce06ff4cabf97", checked := Try.checked }
namespace Rows
def none {H : Type} : Left H := { results := [], args := [] }

/-- 'kalendslaw04.PeriodicCutsMatchReference': WHATEVER THE INPUT: true; the input reads as it did. -/
def periodicCutsMatchReferenceSpec : ChangeSpec := { name := "periodicCutsMatchReference", fn := fun _ => fun
  | [d1, d2, d3] => { results := [.lit (.bool true)], args := [d1, d2, d3] }
  | _ => none }
def periodicCutsMatchReferenceRow : OpenClaim := { program := "ytjilkhhokkncoaa", sum := "5c1f23637aaf6381d53f06168872ac9cbc89166a722b7a8b483ce06ff4cabf97", func := "kalends/kalendslaw04.PeriodicCutsMatchReference", spec := "periodicCutsMatchReference", unfollowed := true, recurses := true, named := ["math/bits.divideError", "math/bits.overflowError"], apart := false }
def PeriodicCutsMatchReferenceSaid : Prop := periodicCutsMatchReferenceRow.holds Try.pinned (OpenSpec.ofChange periodicCutsMatchReferenceSpec)

/-- ITS FALSE NEIGHBOUR: 'it returns false'. Refute it at one input. -/
def periodicCutsMatchReferenceWrong : ChangeSpec := { name := "periodicCutsMatchReference", fn := fun _ => fun
  | [d1, d2, d3] => { results := [.lit (.bool false)], args := [d1, d2, d3] }
  | _ => none }
def PeriodicCutsMatchReferenceWrongFalsely : Prop := periodicCutsMatchReferenceRow.holds Try.pinned (OpenSpec.ofChange periodicCutsMatchReferenceWrong)

/-- 'kalendslaw04.PeriodicAlgebra': WHATEVER THE INPUT: true; the input reads as it did. -/
def periodicAlgebraSpec : ChangeSpec := { name := "periodicAlgebra", fn := fun _ => fun
  | [d1, d2, d3] => { results := [.lit (.bool true)], args := [d1, d2, d3] }
  | _ => none }
def periodicAlgebraRow : OpenClaim := { program := "ytjilkhhokkncoaa", sum := "5c1f23637aaf6381d53f06168872ac9cbc89166a722b7a8b483ce06ff4cabf97", func := "kalends/kalendslaw04.PeriodicAlgebra", spec := "periodicAlgebra", unfollowed := true, recurses := true, named := ["math/bits.divideError", "math/bits.overflowError"], apart := false }
def PeriodicAlgebraSaid : Prop := periodicAlgebraRow.holds Try.pinned (OpenSpec.ofChange periodicAlgebraSpec)

/-- ITS FALSE NEIGHBOUR: 'it returns false'. Refute it at one input. -/
def periodicAlgebraWrong : ChangeSpec := { name := "periodicAlgebra", fn := fun _ => fun
  | [d1, d2, d3] => { results := [.lit (.bool false)], args := [d1, d2, d3] }
  | _ => none }
def PeriodicAlgebraWrongFalsely : Prop := periodicAlgebraRow.holds Try.pinned (OpenSpec.ofChange periodicAlgebraWrong)

/-- 'kalendslaw04.PeriodicResidues': WHATEVER THE INPUT: true; the input reads as it did. -/
def periodicResiduesSpec : ChangeSpec := { name := "periodicResidues", fn := fun _ => fun
  | [d1, d2, d3] => { results := [.lit (.bool true)], args := [d1, d2, d3] }
  | _ => none }
def periodicResiduesRow : OpenClaim := { program := "ytjilkhhokkncoaa", sum := "5c1f23637aaf6381d53f06168872ac9cbc89166a722b7a8b483ce06ff4cabf97", func := "kalends/kalendslaw04.PeriodicResidues", spec := "periodicResidues", unfollowed := true, recurses := true, named := ["math/bits.divideError", "math/bits.overflowError"], apart := false }
def PeriodicResiduesSaid : Prop := periodicResiduesRow.holds Try.pinned (OpenSpec.ofChange periodicResiduesSpec)

/-- ITS FALSE NEIGHBOUR: 'it returns false'. Refute it at one input. -/
def periodicResiduesWrong : ChangeSpec := { name := "periodicResidues", fn := fun _ => fun
  | [d1, d2, d3] => { results := [.lit (.bool false)], args := [d1, d2, d3] }
  | _ => none }
def PeriodicResiduesWrongFalsely : Prop := periodicResiduesRow.holds Try.pinned (OpenSpec.ofChange periodicResiduesWrong)

/-- 'kalendslaw04.PeriodicMembers': WHATEVER THE INPUT: true; the input reads as it did. -/
def periodicMembersSpec : ChangeSpec := { name := "periodicMembers", fn := fun _ => fun
  | [d1, d2, d3] => { results := [.lit (.bool true)], args := [d1, d2, d3] }
  | _ => none }
def periodicMembersRow : OpenClaim := { program := "ytjilkhhokkncoaa", sum := "5c1f23637aaf6381d53f06168872ac9cbc89166a722b7a8b483ce06ff4cabf97", func := "kalends/kalendslaw04.PeriodicMembers", spec := "periodicMembers", unfollowed := true, recurses := true, named := ["math/bits.divideError", "math/bits.overflowError"], apart := false }
def PeriodicMembersSaid : Prop := periodicMembersRow.holds Try.pinned (OpenSpec.ofChange periodicMembersSpec)

/-- ITS FALSE NEIGHBOUR: 'it returns false'. Refute it at one input. -/
def periodicMembersWrong : ChangeSpec := { name := "periodicMembers", fn := fun _ => fun
  | [d1, d2, d3] => { results := [.lit (.bool false)], args := [d1, d2, d3] }
  | _ => none }
def PeriodicMembersWrongFalsely : Prop := periodicMembersRow.holds Try.pinned (OpenSpec.ofChange periodicMembersWrong)

/-- 'kalendslaw04.PeriodicFirstMembers': WHATEVER THE INPUT: true; the input reads as it did. -/
def periodicFirstMembersSpec : ChangeSpec := { name := "periodicFirstMembers", fn := fun _ => fun
  | [d1, d2, d3] => { results := [.lit (.bool true)], args := [d1, d2, d3] }
  | _ => none }
def periodicFirstMembersRow : OpenClaim := { program := "ytjilkhhokkncoaa", sum := "5c1f23637aaf6381d53f06168872ac9cbc89166a722b7a8b483ce06ff4cabf97", func := "kalends/kalendslaw04.PeriodicFirstMembers", spec := "periodicFirstMembers", unfollowed := true, recurses := true, named := ["math/bits.divideError", "math/bits.overflowError"], apart := false }
def PeriodicFirstMembersSaid : Prop := periodicFirstMembersRow.holds Try.pinned (OpenSpec.ofChange periodicFirstMembersSpec)

/-- ITS FALSE NEIGHBOUR: 'it returns false'. Refute it at one input. -/
def periodicFirstMembersWrong : ChangeSpec := { name := "periodicFirstMembers", fn := fun _ => fun
  | [d1, d2, d3] => { results := [.lit (.bool false)], args := [d1, d2, d3] }
  | _ => none }
def PeriodicFirstMembersWrongFalsely : Prop := periodicFirstMembersRow.holds Try.pinned (OpenSpec.ofChange periodicFirstMembersWrong)

/-- 'kalendslaw04.PeriodicWindows': WHATEVER THE INPUT: true; the input reads as it did. -/
def periodicWindowsSpec : ChangeSpec := { name := "periodicWindows", fn := fun _ => fun
  | [d1, d2, d3] => { results := [.lit (.bool true)], args := [d1, d2, d3] }
  | _ => none }
def periodicWindowsRow : OpenClaim := { program := "ytjilkhhokkncoaa", sum := "5c1f23637aaf6381d53f06168872ac9cbc89166a722b7a8b483ce06ff4cabf97", func := "kalends/kalendslaw04.PeriodicWindows", spec := "periodicWindows", unfollowed := true, recurses := true, named := ["math/bits.divideError", "math/bits.overflowError"], apart := false }
def PeriodicWindowsSaid : Prop := periodicWindowsRow.holds Try.pinned (OpenSpec.ofChange periodicWindowsSpec)

/-- ITS FALSE NEIGHBOUR: 'it returns false'. Refute it at one input. -/
def periodicWindowsWrong : ChangeSpec := { name := "periodicWindows", fn := fun _ => fun
  | [d1, d2, d3] => { results := [.lit (.bool false)], args := [d1, d2, d3] }
  | _ => none }
def PeriodicWindowsWrongFalsely : Prop := periodicWindowsRow.holds Try.pinned (OpenSpec.ofChange periodicWindowsWrong)

/-- 'kalendslaw04.PeriodicCanonical': WHATEVER THE INPUT: true; the input reads as it did. -/
def periodicCanonicalSpec : ChangeSpec := { name := "periodicCanonical", fn := fun _ => fun
  | [d1, d2] => { results := [.lit (.bool true)], args := [d1, d2] }
  | _ => none }
def periodicCanonicalRow : OpenClaim := { program := "ytjilkhhokkncoaa", sum := "5c1f23637aaf6381d53f06168872ac9cbc89166a722b7a8b483ce06ff4cabf97", func := "kalends/kalendslaw04.PeriodicCanonical", spec := "periodicCanonical", unfollowed := true, recurses := true, named := ["math/bits.divideError", "math/bits.overflowError"], apart := false }
def PeriodicCanonicalSaid : Prop := periodicCanonicalRow.holds Try.pinned (OpenSpec.ofChange periodicCanonicalSpec)

/-- ITS FALSE NEIGHBOUR: 'it returns false'. Refute it at one input. -/
def periodicCanonicalWrong : ChangeSpec := { name := "periodicCanonical", fn := fun _ => fun
  | [d1, d2] => { results := [.lit (.bool false)], args := [d1, d2] }
  | _ => none }
def PeriodicCanonicalWrongFalsely : Prop := periodicCanonicalRow.holds Try.pinned (OpenSpec.ofChange periodicCanonicalWrong)

/-- 'kalendslaw04.PeriodicShifts': WHATEVER THE INPUT: true; the input reads as it did. -/
def periodicShiftsSpec : ChangeSpec := { name := "periodicShifts", fn := fun _ => fun
  | [d1, d2, d3] => { results := [.lit (.bool true)], args := [d1, d2, d3] }
  | _ => none }
def periodicShiftsRow : OpenClaim := { program := "ytjilkhhokkncoaa", sum := "5c1f23637aaf6381d53f06168872ac9cbc89166a722b7a8b483ce06ff4cabf97", func := "kalends/kalendslaw04.PeriodicShifts", spec := "periodicShifts", unfollowed := true, recurses := true, named := ["math/bits.divideError", "math/bits.overflowError"], apart := false }
def PeriodicShiftsSaid : Prop := periodicShiftsRow.holds Try.pinned (OpenSpec.ofChange periodicShiftsSpec)

/-- ITS FALSE NEIGHBOUR: 'it returns false'. Refute it at one input. -/
def periodicShiftsWrong : ChangeSpec := { name := "periodicShifts", fn := fun _ => fun
  | [d1, d2, d3] => { results := [.lit (.bool false)], args := [d1, d2, d3] }
  | _ => none }
def PeriodicShiftsWrongFalsely : Prop := periodicShiftsRow.holds Try.pinned (OpenSpec.ofChange periodicShiftsWrong)

/-- 'kalendslaw04.PeriodicEquality': WHATEVER THE INPUT: true; the input reads as it did. -/
def periodicEqualitySpec : ChangeSpec := { name := "periodicEquality", fn := fun _ => fun
  | [d1, d2] => { results := [.lit (.bool true)], args := [d1, d2] }
  | _ => none }
def periodicEqualityRow : OpenClaim := { program := "ytjilkhhokkncoaa", sum := "5c1f23637aaf6381d53f06168872ac9cbc89166a722b7a8b483ce06ff4cabf97", func := "kalends/kalendslaw04.PeriodicEquality", spec := "periodicEquality", unfollowed := true, recurses := true, named := ["math/bits.divideError", "math/bits.overflowError"], apart := false }
def PeriodicEqualitySaid : Prop := periodicEqualityRow.holds Try.pinned (OpenSpec.ofChange periodicEqualitySpec)

/-- ITS FALSE NEIGHBOUR: 'it returns false'. Refute it at one input. -/
def periodicEqualityWrong : ChangeSpec := { name := "periodicEquality", fn := fun _ => fun
  | [d1, d2] => { results := [.lit (.bool false)], args := [d1, d2] }
  | _ => none }
def PeriodicEqualityWrongFalsely : Prop := periodicEqualityRow.holds Try.pinned (OpenSpec.ofChange periodicEqualityWrong)

/-- 'kalendslaw04.PeriodicRejectsInvalid': WHATEVER THE INPUT: true; the input reads as it did. -/
def periodicRejectsInvalidSpec : ChangeSpec := { name := "periodicRejectsInvalid", fn := fun _ => fun
  | [d1, d2, d3] => { results := [.lit (.bool true)], args := [d1, d2, d3] }
  | _ => none }
def periodicRejectsInvalidRow : OpenClaim := { program := "ytjilkhhokkncoaa", sum := "5c1f23637aaf6381d53f06168872ac9cbc89166a722b7a8b483ce06ff4cabf97", func := "kalends/kalendslaw04.PeriodicRejectsInvalid", spec := "periodicRejectsInvalid", unfollowed := true, recurses := true, named := ["math/bits.divideError", "math/bits.overflowError"], apart := false }
def PeriodicRejectsInvalidSaid : Prop := periodicRejectsInvalidRow.holds Try.pinned (OpenSpec.ofChange periodicRejectsInvalidSpec)

/-- ITS FALSE NEIGHBOUR: 'it returns false'. Refute it at one input. -/
def periodicRejectsInvalidWrong : ChangeSpec := { name := "periodicRejectsInvalid", fn := fun _ => fun
  | [d1, d2, d3] => { results := [.lit (.bool false)], args := [d1, d2, d3] }
  | _ => none }
def PeriodicRejectsInvalidWrongFalsely : Prop := periodicRejectsInvalidRow.holds Try.pinned (OpenSpec.ofChange periodicRejectsInvalidWrong)

/- THE SECOND FORM. 'bulk': how many values and letters a reading holds, each counted each time it is reached (what is shared counts as often as it is met; a slice's spare places count too). A statement '..UptoSaid' is the law's where the arguments, and the package variables that the reading takes, are together of bulk at most 1048576: NARROWER than '..Said'. Prove '..Said' where nothing that the law and all that it calls make is longer than what came in: it says more and counts as full. Else prove '..UptoSaid'. A law counts once. -/
mutual
def uptoBulk {H : Type} : DataW H → Nat
  | .lit (.string bytes) => bytes.length + 1
  | .lit _ => 1
  | .nil => 1
  | .ptr d => uptoBulk d + 1
  | .slice elems spare => uptoBulkAll elems + uptoBulkAll spare + 1
  | .agg parts => uptoBulkAll parts + 1
  | .iface _ d => uptoBulk d + 1
  | .map entries => uptoBulkEntries entries + 1
  | .held _ => 1
def uptoBulkAll {H : Type} : List (DataW H) → Nat
  | [] => 0
  | d :: r => uptoBulk d + uptoBulkAll r
def uptoBulkEntries {H : Type} : List (Lit × DataW H) → Nat
  | [] => 0
  | x :: r => uptoBulkEntry x + uptoBulkEntries r
def uptoBulkEntry {H : Type} : Lit × DataW H → Nat
  | (.string bytes, d) => bytes.length + uptoBulk d + 1
  | (_, d) => uptoBulk d + 1
 end
def uptoSmall : (H : Type) → List (DataW H) → Bool := fun _ ds => decide (uptoBulkAll ds ≤ 1048576)
def OpenSpec.upto (s : _root_.Go.ChangeSpec) : _root_.Go.OpenSpec := { _root_.Go.OpenSpec.ofChange s with cond := some uptoSmall }

/-- 'kalendslaw04.PeriodicCutsMatchReference', WHERE WHAT IT READS IS OF BULK AT MOST 1048576: true; the input reads as it did. -/
def periodicCutsMatchReferenceUptoRow : OpenClaim := { program := "ytjilkhhokkncoaa", sum := "5c1f23637aaf6381d53f06168872ac9cbc89166a722b7a8b483ce06ff4cabf97", func := "kalends/kalendslaw04.PeriodicCutsMatchReference", spec := "periodicCutsMatchReference", unfollowed := true, recurses := true, named := ["math/bits.divideError", "math/bits.overflowError"], apart := false, narrowed := true }
def PeriodicCutsMatchReferenceUptoSaid : Prop := periodicCutsMatchReferenceUptoRow.holds Try.pinned (OpenSpec.upto periodicCutsMatchReferenceSpec)

/-- 'kalendslaw04.PeriodicAlgebra', WHERE WHAT IT READS IS OF BULK AT MOST 1048576: true; the input reads as it did. -/
def periodicAlgebraUptoRow : OpenClaim := { program := "ytjilkhhokkncoaa", sum := "5c1f23637aaf6381d53f06168872ac9cbc89166a722b7a8b483ce06ff4cabf97", func := "kalends/kalendslaw04.PeriodicAlgebra", spec := "periodicAlgebra", unfollowed := true, recurses := true, named := ["math/bits.divideError", "math/bits.overflowError"], apart := false, narrowed := true }
def PeriodicAlgebraUptoSaid : Prop := periodicAlgebraUptoRow.holds Try.pinned (OpenSpec.upto periodicAlgebraSpec)

/-- 'kalendslaw04.PeriodicResidues', WHERE WHAT IT READS IS OF BULK AT MOST 1048576: true; the input reads as it did. -/
def periodicResiduesUptoRow : OpenClaim := { program := "ytjilkhhokkncoaa", sum := "5c1f23637aaf6381d53f06168872ac9cbc89166a722b7a8b483ce06ff4cabf97", func := "kalends/kalendslaw04.PeriodicResidues", spec := "periodicResidues", unfollowed := true, recurses := true, named := ["math/bits.divideError", "math/bits.overflowError"], apart := false, narrowed := true }
def PeriodicResiduesUptoSaid : Prop := periodicResiduesUptoRow.holds Try.pinned (OpenSpec.upto periodicResiduesSpec)

/-- 'kalendslaw04.PeriodicMembers', WHERE WHAT IT READS IS OF BULK AT MOST 1048576: true; the input reads as it did. -/
def periodicMembersUptoRow : OpenClaim := { program := "ytjilkhhokkncoaa", sum := "5c1f23637aaf6381d53f06168872ac9cbc89166a722b7a8b483ce06ff4cabf97", func := "kalends/kalendslaw04.PeriodicMembers", spec := "periodicMembers", unfollowed := true, recurses := true, named := ["math/bits.divideError", "math/bits.overflowError"], apart := false, narrowed := true }
def PeriodicMembersUptoSaid : Prop := periodicMembersUptoRow.holds Try.pinned (OpenSpec.upto periodicMembersSpec)

/-- 'kalendslaw04.PeriodicFirstMembers', WHERE WHAT IT READS IS OF BULK AT MOST 1048576: true; the input reads as it did. -/
def periodicFirstMembersUptoRow : OpenClaim := { program := "ytjilkhhokkncoaa", sum := "5c1f23637aaf6381d53f06168872ac9cbc89166a722b7a8b483ce06ff4cabf97", func := "kalends/kalendslaw04.PeriodicFirstMembers", spec := "periodicFirstMembers", unfollowed := true, recurses := true, named := ["math/bits.divideError", "math/bits.overflowError"], apart := false, narrowed := true }
def PeriodicFirstMembersUptoSaid : Prop := periodicFirstMembersUptoRow.holds Try.pinned (OpenSpec.upto periodicFirstMembersSpec)

/-- 'kalendslaw04.PeriodicWindows', WHERE WHAT IT READS IS OF BULK AT MOST 1048576: true; the input reads as it did. -/
def periodicWindowsUptoRow : OpenClaim := { program := "ytjilkhhokkncoaa", sum := "5c1f23637aaf6381d53f06168872ac9cbc89166a722b7a8b483ce06ff4cabf97", func := "kalends/kalendslaw04.PeriodicWindows", spec := "periodicWindows", unfollowed := true, recurses := true, named := ["math/bits.divideError", "math/bits.overflowError"], apart := false, narrowed := true }
def PeriodicWindowsUptoSaid : Prop := periodicWindowsUptoRow.holds Try.pinned (OpenSpec.upto periodicWindowsSpec)

/-- 'kalendslaw04.PeriodicCanonical', WHERE WHAT IT READS IS OF BULK AT MOST 1048576: true; the input reads as it did. -/
def periodicCanonicalUptoRow : OpenClaim := { program := "ytjilkhhokkncoaa", sum := "5c1f23637aaf6381d53f06168872ac9cbc89166a722b7a8b483ce06ff4cabf97", func := "kalends/kalendslaw04.PeriodicCanonical", spec := "periodicCanonical", unfollowed := true, recurses := true, named := ["math/bits.divideError", "math/bits.overflowError"], apart := false, narrowed := true }
def PeriodicCanonicalUptoSaid : Prop := periodicCanonicalUptoRow.holds Try.pinned (OpenSpec.upto periodicCanonicalSpec)

/-- 'kalendslaw04.PeriodicShifts', WHERE WHAT IT READS IS OF BULK AT MOST 1048576: true; the input reads as it did. -/
def periodicShiftsUptoRow : OpenClaim := { program := "ytjilkhhokkncoaa", sum := "5c1f23637aaf6381d53f06168872ac9cbc89166a722b7a8b483ce06ff4cabf97", func := "kalends/kalendslaw04.PeriodicShifts", spec := "periodicShifts", unfollowed := true, recurses := true, named := ["math/bits.divideError", "math/bits.overflowError"], apart := false, narrowed := true }
def PeriodicShiftsUptoSaid : Prop := periodicShiftsUptoRow.holds Try.pinned (OpenSpec.upto periodicShiftsSpec)

/-- 'kalendslaw04.PeriodicEquality', WHERE WHAT IT READS IS OF BULK AT MOST 1048576: true; the input reads as it did. -/
def periodicEqualityUptoRow : OpenClaim := { program := "ytjilkhhokkncoaa", sum := "5c1f23637aaf6381d53f06168872ac9cbc89166a722b7a8b483ce06ff4cabf97", func := "kalends/kalendslaw04.PeriodicEquality", spec := "periodicEquality", unfollowed := true, recurses := true, named := ["math/bits.divideError", "math/bits.overflowError"], apart := false, narrowed := true }
def PeriodicEqualityUptoSaid : Prop := periodicEqualityUptoRow.holds Try.pinned (OpenSpec.upto periodicEqualitySpec)

/-- 'kalendslaw04.PeriodicRejectsInvalid', WHERE WHAT IT READS IS OF BULK AT MOST 1048576: true; the input reads as it did. -/
def periodicRejectsInvalidUptoRow : OpenClaim := { program := "ytjilkhhokkncoaa", sum := "5c1f23637aaf6381d53f06168872ac9cbc89166a722b7a8b483ce06ff4cabf97", func := "kalends/kalendslaw04.PeriodicRejectsInvalid", spec := "periodicRejectsInvalid", unfollowed := true, recurses := true, named := ["math/bits.divideError", "math/bits.overflowError"], apart := false, narrowed := true }
def PeriodicRejectsInvalidUptoSaid : Prop := periodicRejectsInvalidUptoRow.holds Try.pinned (OpenSpec.upto periodicRejectsInvalidSpec)

end Rows
end Go.Proofs.Ytjilkhhokkncoaa
