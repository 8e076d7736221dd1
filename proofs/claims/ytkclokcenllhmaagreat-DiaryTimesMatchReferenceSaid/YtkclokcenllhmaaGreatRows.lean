/-
  No cell of these rows narrows 'for every input' (looked for: loops, veiled, ifaces, maps, wideKeys, modest, calm, conditions, laid).
  DERIVED. THE GIVEN ROWS OF THIS SEAT. 10 by the template 'for every input the law returns true; each argument reads behind the call as it read before'; 0 by the template 'total and deterministic' (their statements: YtkclokcenllhmaaGreatTotals.lean).
  GIVEN WITH THE SEED: the statements are not yours to turn. If you find one false, say at which input.
  Laid BY PROGRAM, IN A SANDBOX (cutbox-rows.mjs): the forced cells as the released guide's own fill.sh prints them over the translation 115e005ae6a438ed… (all of the seat's roots in one cut). By AI agents, Wed Nov 11 2026. No macro, syntax, notation, axiom, sorry.
-/
import Derived.Test.YtkclokcenllhmaaGreatChecked
import GoSem.Claim
import GoSem.ClaimJoined
import GoSem.ClaimMapViews
import Derived.JoinedTies
import Derived.KernelRfl
namespace Go.Proofs.YtkclokcenllhmaaGreat
/- THE CELL 'sum', in the pinned program and in every row, IS THE sha256 OF THE DUMP (.gsa) THAT YtkclokcenllhmaaGreatProg.lean LOADS. Nothing in Lean hashes anything: it is a label: what it is worth is what the hold of that sum in a sandbox is worth. -/
noncomputable def Tryz.pinned : Pinned := { name := "ytkclokcenllhmaagreat", sum := "115e005ae6a438ed9a6a09f1092b0116fb6c594c4eff8920272c20f4c66c286b", checked := Tryz.checked }
namespace Rows
def none {H : Type} : Left H := { results := [], args := [] }

/-- 'kalendslaw19.DiaryTimesMatchReference': WHATEVER THE INPUT: true; the input reads as it did. -/
def diaryTimesMatchReferenceSpec : ChangeSpec := { name := "diaryTimesMatchReference", fn := fun _ => fun
  | [d1, d2, d3] => { results := [.lit (.bool true)], args := [d1, d2, d3] }
  | _ => none }
def diaryTimesMatchReferenceRow : OpenClaim := { program := "ytkclokcenllhmaagreat", sum := "115e005ae6a438ed9a6a09f1092b0116fb6c594c4eff8920272c20f4c66c286b", func := "kalends/kalendslaw19.DiaryTimesMatchReference", spec := "diaryTimesMatchReference", inPlace := ["slices.overlaps[kalends/api.Entry]"], unfollowed := true, recurses := true, named := ["math/bits.divideError", "math/bits.overflowError"], apart := false }
def DiaryTimesMatchReferenceSaid : Prop := diaryTimesMatchReferenceRow.holds Tryz.pinned (OpenSpec.ofChange diaryTimesMatchReferenceSpec)

/-- ITS FALSE NEIGHBOUR: 'it returns false'. Refute it at one input. -/
def diaryTimesMatchReferenceWrong : ChangeSpec := { name := "diaryTimesMatchReference", fn := fun _ => fun
  | [d1, d2, d3] => { results := [.lit (.bool false)], args := [d1, d2, d3] }
  | _ => none }
def DiaryTimesMatchReferenceWrongFalsely : Prop := diaryTimesMatchReferenceRow.holds Tryz.pinned (OpenSpec.ofChange diaryTimesMatchReferenceWrong)

/-- 'kalendslaw19.DiaryTentative': WHATEVER THE INPUT: true; the input reads as it did. -/
def diaryTentativeSpec : ChangeSpec := { name := "diaryTentative", fn := fun _ => fun
  | [d1, d2, d3] => { results := [.lit (.bool true)], args := [d1, d2, d3] }
  | _ => none }
def diaryTentativeRow : OpenClaim := { program := "ytkclokcenllhmaagreat", sum := "115e005ae6a438ed9a6a09f1092b0116fb6c594c4eff8920272c20f4c66c286b", func := "kalends/kalendslaw19.DiaryTentative", spec := "diaryTentative", inPlace := ["slices.overlaps[kalends/api.Entry]"], unfollowed := true, recurses := true, named := ["math/bits.divideError", "math/bits.overflowError"], apart := false }
def DiaryTentativeSaid : Prop := diaryTentativeRow.holds Tryz.pinned (OpenSpec.ofChange diaryTentativeSpec)

/-- ITS FALSE NEIGHBOUR: 'it returns false'. Refute it at one input. -/
def diaryTentativeWrong : ChangeSpec := { name := "diaryTentative", fn := fun _ => fun
  | [d1, d2, d3] => { results := [.lit (.bool false)], args := [d1, d2, d3] }
  | _ => none }
def DiaryTentativeWrongFalsely : Prop := diaryTentativeRow.holds Tryz.pinned (OpenSpec.ofChange diaryTentativeWrong)

/-- 'kalendslaw19.DiaryFreeTimes': WHATEVER THE INPUT: true; the input reads as it did. -/
def diaryFreeTimesSpec : ChangeSpec := { name := "diaryFreeTimes", fn := fun _ => fun
  | [d1, d2, d3] => { results := [.lit (.bool true)], args := [d1, d2, d3] }
  | _ => none }
def diaryFreeTimesRow : OpenClaim := { program := "ytkclokcenllhmaagreat", sum := "115e005ae6a438ed9a6a09f1092b0116fb6c594c4eff8920272c20f4c66c286b", func := "kalends/kalendslaw19.DiaryFreeTimes", spec := "diaryFreeTimes", inPlace := ["slices.overlaps[kalends/api.Entry]"], unfollowed := true, recurses := true, named := ["math/bits.divideError", "math/bits.overflowError"], apart := false }
def DiaryFreeTimesSaid : Prop := diaryFreeTimesRow.holds Tryz.pinned (OpenSpec.ofChange diaryFreeTimesSpec)

/-- ITS FALSE NEIGHBOUR: 'it returns false'. Refute it at one input. -/
def diaryFreeTimesWrong : ChangeSpec := { name := "diaryFreeTimes", fn := fun _ => fun
  | [d1, d2, d3] => { results := [.lit (.bool false)], args := [d1, d2, d3] }
  | _ => none }
def DiaryFreeTimesWrongFalsely : Prop := diaryFreeTimesRow.holds Tryz.pinned (OpenSpec.ofChange diaryFreeTimesWrong)

/-- 'kalendslaw19.DiaryAgendas': WHATEVER THE INPUT: true; the input reads as it did. -/
def diaryAgendasSpec : ChangeSpec := { name := "diaryAgendas", fn := fun _ => fun
  | [d1, d2, d3] => { results := [.lit (.bool true)], args := [d1, d2, d3] }
  | _ => none }
def diaryAgendasRow : OpenClaim := { program := "ytkclokcenllhmaagreat", sum := "115e005ae6a438ed9a6a09f1092b0116fb6c594c4eff8920272c20f4c66c286b", func := "kalends/kalendslaw19.DiaryAgendas", spec := "diaryAgendas", inPlace := ["slices.overlaps[kalends/api.Entry]"], unfollowed := true, recurses := true, named := ["math/bits.divideError", "math/bits.overflowError"], apart := false }
def DiaryAgendasSaid : Prop := diaryAgendasRow.holds Tryz.pinned (OpenSpec.ofChange diaryAgendasSpec)

/-- ITS FALSE NEIGHBOUR: 'it returns false'. Refute it at one input. -/
def diaryAgendasWrong : ChangeSpec := { name := "diaryAgendas", fn := fun _ => fun
  | [d1, d2, d3] => { results := [.lit (.bool false)], args := [d1, d2, d3] }
  | _ => none }
def DiaryAgendasWrongFalsely : Prop := diaryAgendasRow.holds Tryz.pinned (OpenSpec.ofChange diaryAgendasWrong)

/-- 'kalendslaw19.DiaryClashes': WHATEVER THE INPUT: true; the input reads as it did. -/
def diaryClashesSpec : ChangeSpec := { name := "diaryClashes", fn := fun _ => fun
  | [d1, d2, d3] => { results := [.lit (.bool true)], args := [d1, d2, d3] }
  | _ => none }
def diaryClashesRow : OpenClaim := { program := "ytkclokcenllhmaagreat", sum := "115e005ae6a438ed9a6a09f1092b0116fb6c594c4eff8920272c20f4c66c286b", func := "kalends/kalendslaw19.DiaryClashes", spec := "diaryClashes", inPlace := ["slices.overlaps[kalends/api.Entry]"], unfollowed := true, recurses := true, named := ["math/bits.divideError", "math/bits.overflowError"], apart := false }
def DiaryClashesSaid : Prop := diaryClashesRow.holds Tryz.pinned (OpenSpec.ofChange diaryClashesSpec)

/-- ITS FALSE NEIGHBOUR: 'it returns false'. Refute it at one input. -/
def diaryClashesWrong : ChangeSpec := { name := "diaryClashes", fn := fun _ => fun
  | [d1, d2, d3] => { results := [.lit (.bool false)], args := [d1, d2, d3] }
  | _ => none }
def DiaryClashesWrongFalsely : Prop := diaryClashesRow.holds Tryz.pinned (OpenSpec.ofChange diaryClashesWrong)

/-- 'kalendslaw19.DiaryMatchesReference': WHATEVER THE INPUT: true; the input reads as it did. -/
def diaryMatchesReferenceSpec : ChangeSpec := { name := "diaryMatchesReference", fn := fun _ => fun
  | [d1, d2] => { results := [.lit (.bool true)], args := [d1, d2] }
  | _ => none }
def diaryMatchesReferenceRow : OpenClaim := { program := "ytkclokcenllhmaagreat", sum := "115e005ae6a438ed9a6a09f1092b0116fb6c594c4eff8920272c20f4c66c286b", func := "kalends/kalendslaw19.DiaryMatchesReference", spec := "diaryMatchesReference", inPlace := ["slices.overlaps[kalends/api.Entry]"], unfollowed := true, recurses := true, named := ["math/bits.divideError", "math/bits.overflowError"], apart := false }
def DiaryMatchesReferenceSaid : Prop := diaryMatchesReferenceRow.holds Tryz.pinned (OpenSpec.ofChange diaryMatchesReferenceSpec)

/-- ITS FALSE NEIGHBOUR: 'it returns false'. Refute it at one input. -/
def diaryMatchesReferenceWrong : ChangeSpec := { name := "diaryMatchesReference", fn := fun _ => fun
  | [d1, d2] => { results := [.lit (.bool false)], args := [d1, d2] }
  | _ => none }
def DiaryMatchesReferenceWrongFalsely : Prop := diaryMatchesReferenceRow.holds Tryz.pinned (OpenSpec.ofChange diaryMatchesReferenceWrong)

/-- 'kalendslaw19.DiaryChecksArguments': WHATEVER THE INPUT: true; the input reads as it did. -/
def diaryChecksArgumentsSpec : ChangeSpec := { name := "diaryChecksArguments", fn := fun _ => fun
  | [d1, d2, d3] => { results := [.lit (.bool true)], args := [d1, d2, d3] }
  | _ => none }
def diaryChecksArgumentsRow : OpenClaim := { program := "ytkclokcenllhmaagreat", sum := "115e005ae6a438ed9a6a09f1092b0116fb6c594c4eff8920272c20f4c66c286b", func := "kalends/kalendslaw19.DiaryChecksArguments", spec := "diaryChecksArguments", inPlace := ["slices.overlaps[kalends/api.Entry]"], unfollowed := true, recurses := true, named := ["math/bits.divideError", "math/bits.overflowError"], apart := false }
def DiaryChecksArgumentsSaid : Prop := diaryChecksArgumentsRow.holds Tryz.pinned (OpenSpec.ofChange diaryChecksArgumentsSpec)

/-- ITS FALSE NEIGHBOUR: 'it returns false'. Refute it at one input. -/
def diaryChecksArgumentsWrong : ChangeSpec := { name := "diaryChecksArguments", fn := fun _ => fun
  | [d1, d2, d3] => { results := [.lit (.bool false)], args := [d1, d2, d3] }
  | _ => none }
def DiaryChecksArgumentsWrongFalsely : Prop := diaryChecksArgumentsRow.holds Tryz.pinned (OpenSpec.ofChange diaryChecksArgumentsWrong)

/-- 'kalendslaw19.DiaryAdmission': WHATEVER THE INPUT: true; the input reads as it did. -/
def diaryAdmissionSpec : ChangeSpec := { name := "diaryAdmission", fn := fun _ => fun
  | [d1, d2] => { results := [.lit (.bool true)], args := [d1, d2] }
  | _ => none }
def diaryAdmissionRow : OpenClaim := { program := "ytkclokcenllhmaagreat", sum := "115e005ae6a438ed9a6a09f1092b0116fb6c594c4eff8920272c20f4c66c286b", func := "kalends/kalendslaw19.DiaryAdmission", spec := "diaryAdmission", inPlace := ["slices.overlaps[kalends/api.Entry]"], unfollowed := true, recurses := true, named := ["math/bits.divideError", "math/bits.overflowError"], apart := false }
def DiaryAdmissionSaid : Prop := diaryAdmissionRow.holds Tryz.pinned (OpenSpec.ofChange diaryAdmissionSpec)

/-- ITS FALSE NEIGHBOUR: 'it returns false'. Refute it at one input. -/
def diaryAdmissionWrong : ChangeSpec := { name := "diaryAdmission", fn := fun _ => fun
  | [d1, d2] => { results := [.lit (.bool false)], args := [d1, d2] }
  | _ => none }
def DiaryAdmissionWrongFalsely : Prop := diaryAdmissionRow.holds Tryz.pinned (OpenSpec.ofChange diaryAdmissionWrong)

/-- 'kalendslaw19.DiaryEntries': WHATEVER THE INPUT: true; the input reads as it did. -/
def diaryEntriesSpec : ChangeSpec := { name := "diaryEntries", fn := fun _ => fun
  | [d1, d2] => { results := [.lit (.bool true)], args := [d1, d2] }
  | _ => none }
def diaryEntriesRow : OpenClaim := { program := "ytkclokcenllhmaagreat", sum := "115e005ae6a438ed9a6a09f1092b0116fb6c594c4eff8920272c20f4c66c286b", func := "kalends/kalendslaw19.DiaryEntries", spec := "diaryEntries", inPlace := ["slices.overlaps[kalends/api.Entry]"], unfollowed := true, recurses := true, named := ["math/bits.divideError", "math/bits.overflowError"], apart := false }
def DiaryEntriesSaid : Prop := diaryEntriesRow.holds Tryz.pinned (OpenSpec.ofChange diaryEntriesSpec)

/-- ITS FALSE NEIGHBOUR: 'it returns false'. Refute it at one input. -/
def diaryEntriesWrong : ChangeSpec := { name := "diaryEntries", fn := fun _ => fun
  | [d1, d2] => { results := [.lit (.bool false)], args := [d1, d2] }
  | _ => none }
def DiaryEntriesWrongFalsely : Prop := diaryEntriesRow.holds Tryz.pinned (OpenSpec.ofChange diaryEntriesWrong)

/-- 'kalendslaw19.DiaryBusyTimes': WHATEVER THE INPUT: true; the input reads as it did. -/
def diaryBusyTimesSpec : ChangeSpec := { name := "diaryBusyTimes", fn := fun _ => fun
  | [d1, d2, d3] => { results := [.lit (.bool true)], args := [d1, d2, d3] }
  | _ => none }
def diaryBusyTimesRow : OpenClaim := { program := "ytkclokcenllhmaagreat", sum := "115e005ae6a438ed9a6a09f1092b0116fb6c594c4eff8920272c20f4c66c286b", func := "kalends/kalendslaw19.DiaryBusyTimes", spec := "diaryBusyTimes", inPlace := ["slices.overlaps[kalends/api.Entry]"], unfollowed := true, recurses := true, named := ["math/bits.divideError", "math/bits.overflowError"], apart := false }
def DiaryBusyTimesSaid : Prop := diaryBusyTimesRow.holds Tryz.pinned (OpenSpec.ofChange diaryBusyTimesSpec)

/-- ITS FALSE NEIGHBOUR: 'it returns false'. Refute it at one input. -/
def diaryBusyTimesWrong : ChangeSpec := { name := "diaryBusyTimes", fn := fun _ => fun
  | [d1, d2, d3] => { results := [.lit (.bool false)], args := [d1, d2, d3] }
  | _ => none }
def DiaryBusyTimesWrongFalsely : Prop := diaryBusyTimesRow.holds Tryz.pinned (OpenSpec.ofChange diaryBusyTimesWrong)

/- THE SECOND FORM. 'bulk': how many values and letters a reading holds, each counted each time it is reached (what is shared counts as often as it is met; a slice's spare places count too). A statement '..UptoSaid' is the law's where the arguments, and the package variables that the reading takes, are together of bulk at most 1048576: NARROWER than '..Said'. Prove '..Said' where nothing that the law and all that it calls make is longer than what came in: it says more and counts as full. Else prove '..UptoSaid'. A law counts once. -/
mutual
def uptoBulk {H : Type} : DataW H → Nat
  | .lit (.string bytes) => bytes.length + 1
  | .lit _ => 1
  | .nil => 1
  | .ptr d => uptoBulk d + 1
  | .slice elems spare => uptoBulkAll elems + uptoBulkAll spare + 1
  | .agg parts => uptoBulkAll parts + 1
  | .iface _ d => uptoBulk d + 1
  | .map entries => uptoBulkEntries entries + 1
  | .held _ => 1
def uptoBulkAll {H : Type} : List (DataW H) → Nat
  | [] => 0
  | d :: r => uptoBulk d + uptoBulkAll r
def uptoBulkEntries {H : Type} : List (Lit × DataW H) → Nat
  | [] => 0
  | x :: r => uptoBulkEntry x + uptoBulkEntries r
def uptoBulkEntry {H : Type} : Lit × DataW H → Nat
  | (.string bytes, d) => bytes.length + uptoBulk d + 1
  | (_, d) => uptoBulk d + 1
 end
def uptoSmall : (H : Type) → List (DataW H) → Bool := fun _ ds => decide (uptoBulkAll ds ≤ 1048576)
def OpenSpec.upto (s : _root_.Go.ChangeSpec) : _root_.Go.OpenSpec := { _root_.Go.OpenSpec.ofChange s with cond := some uptoSmall }

/-- 'kalendslaw19.DiaryTimesMatchReference', WHERE WHAT IT READS IS OF BULK AT MOST 1048576: true; the input reads as it did. -/
def diaryTimesMatchReferenceUptoRow : OpenClaim := { program := "ytkclokcenllhmaagreat", sum := "115e005ae6a438ed9a6a09f1092b0116fb6c594c4eff8920272c20f4c66c286b", func := "kalends/kalendslaw19.DiaryTimesMatchReference", spec := "diaryTimesMatchReference", inPlace := ["slices.overlaps[kalends/api.Entry]"], unfollowed := true, recurses := true, named := ["math/bits.divideError", "math/bits.overflowError"], apart := false, narrowed := true }
def DiaryTimesMatchReferenceUptoSaid : Prop := diaryTimesMatchReferenceUptoRow.holds Tryz.pinned (OpenSpec.upto diaryTimesMatchReferenceSpec)

/-- 'kalendslaw19.DiaryTentative', WHERE WHAT IT READS IS OF BULK AT MOST 1048576: true; the input reads as it did. -/
def diaryTentativeUptoRow : OpenClaim := { program := "ytkclokcenllhmaagreat", sum := "115e005ae6a438ed9a6a09f1092b0116fb6c594c4eff8920272c20f4c66c286b", func := "kalends/kalendslaw19.DiaryTentative", spec := "diaryTentative", inPlace := ["slices.overlaps[kalends/api.Entry]"], unfollowed := true, recurses := true, named := ["math/bits.divideError", "math/bits.overflowError"], apart := false, narrowed := true }
def DiaryTentativeUptoSaid : Prop := diaryTentativeUptoRow.holds Tryz.pinned (OpenSpec.upto diaryTentativeSpec)

/-- 'kalendslaw19.DiaryFreeTimes', WHERE WHAT IT READS IS OF BULK AT MOST 1048576: true; the input reads as it did. -/
def diaryFreeTimesUptoRow : OpenClaim := { program := "ytkclokcenllhmaagreat", sum := "115e005ae6a438ed9a6a09f1092b0116fb6c594c4eff8920272c20f4c66c286b", func := "kalends/kalendslaw19.DiaryFreeTimes", spec := "diaryFreeTimes", inPlace := ["slices.overlaps[kalends/api.Entry]"], unfollowed := true, recurses := true, named := ["math/bits.divideError", "math/bits.overflowError"], apart := false, narrowed := true }
def DiaryFreeTimesUptoSaid : Prop := diaryFreeTimesUptoRow.holds Tryz.pinned (OpenSpec.upto diaryFreeTimesSpec)

/-- 'kalendslaw19.DiaryAgendas', WHERE WHAT IT READS IS OF BULK AT MOST 1048576: true; the input reads as it did. -/
def diaryAgendasUptoRow : OpenClaim := { program := "ytkclokcenllhmaagreat", sum := "115e005ae6a438ed9a6a09f1092b0116fb6c594c4eff8920272c20f4c66c286b", func := "kalends/kalendslaw19.DiaryAgendas", spec := "diaryAgendas", inPlace := ["slices.overlaps[kalends/api.Entry]"], unfollowed := true, recurses := true, named := ["math/bits.divideError", "math/bits.overflowError"], apart := false, narrowed := true }
def DiaryAgendasUptoSaid : Prop := diaryAgendasUptoRow.holds Tryz.pinned (OpenSpec.upto diaryAgendasSpec)

/-- 'kalendslaw19.DiaryClashes', WHERE WHAT IT READS IS OF BULK AT MOST 1048576: true; the input reads as it did. -/
def diaryClashesUptoRow : OpenClaim := { program := "ytkclokcenllhmaagreat", sum := "115e005ae6a438ed9a6a09f1092b0116fb6c594c4eff8920272c20f4c66c286b", func := "kalends/kalendslaw19.DiaryClashes", spec := "diaryClashes", inPlace := ["slices.overlaps[kalends/api.Entry]"], unfollowed := true, recurses := true, named := ["math/bits.divideError", "math/bits.overflowError"], apart := false, narrowed := true }
def DiaryClashesUptoSaid : Prop := diaryClashesUptoRow.holds Tryz.pinned (OpenSpec.upto diaryClashesSpec)

/-- 'kalendslaw19.DiaryMatchesReference', WHERE WHAT IT READS IS OF BULK AT MOST 1048576: true; the input reads as it did. -/
def diaryMatchesReferenceUptoRow : OpenClaim := { program := "ytkclokcenllhmaagreat", sum := "115e005ae6a438ed9a6a09f1092b0116fb6c594c4eff8920272c20f4c66c286b", func := "kalends/kalendslaw19.DiaryMatchesReference", spec := "diaryMatchesReference", inPlace := ["slices.overlaps[kalends/api.Entry]"], unfollowed := true, recurses := true, named := ["math/bits.divideError", "math/bits.overflowError"], apart := false, narrowed := true }
def DiaryMatchesReferenceUptoSaid : Prop := diaryMatchesReferenceUptoRow.holds Tryz.pinned (OpenSpec.upto diaryMatchesReferenceSpec)

/-- 'kalendslaw19.DiaryChecksArguments', WHERE WHAT IT READS IS OF BULK AT MOST 1048576: true; the input reads as it did. -/
def diaryChecksArgumentsUptoRow : OpenClaim := { program := "ytkclokcenllhmaagreat", sum := "115e005ae6a438ed9a6a09f1092b0116fb6c594c4eff8920272c20f4c66c286b", func := "kalends/kalendslaw19.DiaryChecksArguments", spec := "diaryChecksArguments", inPlace := ["slices.overlaps[kalends/api.Entry]"], unfollowed := true, recurses := true, named := ["math/bits.divideError", "math/bits.overflowError"], apart := false, narrowed := true }
def DiaryChecksArgumentsUptoSaid : Prop := diaryChecksArgumentsUptoRow.holds Tryz.pinned (OpenSpec.upto diaryChecksArgumentsSpec)

/-- 'kalendslaw19.DiaryAdmission', WHERE WHAT IT READS IS OF BULK AT MOST 1048576: true; the input reads as it did. -/
def diaryAdmissionUptoRow : OpenClaim := { program := "ytkclokcenllhmaagreat", sum := "115e005ae6a438ed9a6a09f1092b0116fb6c594c4eff8920272c20f4c66c286b", func := "kalends/kalendslaw19.DiaryAdmission", spec := "diaryAdmission", inPlace := ["slices.overlaps[kalends/api.Entry]"], unfollowed := true, recurses := true, named := ["math/bits.divideError", "math/bits.overflowError"], apart := false, narrowed := true }
def DiaryAdmissionUptoSaid : Prop := diaryAdmissionUptoRow.holds Tryz.pinned (OpenSpec.upto diaryAdmissionSpec)

/-- 'kalendslaw19.DiaryEntries', WHERE WHAT IT READS IS OF BULK AT MOST 1048576: true; the input reads as it did. -/
def diaryEntriesUptoRow : OpenClaim := { program := "ytkclokcenllhmaagreat", sum := "115e005ae6a438ed9a6a09f1092b0116fb6c594c4eff8920272c20f4c66c286b", func := "kalends/kalendslaw19.DiaryEntries", spec := "diaryEntries", inPlace := ["slices.overlaps[kalends/api.Entry]"], unfollowed := true, recurses := true, named := ["math/bits.divideError", "math/bits.overflowError"], apart := false, narrowed := true }
def DiaryEntriesUptoSaid : Prop := diaryEntriesUptoRow.holds Tryz.pinned (OpenSpec.upto diaryEntriesSpec)

/-- 'kalendslaw19.DiaryBusyTimes', WHERE WHAT IT READS IS OF BULK AT MOST 1048576: true; the input reads as it did. -/
def diaryBusyTimesUptoRow : OpenClaim := { program := "ytkclokcenllhmaagreat", sum := "115e005ae6a438ed9a6a09f1092b0116fb6c594c4eff8920272c20f4c66c286b", func := "kalends/kalendslaw19.DiaryBusyTimes", spec := "diaryBusyTimes", inPlace := ["slices.overlaps[kalends/api.Entry]"], unfollowed := true, recurses := true, named := ["math/bits.divideError", "math/bits.overflowError"], apart := false, narrowed := true }
def DiaryBusyTimesUptoSaid : Prop := diaryBusyTimesUptoRow.holds Tryz.pinned (OpenSpec.upto diaryBusyTimesSpec)

end Rows
end Go.Proofs.YtkclokcenllhmaaGreat
