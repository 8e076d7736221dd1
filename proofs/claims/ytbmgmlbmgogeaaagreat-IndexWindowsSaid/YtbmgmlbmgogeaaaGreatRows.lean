/-
  No cell of these rows narrows 'for every input' (looked for: loops, veiled, ifaces, maps, wideKeys, modest, calm, conditions, laid).
  DERIVED. THE GIVEN ROWS OF THIS SEAT. 9 by the template 'for every input the law returns true; each argument reads behind the call as it read before'; 0 by the template 'total and deterministic' (their statements: YtbmgmlbmgogeaaaGreatTotals.lean).
  GIVEN WITH THE SEED: the statements are not yours to turn. If you find one false, say at which input.
  Laid BY PROGRAM, IN A SANDBOX (cutbox-rows.mjs): the forced cells as the released guide's own fill.sh prints them over the translation 75bed5c0ed2a0432… (all of the seat's roots in one cut). By AI agents, Wed Nov 11 2026. No macro, syntax, notation, axiom, sorry.
-/
import Derived.Test.YtbmgmlbmgogeaaaGreatChecked
import GoSem.Claim
import GoSem.ClaimJoined
import GoSem.ClaimMapViews
import Derived.JoinedTies
import Derived.KernelRfl
namespace Go.Proofs.YtbmgmlbmgogeaaaGreat
/- THE CELL 'sum', in the pinned program and in every row, IS THE sha256 OF THE DUMP (.gsa) THAT YtbmgmlbmgogeaaaGreatProg.lean LOADS. Nothing in Lean hashes anything: it is a label: what it is worth is what the hold of that sum in a sandbox is worth. -/
noncomputable def Tryz.pinned : Pinned := { name := "ytbmgmlbmgogeaaagreat", sum := "75bed5c0ed2a04322a49cc9433d043a49683c725b17f5e7f8ffb21c268d15fbe", checked := Tryz.checked }
namespace Rows
def none {H : Type} : Left H := { results := [], args := [] }

/-- 'kalendslaw24.IndexMatchesReference': WHATEVER THE INPUT: true; the input reads as it did. -/
def indexMatchesReferenceSpec : ChangeSpec := { name := "indexMatchesReference", fn := fun _ => fun
  | [d1, d2, d3] => { results := [.lit (.bool true)], args := [d1, d2, d3] }
  | _ => none }
def indexMatchesReferenceRow : OpenClaim := { program := "ytbmgmlbmgogeaaagreat", sum := "75bed5c0ed2a04322a49cc9433d043a49683c725b17f5e7f8ffb21c268d15fbe", func := "kalends/kalendslaw24.IndexMatchesReference", spec := "indexMatchesReference", unfollowed := true, recurses := true, named := ["math/bits.divideError", "math/bits.overflowError"], apart := false }
def IndexMatchesReferenceSaid : Prop := indexMatchesReferenceRow.holds Tryz.pinned (OpenSpec.ofChange indexMatchesReferenceSpec)

/-- ITS FALSE NEIGHBOUR: 'it returns false'. Refute it at one input. -/
def indexMatchesReferenceWrong : ChangeSpec := { name := "indexMatchesReference", fn := fun _ => fun
  | [d1, d2, d3] => { results := [.lit (.bool false)], args := [d1, d2, d3] }
  | _ => none }
def IndexMatchesReferenceWrongFalsely : Prop := indexMatchesReferenceRow.holds Tryz.pinned (OpenSpec.ofChange indexMatchesReferenceWrong)

/-- 'kalendslaw24.IndexRejects': WHATEVER THE INPUT: true; the input reads as it did. -/
def indexRejectsSpec : ChangeSpec := { name := "indexRejects", fn := fun _ => fun
  | [d1, d2, d3] => { results := [.lit (.bool true)], args := [d1, d2, d3] }
  | _ => none }
def indexRejectsRow : OpenClaim := { program := "ytbmgmlbmgogeaaagreat", sum := "75bed5c0ed2a04322a49cc9433d043a49683c725b17f5e7f8ffb21c268d15fbe", func := "kalends/kalendslaw24.IndexRejects", spec := "indexRejects", unfollowed := true, recurses := true, named := ["math/bits.divideError", "math/bits.overflowError"], apart := false }
def IndexRejectsSaid : Prop := indexRejectsRow.holds Tryz.pinned (OpenSpec.ofChange indexRejectsSpec)

/-- ITS FALSE NEIGHBOUR: 'it returns false'. Refute it at one input. -/
def indexRejectsWrong : ChangeSpec := { name := "indexRejects", fn := fun _ => fun
  | [d1, d2, d3] => { results := [.lit (.bool false)], args := [d1, d2, d3] }
  | _ => none }
def IndexRejectsWrongFalsely : Prop := indexRejectsRow.holds Tryz.pinned (OpenSpec.ofChange indexRejectsWrong)

/-- 'kalendslaw24.IndexCollisions': WHATEVER THE INPUT: true; the input reads as it did. -/
def indexCollisionsSpec : ChangeSpec := { name := "indexCollisions", fn := fun _ => fun
  | [d1, d2] => { results := [.lit (.bool true)], args := [d1, d2] }
  | _ => none }
def indexCollisionsRow : OpenClaim := { program := "ytbmgmlbmgogeaaagreat", sum := "75bed5c0ed2a04322a49cc9433d043a49683c725b17f5e7f8ffb21c268d15fbe", func := "kalends/kalendslaw24.IndexCollisions", spec := "indexCollisions", unfollowed := true, recurses := true, named := ["math/bits.divideError", "math/bits.overflowError"], apart := false }
def IndexCollisionsSaid : Prop := indexCollisionsRow.holds Tryz.pinned (OpenSpec.ofChange indexCollisionsSpec)

/-- ITS FALSE NEIGHBOUR: 'it returns false'. Refute it at one input. -/
def indexCollisionsWrong : ChangeSpec := { name := "indexCollisions", fn := fun _ => fun
  | [d1, d2] => { results := [.lit (.bool false)], args := [d1, d2] }
  | _ => none }
def IndexCollisionsWrongFalsely : Prop := indexCollisionsRow.holds Tryz.pinned (OpenSpec.ofChange indexCollisionsWrong)

/-- 'kalendslaw24.IndexNext': WHATEVER THE INPUT: true; the input reads as it did. -/
def indexNextSpec : ChangeSpec := { name := "indexNext", fn := fun _ => fun
  | [d1, d2] => { results := [.lit (.bool true)], args := [d1, d2] }
  | _ => none }
def indexNextRow : OpenClaim := { program := "ytbmgmlbmgogeaaagreat", sum := "75bed5c0ed2a04322a49cc9433d043a49683c725b17f5e7f8ffb21c268d15fbe", func := "kalends/kalendslaw24.IndexNext", spec := "indexNext", unfollowed := true, recurses := true, named := ["math/bits.divideError", "math/bits.overflowError"], apart := false }
def IndexNextSaid : Prop := indexNextRow.holds Tryz.pinned (OpenSpec.ofChange indexNextSpec)

/-- ITS FALSE NEIGHBOUR: 'it returns false'. Refute it at one input. -/
def indexNextWrong : ChangeSpec := { name := "indexNext", fn := fun _ => fun
  | [d1, d2] => { results := [.lit (.bool false)], args := [d1, d2] }
  | _ => none }
def IndexNextWrongFalsely : Prop := indexNextRow.holds Tryz.pinned (OpenSpec.ofChange indexNextWrong)

/-- 'kalendslaw24.IndexHistory': WHATEVER THE INPUT: true; the input reads as it did. -/
def indexHistorySpec : ChangeSpec := { name := "indexHistory", fn := fun _ => fun
  | [d1, d2, d3] => { results := [.lit (.bool true)], args := [d1, d2, d3] }
  | _ => none }
def indexHistoryRow : OpenClaim := { program := "ytbmgmlbmgogeaaagreat", sum := "75bed5c0ed2a04322a49cc9433d043a49683c725b17f5e7f8ffb21c268d15fbe", func := "kalends/kalendslaw24.IndexHistory", spec := "indexHistory", unfollowed := true, recurses := true, named := ["math/bits.divideError", "math/bits.overflowError"], apart := false }
def IndexHistorySaid : Prop := indexHistoryRow.holds Tryz.pinned (OpenSpec.ofChange indexHistorySpec)

/-- ITS FALSE NEIGHBOUR: 'it returns false'. Refute it at one input. -/
def indexHistoryWrong : ChangeSpec := { name := "indexHistory", fn := fun _ => fun
  | [d1, d2, d3] => { results := [.lit (.bool false)], args := [d1, d2, d3] }
  | _ => none }
def IndexHistoryWrongFalsely : Prop := indexHistoryRow.holds Tryz.pinned (OpenSpec.ofChange indexHistoryWrong)

/-- 'kalendslaw24.IndexMemory': WHATEVER THE INPUT: true; the input reads as it did. -/
def indexMemorySpec : ChangeSpec := { name := "indexMemory", fn := fun _ => fun
  | [d1, d2, d3] => { results := [.lit (.bool true)], args := [d1, d2, d3] }
  | _ => none }
def indexMemoryRow : OpenClaim := { program := "ytbmgmlbmgogeaaagreat", sum := "75bed5c0ed2a04322a49cc9433d043a49683c725b17f5e7f8ffb21c268d15fbe", func := "kalends/kalendslaw24.IndexMemory", spec := "indexMemory", unfollowed := true, recurses := true, named := ["math/bits.divideError", "math/bits.overflowError"], apart := false }
def IndexMemorySaid : Prop := indexMemoryRow.holds Tryz.pinned (OpenSpec.ofChange indexMemorySpec)

/-- ITS FALSE NEIGHBOUR: 'it returns false'. Refute it at one input. -/
def indexMemoryWrong : ChangeSpec := { name := "indexMemory", fn := fun _ => fun
  | [d1, d2, d3] => { results := [.lit (.bool false)], args := [d1, d2, d3] }
  | _ => none }
def IndexMemoryWrongFalsely : Prop := indexMemoryRow.holds Tryz.pinned (OpenSpec.ofChange indexMemoryWrong)

/-- 'kalendslaw24.IndexWindowsTogether': WHATEVER THE INPUT: true; the input reads as it did. -/
def indexWindowsTogetherSpec : ChangeSpec := { name := "indexWindowsTogether", fn := fun _ => fun
  | [d1, d2, d3] => { results := [.lit (.bool true)], args := [d1, d2, d3] }
  | _ => none }
def indexWindowsTogetherRow : OpenClaim := { program := "ytbmgmlbmgogeaaagreat", sum := "75bed5c0ed2a04322a49cc9433d043a49683c725b17f5e7f8ffb21c268d15fbe", func := "kalends/kalendslaw24.IndexWindowsTogether", spec := "indexWindowsTogether", unfollowed := true, recurses := true, named := ["math/bits.divideError", "math/bits.overflowError"], apart := false }
def IndexWindowsTogetherSaid : Prop := indexWindowsTogetherRow.holds Tryz.pinned (OpenSpec.ofChange indexWindowsTogetherSpec)

/-- ITS FALSE NEIGHBOUR: 'it returns false'. Refute it at one input. -/
def indexWindowsTogetherWrong : ChangeSpec := { name := "indexWindowsTogether", fn := fun _ => fun
  | [d1, d2, d3] => { results := [.lit (.bool false)], args := [d1, d2, d3] }
  | _ => none }
def IndexWindowsTogetherWrongFalsely : Prop := indexWindowsTogetherRow.holds Tryz.pinned (OpenSpec.ofChange indexWindowsTogetherWrong)

/-- 'kalendslaw24.IndexSize': WHATEVER THE INPUT: true; the input reads as it did. -/
def indexSizeSpec : ChangeSpec := { name := "indexSize", fn := fun _ => fun
  | [d1, d2, d3] => { results := [.lit (.bool true)], args := [d1, d2, d3] }
  | _ => none }
def indexSizeRow : OpenClaim := { program := "ytbmgmlbmgogeaaagreat", sum := "75bed5c0ed2a04322a49cc9433d043a49683c725b17f5e7f8ffb21c268d15fbe", func := "kalends/kalendslaw24.IndexSize", spec := "indexSize", unfollowed := true, recurses := true, named := ["math/bits.divideError", "math/bits.overflowError"], apart := false }
def IndexSizeSaid : Prop := indexSizeRow.holds Tryz.pinned (OpenSpec.ofChange indexSizeSpec)

/-- ITS FALSE NEIGHBOUR: 'it returns false'. Refute it at one input. -/
def indexSizeWrong : ChangeSpec := { name := "indexSize", fn := fun _ => fun
  | [d1, d2, d3] => { results := [.lit (.bool false)], args := [d1, d2, d3] }
  | _ => none }
def IndexSizeWrongFalsely : Prop := indexSizeRow.holds Tryz.pinned (OpenSpec.ofChange indexSizeWrong)

/-- 'kalendslaw24.IndexWindows': WHATEVER THE INPUT: true; the input reads as it did. -/
def indexWindowsSpec : ChangeSpec := { name := "indexWindows", fn := fun _ => fun
  | [d1, d2, d3] => { results := [.lit (.bool true)], args := [d1, d2, d3] }
  | _ => none }
def indexWindowsRow : OpenClaim := { program := "ytbmgmlbmgogeaaagreat", sum := "75bed5c0ed2a04322a49cc9433d043a49683c725b17f5e7f8ffb21c268d15fbe", func := "kalends/kalendslaw24.IndexWindows", spec := "indexWindows", unfollowed := true, recurses := true, named := ["math/bits.divideError", "math/bits.overflowError"], apart := false }
def IndexWindowsSaid : Prop := indexWindowsRow.holds Tryz.pinned (OpenSpec.ofChange indexWindowsSpec)

/-- ITS FALSE NEIGHBOUR: 'it returns false'. Refute it at one input. -/
def indexWindowsWrong : ChangeSpec := { name := "indexWindows", fn := fun _ => fun
  | [d1, d2, d3] => { results := [.lit (.bool false)], args := [d1, d2, d3] }
  | _ => none }
def IndexWindowsWrongFalsely : Prop := indexWindowsRow.holds Tryz.pinned (OpenSpec.ofChange indexWindowsWrong)

/- THE SECOND FORM. 'bulk': how many values and letters a reading holds, each counted each time it is reached (what is shared counts as often as it is met; a slice's spare places count too). A statement '..UptoSaid' is the law's where the arguments, and the package variables that the reading takes, are together of bulk at most 1048576: NARROWER than '..Said'. Prove '..Said' where nothing that the law and all that it calls make is longer than what came in: it says more and counts as full. Else prove '..UptoSaid'. A law counts once. -/
mutual
def uptoBulk {H : Type} : DataW H → Nat
  | .lit (.string bytes) => bytes.length + 1
  | .lit _ => 1
  | .nil => 1
  | .ptr d => uptoBulk d + 1
  | .slice elems spare => uptoBulkAll elems + uptoBulkAll spare + 1
  | .agg parts => uptoBulkAll parts + 1
  | .iface _ d => uptoBulk d + 1
  | .map entries => uptoBulkEntries entries + 1
  | .held _ => 1
def uptoBulkAll {H : Type} : List (DataW H) → Nat
  | [] => 0
  | d :: r => uptoBulk d + uptoBulkAll r
def uptoBulkEntries {H : Type} : List (Lit × DataW H) → Nat
  | [] => 0
  | x :: r => uptoBulkEntry x + uptoBulkEntries r
def uptoBulkEntry {H : Type} : Lit × DataW H → Nat
  | (.string bytes, d) => bytes.length + uptoBulk d + 1
  | (_, d) => uptoBulk d + 1
 end
def uptoSmall : (H : Type) → List (DataW H) → Bool := fun _ ds => decide (uptoBulkAll ds ≤ 1048576)
def OpenSpec.upto (s : _root_.Go.ChangeSpec) : _root_.Go.OpenSpec := { _root_.Go.OpenSpec.ofChange s with cond := some uptoSmall }

/-- 'kalendslaw24.IndexMatchesReference', WHERE WHAT IT READS IS OF BULK AT MOST 1048576: true; the input reads as it did. -/
def indexMatchesReferenceUptoRow : OpenClaim := { program := "ytbmgmlbmgogeaaagreat", sum := "75bed5c0ed2a04322a49cc9433d043a49683c725b17f5e7f8ffb21c268d15fbe", func := "kalends/kalendslaw24.IndexMatchesReference", spec := "indexMatchesReference", unfollowed := true, recurses := true, named := ["math/bits.divideError", "math/bits.overflowError"], apart := false, narrowed := true }
def IndexMatchesReferenceUptoSaid : Prop := indexMatchesReferenceUptoRow.holds Tryz.pinned (OpenSpec.upto indexMatchesReferenceSpec)

/-- 'kalendslaw24.IndexRejects', WHERE WHAT IT READS IS OF BULK AT MOST 1048576: true; the input reads as it did. -/
def indexRejectsUptoRow : OpenClaim := { program := "ytbmgmlbmgogeaaagreat", sum := "75bed5c0ed2a04322a49cc9433d043a49683c725b17f5e7f8ffb21c268d15fbe", func := "kalends/kalendslaw24.IndexRejects", spec := "indexRejects", unfollowed := true, recurses := true, named := ["math/bits.divideError", "math/bits.overflowError"], apart := false, narrowed := true }
def IndexRejectsUptoSaid : Prop := indexRejectsUptoRow.holds Tryz.pinned (OpenSpec.upto indexRejectsSpec)

/-- 'kalendslaw24.IndexCollisions', WHERE WHAT IT READS IS OF BULK AT MOST 1048576: true; the input reads as it did. -/
def indexCollisionsUptoRow : OpenClaim := { program := "ytbmgmlbmgogeaaagreat", sum := "75bed5c0ed2a04322a49cc9433d043a49683c725b17f5e7f8ffb21c268d15fbe", func := "kalends/kalendslaw24.IndexCollisions", spec := "indexCollisions", unfollowed := true, recurses := true, named := ["math/bits.divideError", "math/bits.overflowError"], apart := false, narrowed := true }
def IndexCollisionsUptoSaid : Prop := indexCollisionsUptoRow.holds Tryz.pinned (OpenSpec.upto indexCollisionsSpec)

/-- 'kalendslaw24.IndexNext', WHERE WHAT IT READS IS OF BULK AT MOST 1048576: true; the input reads as it did. -/
def indexNextUptoRow : OpenClaim := { program := "ytbmgmlbmgogeaaagreat", sum := "75bed5c0ed2a04322a49cc9433d043a49683c725b17f5e7f8ffb21c268d15fbe", func := "kalends/kalendslaw24.IndexNext", spec := "indexNext", unfollowed := true, recurses := true, named := ["math/bits.divideError", "math/bits.overflowError"], apart := false, narrowed := true }
def IndexNextUptoSaid : Prop := indexNextUptoRow.holds Tryz.pinned (OpenSpec.upto indexNextSpec)

/-- 'kalendslaw24.IndexHistory', WHERE WHAT IT READS IS OF BULK AT MOST 1048576: true; the input reads as it did. -/
def indexHistoryUptoRow : OpenClaim := { program := "ytbmgmlbmgogeaaagreat", sum := "75bed5c0ed2a04322a49cc9433d043a49683c725b17f5e7f8ffb21c268d15fbe", func := "kalends/kalendslaw24.IndexHistory", spec := "indexHistory", unfollowed := true, recurses := true, named := ["math/bits.divideError", "math/bits.overflowError"], apart := false, narrowed := true }
def IndexHistoryUptoSaid : Prop := indexHistoryUptoRow.holds Tryz.pinned (OpenSpec.upto indexHistorySpec)

/-- 'kalendslaw24.IndexMemory', WHERE WHAT IT READS IS OF BULK AT MOST 1048576: true; the input reads as it did. -/
def indexMemoryUptoRow : OpenClaim := { program := "ytbmgmlbmgogeaaagreat", sum := "75bed5c0ed2a04322a49cc9433d043a49683c725b17f5e7f8ffb21c268d15fbe", func := "kalends/kalendslaw24.IndexMemory", spec := "indexMemory", unfollowed := true, recurses := true, named := ["math/bits.divideError", "math/bits.overflowError"], apart := false, narrowed := true }
def IndexMemoryUptoSaid : Prop := indexMemoryUptoRow.holds Tryz.pinned (OpenSpec.upto indexMemorySpec)

/-- 'kalendslaw24.IndexWindowsTogether', WHERE WHAT IT READS IS OF BULK AT MOST 1048576: true; the input reads as it did. -/
def indexWindowsTogetherUptoRow : OpenClaim := { program := "ytbmgmlbmgogeaaagreat", sum := "75bed5c0ed2a04322a49cc9433d043a49683c725b17f5e7f8ffb21c268d15fbe", func := "kalends/kalendslaw24.IndexWindowsTogether", spec := "indexWindowsTogether", unfollowed := true, recurses := true, named := ["math/bits.divideError", "math/bits.overflowError"], apart := false, narrowed := true }
def IndexWindowsTogetherUptoSaid : Prop := indexWindowsTogetherUptoRow.holds Tryz.pinned (OpenSpec.upto indexWindowsTogetherSpec)

/-- 'kalendslaw24.IndexSize', WHERE WHAT IT READS IS OF BULK AT MOST 1048576: true; the input reads as it did. -/
def indexSizeUptoRow : OpenClaim := { program := "ytbmgmlbmgogeaaagreat", sum := "75bed5c0ed2a04322a49cc9433d043a49683c725b17f5e7f8ffb21c268d15fbe", func := "kalends/kalendslaw24.IndexSize", spec := "indexSize", unfollowed := true, recurses := true, named := ["math/bits.divideError", "math/bits.overflowError"], apart := false, narrowed := true }
def IndexSizeUptoSaid : Prop := indexSizeUptoRow.holds Tryz.pinned (OpenSpec.upto indexSizeSpec)

/-- 'kalendslaw24.IndexWindows', WHERE WHAT IT READS IS OF BULK AT MOST 1048576: true; the input reads as it did. -/
def indexWindowsUptoRow : OpenClaim := { program := "ytbmgmlbmgogeaaagreat", sum := "75bed5c0ed2a04322a49cc9433d043a49683c725b17f5e7f8ffb21c268d15fbe", func := "kalends/kalendslaw24.IndexWindows", spec := "indexWindows", unfollowed := true, recurses := true, named := ["math/bits.divideError", "math/bits.overflowError"], apart := false, narrowed := true }
def IndexWindowsUptoSaid : Prop := indexWindowsUptoRow.holds Tryz.pinned (OpenSpec.upto indexWindowsSpec)

end Rows
end Go.Proofs.YtbmgmlbmgogeaaaGreat
