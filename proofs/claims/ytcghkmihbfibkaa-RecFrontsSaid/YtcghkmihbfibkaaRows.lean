/-
  No cell of these rows narrows 'for every input' (looked for: loops, veiled, ifaces, maps, wideKeys, modest, calm, conditions, laid).
  DERIVED. THE GIVEN ROWS OF THIS SEAT. 7 by the template 'for every input the law returns true; each argument reads behind the call as it read before'; 0 by the template 'total and deterministic' (their statements: YtcghkmihbfibkaaTotals.lean).
  GIVEN WITH THE SEED: the statements are not yours to turn. If you find one false, say at which input.
  Laid BY PROGRAM, IN A SANDBOX (cutbox-rows.mjs): the forced cells as the released guide's own fill.sh prints them over the translation 29ee83e5c5f939fb… (all of the seat's roots in one cut). By AI agents, Wed Nov 11 2026. No macro, syntax, notation, axiom, sorry.
-/
import Derived.Test.YtcghkmihbfibkaaChecked
import GoSem.Claim
import GoSem.ClaimJoined
import GoSem.ClaimMapViews
import Derived.JoinedTies
import Derived.KernelRfl
namespace Go.Proofs.Ytcghkmihbfibkaa
/- THE CELL 'sum', in the pinned program and in every row, IS THE sha256 OF THE DUMP (.gsa) THAT YtcghkmihbfibkaaProg.lean LOADS. Nothing in Lean hashes anything: it is a label: what it is worth is what the hold of that sum in a sandbox is worth. -/
noncomputable def Try.pinned : Pinned := { name := "ytcghkmihbfibkaa", sum := "29ee83e5c5f939fbfa522838ee5cec5dc4df42791cfa7244654f1f49ec4c1a92", checked := Try.checked }
namespace Rows
def none {H : Type} : Left H := { results := [], args := [] }

/-- 'cashbooklaw2.SubSplits': WHATEVER THE INPUT: true; the input reads as it did. -/
def subSplitsSpec : ChangeSpec := { name := "subSplits", fn := fun _ => fun
  | [d] => { results := [.lit (.bool true)], args := [d] }
  | _ => none }
def subSplitsRow : OpenClaim := { program := "ytcghkmihbfibkaa", sum := "29ee83e5c5f939fbfa522838ee5cec5dc4df42791cfa7244654f1f49ec4c1a92", func := "cashbook/cashbooklaw2.SubSplits", spec := "subSplits", apart := false }
def SubSplitsSaid : Prop := subSplitsRow.holds Try.pinned (OpenSpec.ofChange subSplitsSpec)

/-- ITS FALSE NEIGHBOUR: 'it returns false'. Refute it at one input. -/
def subSplitsWrong : ChangeSpec := { name := "subSplits", fn := fun _ => fun
  | [d] => { results := [.lit (.bool false)], args := [d] }
  | _ => none }
def SubSplitsWrongFalsely : Prop := subSplitsRow.holds Try.pinned (OpenSpec.ofChange subSplitsWrong)

/-- 'cashbooklaw2.SubJoins': WHATEVER THE INPUT: true; the input reads as it did. -/
def subJoinsSpec : ChangeSpec := { name := "subJoins", fn := fun _ => fun
  | [d] => { results := [.lit (.bool true)], args := [d] }
  | _ => none }
def subJoinsRow : OpenClaim := { program := "ytcghkmihbfibkaa", sum := "29ee83e5c5f939fbfa522838ee5cec5dc4df42791cfa7244654f1f49ec4c1a92", func := "cashbook/cashbooklaw2.SubJoins", spec := "subJoins", apart := false }
def SubJoinsSaid : Prop := subJoinsRow.holds Try.pinned (OpenSpec.ofChange subJoinsSpec)

/-- ITS FALSE NEIGHBOUR: 'it returns false'. Refute it at one input. -/
def subJoinsWrong : ChangeSpec := { name := "subJoins", fn := fun _ => fun
  | [d] => { results := [.lit (.bool false)], args := [d] }
  | _ => none }
def SubJoinsWrongFalsely : Prop := subJoinsRow.holds Try.pinned (OpenSpec.ofChange subJoinsWrong)

/-- 'cashbooklaw2.SubCounts': WHATEVER THE INPUT: true; the input reads as it did. -/
def subCountsSpec : ChangeSpec := { name := "subCounts", fn := fun _ => fun
  | [d1, d2] => { results := [.lit (.bool true)], args := [d1, d2] }
  | _ => none }
def subCountsRow : OpenClaim := { program := "ytcghkmihbfibkaa", sum := "29ee83e5c5f939fbfa522838ee5cec5dc4df42791cfa7244654f1f49ec4c1a92", func := "cashbook/cashbooklaw2.SubCounts", spec := "subCounts", apart := false }
def SubCountsSaid : Prop := subCountsRow.holds Try.pinned (OpenSpec.ofChange subCountsSpec)

/-- ITS FALSE NEIGHBOUR: 'it returns false'. Refute it at one input. -/
def subCountsWrong : ChangeSpec := { name := "subCounts", fn := fun _ => fun
  | [d1, d2] => { results := [.lit (.bool false)], args := [d1, d2] }
  | _ => none }
def SubCountsWrongFalsely : Prop := subCountsRow.holds Try.pinned (OpenSpec.ofChange subCountsWrong)

/-- 'cashbooklaw1.RecWrites': WHATEVER THE INPUT: true; the input reads as it did. -/
def recWritesSpec : ChangeSpec := { name := "recWrites", fn := fun _ => fun
  | [d] => { results := [.lit (.bool true)], args := [d] }
  | _ => none }
def recWritesRow : OpenClaim := { program := "ytcghkmihbfibkaa", sum := "29ee83e5c5f939fbfa522838ee5cec5dc4df42791cfa7244654f1f49ec4c1a92", func := "cashbook/cashbooklaw1.RecWrites", spec := "recWrites", apart := false }
def RecWritesSaid : Prop := recWritesRow.holds Try.pinned (OpenSpec.ofChange recWritesSpec)

/-- ITS FALSE NEIGHBOUR: 'it returns false'. Refute it at one input. -/
def recWritesWrong : ChangeSpec := { name := "recWrites", fn := fun _ => fun
  | [d] => { results := [.lit (.bool false)], args := [d] }
  | _ => none }
def RecWritesWrongFalsely : Prop := recWritesRow.holds Try.pinned (OpenSpec.ofChange recWritesWrong)

/-- 'cashbooklaw1.RecCuts': WHATEVER THE INPUT: true; the input reads as it did. -/
def recCutsSpec : ChangeSpec := { name := "recCuts", fn := fun _ => fun
  | [d1, d2, d3] => { results := [.lit (.bool true)], args := [d1, d2, d3] }
  | _ => none }
def recCutsRow : OpenClaim := { program := "ytcghkmihbfibkaa", sum := "29ee83e5c5f939fbfa522838ee5cec5dc4df42791cfa7244654f1f49ec4c1a92", func := "cashbook/cashbooklaw1.RecCuts", spec := "recCuts", apart := false }
def RecCutsSaid : Prop := recCutsRow.holds Try.pinned (OpenSpec.ofChange recCutsSpec)

/-- ITS FALSE NEIGHBOUR: 'it returns false'. Refute it at one input. -/
def recCutsWrong : ChangeSpec := { name := "recCuts", fn := fun _ => fun
  | [d1, d2, d3] => { results := [.lit (.bool false)], args := [d1, d2, d3] }
  | _ => none }
def RecCutsWrongFalsely : Prop := recCutsRow.holds Try.pinned (OpenSpec.ofChange recCutsWrong)

/-- 'cashbooklaw1.RecFronts': WHATEVER THE INPUT: true; the input reads as it did. -/
def recFrontsSpec : ChangeSpec := { name := "recFronts", fn := fun _ => fun
  | [d1, d2] => { results := [.lit (.bool true)], args := [d1, d2] }
  | _ => none }
def recFrontsRow : OpenClaim := { program := "ytcghkmihbfibkaa", sum := "29ee83e5c5f939fbfa522838ee5cec5dc4df42791cfa7244654f1f49ec4c1a92", func := "cashbook/cashbooklaw1.RecFronts", spec := "recFronts", apart := false }
def RecFrontsSaid : Prop := recFrontsRow.holds Try.pinned (OpenSpec.ofChange recFrontsSpec)

/-- ITS FALSE NEIGHBOUR: 'it returns false'. Refute it at one input. -/
def recFrontsWrong : ChangeSpec := { name := "recFronts", fn := fun _ => fun
  | [d1, d2] => { results := [.lit (.bool false)], args := [d1, d2] }
  | _ => none }
def RecFrontsWrongFalsely : Prop := recFrontsRow.holds Try.pinned (OpenSpec.ofChange recFrontsWrong)

/-- 'cashbooklaw1.RecJoins': WHATEVER THE INPUT: true; the input reads as it did. -/
def recJoinsSpec : ChangeSpec := { name := "recJoins", fn := fun _ => fun
  | [d1, d2] => { results := [.lit (.bool true)], args := [d1, d2] }
  | _ => none }
def recJoinsRow : OpenClaim := { program := "ytcghkmihbfibkaa", sum := "29ee83e5c5f939fbfa522838ee5cec5dc4df42791cfa7244654f1f49ec4c1a92", func := "cashbook/cashbooklaw1.RecJoins", spec := "recJoins", apart := false }
def RecJoinsSaid : Prop := recJoinsRow.holds Try.pinned (OpenSpec.ofChange recJoinsSpec)

/-- ITS FALSE NEIGHBOUR: 'it returns false'. Refute it at one input. -/
def recJoinsWrong : ChangeSpec := { name := "recJoins", fn := fun _ => fun
  | [d1, d2] => { results := [.lit (.bool false)], args := [d1, d2] }
  | _ => none }
def RecJoinsWrongFalsely : Prop := recJoinsRow.holds Try.pinned (OpenSpec.ofChange recJoinsWrong)

/- THE SECOND FORM. 'bulk': how many values and letters a reading holds, each counted each time it is reached (what is shared counts as often as it is met; a slice's spare places count too). A statement '..UptoSaid' is the law's where the arguments, and the package variables that the reading takes, are together of bulk at most 1048576: NARROWER than '..Said'. Prove '..Said' where nothing that the law and all that it calls make is longer than what came in: it says more and counts as full. Else prove '..UptoSaid'. A law counts once. -/
mutual
def uptoBulk {H : Type} : DataW H → Nat
  | .lit (.string bytes) => bytes.length + 1
  | .lit _ => 1
  | .nil => 1
  | .ptr d => uptoBulk d + 1
  | .slice elems spare => uptoBulkAll elems + uptoBulkAll spare + 1
  | .agg parts => uptoBulkAll parts + 1
  | .iface _ d => uptoBulk d + 1
  | .map entries => uptoBulkEntries entries + 1
  | .held _ => 1
def uptoBulkAll {H : Type} : List (DataW H) → Nat
  | [] => 0
  | d :: r => uptoBulk d + uptoBulkAll r
def uptoBulkEntries {H : Type} : List (Lit × DataW H) → Nat
  | [] => 0
  | x :: r => uptoBulkEntry x + uptoBulkEntries r
def uptoBulkEntry {H : Type} : Lit × DataW H → Nat
  | (.string bytes, d) => bytes.length + uptoBulk d + 1
  | (_, d) => uptoBulk d + 1
 end
def uptoSmall : (H : Type) → List (DataW H) → Bool := fun _ ds => decide (uptoBulkAll ds ≤ 1048576)
def OpenSpec.upto (s : _root_.Go.ChangeSpec) : _root_.Go.OpenSpec := { _root_.Go.OpenSpec.ofChange s with cond := some uptoSmall }

/-- 'cashbooklaw2.SubSplits', WHERE WHAT IT READS IS OF BULK AT MOST 1048576: true; the input reads as it did. -/
def subSplitsUptoRow : OpenClaim := { program := "ytcghkmihbfibkaa", sum := "29ee83e5c5f939fbfa522838ee5cec5dc4df42791cfa7244654f1f49ec4c1a92", func := "cashbook/cashbooklaw2.SubSplits", spec := "subSplits", apart := false, narrowed := true }
def SubSplitsUptoSaid : Prop := subSplitsUptoRow.holds Try.pinned (OpenSpec.upto subSplitsSpec)

/-- 'cashbooklaw2.SubJoins', WHERE WHAT IT READS IS OF BULK AT MOST 1048576: true; the input reads as it did. -/
def subJoinsUptoRow : OpenClaim := { program := "ytcghkmihbfibkaa", sum := "29ee83e5c5f939fbfa522838ee5cec5dc4df42791cfa7244654f1f49ec4c1a92", func := "cashbook/cashbooklaw2.SubJoins", spec := "subJoins", apart := false, narrowed := true }
def SubJoinsUptoSaid : Prop := subJoinsUptoRow.holds Try.pinned (OpenSpec.upto subJoinsSpec)

/-- 'cashbooklaw2.SubCounts', WHERE WHAT IT READS IS OF BULK AT MOST 1048576: true; the input reads as it did. -/
def subCountsUptoRow : OpenClaim := { program := "ytcghkmihbfibkaa", sum := "29ee83e5c5f939fbfa522838ee5cec5dc4df42791cfa7244654f1f49ec4c1a92", func := "cashbook/cashbooklaw2.SubCounts", spec := "subCounts", apart := false, narrowed := true }
def SubCountsUptoSaid : Prop := subCountsUptoRow.holds Try.pinned (OpenSpec.upto subCountsSpec)

/-- 'cashbooklaw1.RecWrites', WHERE WHAT IT READS IS OF BULK AT MOST 1048576: true; the input reads as it did. -/
def recWritesUptoRow : OpenClaim := { program := "ytcghkmihbfibkaa", sum := "29ee83e5c5f939fbfa522838ee5cec5dc4df42791cfa7244654f1f49ec4c1a92", func := "cashbook/cashbooklaw1.RecWrites", spec := "recWrites", apart := false, narrowed := true }
def RecWritesUptoSaid : Prop := recWritesUptoRow.holds Try.pinned (OpenSpec.upto recWritesSpec)

/-- 'cashbooklaw1.RecCuts', WHERE WHAT IT READS IS OF BULK AT MOST 1048576: true; the input reads as it did. -/
def recCutsUptoRow : OpenClaim := { program := "ytcghkmihbfibkaa", sum := "29ee83e5c5f939fbfa522838ee5cec5dc4df42791cfa7244654f1f49ec4c1a92", func := "cashbook/cashbooklaw1.RecCuts", spec := "recCuts", apart := false, narrowed := true }
def RecCutsUptoSaid : Prop := recCutsUptoRow.holds Try.pinned (OpenSpec.upto recCutsSpec)

/-- 'cashbooklaw1.RecFronts', WHERE WHAT IT READS IS OF BULK AT MOST 1048576: true; the input reads as it did. -/
def recFrontsUptoRow : OpenClaim := { program := "ytcghkmihbfibkaa", sum := "29ee83e5c5f939fbfa522838ee5cec5dc4df42791cfa7244654f1f49ec4c1a92", func := "cashbook/cashbooklaw1.RecFronts", spec := "recFronts", apart := false, narrowed := true }
def RecFrontsUptoSaid : Prop := recFrontsUptoRow.holds Try.pinned (OpenSpec.upto recFrontsSpec)

/-- 'cashbooklaw1.RecJoins', WHERE WHAT IT READS IS OF BULK AT MOST 1048576: true; the input reads as it did. -/
def recJoinsUptoRow : OpenClaim := { program := "ytcghkmihbfibkaa", sum := "29ee83e5c5f939fbfa522838ee5cec5dc4df42791cfa7244654f1f49ec4c1a92", func := "cashbook/cashbooklaw1.RecJoins", spec := "recJoins", apart := false, narrowed := true }
def RecJoinsUptoSaid : Prop := recJoinsUptoRow.holds Try.pinned (OpenSpec.upto recJoinsSpec)

end Rows
end Go.Proofs.Ytcghkmihbfibkaa
