/-
  No cell of these rows narrows 'for every input' (looked for: loops, veiled, ifaces, maps, wideKeys, modest, calm, conditions, laid).
  DERIVED. THE GIVEN ROWS OF THIS SEAT. 10 by the template 'for every input the law returns true; each argument reads behind the call as it read before'; 0 by the template 'total and deterministic' (their statements: YtnbllonnfbejgaaTotals.lean).
  GIVEN WITH THE SEED: the statements are not yours to turn. If you find one false, say at which input.
  Laid BY PROGRAM, IN A SANDBOX (cutbox-rows.mjs): the forced cells as the released guide's own fill.sh prints them over the translation b9dfd3ea4ea9d151… (all of the seat's roots in one cut). By AI agents, Wed Nov 11 2026. No macro, syntax, notation, axiom, sorry.
-/
import Derived.Test.YtnbllonnfbejgaaChecked
import GoSem.Claim
import GoSem.ClaimJoined
import GoSem.ClaimMapViews
import Derived.JoinedTies
import Derived.KernelRfl
namespace Go.Proofs.Ytnbllonnfbejgaa
/- THE CELL 'sum', in the pinned program and in every row, IS THE sha256 OF THE DUMP (.gsa) THAT YtnbllonnfbejgaaProg.lean LOADS. Nothing in Lean hashes anything: it is a label: what it is worth is what the hold of that sum in a sandbox is worth. -/
noncomputable def Try.pinned : Pinned := { name := "ytnbllonnfbejgaa", sum := "b9dfd3ea4ea9d1511ae30ab3989ac85d42135d706915dc2545c1a0783a6fe77b", checked := Try.checked }
namespace Rows
def none {H : Type} : Left H := { results := [], args := [] }

/-- 'cashbooklaw5.RkPacks': WHATEVER THE INPUT: true; the input reads as it did. -/
def rkPacksSpec : ChangeSpec := { name := "rkPacks", fn := fun _ => fun
  | [d] => { results := [.lit (.bool true)], args := [d] }
  | _ => none }
def rkPacksRow : OpenClaim := { program := "ytnbllonnfbejgaa", sum := "b9dfd3ea4ea9d1511ae30ab3989ac85d42135d706915dc2545c1a0783a6fe77b", func := "cashbook/cashbooklaw5.RkPacks", spec := "rkPacks", apart := false }
def RkPacksSaid : Prop := rkPacksRow.holds Try.pinned (OpenSpec.ofChange rkPacksSpec)

/-- ITS FALSE NEIGHBOUR: 'it returns false'. Refute it at one input. -/
def rkPacksWrong : ChangeSpec := { name := "rkPacks", fn := fun _ => fun
  | [d] => { results := [.lit (.bool false)], args := [d] }
  | _ => none }
def RkPacksWrongFalsely : Prop := rkPacksRow.holds Try.pinned (OpenSpec.ofChange rkPacksWrong)

/-- 'cashbooklaw5.RkUnpacks': WHATEVER THE INPUT: true; the input reads as it did. -/
def rkUnpacksSpec : ChangeSpec := { name := "rkUnpacks", fn := fun _ => fun
  | [d] => { results := [.lit (.bool true)], args := [d] }
  | _ => none }
def rkUnpacksRow : OpenClaim := { program := "ytnbllonnfbejgaa", sum := "b9dfd3ea4ea9d1511ae30ab3989ac85d42135d706915dc2545c1a0783a6fe77b", func := "cashbook/cashbooklaw5.RkUnpacks", spec := "rkUnpacks", apart := false }
def RkUnpacksSaid : Prop := rkUnpacksRow.holds Try.pinned (OpenSpec.ofChange rkUnpacksSpec)

/-- ITS FALSE NEIGHBOUR: 'it returns false'. Refute it at one input. -/
def rkUnpacksWrong : ChangeSpec := { name := "rkUnpacks", fn := fun _ => fun
  | [d] => { results := [.lit (.bool false)], args := [d] }
  | _ => none }
def RkUnpacksWrongFalsely : Prop := rkUnpacksRow.holds Try.pinned (OpenSpec.ofChange rkUnpacksWrong)

/-- 'cashbooklaw5.RkEdges': WHATEVER THE INPUT: true; the input reads as it did. -/
def rkEdgesSpec : ChangeSpec := { name := "rkEdges", fn := fun _ => fun
  | [d1, d2, d3] => { results := [.lit (.bool true)], args := [d1, d2, d3] }
  | _ => none }
def rkEdgesRow : OpenClaim := { program := "ytnbllonnfbejgaa", sum := "b9dfd3ea4ea9d1511ae30ab3989ac85d42135d706915dc2545c1a0783a6fe77b", func := "cashbook/cashbooklaw5.RkEdges", spec := "rkEdges", apart := false }
def RkEdgesSaid : Prop := rkEdgesRow.holds Try.pinned (OpenSpec.ofChange rkEdgesSpec)

/-- ITS FALSE NEIGHBOUR: 'it returns false'. Refute it at one input. -/
def rkEdgesWrong : ChangeSpec := { name := "rkEdges", fn := fun _ => fun
  | [d1, d2, d3] => { results := [.lit (.bool false)], args := [d1, d2, d3] }
  | _ => none }
def RkEdgesWrongFalsely : Prop := rkEdgesRow.holds Try.pinned (OpenSpec.ofChange rkEdgesWrong)

/-- 'cashbooklaw5.RkApart': WHATEVER THE INPUT: true; the input reads as it did. -/
def rkApartSpec : ChangeSpec := { name := "rkApart", fn := fun _ => fun
  | [d1, d2, d3, d4] => { results := [.lit (.bool true)], args := [d1, d2, d3, d4] }
  | _ => none }
def rkApartRow : OpenClaim := { program := "ytnbllonnfbejgaa", sum := "b9dfd3ea4ea9d1511ae30ab3989ac85d42135d706915dc2545c1a0783a6fe77b", func := "cashbook/cashbooklaw5.RkApart", spec := "rkApart", apart := false }
def RkApartSaid : Prop := rkApartRow.holds Try.pinned (OpenSpec.ofChange rkApartSpec)

/-- ITS FALSE NEIGHBOUR: 'it returns false'. Refute it at one input. -/
def rkApartWrong : ChangeSpec := { name := "rkApart", fn := fun _ => fun
  | [d1, d2, d3, d4] => { results := [.lit (.bool false)], args := [d1, d2, d3, d4] }
  | _ => none }
def RkApartWrongFalsely : Prop := rkApartRow.holds Try.pinned (OpenSpec.ofChange rkApartWrong)

/-- 'cashbooklaw3.LeReads': WHATEVER THE INPUT: true; the input reads as it did. -/
def leReadsSpec : ChangeSpec := { name := "leReads", fn := fun _ => fun
  | [d1, d2, d3] => { results := [.lit (.bool true)], args := [d1, d2, d3] }
  | _ => none }
def leReadsRow : OpenClaim := { program := "ytnbllonnfbejgaa", sum := "b9dfd3ea4ea9d1511ae30ab3989ac85d42135d706915dc2545c1a0783a6fe77b", func := "cashbook/cashbooklaw3.LeReads", spec := "leReads", apart := false }
def LeReadsSaid : Prop := leReadsRow.holds Try.pinned (OpenSpec.ofChange leReadsSpec)

/-- ITS FALSE NEIGHBOUR: 'it returns false'. Refute it at one input. -/
def leReadsWrong : ChangeSpec := { name := "leReads", fn := fun _ => fun
  | [d1, d2, d3] => { results := [.lit (.bool false)], args := [d1, d2, d3] }
  | _ => none }
def LeReadsWrongFalsely : Prop := leReadsRow.holds Try.pinned (OpenSpec.ofChange leReadsWrong)

/-- 'cashbooklaw3.LeWrites': WHATEVER THE INPUT: true; the input reads as it did. -/
def leWritesSpec : ChangeSpec := { name := "leWrites", fn := fun _ => fun
  | [d1, d2, d3, d4] => { results := [.lit (.bool true)], args := [d1, d2, d3, d4] }
  | _ => none }
def leWritesRow : OpenClaim := { program := "ytnbllonnfbejgaa", sum := "b9dfd3ea4ea9d1511ae30ab3989ac85d42135d706915dc2545c1a0783a6fe77b", func := "cashbook/cashbooklaw3.LeWrites", spec := "leWrites", apart := false }
def LeWritesSaid : Prop := leWritesRow.holds Try.pinned (OpenSpec.ofChange leWritesSpec)

/-- ITS FALSE NEIGHBOUR: 'it returns false'. Refute it at one input. -/
def leWritesWrong : ChangeSpec := { name := "leWrites", fn := fun _ => fun
  | [d1, d2, d3, d4] => { results := [.lit (.bool false)], args := [d1, d2, d3, d4] }
  | _ => none }
def LeWritesWrongFalsely : Prop := leWritesRow.holds Try.pinned (OpenSpec.ofChange leWritesWrong)

/-- 'cashbooklaw3.LeRows': WHATEVER THE INPUT: true; the input reads as it did. -/
def leRowsSpec : ChangeSpec := { name := "leRows", fn := fun _ => fun
  | [d1, d2] => { results := [.lit (.bool true)], args := [d1, d2] }
  | _ => none }
def leRowsRow : OpenClaim := { program := "ytnbllonnfbejgaa", sum := "b9dfd3ea4ea9d1511ae30ab3989ac85d42135d706915dc2545c1a0783a6fe77b", func := "cashbook/cashbooklaw3.LeRows", spec := "leRows", apart := false }
def LeRowsSaid : Prop := leRowsRow.holds Try.pinned (OpenSpec.ofChange leRowsSpec)

/-- ITS FALSE NEIGHBOUR: 'it returns false'. Refute it at one input. -/
def leRowsWrong : ChangeSpec := { name := "leRows", fn := fun _ => fun
  | [d1, d2] => { results := [.lit (.bool false)], args := [d1, d2] }
  | _ => none }
def LeRowsWrongFalsely : Prop := leRowsRow.holds Try.pinned (OpenSpec.ofChange leRowsWrong)

/-- 'cashbooklaw3.LeBytes': WHATEVER THE INPUT: true; the input reads as it did. -/
def leBytesSpec : ChangeSpec := { name := "leBytes", fn := fun _ => fun
  | [d1, d2] => { results := [.lit (.bool true)], args := [d1, d2] }
  | _ => none }
def leBytesRow : OpenClaim := { program := "ytnbllonnfbejgaa", sum := "b9dfd3ea4ea9d1511ae30ab3989ac85d42135d706915dc2545c1a0783a6fe77b", func := "cashbook/cashbooklaw3.LeBytes", spec := "leBytes", apart := false }
def LeBytesSaid : Prop := leBytesRow.holds Try.pinned (OpenSpec.ofChange leBytesSpec)

/-- ITS FALSE NEIGHBOUR: 'it returns false'. Refute it at one input. -/
def leBytesWrong : ChangeSpec := { name := "leBytes", fn := fun _ => fun
  | [d1, d2] => { results := [.lit (.bool false)], args := [d1, d2] }
  | _ => none }
def LeBytesWrongFalsely : Prop := leBytesRow.holds Try.pinned (OpenSpec.ofChange leBytesWrong)

/-- 'cashbooklaw2.SubSplits': WHATEVER THE INPUT: true; the input reads as it did. -/
def subSplitsSpec : ChangeSpec := { name := "subSplits", fn := fun _ => fun
  | [d] => { results := [.lit (.bool true)], args := [d] }
  | _ => none }
def subSplitsRow : OpenClaim := { program := "ytnbllonnfbejgaa", sum := "b9dfd3ea4ea9d1511ae30ab3989ac85d42135d706915dc2545c1a0783a6fe77b", func := "cashbook/cashbooklaw2.SubSplits", spec := "subSplits", apart := false }
def SubSplitsSaid : Prop := subSplitsRow.holds Try.pinned (OpenSpec.ofChange subSplitsSpec)

/-- ITS FALSE NEIGHBOUR: 'it returns false'. Refute it at one input. -/
def subSplitsWrong : ChangeSpec := { name := "subSplits", fn := fun _ => fun
  | [d] => { results := [.lit (.bool false)], args := [d] }
  | _ => none }
def SubSplitsWrongFalsely : Prop := subSplitsRow.holds Try.pinned (OpenSpec.ofChange subSplitsWrong)

/-- 'cashbooklaw2.SubJoins': WHATEVER THE INPUT: true; the input reads as it did. -/
def subJoinsSpec : ChangeSpec := { name := "subJoins", fn := fun _ => fun
  | [d] => { results := [.lit (.bool true)], args := [d] }
  | _ => none }
def subJoinsRow : OpenClaim := { program := "ytnbllonnfbejgaa", sum := "b9dfd3ea4ea9d1511ae30ab3989ac85d42135d706915dc2545c1a0783a6fe77b", func := "cashbook/cashbooklaw2.SubJoins", spec := "subJoins", apart := false }
def SubJoinsSaid : Prop := subJoinsRow.holds Try.pinned (OpenSpec.ofChange subJoinsSpec)

/-- ITS FALSE NEIGHBOUR: 'it returns false'. Refute it at one input. -/
def subJoinsWrong : ChangeSpec := { name := "subJoins", fn := fun _ => fun
  | [d] => { results := [.lit (.bool false)], args := [d] }
  | _ => none }
def SubJoinsWrongFalsely : Prop := subJoinsRow.holds Try.pinned (OpenSpec.ofChange subJoinsWrong)

/- THE SECOND FORM. 'bulk': how many values and letters a reading holds, each counted each time it is reached (what is shared counts as often as it is met; a slice's spare places count too). A statement '..UptoSaid' is the law's where the arguments, and the package variables that the reading takes, are together of bulk at most 1048576: NARROWER than '..Said'. Prove '..Said' where nothing that the law and all that it calls make is longer than what came in: it says more and counts as full. Else prove '..UptoSaid'. A law counts once. -/
mutual
def uptoBulk {H : Type} : DataW H → Nat
  | .lit (.string bytes) => bytes.length + 1
  | .lit _ => 1
  | .nil => 1
  | .ptr d => uptoBulk d + 1
  | .slice elems spare => uptoBulkAll elems + uptoBulkAll spare + 1
  | .agg parts => uptoBulkAll parts + 1
  | .iface _ d => uptoBulk d + 1
  | .map entries => uptoBulkEntries entries + 1
  | .held _ => 1
def uptoBulkAll {H : Type} : List (DataW H) → Nat
  | [] => 0
  | d :: r => uptoBulk d + uptoBulkAll r
def uptoBulkEntries {H : Type} : List (Lit × DataW H) → Nat
  | [] => 0
  | x :: r => uptoBulkEntry x + uptoBulkEntries r
def uptoBulkEntry {H : Type} : Lit × DataW H → Nat
  | (.string bytes, d) => bytes.length + uptoBulk d + 1
  | (_, d) => uptoBulk d + 1
 end
def uptoSmall : (H : Type) → List (DataW H) → Bool := fun _ ds => decide (uptoBulkAll ds ≤ 1048576)
def OpenSpec.upto (s : _root_.Go.ChangeSpec) : _root_.Go.OpenSpec := { _root_.Go.OpenSpec.ofChange s with cond := some uptoSmall }

/-- 'cashbooklaw5.RkPacks', WHERE WHAT IT READS IS OF BULK AT MOST 1048576: true; the input reads as it did. -/
def rkPacksUptoRow : OpenClaim := { program := "ytnbllonnfbejgaa", sum := "b9dfd3ea4ea9d1511ae30ab3989ac85d42135d706915dc2545c1a0783a6fe77b", func := "cashbook/cashbooklaw5.RkPacks", spec := "rkPacks", apart := false, narrowed := true }
def RkPacksUptoSaid : Prop := rkPacksUptoRow.holds Try.pinned (OpenSpec.upto rkPacksSpec)

/-- 'cashbooklaw5.RkUnpacks', WHERE WHAT IT READS IS OF BULK AT MOST 1048576: true; the input reads as it did. -/
def rkUnpacksUptoRow : OpenClaim := { program := "ytnbllonnfbejgaa", sum := "b9dfd3ea4ea9d1511ae30ab3989ac85d42135d706915dc2545c1a0783a6fe77b", func := "cashbook/cashbooklaw5.RkUnpacks", spec := "rkUnpacks", apart := false, narrowed := true }
def RkUnpacksUptoSaid : Prop := rkUnpacksUptoRow.holds Try.pinned (OpenSpec.upto rkUnpacksSpec)

/-- 'cashbooklaw5.RkEdges', WHERE WHAT IT READS IS OF BULK AT MOST 1048576: true; the input reads as it did. -/
def rkEdgesUptoRow : OpenClaim := { program := "ytnbllonnfbejgaa", sum := "b9dfd3ea4ea9d1511ae30ab3989ac85d42135d706915dc2545c1a0783a6fe77b", func := "cashbook/cashbooklaw5.RkEdges", spec := "rkEdges", apart := false, narrowed := true }
def RkEdgesUptoSaid : Prop := rkEdgesUptoRow.holds Try.pinned (OpenSpec.upto rkEdgesSpec)

/-- 'cashbooklaw5.RkApart', WHERE WHAT IT READS IS OF BULK AT MOST 1048576: true; the input reads as it did. -/
def rkApartUptoRow : OpenClaim := { program := "ytnbllonnfbejgaa", sum := "b9dfd3ea4ea9d1511ae30ab3989ac85d42135d706915dc2545c1a0783a6fe77b", func := "cashbook/cashbooklaw5.RkApart", spec := "rkApart", apart := false, narrowed := true }
def RkApartUptoSaid : Prop := rkApartUptoRow.holds Try.pinned (OpenSpec.upto rkApartSpec)

/-- 'cashbooklaw3.LeReads', WHERE WHAT IT READS IS OF BULK AT MOST 1048576: true; the input reads as it did. -/
def leReadsUptoRow : OpenClaim := { program := "ytnbllonnfbejgaa", sum := "b9dfd3ea4ea9d1511ae30ab3989ac85d42135d706915dc2545c1a0783a6fe77b", func := "cashbook/cashbooklaw3.LeReads", spec := "leReads", apart := false, narrowed := true }
def LeReadsUptoSaid : Prop := leReadsUptoRow.holds Try.pinned (OpenSpec.upto leReadsSpec)

/-- 'cashbooklaw3.LeWrites', WHERE WHAT IT READS IS OF BULK AT MOST 1048576: true; the input reads as it did. -/
def leWritesUptoRow : OpenClaim := { program := "ytnbllonnfbejgaa", sum := "b9dfd3ea4ea9d1511ae30ab3989ac85d42135d706915dc2545c1a0783a6fe77b", func := "cashbook/cashbooklaw3.LeWrites", spec := "leWrites", apart := false, narrowed := true }
def LeWritesUptoSaid : Prop := leWritesUptoRow.holds Try.pinned (OpenSpec.upto leWritesSpec)

/-- 'cashbooklaw3.LeRows', WHERE WHAT IT READS IS OF BULK AT MOST 1048576: true; the input reads as it did. -/
def leRowsUptoRow : OpenClaim := { program := "ytnbllonnfbejgaa", sum := "b9dfd3ea4ea9d1511ae30ab3989ac85d42135d706915dc2545c1a0783a6fe77b", func := "cashbook/cashbooklaw3.LeRows", spec := "leRows", apart := false, narrowed := true }
def LeRowsUptoSaid : Prop := leRowsUptoRow.holds Try.pinned (OpenSpec.upto leRowsSpec)

/-- 'cashbooklaw3.LeBytes', WHERE WHAT IT READS IS OF BULK AT MOST 1048576: true; the input reads as it did. -/
def leBytesUptoRow : OpenClaim := { program := "ytnbllonnfbejgaa", sum := "b9dfd3ea4ea9d1511ae30ab3989ac85d42135d706915dc2545c1a0783a6fe77b", func := "cashbook/cashbooklaw3.LeBytes", spec := "leBytes", apart := false, narrowed := true }
def LeBytesUptoSaid : Prop := leBytesUptoRow.holds Try.pinned (OpenSpec.upto leBytesSpec)

/-- 'cashbooklaw2.SubSplits', WHERE WHAT IT READS IS OF BULK AT MOST 1048576: true; the input reads as it did. -/
def subSplitsUptoRow : OpenClaim := { program := "ytnbllonnfbejgaa", sum := "b9dfd3ea4ea9d1511ae30ab3989ac85d42135d706915dc2545c1a0783a6fe77b", func := "cashbook/cashbooklaw2.SubSplits", spec := "subSplits", apart := false, narrowed := true }
def SubSplitsUptoSaid : Prop := subSplitsUptoRow.holds Try.pinned (OpenSpec.upto subSplitsSpec)

/-- 'cashbooklaw2.SubJoins', WHERE WHAT IT READS IS OF BULK AT MOST 1048576: true; the input reads as it did. -/
def subJoinsUptoRow : OpenClaim := { program := "ytnbllonnfbejgaa", sum := "b9dfd3ea4ea9d1511ae30ab3989ac85d42135d706915dc2545c1a0783a6fe77b", func := "cashbook/cashbooklaw2.SubJoins", spec := "subJoins", apart := false, narrowed := true }
def SubJoinsUptoSaid : Prop := subJoinsUptoRow.holds Try.pinned (OpenSpec.upto subJoinsSpec)

end Rows
end Go.Proofs.Ytnbllonnfbejgaa
