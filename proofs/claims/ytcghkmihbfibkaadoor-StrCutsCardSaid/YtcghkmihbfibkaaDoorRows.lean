/-
  NARROWER THAN 'FOR EVERY INPUT', by the rows' own cells (each row's printed sentence says how): StrCuts: laid · StrUnits: laid · StrRows: laid.
  DERIVED. THE GIVEN ROWS OF THIS SEAT. 3 by the template 'for every input the law returns true; each argument reads behind the call as it read before'; 0 by the template 'total and deterministic' (their statements: YtcghkmihbfibkaaDoorTotals.lean).
  GIVEN WITH THE SEED: the statements are not yours to turn. If you find one false, say at which input.
  Laid BY PROGRAM, IN A SANDBOX (cutbox-rows.mjs): the forced cells as the released guide's own fill.sh prints them over the translation 369bfb235af08831… (all of the seat's roots in one cut). By AI agents, Wed Nov 11 2026. No macro, syntax, notation, axiom, sorry.
-/
import Derived.Test.YtcghkmihbfibkaaDoorChecked
import GoSem.PinnedTables
import GoSem.Claim
import GoSem.ClaimJoined
import GoSem.ClaimMapViews
import Derived.JoinedTies
import Derived.KernelRfl
namespace Go.Proofs.YtcghkmihbfibkaaDoor
/- THE CELL 'sum', in the pinned program and in every row, IS THE sha256 OF THE DUMP (.gsa) THAT YtcghkmihbfibkaaDoorProg.lean LOADS. Nothing in Lean hashes anything: it is a label: what it is worth is what the hold of that sum in a sandbox is worth. -/
noncomputable def Tryd.pinned : Pinned := { name := "ytcghkmihbfibkaadoor", sum := "369bfb235af08831d64ae608f71fab2124fa72425b15d9dad7235c55d2c17dfa", checked := Tryd.checked }
namespace Rows
def none {H : Type} : Left H := { results := [], args := [] }

/- WHAT THE LISTED PACKAGE-LEVEL VARIABLES READ AS WHEN THE CALL BEGINS. Each datum BY PROGRAM (the guide's laid-datum.mjs) off the statement by which the dump's own 'gosem.cut.vars' lays the variable. In a bare row this is a premise. The card (YtcghkmihbfibkaaDoorCards.lean) ties it to the program's text. -/
def laid_unicode_utf8_acceptRanges {H : Type} : DataW H := .agg [.agg [.lit (.int .u8 128), .lit (.int .u8 191)], .agg [.lit (.int .u8 160), .lit (.int .u8 191)], .agg [.lit (.int .u8 128), .lit (.int .u8 159)], .agg [.lit (.int .u8 144), .lit (.int .u8 191)], .agg [.lit (.int .u8 128), .lit (.int .u8 143)], .agg [.lit (.int .u8 0), .lit (.int .u8 0)], .agg [.lit (.int .u8 0), .lit (.int .u8 0)], .agg [.lit (.int .u8 0), .lit (.int .u8 0)], .agg [.lit (.int .u8 0), .lit (.int .u8 0)], .agg [.lit (.int .u8 0), .lit (.int .u8 0)], .agg [.lit (.int .u8 0), .lit (.int .u8 0)], .agg [.lit (.int .u8 0), .lit (.int .u8 0)], .agg [.lit (.int .u8 0), .lit (.int .u8 0)], .agg [.lit (.int .u8 0), .lit (.int .u8 0)], .agg [.lit (.int .u8 0), .lit (.int .u8 0)], .agg [.lit (.int .u8 0), .lit (.int .u8 0)]]
/-- One of Go's own tables, pinned by name: the form's constant. -/
def laid_unicode_utf8_first : DataW Unit := Go.Pinned.utf8First

/-- 'cashbooklaw6.StrCuts': WHATEVER THE INPUT: true; the input reads as it did. -/
def strCutsSpec : ChangeSpec := { name := "strCuts", fn := fun _ => fun
  | [d1, d2, d3] => { results := [.lit (.bool true)], args := [d1, d2, d3] }
  | _ => none }
def strCutsRow : OpenClaim := { program := "ytcghkmihbfibkaadoor", sum := "369bfb235af08831d64ae608f71fab2124fa72425b15d9dad7235c55d2c17dfa", func := "cashbook/cashbooklaw6.StrCuts", spec := "strCuts", named := ["unicode/utf8.first", "unicode/utf8.acceptRanges"], apart := false, laid := [("unicode/utf8.acceptRanges", laid_unicode_utf8_acceptRanges), ("unicode/utf8.first", laid_unicode_utf8_first)] }
def StrCutsSaid : Prop := strCutsRow.holds Tryd.pinned (OpenSpec.ofChange strCutsSpec)

/-- ITS FALSE NEIGHBOUR: 'it returns false'. Refute it at one input. -/
def strCutsWrong : ChangeSpec := { name := "strCuts", fn := fun _ => fun
  | [d1, d2, d3] => { results := [.lit (.bool false)], args := [d1, d2, d3] }
  | _ => none }
def StrCutsWrongFalsely : Prop := strCutsRow.holds Tryd.pinned (OpenSpec.ofChange strCutsWrong)

/-- 'cashbooklaw6.StrUnits': WHATEVER THE INPUT: true; the input reads as it did. -/
def strUnitsSpec : ChangeSpec := { name := "strUnits", fn := fun _ => fun
  | [d1, d2] => { results := [.lit (.bool true)], args := [d1, d2] }
  | _ => none }
def strUnitsRow : OpenClaim := { program := "ytcghkmihbfibkaadoor", sum := "369bfb235af08831d64ae608f71fab2124fa72425b15d9dad7235c55d2c17dfa", func := "cashbook/cashbooklaw6.StrUnits", spec := "strUnits", named := ["unicode/utf8.first", "unicode/utf8.acceptRanges"], apart := false, laid := [("unicode/utf8.acceptRanges", laid_unicode_utf8_acceptRanges), ("unicode/utf8.first", laid_unicode_utf8_first)] }
def StrUnitsSaid : Prop := strUnitsRow.holds Tryd.pinned (OpenSpec.ofChange strUnitsSpec)

/-- ITS FALSE NEIGHBOUR: 'it returns false'. Refute it at one input. -/
def strUnitsWrong : ChangeSpec := { name := "strUnits", fn := fun _ => fun
  | [d1, d2] => { results := [.lit (.bool false)], args := [d1, d2] }
  | _ => none }
def StrUnitsWrongFalsely : Prop := strUnitsRow.holds Tryd.pinned (OpenSpec.ofChange strUnitsWrong)

/-- 'cashbooklaw6.StrRows': WHATEVER THE INPUT: true; the input reads as it did. -/
def strRowsSpec : ChangeSpec := { name := "strRows", fn := fun _ => fun
  | [d] => { results := [.lit (.bool true)], args := [d] }
  | _ => none }
def strRowsRow : OpenClaim := { program := "ytcghkmihbfibkaadoor", sum := "369bfb235af08831d64ae608f71fab2124fa72425b15d9dad7235c55d2c17dfa", func := "cashbook/cashbooklaw6.StrRows", spec := "strRows", named := ["unicode/utf8.first", "unicode/utf8.acceptRanges"], apart := false, laid := [("unicode/utf8.acceptRanges", laid_unicode_utf8_acceptRanges), ("unicode/utf8.first", laid_unicode_utf8_first)] }
def StrRowsSaid : Prop := strRowsRow.holds Tryd.pinned (OpenSpec.ofChange strRowsSpec)

/-- ITS FALSE NEIGHBOUR: 'it returns false'. Refute it at one input. -/
def strRowsWrong : ChangeSpec := { name := "strRows", fn := fun _ => fun
  | [d] => { results := [.lit (.bool false)], args := [d] }
  | _ => none }
def StrRowsWrongFalsely : Prop := strRowsRow.holds Tryd.pinned (OpenSpec.ofChange strRowsWrong)

/- THE SECOND FORM. 'bulk': how many values and letters a reading holds, each counted each time it is reached (what is shared counts as often as it is met; a slice's spare places count too). A statement '..UptoSaid' is the law's where the arguments, and the package variables that the reading takes, are together of bulk at most 1048576: NARROWER than '..Said'. Prove '..Said' where nothing that the law and all that it calls make is longer than what came in: it says more and counts as full. Else prove '..UptoSaid'. A law counts once. -/
mutual
def uptoBulk {H : Type} : DataW H → Nat
  | .lit (.string bytes) => bytes.length + 1
  | .lit _ => 1
  | .nil => 1
  | .ptr d => uptoBulk d + 1
  | .slice elems spare => uptoBulkAll elems + uptoBulkAll spare + 1
  | .agg parts => uptoBulkAll parts + 1
  | .iface _ d => uptoBulk d + 1
  | .map entries => uptoBulkEntries entries + 1
  | .held _ => 1
def uptoBulkAll {H : Type} : List (DataW H) → Nat
  | [] => 0
  | d :: r => uptoBulk d + uptoBulkAll r
def uptoBulkEntries {H : Type} : List (Lit × DataW H) → Nat
  | [] => 0
  | x :: r => uptoBulkEntry x + uptoBulkEntries r
def uptoBulkEntry {H : Type} : Lit × DataW H → Nat
  | (.string bytes, d) => bytes.length + uptoBulk d + 1
  | (_, d) => uptoBulk d + 1
 end
def uptoSmall : (H : Type) → List (DataW H) → Bool := fun _ ds => decide (uptoBulkAll ds ≤ 1048576)
def OpenSpec.upto (s : _root_.Go.ChangeSpec) : _root_.Go.OpenSpec := { _root_.Go.OpenSpec.ofChange s with cond := some uptoSmall }

/-- 'cashbooklaw6.StrCuts', WHERE WHAT IT READS IS OF BULK AT MOST 1048576: true; the input reads as it did. -/
def strCutsUptoRow : OpenClaim := { program := "ytcghkmihbfibkaadoor", sum := "369bfb235af08831d64ae608f71fab2124fa72425b15d9dad7235c55d2c17dfa", func := "cashbook/cashbooklaw6.StrCuts", spec := "strCuts", named := ["unicode/utf8.first", "unicode/utf8.acceptRanges"], apart := false, laid := [("unicode/utf8.acceptRanges", laid_unicode_utf8_acceptRanges), ("unicode/utf8.first", laid_unicode_utf8_first)], narrowed := true }
def StrCutsUptoSaid : Prop := strCutsUptoRow.holds Tryd.pinned (OpenSpec.upto strCutsSpec)

/-- 'cashbooklaw6.StrUnits', WHERE WHAT IT READS IS OF BULK AT MOST 1048576: true; the input reads as it did. -/
def strUnitsUptoRow : OpenClaim := { program := "ytcghkmihbfibkaadoor", sum := "369bfb235af08831d64ae608f71fab2124fa72425b15d9dad7235c55d2c17dfa", func := "cashbook/cashbooklaw6.StrUnits", spec := "strUnits", named := ["unicode/utf8.first", "unicode/utf8.acceptRanges"], apart := false, laid := [("unicode/utf8.acceptRanges", laid_unicode_utf8_acceptRanges), ("unicode/utf8.first", laid_unicode_utf8_first)], narrowed := true }
def StrUnitsUptoSaid : Prop := strUnitsUptoRow.holds Tryd.pinned (OpenSpec.upto strUnitsSpec)

/-- 'cashbooklaw6.StrRows', WHERE WHAT IT READS IS OF BULK AT MOST 1048576: true; the input reads as it did. -/
def strRowsUptoRow : OpenClaim := { program := "ytcghkmihbfibkaadoor", sum := "369bfb235af08831d64ae608f71fab2124fa72425b15d9dad7235c55d2c17dfa", func := "cashbook/cashbooklaw6.StrRows", spec := "strRows", named := ["unicode/utf8.first", "unicode/utf8.acceptRanges"], apart := false, laid := [("unicode/utf8.acceptRanges", laid_unicode_utf8_acceptRanges), ("unicode/utf8.first", laid_unicode_utf8_first)], narrowed := true }
def StrRowsUptoSaid : Prop := strRowsUptoRow.holds Tryd.pinned (OpenSpec.upto strRowsSpec)

end Rows
end Go.Proofs.YtcghkmihbfibkaaDoor
