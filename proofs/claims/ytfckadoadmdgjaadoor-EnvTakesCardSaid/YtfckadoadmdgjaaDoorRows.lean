/-
  NARROWER THAN 'FOR EVERY INPUT', by the rows' own cells (each row's printed sentence says how): ExprAny: loops, laid · ExprParts: loops, laid · ExprBrackets: loops, laid · ExprRefs: loops, laid · EnvPuts: laid · EnvTakes: loops, laid · EnvLess: laid.
  DERIVED. THE GIVEN ROWS OF THIS SEAT. 7 by the template 'for every input the law returns true; each argument reads behind the call as it read before'; 0 by the template 'total and deterministic' (their statements: YtfckadoadmdgjaaDoorTotals.lean).
  GIVEN WITH THE SEED: the statements are not yours to turn. If you find one false, say at which input.
  Laid BY PROGRAM, IN A SANDBOX (cutbox-rows.mjs): the forced cells as the released guide's own fill.sh prints them over the translation 68f9cca531633af7… (all of the seat's roots in one cut). By AI agents, Wed Nov 11 2026. No macro, syntax, notation, axiom, sorry.
-/
import Derived.Test.YtfckadoadmdgjaaDoorChecked
import GoSem.PinnedTables
import GoSem.Claim
import GoSem.ClaimJoined
import GoSem.ClaimMapViews
import Derived.JoinedTies
import Derived.KernelRfl
namespace Go.Proofs.YtfckadoadmdgjaaDoor
/- THE CELL 'sum', in the pinned program and in every row, IS THE sha256 OF THE DUMP (.gsa) THAT YtfckadoadmdgjaaDoorProg.lean LOADS. Nothing in Lean hashes anything: it is a label: what it is worth is what the hold of that sum in a sandbox is worth. -/
noncomputable def Tryd.pinned : Pinned := { name := "ytfckadoadmdgjaadoor", sum := "68f9cca531633af7031bf5147fba160c525793c2767b78b6cf786e38f655bc9c", checked := Tryd.checked }
namespace Rows
def none {H : Type} : Left H := { results := [], args := [] }

/- WHAT THE LISTED PACKAGE-LEVEL VARIABLES READ AS WHEN THE CALL BEGINS. Each datum BY PROGRAM (the guide's laid-datum.mjs) off the statement by which the dump's own 'gosem.cut.vars' lays the variable. In a bare row this is a premise. The card (YtfckadoadmdgjaaDoorCards.lean) ties it to the program's text. -/
def laid_unicode_utf8_acceptRanges {H : Type} : DataW H := .agg [.agg [.lit (.int .u8 128), .lit (.int .u8 191)], .agg [.lit (.int .u8 160), .lit (.int .u8 191)], .agg [.lit (.int .u8 128), .lit (.int .u8 159)], .agg [.lit (.int .u8 144), .lit (.int .u8 191)], .agg [.lit (.int .u8 128), .lit (.int .u8 143)], .agg [.lit (.int .u8 0), .lit (.int .u8 0)], .agg [.lit (.int .u8 0), .lit (.int .u8 0)], .agg [.lit (.int .u8 0), .lit (.int .u8 0)], .agg [.lit (.int .u8 0), .lit (.int .u8 0)], .agg [.lit (.int .u8 0), .lit (.int .u8 0)], .agg [.lit (.int .u8 0), .lit (.int .u8 0)], .agg [.lit (.int .u8 0), .lit (.int .u8 0)], .agg [.lit (.int .u8 0), .lit (.int .u8 0)], .agg [.lit (.int .u8 0), .lit (.int .u8 0)], .agg [.lit (.int .u8 0), .lit (.int .u8 0)], .agg [.lit (.int .u8 0), .lit (.int .u8 0)]]
/-- One of Go's own tables, pinned by name: the form's constant. -/
def laid_unicode_utf8_first : DataW Unit := Go.Pinned.utf8First

/-- 'cashbooklaw10.ExprAny': WHATEVER THE INPUT: true; the input reads as it did. -/
def exprAnySpec : ChangeSpec := { name := "exprAny", fn := fun _ => fun
  | [d1, d2] => { results := [.lit (.bool true)], args := [d1, d2] }
  | _ => none }
def exprAnyRow : OpenClaim := { program := "ytfckadoadmdgjaadoor", sum := "68f9cca531633af7031bf5147fba160c525793c2767b78b6cf786e38f655bc9c", func := "cashbook/cashbooklaw10.ExprAny", spec := "exprAny", unfollowed := true, recurses := true, named := ["unicode/utf8.first", "unicode/utf8.acceptRanges"], loops := true, apart := false, laid := [("unicode/utf8.acceptRanges", laid_unicode_utf8_acceptRanges), ("unicode/utf8.first", laid_unicode_utf8_first)] }
def ExprAnySaid : Prop := exprAnyRow.holds Tryd.pinned (OpenSpec.ofChange exprAnySpec)

/-- ITS FALSE NEIGHBOUR: 'it returns false'. Refute it at one input. -/
def exprAnyWrong : ChangeSpec := { name := "exprAny", fn := fun _ => fun
  | [d1, d2] => { results := [.lit (.bool false)], args := [d1, d2] }
  | _ => none }
def ExprAnyWrongFalsely : Prop := exprAnyRow.holds Tryd.pinned (OpenSpec.ofChange exprAnyWrong)

/-- 'cashbooklaw10.ExprParts': WHATEVER THE INPUT: true; the input reads as it did. -/
def exprPartsSpec : ChangeSpec := { name := "exprParts", fn := fun _ => fun
  | [d1, d2] => { results := [.lit (.bool true)], args := [d1, d2] }
  | _ => none }
def exprPartsRow : OpenClaim := { program := "ytfckadoadmdgjaadoor", sum := "68f9cca531633af7031bf5147fba160c525793c2767b78b6cf786e38f655bc9c", func := "cashbook/cashbooklaw10.ExprParts", spec := "exprParts", unfollowed := true, recurses := true, named := ["unicode/utf8.first", "unicode/utf8.acceptRanges"], loops := true, apart := false, laid := [("unicode/utf8.acceptRanges", laid_unicode_utf8_acceptRanges), ("unicode/utf8.first", laid_unicode_utf8_first)] }
def ExprPartsSaid : Prop := exprPartsRow.holds Tryd.pinned (OpenSpec.ofChange exprPartsSpec)

/-- ITS FALSE NEIGHBOUR: 'it returns false'. Refute it at one input. -/
def exprPartsWrong : ChangeSpec := { name := "exprParts", fn := fun _ => fun
  | [d1, d2] => { results := [.lit (.bool false)], args := [d1, d2] }
  | _ => none }
def ExprPartsWrongFalsely : Prop := exprPartsRow.holds Tryd.pinned (OpenSpec.ofChange exprPartsWrong)

/-- 'cashbooklaw10.ExprBrackets': WHATEVER THE INPUT: true; the input reads as it did. -/
def exprBracketsSpec : ChangeSpec := { name := "exprBrackets", fn := fun _ => fun
  | [d1, d2] => { results := [.lit (.bool true)], args := [d1, d2] }
  | _ => none }
def exprBracketsRow : OpenClaim := { program := "ytfckadoadmdgjaadoor", sum := "68f9cca531633af7031bf5147fba160c525793c2767b78b6cf786e38f655bc9c", func := "cashbook/cashbooklaw10.ExprBrackets", spec := "exprBrackets", unfollowed := true, recurses := true, named := ["unicode/utf8.first", "unicode/utf8.acceptRanges"], loops := true, apart := false, laid := [("unicode/utf8.acceptRanges", laid_unicode_utf8_acceptRanges), ("unicode/utf8.first", laid_unicode_utf8_first)] }
def ExprBracketsSaid : Prop := exprBracketsRow.holds Tryd.pinned (OpenSpec.ofChange exprBracketsSpec)

/-- ITS FALSE NEIGHBOUR: 'it returns false'. Refute it at one input. -/
def exprBracketsWrong : ChangeSpec := { name := "exprBrackets", fn := fun _ => fun
  | [d1, d2] => { results := [.lit (.bool false)], args := [d1, d2] }
  | _ => none }
def ExprBracketsWrongFalsely : Prop := exprBracketsRow.holds Tryd.pinned (OpenSpec.ofChange exprBracketsWrong)

/-- 'cashbooklaw10.ExprRefs': WHATEVER THE INPUT: true; the input reads as it did. -/
def exprRefsSpec : ChangeSpec := { name := "exprRefs", fn := fun _ => fun
  | [d1, d2] => { results := [.lit (.bool true)], args := [d1, d2] }
  | _ => none }
def exprRefsRow : OpenClaim := { program := "ytfckadoadmdgjaadoor", sum := "68f9cca531633af7031bf5147fba160c525793c2767b78b6cf786e38f655bc9c", func := "cashbook/cashbooklaw10.ExprRefs", spec := "exprRefs", unfollowed := true, recurses := true, named := ["unicode/utf8.first", "unicode/utf8.acceptRanges"], loops := true, apart := false, laid := [("unicode/utf8.acceptRanges", laid_unicode_utf8_acceptRanges), ("unicode/utf8.first", laid_unicode_utf8_first)] }
def ExprRefsSaid : Prop := exprRefsRow.holds Tryd.pinned (OpenSpec.ofChange exprRefsSpec)

/-- ITS FALSE NEIGHBOUR: 'it returns false'. Refute it at one input. -/
def exprRefsWrong : ChangeSpec := { name := "exprRefs", fn := fun _ => fun
  | [d1, d2] => { results := [.lit (.bool false)], args := [d1, d2] }
  | _ => none }
def ExprRefsWrongFalsely : Prop := exprRefsRow.holds Tryd.pinned (OpenSpec.ofChange exprRefsWrong)

/-- 'cashbooklaw14.EnvPuts': WHATEVER THE INPUT: true; the input reads as it did. -/
def envPutsSpec : ChangeSpec := { name := "envPuts", fn := fun _ => fun
  | [d1, d2] => { results := [.lit (.bool true)], args := [d1, d2] }
  | _ => none }
def envPutsRow : OpenClaim := { program := "ytfckadoadmdgjaadoor", sum := "68f9cca531633af7031bf5147fba160c525793c2767b78b6cf786e38f655bc9c", func := "cashbook/cashbooklaw14.EnvPuts", spec := "envPuts", inPlace := ["slices.overlaps[cashbook/env.Slot]"], unfollowed := true, recurses := true, named := ["unicode/utf8.first", "unicode/utf8.acceptRanges"], apart := false, laid := [("unicode/utf8.acceptRanges", laid_unicode_utf8_acceptRanges), ("unicode/utf8.first", laid_unicode_utf8_first)] }
def EnvPutsSaid : Prop := envPutsRow.holds Tryd.pinned (OpenSpec.ofChange envPutsSpec)

/-- ITS FALSE NEIGHBOUR: 'it returns false'. Refute it at one input. -/
def envPutsWrong : ChangeSpec := { name := "envPuts", fn := fun _ => fun
  | [d1, d2] => { results := [.lit (.bool false)], args := [d1, d2] }
  | _ => none }
def EnvPutsWrongFalsely : Prop := envPutsRow.holds Tryd.pinned (OpenSpec.ofChange envPutsWrong)

/-- 'cashbooklaw14.EnvTakes': WHATEVER THE INPUT: true; the input reads as it did. -/
def envTakesSpec : ChangeSpec := { name := "envTakes", fn := fun _ => fun
  | [d1, d2, d3] => { results := [.lit (.bool true)], args := [d1, d2, d3] }
  | _ => none }
def envTakesRow : OpenClaim := { program := "ytfckadoadmdgjaadoor", sum := "68f9cca531633af7031bf5147fba160c525793c2767b78b6cf786e38f655bc9c", func := "cashbook/cashbooklaw14.EnvTakes", spec := "envTakes", inPlace := ["slices.overlaps[cashbook/env.Slot]"], unfollowed := true, recurses := true, named := ["unicode/utf8.first", "unicode/utf8.acceptRanges"], loops := true, apart := false, laid := [("unicode/utf8.acceptRanges", laid_unicode_utf8_acceptRanges), ("unicode/utf8.first", laid_unicode_utf8_first)] }
def EnvTakesSaid : Prop := envTakesRow.holds Tryd.pinned (OpenSpec.ofChange envTakesSpec)

/-- ITS FALSE NEIGHBOUR: 'it returns false'. Refute it at one input. -/
def envTakesWrong : ChangeSpec := { name := "envTakes", fn := fun _ => fun
  | [d1, d2, d3] => { results := [.lit (.bool false)], args := [d1, d2, d3] }
  | _ => none }
def EnvTakesWrongFalsely : Prop := envTakesRow.holds Tryd.pinned (OpenSpec.ofChange envTakesWrong)

/-- 'cashbooklaw14.EnvLess': WHATEVER THE INPUT: true; the input reads as it did. -/
def envLessSpec : ChangeSpec := { name := "envLess", fn := fun _ => fun
  | [d1, d2, d3] => { results := [.lit (.bool true)], args := [d1, d2, d3] }
  | _ => none }
def envLessRow : OpenClaim := { program := "ytfckadoadmdgjaadoor", sum := "68f9cca531633af7031bf5147fba160c525793c2767b78b6cf786e38f655bc9c", func := "cashbook/cashbooklaw14.EnvLess", spec := "envLess", inPlace := ["slices.overlaps[cashbook/env.Slot]"], unfollowed := true, recurses := true, named := ["unicode/utf8.first", "unicode/utf8.acceptRanges"], apart := false, laid := [("unicode/utf8.acceptRanges", laid_unicode_utf8_acceptRanges), ("unicode/utf8.first", laid_unicode_utf8_first)] }
def EnvLessSaid : Prop := envLessRow.holds Tryd.pinned (OpenSpec.ofChange envLessSpec)

/-- ITS FALSE NEIGHBOUR: 'it returns false'. Refute it at one input. -/
def envLessWrong : ChangeSpec := { name := "envLess", fn := fun _ => fun
  | [d1, d2, d3] => { results := [.lit (.bool false)], args := [d1, d2, d3] }
  | _ => none }
def EnvLessWrongFalsely : Prop := envLessRow.holds Tryd.pinned (OpenSpec.ofChange envLessWrong)

/- THE SECOND FORM. 'bulk': how many values and letters a reading holds, each counted each time it is reached (what is shared counts as often as it is met; a slice's spare places count too). A statement '..UptoSaid' is the law's where the arguments, and the package variables that the reading takes, are together of bulk at most 1048576: NARROWER than '..Said'. Prove '..Said' where nothing that the law and all that it calls make is longer than what came in: it says more and counts as full. Else prove '..UptoSaid'. A law counts once. -/
mutual
def uptoBulk {H : Type} : DataW H → Nat
  | .lit (.string bytes) => bytes.length + 1
  | .lit _ => 1
  | .nil => 1
  | .ptr d => uptoBulk d + 1
  | .slice elems spare => uptoBulkAll elems + uptoBulkAll spare + 1
  | .agg parts => uptoBulkAll parts + 1
  | .iface _ d => uptoBulk d + 1
  | .map entries => uptoBulkEntries entries + 1
  | .held _ => 1
def uptoBulkAll {H : Type} : List (DataW H) → Nat
  | [] => 0
  | d :: r => uptoBulk d + uptoBulkAll r
def uptoBulkEntries {H : Type} : List (Lit × DataW H) → Nat
  | [] => 0
  | x :: r => uptoBulkEntry x + uptoBulkEntries r
def uptoBulkEntry {H : Type} : Lit × DataW H → Nat
  | (.string bytes, d) => bytes.length + uptoBulk d + 1
  | (_, d) => uptoBulk d + 1
 end
def uptoSmall : (H : Type) → List (DataW H) → Bool := fun _ ds => decide (uptoBulkAll ds ≤ 1048576)
def OpenSpec.upto (s : _root_.Go.ChangeSpec) : _root_.Go.OpenSpec := { _root_.Go.OpenSpec.ofChange s with cond := some uptoSmall }

/-- 'cashbooklaw10.ExprAny', WHERE WHAT IT READS IS OF BULK AT MOST 1048576: true; the input reads as it did. -/
def exprAnyUptoRow : OpenClaim := { program := "ytfckadoadmdgjaadoor", sum := "68f9cca531633af7031bf5147fba160c525793c2767b78b6cf786e38f655bc9c", func := "cashbook/cashbooklaw10.ExprAny", spec := "exprAny", unfollowed := true, recurses := true, named := ["unicode/utf8.first", "unicode/utf8.acceptRanges"], loops := true, apart := false, laid := [("unicode/utf8.acceptRanges", laid_unicode_utf8_acceptRanges), ("unicode/utf8.first", laid_unicode_utf8_first)], narrowed := true }
def ExprAnyUptoSaid : Prop := exprAnyUptoRow.holds Tryd.pinned (OpenSpec.upto exprAnySpec)

/-- 'cashbooklaw10.ExprParts', WHERE WHAT IT READS IS OF BULK AT MOST 1048576: true; the input reads as it did. -/
def exprPartsUptoRow : OpenClaim := { program := "ytfckadoadmdgjaadoor", sum := "68f9cca531633af7031bf5147fba160c525793c2767b78b6cf786e38f655bc9c", func := "cashbook/cashbooklaw10.ExprParts", spec := "exprParts", unfollowed := true, recurses := true, named := ["unicode/utf8.first", "unicode/utf8.acceptRanges"], loops := true, apart := false, laid := [("unicode/utf8.acceptRanges", laid_unicode_utf8_acceptRanges), ("unicode/utf8.first", laid_unicode_utf8_first)], narrowed := true }
def ExprPartsUptoSaid : Prop := exprPartsUptoRow.holds Tryd.pinned (OpenSpec.upto exprPartsSpec)

/-- 'cashbooklaw10.ExprBrackets', WHERE WHAT IT READS IS OF BULK AT MOST 1048576: true; the input reads as it did. -/
def exprBracketsUptoRow : OpenClaim := { program := "ytfckadoadmdgjaadoor", sum := "68f9cca531633af7031bf5147fba160c525793c2767b78b6cf786e38f655bc9c", func := "cashbook/cashbooklaw10.ExprBrackets", spec := "exprBrackets", unfollowed := true, recurses := true, named := ["unicode/utf8.first", "unicode/utf8.acceptRanges"], loops := true, apart := false, laid := [("unicode/utf8.acceptRanges", laid_unicode_utf8_acceptRanges), ("unicode/utf8.first", laid_unicode_utf8_first)], narrowed := true }
def ExprBracketsUptoSaid : Prop := exprBracketsUptoRow.holds Tryd.pinned (OpenSpec.upto exprBracketsSpec)

/-- 'cashbooklaw10.ExprRefs', WHERE WHAT IT READS IS OF BULK AT MOST 1048576: true; the input reads as it did. -/
def exprRefsUptoRow : OpenClaim := { program := "ytfckadoadmdgjaadoor", sum := "68f9cca531633af7031bf5147fba160c525793c2767b78b6cf786e38f655bc9c", func := "cashbook/cashbooklaw10.ExprRefs", spec := "exprRefs", unfollowed := true, recurses := true, named := ["unicode/utf8.first", "unicode/utf8.acceptRanges"], loops := true, apart := false, laid := [("unicode/utf8.acceptRanges", laid_unicode_utf8_acceptRanges), ("unicode/utf8.first", laid_unicode_utf8_first)], narrowed := true }
def ExprRefsUptoSaid : Prop := exprRefsUptoRow.holds Tryd.pinned (OpenSpec.upto exprRefsSpec)

/-- 'cashbooklaw14.EnvPuts', WHERE WHAT IT READS IS OF BULK AT MOST 1048576: true; the input reads as it did. -/
def envPutsUptoRow : OpenClaim := { program := "ytfckadoadmdgjaadoor", sum := "68f9cca531633af7031bf5147fba160c525793c2767b78b6cf786e38f655bc9c", func := "cashbook/cashbooklaw14.EnvPuts", spec := "envPuts", inPlace := ["slices.overlaps[cashbook/env.Slot]"], unfollowed := true, recurses := true, named := ["unicode/utf8.first", "unicode/utf8.acceptRanges"], apart := false, laid := [("unicode/utf8.acceptRanges", laid_unicode_utf8_acceptRanges), ("unicode/utf8.first", laid_unicode_utf8_first)], narrowed := true }
def EnvPutsUptoSaid : Prop := envPutsUptoRow.holds Tryd.pinned (OpenSpec.upto envPutsSpec)

/-- 'cashbooklaw14.EnvTakes', WHERE WHAT IT READS IS OF BULK AT MOST 1048576: true; the input reads as it did. -/
def envTakesUptoRow : OpenClaim := { program := "ytfckadoadmdgjaadoor", sum := "68f9cca531633af7031bf5147fba160c525793c2767b78b6cf786e38f655bc9c", func := "cashbook/cashbooklaw14.EnvTakes", spec := "envTakes", inPlace := ["slices.overlaps[cashbook/env.Slot]"], unfollowed := true, recurses := true, named := ["unicode/utf8.first", "unicode/utf8.acceptRanges"], loops := true, apart := false, laid := [("unicode/utf8.acceptRanges", laid_unicode_utf8_acceptRanges), ("unicode/utf8.first", laid_unicode_utf8_first)], narrowed := true }
def EnvTakesUptoSaid : Prop := envTakesUptoRow.holds Tryd.pinned (OpenSpec.upto envTakesSpec)

/-- 'cashbooklaw14.EnvLess', WHERE WHAT IT READS IS OF BULK AT MOST 1048576: true; the input reads as it did. -/
def envLessUptoRow : OpenClaim := { program := "ytfckadoadmdgjaadoor", sum := "68f9cca531633af7031bf5147fba160c525793c2767b78b6cf786e38f655bc9c", func := "cashbook/cashbooklaw14.EnvLess", spec := "envLess", inPlace := ["slices.overlaps[cashbook/env.Slot]"], unfollowed := true, recurses := true, named := ["unicode/utf8.first", "unicode/utf8.acceptRanges"], apart := false, laid := [("unicode/utf8.acceptRanges", laid_unicode_utf8_acceptRanges), ("unicode/utf8.first", laid_unicode_utf8_first)], narrowed := true }
def EnvLessUptoSaid : Prop := envLessUptoRow.holds Tryd.pinned (OpenSpec.upto envLessSpec)

end Rows
end Go.Proofs.YtfckadoadmdgjaaDoor
