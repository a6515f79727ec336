/-
  DERIVED. GIVEN WITH THE SEED: THE CARDS: each row of YtfckadoadmdgjaaDoorRows.lean that lists a variable, with what it lists TIED to the program's text (the seventh form; the later family's looks); each row that meets fmt, with fmt's text TOLD by the authors' own Lean function (tested against real Go, not proved from fmt's source: count such statements apart). THE CARD IS WHAT COUNTS. Prove the row's statement (the work); the ties are given (YtfckadoadmdgjaaDoorTie.lean); close each card by the builder's one call (the guide's Derived/Test/ToyasCard.lean, 'card_holds'). Laid BY PROGRAM, IN A SANDBOX (cutbox-door.mjs). By AI agents, Wed Nov 11 2026. No macro, syntax, notation, axiom, sorry.
-/
import Derived.Test.YtfckadoadmdgjaaDoorRows
import GoSem.ClaimSeven
namespace Go.Proofs.YtfckadoadmdgjaaDoor
namespace Rows

/-- THE TIED CARD OF 'cashbooklaw10.ExprAny'. -/
def exprAnyCard : Claim7 := { stood := { row := exprAnyRow, standIns := [], harness := (true, "a1f63ad35188d8204539f3346dc29020ccba4195b1b3c10c9b6d872e1c4dee03"), looks := false }, kinds := [], alts := [], laidByText := true, laidKinds := [.data, .pinned], laidTests := true, laidLooks := .later }
def ExprAnyCardSaid : Prop := Claim7.holds Tryd.pinned (.plain (OpenSpec.ofChange exprAnySpec)) exprAnyCard

/-- THE TIED CARD OF 'cashbooklaw10.ExprParts'. -/
def exprPartsCard : Claim7 := { stood := { row := exprPartsRow, standIns := [], harness := (true, "a1f63ad35188d8204539f3346dc29020ccba4195b1b3c10c9b6d872e1c4dee03"), looks := false }, kinds := [], alts := [], laidByText := true, laidKinds := [.data, .pinned], laidTests := true, laidLooks := .later }
def ExprPartsCardSaid : Prop := Claim7.holds Tryd.pinned (.plain (OpenSpec.ofChange exprPartsSpec)) exprPartsCard

/-- THE TIED CARD OF 'cashbooklaw10.ExprBrackets'. -/
def exprBracketsCard : Claim7 := { stood := { row := exprBracketsRow, standIns := [], harness := (true, "a1f63ad35188d8204539f3346dc29020ccba4195b1b3c10c9b6d872e1c4dee03"), looks := false }, kinds := [], alts := [], laidByText := true, laidKinds := [.data, .pinned], laidTests := true, laidLooks := .later }
def ExprBracketsCardSaid : Prop := Claim7.holds Tryd.pinned (.plain (OpenSpec.ofChange exprBracketsSpec)) exprBracketsCard

/-- THE TIED CARD OF 'cashbooklaw10.ExprRefs'. -/
def exprRefsCard : Claim7 := { stood := { row := exprRefsRow, standIns := [], harness := (true, "a1f63ad35188d8204539f3346dc29020ccba4195b1b3c10c9b6d872e1c4dee03"), looks := false }, kinds := [], alts := [], laidByText := true, laidKinds := [.data, .pinned], laidTests := true, laidLooks := .later }
def ExprRefsCardSaid : Prop := Claim7.holds Tryd.pinned (.plain (OpenSpec.ofChange exprRefsSpec)) exprRefsCard

/-- THE TIED CARD OF 'cashbooklaw14.EnvPuts'. -/
def envPutsCard : Claim7 := { stood := { row := envPutsRow, standIns := [], harness := (true, "a1f63ad35188d8204539f3346dc29020ccba4195b1b3c10c9b6d872e1c4dee03"), looks := false }, kinds := [], alts := [], laidByText := true, laidKinds := [.data, .pinned], laidTests := true, laidLooks := .later }
def EnvPutsCardSaid : Prop := Claim7.holds Tryd.pinned (.plain (OpenSpec.ofChange envPutsSpec)) envPutsCard

/-- THE TIED CARD OF 'cashbooklaw14.EnvTakes'. -/
def envTakesCard : Claim7 := { stood := { row := envTakesRow, standIns := [], harness := (true, "a1f63ad35188d8204539f3346dc29020ccba4195b1b3c10c9b6d872e1c4dee03"), looks := false }, kinds := [], alts := [], laidByText := true, laidKinds := [.data, .pinned], laidTests := true, laidLooks := .later }
def EnvTakesCardSaid : Prop := Claim7.holds Tryd.pinned (.plain (OpenSpec.ofChange envTakesSpec)) envTakesCard

/-- THE TIED CARD OF 'cashbooklaw14.EnvLess'. -/
def envLessCard : Claim7 := { stood := { row := envLessRow, standIns := [], harness := (true, "a1f63ad35188d8204539f3346dc29020ccba4195b1b3c10c9b6d872e1c4dee03"), looks := false }, kinds := [], alts := [], laidByText := true, laidKinds := [.data, .pinned], laidTests := true, laidLooks := .later }
def EnvLessCardSaid : Prop := Claim7.holds Tryd.pinned (.plain (OpenSpec.ofChange envLessSpec)) envLessCard

/-- THE SECOND FORM's CARD OF 'cashbooklaw10.ExprAny'. -/
def exprAnyUptoCard : Claim7 := { stood := { row := exprAnyUptoRow, standIns := [], harness := (true, "a1f63ad35188d8204539f3346dc29020ccba4195b1b3c10c9b6d872e1c4dee03"), looks := false }, kinds := [], alts := [], laidByText := true, laidKinds := [.data, .pinned], laidTests := true, laidLooks := .later }
def ExprAnyUptoCardSaid : Prop := Claim7.holds Tryd.pinned (.plain (OpenSpec.upto exprAnySpec)) exprAnyUptoCard

/-- THE SECOND FORM's CARD OF 'cashbooklaw10.ExprParts'. -/
def exprPartsUptoCard : Claim7 := { stood := { row := exprPartsUptoRow, standIns := [], harness := (true, "a1f63ad35188d8204539f3346dc29020ccba4195b1b3c10c9b6d872e1c4dee03"), looks := false }, kinds := [], alts := [], laidByText := true, laidKinds := [.data, .pinned], laidTests := true, laidLooks := .later }
def ExprPartsUptoCardSaid : Prop := Claim7.holds Tryd.pinned (.plain (OpenSpec.upto exprPartsSpec)) exprPartsUptoCard

/-- THE SECOND FORM's CARD OF 'cashbooklaw10.ExprBrackets'. -/
def exprBracketsUptoCard : Claim7 := { stood := { row := exprBracketsUptoRow, standIns := [], harness := (true, "a1f63ad35188d8204539f3346dc29020ccba4195b1b3c10c9b6d872e1c4dee03"), looks := false }, kinds := [], alts := [], laidByText := true, laidKinds := [.data, .pinned], laidTests := true, laidLooks := .later }
def ExprBracketsUptoCardSaid : Prop := Claim7.holds Tryd.pinned (.plain (OpenSpec.upto exprBracketsSpec)) exprBracketsUptoCard

/-- THE SECOND FORM's CARD OF 'cashbooklaw10.ExprRefs'. -/
def exprRefsUptoCard : Claim7 := { stood := { row := exprRefsUptoRow, standIns := [], harness := (true, "a1f63ad35188d8204539f3346dc29020ccba4195b1b3c10c9b6d872e1c4dee03"), looks := false }, kinds := [], alts := [], laidByText := true, laidKinds := [.data, .pinned], laidTests := true, laidLooks := .later }
def ExprRefsUptoCardSaid : Prop := Claim7.holds Tryd.pinned (.plain (OpenSpec.upto exprRefsSpec)) exprRefsUptoCard

/-- THE SECOND FORM's CARD OF 'cashbooklaw14.EnvPuts'. -/
def envPutsUptoCard : Claim7 := { stood := { row := envPutsUptoRow, standIns := [], harness := (true, "a1f63ad35188d8204539f3346dc29020ccba4195b1b3c10c9b6d872e1c4dee03"), looks := false }, kinds := [], alts := [], laidByText := true, laidKinds := [.data, .pinned], laidTests := true, laidLooks := .later }
def EnvPutsUptoCardSaid : Prop := Claim7.holds Tryd.pinned (.plain (OpenSpec.upto envPutsSpec)) envPutsUptoCard

/-- THE SECOND FORM's CARD OF 'cashbooklaw14.EnvTakes'. -/
def envTakesUptoCard : Claim7 := { stood := { row := envTakesUptoRow, standIns := [], harness := (true, "a1f63ad35188d8204539f3346dc29020ccba4195b1b3c10c9b6d872e1c4dee03"), looks := false }, kinds := [], alts := [], laidByText := true, laidKinds := [.data, .pinned], laidTests := true, laidLooks := .later }
def EnvTakesUptoCardSaid : Prop := Claim7.holds Tryd.pinned (.plain (OpenSpec.upto envTakesSpec)) envTakesUptoCard

/-- THE SECOND FORM's CARD OF 'cashbooklaw14.EnvLess'. -/
def envLessUptoCard : Claim7 := { stood := { row := envLessUptoRow, standIns := [], harness := (true, "a1f63ad35188d8204539f3346dc29020ccba4195b1b3c10c9b6d872e1c4dee03"), looks := false }, kinds := [], alts := [], laidByText := true, laidKinds := [.data, .pinned], laidTests := true, laidLooks := .later }
def EnvLessUptoCardSaid : Prop := Claim7.holds Tryd.pinned (.plain (OpenSpec.upto envLessSpec)) envLessUptoCard
end Rows
end Go.Proofs.YtfckadoadmdgjaaDoor
