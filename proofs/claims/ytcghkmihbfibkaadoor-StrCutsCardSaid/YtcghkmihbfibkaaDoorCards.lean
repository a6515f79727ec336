/-
  DERIVED. GIVEN WITH THE SEED: THE CARDS: each row of YtcghkmihbfibkaaDoorRows.lean that lists a variable, with what it lists TIED to the program's text (the seventh form; the later family's looks); each row that meets fmt, with fmt's text TOLD by the authors' own Lean function (tested against real Go, not proved from fmt's source: count such statements apart). THE CARD IS WHAT COUNTS. Prove the row's statement (the work); the ties are given (YtcghkmihbfibkaaDoorTie.lean); close each card by the builder's one call (the guide's Derived/Test/ToyasCard.lean, 'card_holds'). Laid BY PROGRAM, IN A SANDBOX (cutbox-door.mjs). By AI agents, Wed Nov 11 2026. No macro, syntax, notation, axiom, sorry.
-/
import Derived.Test.YtcghkmihbfibkaaDoorRows
import GoSem.ClaimSeven
namespace Go.Proofs.YtcghkmihbfibkaaDoor
namespace Rows

/-- THE TIED CARD OF 'cashbooklaw6.StrCuts'. -/
def strCutsCard : Claim7 := { stood := { row := strCutsRow, standIns := [], harness := (true, "793d4a00ffb62c143c398d696b4a51663c7fcf8d675bf9a4ea45859266926471"), looks := false }, kinds := [], alts := [], laidByText := true, laidKinds := [.data, .pinned], laidTests := true, laidLooks := .later }
def StrCutsCardSaid : Prop := Claim7.holds Tryd.pinned (.plain (OpenSpec.ofChange strCutsSpec)) strCutsCard

/-- THE TIED CARD OF 'cashbooklaw6.StrUnits'. -/
def strUnitsCard : Claim7 := { stood := { row := strUnitsRow, standIns := [], harness := (true, "793d4a00ffb62c143c398d696b4a51663c7fcf8d675bf9a4ea45859266926471"), looks := false }, kinds := [], alts := [], laidByText := true, laidKinds := [.data, .pinned], laidTests := true, laidLooks := .later }
def StrUnitsCardSaid : Prop := Claim7.holds Tryd.pinned (.plain (OpenSpec.ofChange strUnitsSpec)) strUnitsCard

/-- THE TIED CARD OF 'cashbooklaw6.StrRows'. -/
def strRowsCard : Claim7 := { stood := { row := strRowsRow, standIns := [], harness := (true, "793d4a00ffb62c143c398d696b4a51663c7fcf8d675bf9a4ea45859266926471"), looks := false }, kinds := [], alts := [], laidByText := true, laidKinds := [.data, .pinned], laidTests := true, laidLooks := .later }
def StrRowsCardSaid : Prop := Claim7.holds Tryd.pinned (.plain (OpenSpec.ofChange strRowsSpec)) strRowsCard

/-- THE SECOND FORM's CARD OF 'cashbooklaw6.StrCuts'. -/
def strCutsUptoCard : Claim7 := { stood := { row := strCutsUptoRow, standIns := [], harness := (true, "793d4a00ffb62c143c398d696b4a51663c7fcf8d675bf9a4ea45859266926471"), looks := false }, kinds := [], alts := [], laidByText := true, laidKinds := [.data, .pinned], laidTests := true, laidLooks := .later }
def StrCutsUptoCardSaid : Prop := Claim7.holds Tryd.pinned (.plain (OpenSpec.upto strCutsSpec)) strCutsUptoCard

/-- THE SECOND FORM's CARD OF 'cashbooklaw6.StrUnits'. -/
def strUnitsUptoCard : Claim7 := { stood := { row := strUnitsUptoRow, standIns := [], harness := (true, "793d4a00ffb62c143c398d696b4a51663c7fcf8d675bf9a4ea45859266926471"), looks := false }, kinds := [], alts := [], laidByText := true, laidKinds := [.data, .pinned], laidTests := true, laidLooks := .later }
def StrUnitsUptoCardSaid : Prop := Claim7.holds Tryd.pinned (.plain (OpenSpec.upto strUnitsSpec)) strUnitsUptoCard

/-- THE SECOND FORM's CARD OF 'cashbooklaw6.StrRows'. -/
def strRowsUptoCard : Claim7 := { stood := { row := strRowsUptoRow, standIns := [], harness := (true, "793d4a00ffb62c143c398d696b4a51663c7fcf8d675bf9a4ea45859266926471"), looks := false }, kinds := [], alts := [], laidByText := true, laidKinds := [.data, .pinned], laidTests := true, laidLooks := .later }
def StrRowsUptoCardSaid : Prop := Claim7.holds Tryd.pinned (.plain (OpenSpec.upto strRowsSpec)) strRowsUptoCard
end Rows
end Go.Proofs.YtcghkmihbfibkaaDoor
