/-
  DERIVED. GIVEN WITH THE SEED: THE CARDS: each row of YtdlpbhjihdfoaaaGreatDoorRows.lean that lists a variable, with what it lists TIED to the program's text (the seventh form; the later family's looks); each row that meets fmt, with fmt's text TOLD by the authors' own Lean function (tested against real Go, not proved from fmt's source: count such statements apart). THE CARD IS WHAT COUNTS. Prove the row's statement (the work); the ties are given (YtdlpbhjihdfoaaaGreatDoorTie.lean); close each card by the builder's one call (the guide's Derived/Test/ToyasCard.lean, 'card_holds'). Laid BY PROGRAM, IN A SANDBOX (cutbox-door.mjs). By AI agents, Wed Nov 11 2026. No macro, syntax, notation, axiom, sorry.
-/
import Derived.Test.YtdlpbhjihdfoaaaGreatDoorRows
import GoSem.ClaimSeven
namespace Go.Proofs.YtdlpbhjihdfoaaaGreatDoor
namespace Rows

/-- THE TIED CARD OF 'lorgnettelaw10.BindRounds'. -/
def bindRoundsCard : Claim7 := { stood := { row := bindRoundsRow, standIns := [], harness := (true, "f921e63add49320af917d089bf30aa207bd04248fcfa3b0df349dbeaae08a046"), looks := false }, kinds := [], alts := [], laidByText := true, laidKinds := [.data, .data, .data], laidTests := true, laidLooks := .later }
def BindRoundsCardSaid : Prop := Claim7.holds Tryz.pinned (.plain (OpenSpec.ofChange bindRoundsSpec)) bindRoundsCard

/-- THE TIED CARD OF 'lorgnettelaw26.VeilOthers'. -/
def veilOthersCard : Claim7 := { stood := { row := veilOthersRow, standIns := [], harness := (true, "f921e63add49320af917d089bf30aa207bd04248fcfa3b0df349dbeaae08a046"), looks := false }, kinds := [], alts := [], laidByText := true, laidKinds := [.data, .data, .data], laidTests := true, laidLooks := .later }
def VeilOthersCardSaid : Prop := Claim7.holds Tryz.pinned (.plain (OpenSpec.ofChange veilOthersSpec)) veilOthersCard

/-- THE SECOND FORM's CARD OF 'lorgnettelaw10.BindRounds'. -/
def bindRoundsUptoCard : Claim7 := { stood := { row := bindRoundsUptoRow, standIns := [], harness := (true, "f921e63add49320af917d089bf30aa207bd04248fcfa3b0df349dbeaae08a046"), looks := false }, kinds := [], alts := [], laidByText := true, laidKinds := [.data, .data, .data], laidTests := true, laidLooks := .later }
def BindRoundsUptoCardSaid : Prop := Claim7.holds Tryz.pinned (.plain (OpenSpec.upto bindRoundsSpec)) bindRoundsUptoCard

/-- THE SECOND FORM's CARD OF 'lorgnettelaw26.VeilOthers'. -/
def veilOthersUptoCard : Claim7 := { stood := { row := veilOthersUptoRow, standIns := [], harness := (true, "f921e63add49320af917d089bf30aa207bd04248fcfa3b0df349dbeaae08a046"), looks := false }, kinds := [], alts := [], laidByText := true, laidKinds := [.data, .data, .data], laidTests := true, laidLooks := .later }
def VeilOthersUptoCardSaid : Prop := Claim7.holds Tryz.pinned (.plain (OpenSpec.upto veilOthersSpec)) veilOthersUptoCard
end Rows
end Go.Proofs.YtdlpbhjihdfoaaaGreatDoor
