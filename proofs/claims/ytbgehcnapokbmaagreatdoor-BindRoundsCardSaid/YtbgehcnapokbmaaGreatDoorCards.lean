/-
  DERIVED. GIVEN WITH THE SEED: THE CARDS: each row of YtbgehcnapokbmaaGreatDoorRows.lean that lists a variable, with what it lists TIED to the program's text (the seventh form; the later family's looks); each row that meets fmt, with fmt's text TOLD by the authors' own Lean function (tested against real Go, not proved from fmt's source: count such statements apart). THE CARD IS WHAT COUNTS. Prove the row's statement (the work); the ties are given (YtbgehcnapokbmaaGreatDoorTie.lean); close each card by the builder's one call (the guide's Derived/Test/ToyasCard.lean, 'card_holds'). Laid BY PROGRAM, IN A SANDBOX (cutbox-door.mjs). By AI agents, Wed Nov 11 2026. No macro, syntax, notation, axiom, sorry.
-/
import Derived.Test.YtbgehcnapokbmaaGreatDoorRows
import GoSem.ClaimSeven
namespace Go.Proofs.YtbgehcnapokbmaaGreatDoor
namespace Rows

/-- THE TIED CARD OF 'lorgnettelaw10.BindRounds'. -/
def bindRoundsCard : Claim7 := { stood := { row := bindRoundsRow, standIns := [], harness := (true, "0d142b40c1a4f1f202b2aa542574b10561e8e24d5ac9bda8fcf53a43ff5b2635"), looks := false }, kinds := [], alts := [], laidByText := true, laidKinds := [.data, .data, .data], laidTests := true, laidLooks := .later }
def BindRoundsCardSaid : Prop := Claim7.holds Tryz.pinned (.plain (OpenSpec.ofChange bindRoundsSpec)) bindRoundsCard

/-- THE TIED CARD OF 'lorgnettelaw12.RateKinds'. -/
def rateKindsCard : Claim7 := { stood := { row := rateKindsRow, standIns := [], harness := (true, "0d142b40c1a4f1f202b2aa542574b10561e8e24d5ac9bda8fcf53a43ff5b2635"), looks := false }, kinds := [], alts := [], laidByText := true, laidKinds := [.data, .data, .data], laidTests := true, laidLooks := .later }
def RateKindsCardSaid : Prop := Claim7.holds Tryz.pinned (.plain (OpenSpec.ofChange rateKindsSpec)) rateKindsCard

/-- THE SECOND FORM's CARD OF 'lorgnettelaw10.BindRounds'. -/
def bindRoundsUptoCard : Claim7 := { stood := { row := bindRoundsUptoRow, standIns := [], harness := (true, "0d142b40c1a4f1f202b2aa542574b10561e8e24d5ac9bda8fcf53a43ff5b2635"), looks := false }, kinds := [], alts := [], laidByText := true, laidKinds := [.data, .data, .data], laidTests := true, laidLooks := .later }
def BindRoundsUptoCardSaid : Prop := Claim7.holds Tryz.pinned (.plain (OpenSpec.upto bindRoundsSpec)) bindRoundsUptoCard

/-- THE SECOND FORM's CARD OF 'lorgnettelaw12.RateKinds'. -/
def rateKindsUptoCard : Claim7 := { stood := { row := rateKindsUptoRow, standIns := [], harness := (true, "0d142b40c1a4f1f202b2aa542574b10561e8e24d5ac9bda8fcf53a43ff5b2635"), looks := false }, kinds := [], alts := [], laidByText := true, laidKinds := [.data, .data, .data], laidTests := true, laidLooks := .later }
def RateKindsUptoCardSaid : Prop := Claim7.holds Tryz.pinned (.plain (OpenSpec.upto rateKindsSpec)) rateKindsUptoCard
end Rows
end Go.Proofs.YtbgehcnapokbmaaGreatDoor
