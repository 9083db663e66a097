/-
  DERIVED. GIVEN WITH THE SEED: THE CARDS: each row of YteilmpcdlpibgaaGreatDoorRows.lean that lists a variable, with what it lists TIED to the program's text (the seventh form; the later family's looks); each row that meets fmt, with fmt's text TOLD by the authors' own Lean function (tested against real Go, not proved from fmt's source: count such statements apart). THE CARD IS WHAT COUNTS. Prove the row's statement (the work); the ties are given (YteilmpcdlpibgaaGreatDoorTie.lean); close each card by the builder's one call (the guide's Derived/Test/ToyasCard.lean, 'card_holds'). Laid BY PROGRAM, IN A SANDBOX (cutbox-door.mjs). By AI agents, Wed Nov 11 2026. No macro, syntax, notation, axiom, sorry.
-/
import Derived.Test.YteilmpcdlpibgaaGreatDoorRows
import GoSem.ClaimSeven
namespace Go.Proofs.YteilmpcdlpibgaaGreatDoor
namespace Rows

/-- THE TIED CARD OF 'lorgnettelaw12.RateKinds'. -/
def rateKindsCard : Claim7 := { stood := { row := rateKindsRow, standIns := [], harness := (true, "78e46a96adadd481537907ba4b3e80525c754c7d28b876520d2a2afd44f953dd"), looks := false }, kinds := [], alts := [], laidByText := true, laidKinds := [.data, .data, .data], laidTests := true, laidLooks := .later }
def RateKindsCardSaid : Prop := Claim7.holds Tryz.pinned (.plain (OpenSpec.ofChange rateKindsSpec)) rateKindsCard

/-- THE SECOND FORM's CARD OF 'lorgnettelaw12.RateKinds'. -/
def rateKindsUptoCard : Claim7 := { stood := { row := rateKindsUptoRow, standIns := [], harness := (true, "78e46a96adadd481537907ba4b3e80525c754c7d28b876520d2a2afd44f953dd"), looks := false }, kinds := [], alts := [], laidByText := true, laidKinds := [.data, .data, .data], laidTests := true, laidLooks := .later }
def RateKindsUptoCardSaid : Prop := Claim7.holds Tryz.pinned (.plain (OpenSpec.upto rateKindsSpec)) rateKindsUptoCard
end Rows
end Go.Proofs.YteilmpcdlpibgaaGreatDoor
