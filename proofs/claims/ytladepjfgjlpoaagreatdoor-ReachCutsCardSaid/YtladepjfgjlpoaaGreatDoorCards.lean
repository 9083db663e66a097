/-
  DERIVED. GIVEN WITH THE SEED: THE CARDS: each row of YtladepjfgjlpoaaGreatDoorRows.lean that lists a variable, with what it lists TIED to the program's text (the seventh form; the later family's looks); each row that meets fmt, with fmt's text TOLD by the authors' own Lean function (tested against real Go, not proved from fmt's source: count such statements apart). THE CARD IS WHAT COUNTS. Prove the row's statement (the work); the ties are given (YtladepjfgjlpoaaGreatDoorTie.lean); close each card by the builder's one call (the guide's Derived/Test/ToyasCard.lean, 'card_holds'). Laid BY PROGRAM, IN A SANDBOX (cutbox-door.mjs). By AI agents, Wed Nov 11 2026. No macro, syntax, notation, axiom, sorry.
-/
import Derived.Test.YtladepjfgjlpoaaGreatDoorRows
import GoSem.ClaimSeven
namespace Go.Proofs.YtladepjfgjlpoaaGreatDoor
namespace Rows

/-- THE TIED CARD OF 'lorgnettelaw22.ReachCuts'. -/
def reachCutsCard : Claim7 := { stood := { row := reachCutsRow, standIns := [], harness := (true, "aefb2c36c6207702d0e4f25b628fc89337a3861d0bc61e2517532cf17aa00dc6"), looks := false }, kinds := [], alts := [], laidByText := true, laidKinds := [.data, .data, .data], laidTests := true, laidLooks := .later }
def ReachCutsCardSaid : Prop := Claim7.holds Tryz.pinned (.plain (OpenSpec.ofChange reachCutsSpec)) reachCutsCard

/-- THE SECOND FORM's CARD OF 'lorgnettelaw22.ReachCuts'. -/
def reachCutsUptoCard : Claim7 := { stood := { row := reachCutsUptoRow, standIns := [], harness := (true, "aefb2c36c6207702d0e4f25b628fc89337a3861d0bc61e2517532cf17aa00dc6"), looks := false }, kinds := [], alts := [], laidByText := true, laidKinds := [.data, .data, .data], laidTests := true, laidLooks := .later }
def ReachCutsUptoCardSaid : Prop := Claim7.holds Tryz.pinned (.plain (OpenSpec.upto reachCutsSpec)) reachCutsUptoCard
end Rows
end Go.Proofs.YtladepjfgjlpoaaGreatDoor
