/-
  DERIVED. GIVEN WITH THE SEED: THE CARDS: each row of YtoddgmlofhkndaaGreatDoorRows.lean that lists a variable, with what it lists TIED to the program's text (the seventh form; the later family's looks); each row that meets fmt, with fmt's text TOLD by the authors' own Lean function (tested against real Go, not proved from fmt's source: count such statements apart). THE CARD IS WHAT COUNTS. Prove the row's statement (the work); the ties are given (YtoddgmlofhkndaaGreatDoorTie.lean); close each card by the builder's one call (the guide's Derived/Test/ToyasCard.lean, 'card_holds'). Laid BY PROGRAM, IN A SANDBOX (cutbox-door.mjs). By AI agents, Wed Nov 11 2026. No macro, syntax, notation, axiom, sorry.
-/
import Derived.Test.YtoddgmlofhkndaaGreatDoorRows
import GoSem.ClaimSeven
namespace Go.Proofs.YtoddgmlofhkndaaGreatDoor
namespace Rows

/-- THE TIED CARD OF 'lorgnettelaw25.TwinKinds'. -/
def twinKindsCard : Claim7 := { stood := { row := twinKindsRow, standIns := [], harness := (true, "126d29bfa600fc418c9db7bf7ddd3f62e9016cfcd907e35e741cc3dd12dc8ae1"), looks := false }, kinds := [], alts := [], laidByText := true, laidKinds := [.data, .data, .data], laidTests := true, laidLooks := .later }
def TwinKindsCardSaid : Prop := Claim7.holds Tryz.pinned (.plain (OpenSpec.ofChange twinKindsSpec)) twinKindsCard

/-- THE SECOND FORM's CARD OF 'lorgnettelaw25.TwinKinds'. -/
def twinKindsUptoCard : Claim7 := { stood := { row := twinKindsUptoRow, standIns := [], harness := (true, "126d29bfa600fc418c9db7bf7ddd3f62e9016cfcd907e35e741cc3dd12dc8ae1"), looks := false }, kinds := [], alts := [], laidByText := true, laidKinds := [.data, .data, .data], laidTests := true, laidLooks := .later }
def TwinKindsUptoCardSaid : Prop := Claim7.holds Tryz.pinned (.plain (OpenSpec.upto twinKindsSpec)) twinKindsUptoCard
end Rows
end Go.Proofs.YtoddgmlofhkndaaGreatDoor
