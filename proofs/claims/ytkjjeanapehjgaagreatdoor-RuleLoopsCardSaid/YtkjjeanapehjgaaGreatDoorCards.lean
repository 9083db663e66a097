/-
  DERIVED. GIVEN WITH THE SEED: THE CARDS: each row of YtkjjeanapehjgaaGreatDoorRows.lean that lists a variable, with what it lists TIED to the program's text (the seventh form; the later family's looks); each row that meets fmt, with fmt's text TOLD by the authors' own Lean function (tested against real Go, not proved from fmt's source: count such statements apart). THE CARD IS WHAT COUNTS. Prove the row's statement (the work); the ties are given (YtkjjeanapehjgaaGreatDoorTie.lean); close each card by the builder's one call (the guide's Derived/Test/ToyasCard.lean, 'card_holds'). Laid BY PROGRAM, IN A SANDBOX (cutbox-door.mjs). By AI agents, Wed Nov 11 2026. No macro, syntax, notation, axiom, sorry.
-/
import Derived.Test.YtkjjeanapehjgaaGreatDoorRows
import GoSem.ClaimSeven
namespace Go.Proofs.YtkjjeanapehjgaaGreatDoor
namespace Rows

/-- THE TIED CARD OF 'lorgnettelaw10.BindRounds'. -/
def bindRoundsCard : Claim7 := { stood := { row := bindRoundsRow, standIns := [], harness := (true, "b7c5908ce99e2e2a72bed30f8f33b05346d369b2cc5342337a57fe8833c3e94f"), looks := false }, kinds := [], alts := [], laidByText := true, laidKinds := [.data, .data, .data], laidTests := true, laidLooks := .later }
def BindRoundsCardSaid : Prop := Claim7.holds Tryz.pinned (.plain (OpenSpec.ofChange bindRoundsSpec)) bindRoundsCard

/-- THE TIED CARD OF 'lorgnettelaw12.RateKinds'. -/
def rateKindsCard : Claim7 := { stood := { row := rateKindsRow, standIns := [], harness := (true, "b7c5908ce99e2e2a72bed30f8f33b05346d369b2cc5342337a57fe8833c3e94f"), looks := false }, kinds := [], alts := [], laidByText := true, laidKinds := [.data, .data, .data], laidTests := true, laidLooks := .later }
def RateKindsCardSaid : Prop := Claim7.holds Tryz.pinned (.plain (OpenSpec.ofChange rateKindsSpec)) rateKindsCard

/-- THE TIED CARD OF 'lorgnettelaw13.RuleLoops'. -/
def ruleLoopsCard : Claim7 := { stood := { row := ruleLoopsRow, standIns := [], harness := (true, "b7c5908ce99e2e2a72bed30f8f33b05346d369b2cc5342337a57fe8833c3e94f"), looks := false }, kinds := [], alts := [], laidByText := true, laidKinds := [.data, .data, .data], laidTests := true, laidLooks := .later }
def RuleLoopsCardSaid : Prop := Claim7.holds Tryz.pinned (.plain (OpenSpec.ofChange ruleLoopsSpec)) ruleLoopsCard

/-- THE SECOND FORM's CARD OF 'lorgnettelaw10.BindRounds'. -/
def bindRoundsUptoCard : Claim7 := { stood := { row := bindRoundsUptoRow, standIns := [], harness := (true, "b7c5908ce99e2e2a72bed30f8f33b05346d369b2cc5342337a57fe8833c3e94f"), looks := false }, kinds := [], alts := [], laidByText := true, laidKinds := [.data, .data, .data], laidTests := true, laidLooks := .later }
def BindRoundsUptoCardSaid : Prop := Claim7.holds Tryz.pinned (.plain (OpenSpec.upto bindRoundsSpec)) bindRoundsUptoCard

/-- THE SECOND FORM's CARD OF 'lorgnettelaw12.RateKinds'. -/
def rateKindsUptoCard : Claim7 := { stood := { row := rateKindsUptoRow, standIns := [], harness := (true, "b7c5908ce99e2e2a72bed30f8f33b05346d369b2cc5342337a57fe8833c3e94f"), looks := false }, kinds := [], alts := [], laidByText := true, laidKinds := [.data, .data, .data], laidTests := true, laidLooks := .later }
def RateKindsUptoCardSaid : Prop := Claim7.holds Tryz.pinned (.plain (OpenSpec.upto rateKindsSpec)) rateKindsUptoCard

/-- THE SECOND FORM's CARD OF 'lorgnettelaw13.RuleLoops'. -/
def ruleLoopsUptoCard : Claim7 := { stood := { row := ruleLoopsUptoRow, standIns := [], harness := (true, "b7c5908ce99e2e2a72bed30f8f33b05346d369b2cc5342337a57fe8833c3e94f"), looks := false }, kinds := [], alts := [], laidByText := true, laidKinds := [.data, .data, .data], laidTests := true, laidLooks := .later }
def RuleLoopsUptoCardSaid : Prop := Claim7.holds Tryz.pinned (.plain (OpenSpec.upto ruleLoopsSpec)) ruleLoopsUptoCard
end Rows
end Go.Proofs.YtkjjeanapehjgaaGreatDoor
