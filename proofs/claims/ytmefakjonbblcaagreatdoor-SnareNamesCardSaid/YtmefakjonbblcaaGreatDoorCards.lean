/-
  DERIVED. GIVEN WITH THE SEED: THE CARDS: each row of YtmefakjonbblcaaGreatDoorRows.lean that lists a variable, with what it lists TIED to the program's text (the seventh form; the later family's looks); each row that meets fmt, with fmt's text TOLD by the authors' own Lean function (tested against real Go, not proved from fmt's source: count such statements apart). THE CARD IS WHAT COUNTS. Prove the row's statement (the work); the ties are given (YtmefakjonbblcaaGreatDoorTie.lean); close each card by the builder's one call (the guide's Derived/Test/ToyasCard.lean, 'card_holds'). Laid BY PROGRAM, IN A SANDBOX (cutbox-door.mjs). By AI agents, Wed Nov 11 2026. No macro, syntax, notation, axiom, sorry.
-/
import Derived.Test.YtmefakjonbblcaaGreatDoorRows
import GoSem.ClaimSeven
namespace Go.Proofs.YtmefakjonbblcaaGreatDoor
namespace Rows

/-- THE TIED CARD OF 'lorgnettelaw26.VeilLoops'. -/
def veilLoopsCard : Claim7 := { stood := { row := veilLoopsRow, standIns := [], harness := (true, "2180b816aadadf0c6c8ed9337b3d2c2b38d038a3d2c1384655750f9ea8259b71"), looks := false }, kinds := [], alts := [], laidByText := true, laidKinds := [.data, .data, .data], laidTests := true, laidLooks := .later }
def VeilLoopsCardSaid : Prop := Claim7.holds Tryz.pinned (.plain (OpenSpec.ofChange veilLoopsSpec)) veilLoopsCard

/-- THE TIED CARD OF 'lorgnettelaw27.SnareNames'. -/
def snareNamesCard : Claim7 := { stood := { row := snareNamesRow, standIns := [], harness := (true, "2180b816aadadf0c6c8ed9337b3d2c2b38d038a3d2c1384655750f9ea8259b71"), looks := false }, kinds := [], alts := [], laidByText := true, laidKinds := [.data, .data, .data], laidTests := true, laidLooks := .later }
def SnareNamesCardSaid : Prop := Claim7.holds Tryz.pinned (.plain (OpenSpec.ofChange snareNamesSpec)) snareNamesCard

/-- THE TIED CARD OF 'lorgnettelaw27.SnarePlaces'. -/
def snarePlacesCard : Claim7 := { stood := { row := snarePlacesRow, standIns := [], harness := (true, "2180b816aadadf0c6c8ed9337b3d2c2b38d038a3d2c1384655750f9ea8259b71"), looks := false }, kinds := [], alts := [], laidByText := true, laidKinds := [.data, .data, .data], laidTests := true, laidLooks := .later }
def SnarePlacesCardSaid : Prop := Claim7.holds Tryz.pinned (.plain (OpenSpec.ofChange snarePlacesSpec)) snarePlacesCard

/-- THE SECOND FORM's CARD OF 'lorgnettelaw26.VeilLoops'. -/
def veilLoopsUptoCard : Claim7 := { stood := { row := veilLoopsUptoRow, standIns := [], harness := (true, "2180b816aadadf0c6c8ed9337b3d2c2b38d038a3d2c1384655750f9ea8259b71"), looks := false }, kinds := [], alts := [], laidByText := true, laidKinds := [.data, .data, .data], laidTests := true, laidLooks := .later }
def VeilLoopsUptoCardSaid : Prop := Claim7.holds Tryz.pinned (.plain (OpenSpec.upto veilLoopsSpec)) veilLoopsUptoCard

/-- THE SECOND FORM's CARD OF 'lorgnettelaw27.SnareNames'. -/
def snareNamesUptoCard : Claim7 := { stood := { row := snareNamesUptoRow, standIns := [], harness := (true, "2180b816aadadf0c6c8ed9337b3d2c2b38d038a3d2c1384655750f9ea8259b71"), looks := false }, kinds := [], alts := [], laidByText := true, laidKinds := [.data, .data, .data], laidTests := true, laidLooks := .later }
def SnareNamesUptoCardSaid : Prop := Claim7.holds Tryz.pinned (.plain (OpenSpec.upto snareNamesSpec)) snareNamesUptoCard

/-- THE SECOND FORM's CARD OF 'lorgnettelaw27.SnarePlaces'. -/
def snarePlacesUptoCard : Claim7 := { stood := { row := snarePlacesUptoRow, standIns := [], harness := (true, "2180b816aadadf0c6c8ed9337b3d2c2b38d038a3d2c1384655750f9ea8259b71"), looks := false }, kinds := [], alts := [], laidByText := true, laidKinds := [.data, .data, .data], laidTests := true, laidLooks := .later }
def SnarePlacesUptoCardSaid : Prop := Claim7.holds Tryz.pinned (.plain (OpenSpec.upto snarePlacesSpec)) snarePlacesUptoCard
end Rows
end Go.Proofs.YtmefakjonbblcaaGreatDoor
