/-
  DERIVED. GIVEN WITH THE SEED: THE CARDS: each row of YtlicgchfbhkelaaGreatDoorRows.lean that lists a variable, with what it lists TIED to the program's text (the seventh form; the later family's looks); each row that meets fmt, with fmt's text TOLD by the authors' own Lean function (tested against real Go, not proved from fmt's source: count such statements apart). THE CARD IS WHAT COUNTS. Prove the row's statement (the work); the ties are given (YtlicgchfbhkelaaGreatDoorTie.lean); close each card by the builder's one call (the guide's Derived/Test/ToyasCard.lean, 'card_holds'). Laid BY PROGRAM, IN A SANDBOX (cutbox-door.mjs). By AI agents, Wed Nov 11 2026. No macro, syntax, notation, axiom, sorry.
-/
import Derived.Test.YtlicgchfbhkelaaGreatDoorRows
import GoSem.ClaimSeven
namespace Go.Proofs.YtlicgchfbhkelaaGreatDoor
namespace Rows

/-- THE TIED CARD OF 'cretulalaw25.CertificateEnds'. -/
def certificateEndsCard : Claim7 := { stood := { row := certificateEndsRow, standIns := [], harness := (true, "a997f66d2c6d94aff297b0782d7b545f8e5181f74b54d72234c58c384b282524"), looks := true }, kinds := [], alts := [], laidByText := true, laidKinds := [.pinned, .data, .sentinel, .sentinel, .data, .data, .data], laidTests := true, laidLooks := .later }
def CertificateEndsCardSaid : Prop := Claim7.holds Tryz.pinned (.plain (OpenSpec.ofChange certificateEndsSpec)) certificateEndsCard

/-- THE TIED CARD OF 'cretulalaw25.CertificateChanges'. -/
def certificateChangesCard : Claim7 := { stood := { row := certificateChangesRow, standIns := [], harness := (true, "a997f66d2c6d94aff297b0782d7b545f8e5181f74b54d72234c58c384b282524"), looks := true }, kinds := [], alts := [], laidByText := true, laidKinds := [.pinned, .data, .sentinel, .sentinel, .data, .data, .data], laidTests := true, laidLooks := .later }
def CertificateChangesCardSaid : Prop := Claim7.holds Tryz.pinned (.plain (OpenSpec.ofChange certificateChangesSpec)) certificateChangesCard

/-- THE SECOND FORM's CARD OF 'cretulalaw25.CertificateEnds'. -/
def certificateEndsUptoCard : Claim7 := { stood := { row := certificateEndsUptoRow, standIns := [], harness := (true, "a997f66d2c6d94aff297b0782d7b545f8e5181f74b54d72234c58c384b282524"), looks := true }, kinds := [], alts := [], laidByText := true, laidKinds := [.pinned, .data, .sentinel, .sentinel, .data, .data, .data], laidTests := true, laidLooks := .later }
def CertificateEndsUptoCardSaid : Prop := Claim7.holds Tryz.pinned (.plain (OpenSpec.upto certificateEndsSpec)) certificateEndsUptoCard

/-- THE SECOND FORM's CARD OF 'cretulalaw25.CertificateChanges'. -/
def certificateChangesUptoCard : Claim7 := { stood := { row := certificateChangesUptoRow, standIns := [], harness := (true, "a997f66d2c6d94aff297b0782d7b545f8e5181f74b54d72234c58c384b282524"), looks := true }, kinds := [], alts := [], laidByText := true, laidKinds := [.pinned, .data, .sentinel, .sentinel, .data, .data, .data], laidTests := true, laidLooks := .later }
def CertificateChangesUptoCardSaid : Prop := Claim7.holds Tryz.pinned (.plain (OpenSpec.upto certificateChangesSpec)) certificateChangesUptoCard
end Rows
end Go.Proofs.YtlicgchfbhkelaaGreatDoor
