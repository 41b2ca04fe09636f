/-
  DERIVED. GIVEN WITH THE SEED: THE CARDS: each row of YtfjfjojmeookfaaGreatDoorRows.lean that lists a variable, with what it lists TIED to the program's text (the seventh form; the later family's looks); each row that meets fmt, with fmt's text TOLD by the authors' own Lean function (tested against real Go, not proved from fmt's source: count such statements apart). THE CARD IS WHAT COUNTS. Prove the row's statement (the work); the ties are given (YtfjfjojmeookfaaGreatDoorTie.lean); close each card by the builder's one call (the guide's Derived/Test/ToyasCard.lean, 'card_holds'). Laid BY PROGRAM, IN A SANDBOX (cutbox-door.mjs). By AI agents, Wed Nov 11 2026. No macro, syntax, notation, axiom, sorry.
-/
import Derived.Test.YtfjfjojmeookfaaGreatDoorRows
import GoSem.ClaimSeven
namespace Go.Proofs.YtfjfjojmeookfaaGreatDoor
namespace Rows

/-- THE TIED CARD OF 'cretulalaw26.RevocationEnds'. -/
def revocationEndsCard : Claim7 := { stood := { row := revocationEndsRow, standIns := [], harness := (true, "86b6981eae28e53a1aae877f650a4b39199f11e2d4d455aa02033f799575161c"), looks := true }, kinds := [], alts := [], laidByText := true, laidKinds := [.pinned, .data, .sentinel, .sentinel, .data, .data, .data], laidTests := true, laidLooks := .later }
def RevocationEndsCardSaid : Prop := Claim7.holds Tryz.pinned (.plain (OpenSpec.ofChange revocationEndsSpec)) revocationEndsCard

/-- THE TIED CARD OF 'cretulalaw26.RevocationChanges'. -/
def revocationChangesCard : Claim7 := { stood := { row := revocationChangesRow, standIns := [], harness := (true, "86b6981eae28e53a1aae877f650a4b39199f11e2d4d455aa02033f799575161c"), looks := true }, kinds := [], alts := [], laidByText := true, laidKinds := [.pinned, .data, .sentinel, .sentinel, .data, .data, .data], laidTests := true, laidLooks := .later }
def RevocationChangesCardSaid : Prop := Claim7.holds Tryz.pinned (.plain (OpenSpec.ofChange revocationChangesSpec)) revocationChangesCard

/-- THE SECOND FORM's CARD OF 'cretulalaw26.RevocationEnds'. -/
def revocationEndsUptoCard : Claim7 := { stood := { row := revocationEndsUptoRow, standIns := [], harness := (true, "86b6981eae28e53a1aae877f650a4b39199f11e2d4d455aa02033f799575161c"), looks := true }, kinds := [], alts := [], laidByText := true, laidKinds := [.pinned, .data, .sentinel, .sentinel, .data, .data, .data], laidTests := true, laidLooks := .later }
def RevocationEndsUptoCardSaid : Prop := Claim7.holds Tryz.pinned (.plain (OpenSpec.upto revocationEndsSpec)) revocationEndsUptoCard

/-- THE SECOND FORM's CARD OF 'cretulalaw26.RevocationChanges'. -/
def revocationChangesUptoCard : Claim7 := { stood := { row := revocationChangesUptoRow, standIns := [], harness := (true, "86b6981eae28e53a1aae877f650a4b39199f11e2d4d455aa02033f799575161c"), looks := true }, kinds := [], alts := [], laidByText := true, laidKinds := [.pinned, .data, .sentinel, .sentinel, .data, .data, .data], laidTests := true, laidLooks := .later }
def RevocationChangesUptoCardSaid : Prop := Claim7.holds Tryz.pinned (.plain (OpenSpec.upto revocationChangesSpec)) revocationChangesUptoCard
end Rows
end Go.Proofs.YtfjfjojmeookfaaGreatDoor
