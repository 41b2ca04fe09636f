/-
  DERIVED. GIVEN WITH THE SEED: THE CARDS: each row of YtnckoelcmkdeeaaGreatDoorRows.lean that lists a variable, with what it lists TIED to the program's text (the seventh form; the later family's looks); each row that meets fmt, with fmt's text TOLD by the authors' own Lean function (tested against real Go, not proved from fmt's source: count such statements apart). THE CARD IS WHAT COUNTS. Prove the row's statement (the work); the ties are given (YtnckoelcmkdeeaaGreatDoorTie.lean); close each card by the builder's one call (the guide's Derived/Test/ToyasCard.lean, 'card_holds'). Laid BY PROGRAM, IN A SANDBOX (cutbox-door.mjs). By AI agents, Wed Nov 11 2026. No macro, syntax, notation, axiom, sorry.
-/
import Derived.Test.YtnckoelcmkdeeaaGreatDoorRows
import GoSem.ClaimSeven
namespace Go.Proofs.YtnckoelcmkdeeaaGreatDoor
namespace Rows

/-- THE TIED CARD OF 'cretulalaw26.RevocationFinds'. -/
def revocationFindsCard : Claim7 := { stood := { row := revocationFindsRow, standIns := [], harness := (true, "c5354ad0fd2136463ef10081bb0a2e9f8c7811db3b6206fa74d5c54ad3d883a3"), looks := true }, kinds := [], alts := [], laidByText := true, laidKinds := [.pinned, .data, .sentinel, .sentinel, .data, .data, .data], laidTests := true, laidLooks := .later }
def RevocationFindsCardSaid : Prop := Claim7.holds Tryz.pinned (.plain (OpenSpec.ofChange revocationFindsSpec)) revocationFindsCard

/-- THE SECOND FORM's CARD OF 'cretulalaw26.RevocationFinds'. -/
def revocationFindsUptoCard : Claim7 := { stood := { row := revocationFindsUptoRow, standIns := [], harness := (true, "c5354ad0fd2136463ef10081bb0a2e9f8c7811db3b6206fa74d5c54ad3d883a3"), looks := true }, kinds := [], alts := [], laidByText := true, laidKinds := [.pinned, .data, .sentinel, .sentinel, .data, .data, .data], laidTests := true, laidLooks := .later }
def RevocationFindsUptoCardSaid : Prop := Claim7.holds Tryz.pinned (.plain (OpenSpec.upto revocationFindsSpec)) revocationFindsUptoCard
end Rows
end Go.Proofs.YtnckoelcmkdeeaaGreatDoor
