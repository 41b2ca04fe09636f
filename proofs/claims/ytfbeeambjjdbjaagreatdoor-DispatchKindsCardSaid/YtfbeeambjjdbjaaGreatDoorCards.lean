/-
  DERIVED. GIVEN WITH THE SEED: THE CARDS: each row of YtfbeeambjjdbjaaGreatDoorRows.lean that lists a variable, with what it lists TIED to the program's text (the seventh form; the later family's looks); each row that meets fmt, with fmt's text TOLD by the authors' own Lean function (tested against real Go, not proved from fmt's source: count such statements apart). THE CARD IS WHAT COUNTS. Prove the row's statement (the work); the ties are given (YtfbeeambjjdbjaaGreatDoorTie.lean); close each card by the builder's one call (the guide's Derived/Test/ToyasCard.lean, 'card_holds'). Laid BY PROGRAM, IN A SANDBOX (cutbox-door.mjs). By AI agents, Wed Nov 11 2026. No macro, syntax, notation, axiom, sorry.
-/
import Derived.Test.YtfbeeambjjdbjaaGreatDoorRows
import GoSem.ClaimSeven
namespace Go.Proofs.YtfbeeambjjdbjaaGreatDoor
namespace Rows

/-- THE TIED CARD OF 'cretulalaw23.DispatchKinds'. -/
def dispatchKindsCard : Claim7 := { stood := { row := dispatchKindsRow, standIns := [], harness := (true, "8960af7b9dc112392784b084914b25cdd888f30b580b38952593e21593b05527"), looks := true }, kinds := [], alts := [], laidByText := true, laidKinds := [.data, .data, .data, .data, .sentinel, .sentinel, .pinned], laidTests := true, laidLooks := .later }
def DispatchKindsCardSaid : Prop := Claim7.holds Tryz.pinned (.plain (OpenSpec.ofChange dispatchKindsSpec)) dispatchKindsCard

/-- THE SECOND FORM's CARD OF 'cretulalaw23.DispatchKinds'. -/
def dispatchKindsUptoCard : Claim7 := { stood := { row := dispatchKindsUptoRow, standIns := [], harness := (true, "8960af7b9dc112392784b084914b25cdd888f30b580b38952593e21593b05527"), looks := true }, kinds := [], alts := [], laidByText := true, laidKinds := [.data, .data, .data, .data, .sentinel, .sentinel, .pinned], laidTests := true, laidLooks := .later }
def DispatchKindsUptoCardSaid : Prop := Claim7.holds Tryz.pinned (.plain (OpenSpec.upto dispatchKindsSpec)) dispatchKindsUptoCard
end Rows
end Go.Proofs.YtfbeeambjjdbjaaGreatDoor
