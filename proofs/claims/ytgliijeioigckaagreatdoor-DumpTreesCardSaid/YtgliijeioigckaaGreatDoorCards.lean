/-
  DERIVED. GIVEN WITH THE SEED: THE CARDS: each row of YtgliijeioigckaaGreatDoorRows.lean that lists a variable, with what it lists TIED to the program's text (the seventh form; the later family's looks); each row that meets fmt, with fmt's text TOLD by the authors' own Lean function (tested against real Go, not proved from fmt's source: count such statements apart). THE CARD IS WHAT COUNTS. Prove the row's statement (the work); the ties are given (YtgliijeioigckaaGreatDoorTie.lean); close each card by the builder's one call (the guide's Derived/Test/ToyasCard.lean, 'card_holds'). Laid BY PROGRAM, IN A SANDBOX (cutbox-door.mjs). By AI agents, Wed Nov 11 2026. No macro, syntax, notation, axiom, sorry.
-/
import Derived.Test.YtgliijeioigckaaGreatDoorRows
import GoSem.ClaimSeven
namespace Go.Proofs.YtgliijeioigckaaGreatDoor
namespace Rows

/-- THE TIED CARD OF 'cretulalaw29.DumpDates'. -/
def dumpDatesCard : Claim7 := { stood := { row := dumpDatesRow, standIns := [], harness := (true, "0fd7264df08199e2abf1ec2e8ea253605bbd815af92744fc357896f0bcc52d9b"), looks := true }, kinds := [], alts := [], laidByText := true, laidKinds := [.data, .data, .data, .pinned, .data, .sentinel, .sentinel], laidTests := true, laidLooks := .later }
def DumpDatesCardSaid : Prop := Claim7.holds Tryz.pinned (.plain (OpenSpec.ofChange dumpDatesSpec)) dumpDatesCard

/-- THE TIED CARD OF 'cretulalaw29.DumpHex'. -/
def dumpHexCard : Claim7 := { stood := { row := dumpHexRow, standIns := [], harness := (true, "0fd7264df08199e2abf1ec2e8ea253605bbd815af92744fc357896f0bcc52d9b"), looks := true }, kinds := [], alts := [], laidByText := true, laidKinds := [.data, .data, .data, .pinned, .data, .sentinel, .sentinel], laidTests := true, laidLooks := .later }
def DumpHexCardSaid : Prop := Claim7.holds Tryz.pinned (.plain (OpenSpec.ofChange dumpHexSpec)) dumpHexCard

/-- THE TIED CARD OF 'cretulalaw29.DumpTrees'. -/
def dumpTreesCard : Claim7 := { stood := { row := dumpTreesRow, standIns := [], harness := (true, "0fd7264df08199e2abf1ec2e8ea253605bbd815af92744fc357896f0bcc52d9b"), looks := true }, kinds := [], alts := [], laidByText := true, laidKinds := [.data, .data, .data, .pinned, .data, .sentinel, .sentinel], laidTests := true, laidLooks := .later }
def DumpTreesCardSaid : Prop := Claim7.holds Tryz.pinned (.plain (OpenSpec.ofChange dumpTreesSpec)) dumpTreesCard

/-- THE TIED CARD OF 'cretulalaw29.DumpInverse'. -/
def dumpInverseCard : Claim7 := { stood := { row := dumpInverseRow, standIns := [], harness := (true, "0fd7264df08199e2abf1ec2e8ea253605bbd815af92744fc357896f0bcc52d9b"), looks := true }, kinds := [], alts := [], laidByText := true, laidKinds := [.data, .data, .data, .pinned, .data, .sentinel, .sentinel], laidTests := true, laidLooks := .later }
def DumpInverseCardSaid : Prop := Claim7.holds Tryz.pinned (.plain (OpenSpec.ofChange dumpInverseSpec)) dumpInverseCard

/-- THE SECOND FORM's CARD OF 'cretulalaw29.DumpDates'. -/
def dumpDatesUptoCard : Claim7 := { stood := { row := dumpDatesUptoRow, standIns := [], harness := (true, "0fd7264df08199e2abf1ec2e8ea253605bbd815af92744fc357896f0bcc52d9b"), looks := true }, kinds := [], alts := [], laidByText := true, laidKinds := [.data, .data, .data, .pinned, .data, .sentinel, .sentinel], laidTests := true, laidLooks := .later }
def DumpDatesUptoCardSaid : Prop := Claim7.holds Tryz.pinned (.plain (OpenSpec.upto dumpDatesSpec)) dumpDatesUptoCard

/-- THE SECOND FORM's CARD OF 'cretulalaw29.DumpHex'. -/
def dumpHexUptoCard : Claim7 := { stood := { row := dumpHexUptoRow, standIns := [], harness := (true, "0fd7264df08199e2abf1ec2e8ea253605bbd815af92744fc357896f0bcc52d9b"), looks := true }, kinds := [], alts := [], laidByText := true, laidKinds := [.data, .data, .data, .pinned, .data, .sentinel, .sentinel], laidTests := true, laidLooks := .later }
def DumpHexUptoCardSaid : Prop := Claim7.holds Tryz.pinned (.plain (OpenSpec.upto dumpHexSpec)) dumpHexUptoCard

/-- THE SECOND FORM's CARD OF 'cretulalaw29.DumpTrees'. -/
def dumpTreesUptoCard : Claim7 := { stood := { row := dumpTreesUptoRow, standIns := [], harness := (true, "0fd7264df08199e2abf1ec2e8ea253605bbd815af92744fc357896f0bcc52d9b"), looks := true }, kinds := [], alts := [], laidByText := true, laidKinds := [.data, .data, .data, .pinned, .data, .sentinel, .sentinel], laidTests := true, laidLooks := .later }
def DumpTreesUptoCardSaid : Prop := Claim7.holds Tryz.pinned (.plain (OpenSpec.upto dumpTreesSpec)) dumpTreesUptoCard

/-- THE SECOND FORM's CARD OF 'cretulalaw29.DumpInverse'. -/
def dumpInverseUptoCard : Claim7 := { stood := { row := dumpInverseUptoRow, standIns := [], harness := (true, "0fd7264df08199e2abf1ec2e8ea253605bbd815af92744fc357896f0bcc52d9b"), looks := true }, kinds := [], alts := [], laidByText := true, laidKinds := [.data, .data, .data, .pinned, .data, .sentinel, .sentinel], laidTests := true, laidLooks := .later }
def DumpInverseUptoCardSaid : Prop := Claim7.holds Tryz.pinned (.plain (OpenSpec.upto dumpInverseSpec)) dumpInverseUptoCard
end Rows
end Go.Proofs.YtgliijeioigckaaGreatDoor
