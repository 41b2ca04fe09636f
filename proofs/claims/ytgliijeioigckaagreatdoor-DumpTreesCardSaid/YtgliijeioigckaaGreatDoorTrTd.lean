/- A part of the tie to the program's text. No condition is added. -/
import Derived.Test.YtgliijeioigckaaGreatDoorRows
import Derived.LaidByTextLater
import Derived.SevenTiedAt
import Derived.Test.YtgliijeioigckaaGreatDoorTrR
set_option linter.unusedVariables false
set_option linter.unusedSimpArgs false
namespace Go.Proofs.YtgliijeioigckaaGreatDoor
open Go
theorem tie_root : Tryz.prog.worded rootWordLater = true := by kernel_rfl
theorem tie_kinds : tieL.map (fun x => Tryz.prog.kindOfLater x.1) = ([.data, .data, .data, .data, .sentinel, .sentinel] : List LaidKind).map some := by kernel_rfl
end Go.Proofs.YtgliijeioigckaaGreatDoor
