/- A part of the tie to the program's text. No condition is added. -/
import Derived.Test.YtgliijeioigckaaGreatDoorRows
import Derived.LaidByTextLater
import Derived.SevenTiedAt
set_option linter.unusedVariables false
set_option linter.unusedSimpArgs false
namespace Go.Proofs.YtgliijeioigckaaGreatDoor
open Go
theorem tie_word : Tryz.prog.worded (varsWordLater true) = true := by kernel_rfl
theorem tie_noword : Tryz.prog.worded (varsWordLater !true) = false := by kernel_rfl
end Go.Proofs.YtgliijeioigckaaGreatDoor
