/- A part of a row's closed fact: the program's types lie as the model lays them. No condition is added. -/
import Derived.Test.YtfjfjojmeookfaaGreatDoorProg
import GoSem.ClaimDataLaid
import Derived.KernelRfl
set_option linter.unusedVariables false
set_option linter.unusedSimpArgs false
namespace Go.Proofs.YtfjfjojmeookfaaGreatDoor
open Go
theorem laid_high : (List.range' 294 295).all (rowFine Tryz.prog) = true := by kernel_rfl
end Go.Proofs.YtfjfjojmeookfaaGreatDoor
