/- A part of a row's closed fact: the program's types lie as the model lays them. No condition is added. -/
import Derived.Test.YtlicgchfbhkelaaGreatDoorProg
import GoSem.ClaimDataLaid
import Derived.KernelRfl
set_option linter.unusedVariables false
set_option linter.unusedSimpArgs false
namespace Go.Proofs.YtlicgchfbhkelaaGreatDoor
open Go
theorem laid_high : (List.range' 293 293).all (rowFine Tryz.prog) = true := by kernel_rfl
end Go.Proofs.YtlicgchfbhkelaaGreatDoor
