/- A part of a row's closed fact: the program's types lie as the model lays them. No condition is added. -/
import Derived.Test.YtlicgchfbhkelaaGreatDoorProg
import GoSem.ClaimDataLaid
import Derived.KernelRfl
set_option linter.unusedVariables false
set_option linter.unusedSimpArgs false
namespace Go.Proofs.YtlicgchfbhkelaaGreatDoor
open Go
theorem laid_params : Tryz.prog.funcs.all (fun f => f.params.all fun t => decide (t < Tryz.prog.types.size)) = true := by kernel_rfl
theorem laid_types : Tryz.prog.types.size = 586 := by kernel_rfl
end Go.Proofs.YtlicgchfbhkelaaGreatDoor
