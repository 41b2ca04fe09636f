/- The row's closed facts, one by one. No condition is added. -/
import Derived.Test.YtlicgchfbhkelaaGreatDoorCeQh
import Derived.Test.YtlicgchfbhkelaaGreatDoorCeQi
import Derived.Test.YtlicgchfbhkelaaGreatDoorCeQj
set_option linter.unusedVariables false
set_option linter.unusedSimpArgs false
namespace Go.Proofs.YtlicgchfbhkelaaGreatDoor
open Go
theorem fact_laid : laidOutB Tryz.prog = true := by
  have hr : (List.range Tryz.prog.types.size).all (rowFine Tryz.prog) = true := by
    rw [laid_types, List.range_eq_range', show List.range' 0 586 = List.range' 0 293 ++ List.range' 293 293 from by decide +kernel, List.all_append, laid_low, laid_high]
    rfl
  unfold laidOutB
  rw [hr, laid_vars, laid_params]
  rfl
end Go.Proofs.YtlicgchfbhkelaaGreatDoor
