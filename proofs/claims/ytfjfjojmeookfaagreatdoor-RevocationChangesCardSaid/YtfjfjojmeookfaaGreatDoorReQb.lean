/- The row's closed facts, one by one. No condition is added. -/
import Derived.Test.YtfjfjojmeookfaaGreatDoorReQh
import Derived.Test.YtfjfjojmeookfaaGreatDoorReQi
import Derived.Test.YtfjfjojmeookfaaGreatDoorReQj
set_option linter.unusedVariables false
set_option linter.unusedSimpArgs false
namespace Go.Proofs.YtfjfjojmeookfaaGreatDoor
open Go
theorem fact_laid : laidOutB Tryz.prog = true := by
  have hr : (List.range Tryz.prog.types.size).all (rowFine Tryz.prog) = true := by
    rw [laid_types, List.range_eq_range', show List.range' 0 589 = List.range' 0 294 ++ List.range' 294 295 from by decide +kernel, List.all_append, laid_low, laid_high]
    rfl
  unfold laidOutB
  rw [hr, laid_vars, laid_params]
  rfl
end Go.Proofs.YtfjfjojmeookfaaGreatDoor
