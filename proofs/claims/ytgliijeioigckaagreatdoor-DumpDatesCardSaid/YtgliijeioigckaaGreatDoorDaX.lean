/- The row's closed facts: part three. No condition is added. -/
import Derived.Test.YtgliijeioigckaaGreatDoorRows
import Derived.JoinedOf
import Derived.KernelRfl
set_option linter.unusedVariables false
set_option linter.unusedSimpArgs false
namespace Go.Proofs.YtgliijeioigckaaGreatDoor
open Go
theorem fact13 : ((Rows.dumpDatesRow.ifacesOut == Tryz.f3.resultTypes.toList.any (Tryz.prog.ifacesRec ·))) = true := by kernel_rfl
theorem fact14 : ((Rows.dumpDatesRow.loopsOut == Tryz.f3.resultTypes.toList.any (Tryz.prog.loopsFrom ·))) = true := by kernel_rfl
theorem fact15 : ((Rows.dumpDatesRow.plainKeys == Tryz.prog.plainKeys)) = true := by kernel_rfl
theorem fact16 : (Rows.dumpDatesRow.shortTexts.isNone) = true := by kernel_rfl
theorem fact18 : (Tryz.prog.mayEnter) = true := by kernel_rfl
theorem fact19 : ((Rows.dumpDatesRow.lifted == Tryz.prog.liftsFinal)) = true := by kernel_rfl
theorem fact20 : ((Tryz.prog.make == some Rows.dumpDatesRow.make)) = true := by kernel_rfl
theorem fact21 : ((Rows.dumpDatesRow.kinds == (if Rows.dumpDatesRow.domain.isEmpty then [] else Tryz.f3.params.toList.map fun t => match Tryz.prog.underlying t with | some (.int k) => some k | _ => none))) = true := by kernel_rfl
theorem fact22 : ((Rows.dumpDatesRow.pinned == Rows.dumpDatesRow.pinnedBy)) = true := by kernel_rfl
theorem fact23 : ((Rows.dumpDatesRow.veiled == (Tryz.f3.params.toList ++ Rows.dumpDatesSpec.plain.varTypes Tryz.prog ++ Tryz.f3.resultTypes.toList).any (Tryz.prog.veiledRec ·))) = true := by kernel_rfl
theorem fact24 : (Rows.dumpDatesRow.veiledFits Tryz.prog Tryz.f3.params.toList (Tryz.f3.params.toList ++ Rows.dumpDatesSpec.plain.varTypes Tryz.prog ++ Tryz.f3.resultTypes.toList)) = true := by kernel_rfl
end Go.Proofs.YtgliijeioigckaaGreatDoor
