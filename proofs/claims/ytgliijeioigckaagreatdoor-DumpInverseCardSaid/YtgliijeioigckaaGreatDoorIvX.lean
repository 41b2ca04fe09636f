/- The row's closed facts: part three. No condition is added. -/
import Derived.Test.YtgliijeioigckaaGreatDoorRows
import Derived.JoinedOf
import Derived.KernelRfl
set_option linter.unusedVariables false
set_option linter.unusedSimpArgs false
namespace Go.Proofs.YtgliijeioigckaaGreatDoor
open Go
theorem fact13 : ((Rows.dumpInverseRow.ifacesOut == Tryz.f6.resultTypes.toList.any (Tryz.prog.ifacesRec ·))) = true := by kernel_rfl
theorem fact14 : ((Rows.dumpInverseRow.loopsOut == Tryz.f6.resultTypes.toList.any (Tryz.prog.loopsFrom ·))) = true := by kernel_rfl
theorem fact15 : ((Rows.dumpInverseRow.plainKeys == Tryz.prog.plainKeys)) = true := by kernel_rfl
theorem fact16 : (Rows.dumpInverseRow.shortTexts.isNone) = true := by kernel_rfl
theorem fact18 : (Tryz.prog.mayEnter) = true := by kernel_rfl
theorem fact19 : ((Rows.dumpInverseRow.lifted == Tryz.prog.liftsFinal)) = true := by kernel_rfl
theorem fact20 : ((Tryz.prog.make == some Rows.dumpInverseRow.make)) = true := by kernel_rfl
theorem fact21 : ((Rows.dumpInverseRow.kinds == (if Rows.dumpInverseRow.domain.isEmpty then [] else Tryz.f6.params.toList.map fun t => match Tryz.prog.underlying t with | some (.int k) => some k | _ => none))) = true := by kernel_rfl
theorem fact22 : ((Rows.dumpInverseRow.pinned == Rows.dumpInverseRow.pinnedBy)) = true := by kernel_rfl
theorem fact23 : ((Rows.dumpInverseRow.veiled == (Tryz.f6.params.toList ++ Rows.dumpInverseSpec.plain.varTypes Tryz.prog ++ Tryz.f6.resultTypes.toList).any (Tryz.prog.veiledRec ·))) = true := by kernel_rfl
theorem fact24 : (Rows.dumpInverseRow.veiledFits Tryz.prog Tryz.f6.params.toList (Tryz.f6.params.toList ++ Rows.dumpInverseSpec.plain.varTypes Tryz.prog ++ Tryz.f6.resultTypes.toList)) = true := by kernel_rfl
end Go.Proofs.YtgliijeioigckaaGreatDoor
