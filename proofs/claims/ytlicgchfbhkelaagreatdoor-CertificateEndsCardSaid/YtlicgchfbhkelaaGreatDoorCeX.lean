/- The row's closed facts: part three. No condition is added. -/
import Derived.Test.YtlicgchfbhkelaaGreatDoorRows
import Derived.JoinedOf
import Derived.KernelRfl
set_option linter.unusedVariables false
set_option linter.unusedSimpArgs false
namespace Go.Proofs.YtlicgchfbhkelaaGreatDoor
open Go
theorem fact13 : ((Rows.certificateEndsRow.ifacesOut == Tryz.f3.resultTypes.toList.any (Tryz.prog.ifacesRec ·))) = true := by kernel_rfl
theorem fact14 : ((Rows.certificateEndsRow.loopsOut == Tryz.f3.resultTypes.toList.any (Tryz.prog.loopsFrom ·))) = true := by kernel_rfl
theorem fact15 : ((Rows.certificateEndsRow.plainKeys == Tryz.prog.plainKeys)) = true := by kernel_rfl
theorem fact16 : (Rows.certificateEndsRow.shortTexts.isNone) = true := by kernel_rfl
theorem fact18 : (Tryz.prog.mayEnter) = true := by kernel_rfl
theorem fact19 : ((Rows.certificateEndsRow.lifted == Tryz.prog.liftsFinal)) = true := by kernel_rfl
theorem fact20 : ((Tryz.prog.make == some Rows.certificateEndsRow.make)) = true := by kernel_rfl
theorem fact21 : ((Rows.certificateEndsRow.kinds == (if Rows.certificateEndsRow.domain.isEmpty then [] else Tryz.f3.params.toList.map fun t => match Tryz.prog.underlying t with | some (.int k) => some k | _ => none))) = true := by kernel_rfl
theorem fact22 : ((Rows.certificateEndsRow.pinned == Rows.certificateEndsRow.pinnedBy)) = true := by kernel_rfl
theorem fact23 : ((Rows.certificateEndsRow.veiled == (Tryz.f3.params.toList ++ Rows.certificateEndsSpec.plain.varTypes Tryz.prog ++ Tryz.f3.resultTypes.toList).any (Tryz.prog.veiledRec ·))) = true := by kernel_rfl
theorem fact24 : (Rows.certificateEndsRow.veiledFits Tryz.prog Tryz.f3.params.toList (Tryz.f3.params.toList ++ Rows.certificateEndsSpec.plain.varTypes Tryz.prog ++ Tryz.f3.resultTypes.toList)) = true := by kernel_rfl
end Go.Proofs.YtlicgchfbhkelaaGreatDoor
