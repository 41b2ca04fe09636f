/- The row's closed facts: part three. No condition is added. -/
import Derived.Test.YtlicgchfbhkelaaGreatDoorRows
import Derived.JoinedOf
import Derived.KernelRfl
set_option linter.unusedVariables false
set_option linter.unusedSimpArgs false
namespace Go.Proofs.YtlicgchfbhkelaaGreatDoor
open Go
theorem fact13 : ((Rows.certificateChangesRow.ifacesOut == Tryz.f4.resultTypes.toList.any (Tryz.prog.ifacesRec ·))) = true := by kernel_rfl
theorem fact14 : ((Rows.certificateChangesRow.loopsOut == Tryz.f4.resultTypes.toList.any (Tryz.prog.loopsFrom ·))) = true := by kernel_rfl
theorem fact15 : ((Rows.certificateChangesRow.plainKeys == Tryz.prog.plainKeys)) = true := by kernel_rfl
theorem fact16 : (Rows.certificateChangesRow.shortTexts.isNone) = true := by kernel_rfl
theorem fact18 : (Tryz.prog.mayEnter) = true := by kernel_rfl
theorem fact19 : ((Rows.certificateChangesRow.lifted == Tryz.prog.liftsFinal)) = true := by kernel_rfl
theorem fact20 : ((Tryz.prog.make == some Rows.certificateChangesRow.make)) = true := by kernel_rfl
theorem fact21 : ((Rows.certificateChangesRow.kinds == (if Rows.certificateChangesRow.domain.isEmpty then [] else Tryz.f4.params.toList.map fun t => match Tryz.prog.underlying t with | some (.int k) => some k | _ => none))) = true := by kernel_rfl
theorem fact22 : ((Rows.certificateChangesRow.pinned == Rows.certificateChangesRow.pinnedBy)) = true := by kernel_rfl
theorem fact23 : ((Rows.certificateChangesRow.veiled == (Tryz.f4.params.toList ++ Rows.certificateChangesSpec.plain.varTypes Tryz.prog ++ Tryz.f4.resultTypes.toList).any (Tryz.prog.veiledRec ·))) = true := by kernel_rfl
theorem fact24 : (Rows.certificateChangesRow.veiledFits Tryz.prog Tryz.f4.params.toList (Tryz.f4.params.toList ++ Rows.certificateChangesSpec.plain.varTypes Tryz.prog ++ Tryz.f4.resultTypes.toList)) = true := by kernel_rfl
end Go.Proofs.YtlicgchfbhkelaaGreatDoor
