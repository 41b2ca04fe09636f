/- The row's closed facts: part three. No condition is added. -/
import Derived.Test.YtfjfjojmeookfaaGreatDoorRows
import Derived.JoinedOf
import Derived.KernelRfl
set_option linter.unusedVariables false
set_option linter.unusedSimpArgs false
namespace Go.Proofs.YtfjfjojmeookfaaGreatDoor
open Go
theorem fact13 : ((Rows.revocationChangesRow.ifacesOut == Tryz.f4.resultTypes.toList.any (Tryz.prog.ifacesRec ·))) = true := by kernel_rfl
theorem fact14 : ((Rows.revocationChangesRow.loopsOut == Tryz.f4.resultTypes.toList.any (Tryz.prog.loopsFrom ·))) = true := by kernel_rfl
theorem fact15 : ((Rows.revocationChangesRow.plainKeys == Tryz.prog.plainKeys)) = true := by kernel_rfl
theorem fact16 : (Rows.revocationChangesRow.shortTexts.isNone) = true := by kernel_rfl
theorem fact18 : (Tryz.prog.mayEnter) = true := by kernel_rfl
theorem fact19 : ((Rows.revocationChangesRow.lifted == Tryz.prog.liftsFinal)) = true := by kernel_rfl
theorem fact20 : ((Tryz.prog.make == some Rows.revocationChangesRow.make)) = true := by kernel_rfl
theorem fact21 : ((Rows.revocationChangesRow.kinds == (if Rows.revocationChangesRow.domain.isEmpty then [] else Tryz.f4.params.toList.map fun t => match Tryz.prog.underlying t with | some (.int k) => some k | _ => none))) = true := by kernel_rfl
theorem fact22 : ((Rows.revocationChangesRow.pinned == Rows.revocationChangesRow.pinnedBy)) = true := by kernel_rfl
theorem fact23 : ((Rows.revocationChangesRow.veiled == (Tryz.f4.params.toList ++ Rows.revocationChangesSpec.plain.varTypes Tryz.prog ++ Tryz.f4.resultTypes.toList).any (Tryz.prog.veiledRec ·))) = true := by kernel_rfl
theorem fact24 : (Rows.revocationChangesRow.veiledFits Tryz.prog Tryz.f4.params.toList (Tryz.f4.params.toList ++ Rows.revocationChangesSpec.plain.varTypes Tryz.prog ++ Tryz.f4.resultTypes.toList)) = true := by kernel_rfl
end Go.Proofs.YtfjfjojmeookfaaGreatDoor
