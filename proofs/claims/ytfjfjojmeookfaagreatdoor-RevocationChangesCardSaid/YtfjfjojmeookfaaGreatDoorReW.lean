/- The row's closed facts: part two. No condition is added. -/
import Derived.Test.YtfjfjojmeookfaaGreatDoorRows
import Derived.JoinedOf
import Derived.KernelRfl
set_option linter.unusedVariables false
set_option linter.unusedSimpArgs false
namespace Go.Proofs.YtfjfjojmeookfaaGreatDoor
open Go
theorem fact0 : (Tryz.f4.params.all (Tryz.prog.readableRec ·)) = true := by kernel_rfl
theorem fact1 : (namedTie Tryz.prog Rows.revocationChangesRow.named Rows.revocationChangesSpec.vars) = true := by kernel_rfl
theorem fact2 : ((Rows.revocationChangesRow.stops == [])) = true := by kernel_rfl
theorem fact3 : ((Tryz.prog.stops == [])) = true := by kernel_rfl
theorem fact4 : ((Rows.revocationChangesRow.knobs == [])) = true := by kernel_rfl
theorem fact5 : ((Tryz.prog.stopKnobs == [])) = true := by kernel_rfl
theorem fact6 : ((Rows.revocationChangesRow.maps == (Tryz.f4.params.toList ++ Rows.revocationChangesSpec.plain.varTypes Tryz.prog).any (Tryz.prog.mapsRec ·))) = true := by kernel_rfl
theorem fact7 : ((Rows.revocationChangesRow.ifaces == (Tryz.f4.params.toList ++ Rows.revocationChangesSpec.plain.varTypes Tryz.prog).any (Tryz.prog.ifacesRec ·))) = true := by kernel_rfl
theorem fact8 : ((Rows.revocationChangesRow.mapsOut == Tryz.prog.mapsAmong Tryz.f4.resultTypes.toList)) = true := by kernel_rfl
theorem fact9 : ((Rows.revocationChangesRow.loops == (Tryz.f4.params.toList ++ Rows.revocationChangesSpec.plain.varTypes Tryz.prog).any (Tryz.prog.loopsFrom ·))) = true := by kernel_rfl
theorem fact10 : ((Rows.revocationChangesRow.wideKeys == (Tryz.f4.params.toList ++ Rows.revocationChangesSpec.plain.varTypes Tryz.prog ++ Tryz.f4.resultTypes.toList).any (Tryz.prog.wideKeysFrom ·))) = true := by kernel_rfl
theorem fact11 : (Rows.revocationChangesSpec.vars.all (Tryz.prog.varReadable ·)) = true := by kernel_rfl
theorem fact12 : (Tryz.f4.resultTypes.all (fun t => Tryz.prog.readableRec t && decide (t < Tryz.prog.types.size))) = true := by kernel_rfl
end Go.Proofs.YtfjfjojmeookfaaGreatDoor
