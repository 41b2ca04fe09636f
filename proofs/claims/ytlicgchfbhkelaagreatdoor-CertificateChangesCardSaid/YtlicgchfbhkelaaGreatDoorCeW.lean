/- The row's closed facts: part two. No condition is added. -/
import Derived.Test.YtlicgchfbhkelaaGreatDoorRows
import Derived.JoinedOf
import Derived.KernelRfl
set_option linter.unusedVariables false
set_option linter.unusedSimpArgs false
namespace Go.Proofs.YtlicgchfbhkelaaGreatDoor
open Go
theorem fact0 : (Tryz.f4.params.all (Tryz.prog.readableRec ·)) = true := by kernel_rfl
theorem fact1 : (namedTie Tryz.prog Rows.certificateChangesRow.named Rows.certificateChangesSpec.vars) = true := by kernel_rfl
theorem fact2 : ((Rows.certificateChangesRow.stops == [])) = true := by kernel_rfl
theorem fact3 : ((Tryz.prog.stops == [])) = true := by kernel_rfl
theorem fact4 : ((Rows.certificateChangesRow.knobs == [])) = true := by kernel_rfl
theorem fact5 : ((Tryz.prog.stopKnobs == [])) = true := by kernel_rfl
theorem fact6 : ((Rows.certificateChangesRow.maps == (Tryz.f4.params.toList ++ Rows.certificateChangesSpec.plain.varTypes Tryz.prog).any (Tryz.prog.mapsRec ·))) = true := by kernel_rfl
theorem fact7 : ((Rows.certificateChangesRow.ifaces == (Tryz.f4.params.toList ++ Rows.certificateChangesSpec.plain.varTypes Tryz.prog).any (Tryz.prog.ifacesRec ·))) = true := by kernel_rfl
theorem fact8 : ((Rows.certificateChangesRow.mapsOut == Tryz.prog.mapsAmong Tryz.f4.resultTypes.toList)) = true := by kernel_rfl
theorem fact9 : ((Rows.certificateChangesRow.loops == (Tryz.f4.params.toList ++ Rows.certificateChangesSpec.plain.varTypes Tryz.prog).any (Tryz.prog.loopsFrom ·))) = true := by kernel_rfl
theorem fact10 : ((Rows.certificateChangesRow.wideKeys == (Tryz.f4.params.toList ++ Rows.certificateChangesSpec.plain.varTypes Tryz.prog ++ Tryz.f4.resultTypes.toList).any (Tryz.prog.wideKeysFrom ·))) = true := by kernel_rfl
theorem fact11 : (Rows.certificateChangesSpec.vars.all (Tryz.prog.varReadable ·)) = true := by kernel_rfl
theorem fact12 : (Tryz.f4.resultTypes.all (fun t => Tryz.prog.readableRec t && decide (t < Tryz.prog.types.size))) = true := by kernel_rfl
end Go.Proofs.YtlicgchfbhkelaaGreatDoor
