/- The row's closed facts: part two. No condition is added. -/
import Derived.Test.YtlicgchfbhkelaaGreatDoorRows
import Derived.JoinedOf
import Derived.KernelRfl
set_option linter.unusedVariables false
set_option linter.unusedSimpArgs false
namespace Go.Proofs.YtlicgchfbhkelaaGreatDoor
open Go
theorem fact0 : (Tryz.f3.params.all (Tryz.prog.readableRec ·)) = true := by kernel_rfl
theorem fact1 : (namedTie Tryz.prog Rows.certificateEndsRow.named Rows.certificateEndsSpec.vars) = true := by kernel_rfl
theorem fact2 : ((Rows.certificateEndsRow.stops == [])) = true := by kernel_rfl
theorem fact3 : ((Tryz.prog.stops == [])) = true := by kernel_rfl
theorem fact4 : ((Rows.certificateEndsRow.knobs == [])) = true := by kernel_rfl
theorem fact5 : ((Tryz.prog.stopKnobs == [])) = true := by kernel_rfl
theorem fact6 : ((Rows.certificateEndsRow.maps == (Tryz.f3.params.toList ++ Rows.certificateEndsSpec.plain.varTypes Tryz.prog).any (Tryz.prog.mapsRec ·))) = true := by kernel_rfl
theorem fact7 : ((Rows.certificateEndsRow.ifaces == (Tryz.f3.params.toList ++ Rows.certificateEndsSpec.plain.varTypes Tryz.prog).any (Tryz.prog.ifacesRec ·))) = true := by kernel_rfl
theorem fact8 : ((Rows.certificateEndsRow.mapsOut == Tryz.prog.mapsAmong Tryz.f3.resultTypes.toList)) = true := by kernel_rfl
theorem fact9 : ((Rows.certificateEndsRow.loops == (Tryz.f3.params.toList ++ Rows.certificateEndsSpec.plain.varTypes Tryz.prog).any (Tryz.prog.loopsFrom ·))) = true := by kernel_rfl
theorem fact10 : ((Rows.certificateEndsRow.wideKeys == (Tryz.f3.params.toList ++ Rows.certificateEndsSpec.plain.varTypes Tryz.prog ++ Tryz.f3.resultTypes.toList).any (Tryz.prog.wideKeysFrom ·))) = true := by kernel_rfl
theorem fact11 : (Rows.certificateEndsSpec.vars.all (Tryz.prog.varReadable ·)) = true := by kernel_rfl
theorem fact12 : (Tryz.f3.resultTypes.all (fun t => Tryz.prog.readableRec t && decide (t < Tryz.prog.types.size))) = true := by kernel_rfl
end Go.Proofs.YtlicgchfbhkelaaGreatDoor
