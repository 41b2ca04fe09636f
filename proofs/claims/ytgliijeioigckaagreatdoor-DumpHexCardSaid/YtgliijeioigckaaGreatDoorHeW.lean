/- The row's closed facts: part two. No condition is added. -/
import Derived.Test.YtgliijeioigckaaGreatDoorRows
import Derived.JoinedOf
import Derived.KernelRfl
set_option linter.unusedVariables false
set_option linter.unusedSimpArgs false
namespace Go.Proofs.YtgliijeioigckaaGreatDoor
open Go
theorem fact0 : (Tryz.f4.params.all (Tryz.prog.readableRec ·)) = true := by kernel_rfl
theorem fact1 : (namedTie Tryz.prog Rows.dumpHexRow.named Rows.dumpHexSpec.vars) = true := by kernel_rfl
theorem fact2 : ((Rows.dumpHexRow.stops == [])) = true := by kernel_rfl
theorem fact3 : ((Tryz.prog.stops == [])) = true := by kernel_rfl
theorem fact4 : ((Rows.dumpHexRow.knobs == [])) = true := by kernel_rfl
theorem fact5 : ((Tryz.prog.stopKnobs == [])) = true := by kernel_rfl
theorem fact6 : ((Rows.dumpHexRow.maps == (Tryz.f4.params.toList ++ Rows.dumpHexSpec.plain.varTypes Tryz.prog).any (Tryz.prog.mapsRec ·))) = true := by kernel_rfl
theorem fact7 : ((Rows.dumpHexRow.ifaces == (Tryz.f4.params.toList ++ Rows.dumpHexSpec.plain.varTypes Tryz.prog).any (Tryz.prog.ifacesRec ·))) = true := by kernel_rfl
theorem fact8 : ((Rows.dumpHexRow.mapsOut == Tryz.prog.mapsAmong Tryz.f4.resultTypes.toList)) = true := by kernel_rfl
theorem fact9 : ((Rows.dumpHexRow.loops == (Tryz.f4.params.toList ++ Rows.dumpHexSpec.plain.varTypes Tryz.prog).any (Tryz.prog.loopsFrom ·))) = true := by kernel_rfl
theorem fact10 : ((Rows.dumpHexRow.wideKeys == (Tryz.f4.params.toList ++ Rows.dumpHexSpec.plain.varTypes Tryz.prog ++ Tryz.f4.resultTypes.toList).any (Tryz.prog.wideKeysFrom ·))) = true := by kernel_rfl
theorem fact11 : (Rows.dumpHexSpec.vars.all (Tryz.prog.varReadable ·)) = true := by kernel_rfl
theorem fact12 : (Tryz.f4.resultTypes.all (fun t => Tryz.prog.readableRec t && decide (t < Tryz.prog.types.size))) = true := by kernel_rfl
end Go.Proofs.YtgliijeioigckaaGreatDoor
