/- The row's closed facts: part two. No condition is added. -/
import Derived.Test.YtgliijeioigckaaGreatDoorRows
import Derived.JoinedOf
import Derived.KernelRfl
set_option linter.unusedVariables false
set_option linter.unusedSimpArgs false
namespace Go.Proofs.YtgliijeioigckaaGreatDoor
open Go
theorem fact0 : (Tryz.f5.params.all (Tryz.prog.readableRec ·)) = true := by kernel_rfl
theorem fact1 : (namedTie Tryz.prog Rows.dumpTreesRow.named Rows.dumpTreesSpec.vars) = true := by kernel_rfl
theorem fact2 : ((Rows.dumpTreesRow.stops == [])) = true := by kernel_rfl
theorem fact3 : ((Tryz.prog.stops == [])) = true := by kernel_rfl
theorem fact4 : ((Rows.dumpTreesRow.knobs == [])) = true := by kernel_rfl
theorem fact5 : ((Tryz.prog.stopKnobs == [])) = true := by kernel_rfl
theorem fact6 : ((Rows.dumpTreesRow.maps == (Tryz.f5.params.toList ++ Rows.dumpTreesSpec.plain.varTypes Tryz.prog).any (Tryz.prog.mapsRec ·))) = true := by kernel_rfl
theorem fact7 : ((Rows.dumpTreesRow.ifaces == (Tryz.f5.params.toList ++ Rows.dumpTreesSpec.plain.varTypes Tryz.prog).any (Tryz.prog.ifacesRec ·))) = true := by kernel_rfl
theorem fact8 : ((Rows.dumpTreesRow.mapsOut == Tryz.prog.mapsAmong Tryz.f5.resultTypes.toList)) = true := by kernel_rfl
theorem fact9 : ((Rows.dumpTreesRow.loops == (Tryz.f5.params.toList ++ Rows.dumpTreesSpec.plain.varTypes Tryz.prog).any (Tryz.prog.loopsFrom ·))) = true := by kernel_rfl
theorem fact10 : ((Rows.dumpTreesRow.wideKeys == (Tryz.f5.params.toList ++ Rows.dumpTreesSpec.plain.varTypes Tryz.prog ++ Tryz.f5.resultTypes.toList).any (Tryz.prog.wideKeysFrom ·))) = true := by kernel_rfl
theorem fact11 : (Rows.dumpTreesSpec.vars.all (Tryz.prog.varReadable ·)) = true := by kernel_rfl
theorem fact12 : (Tryz.f5.resultTypes.all (fun t => Tryz.prog.readableRec t && decide (t < Tryz.prog.types.size))) = true := by kernel_rfl
end Go.Proofs.YtgliijeioigckaaGreatDoor
