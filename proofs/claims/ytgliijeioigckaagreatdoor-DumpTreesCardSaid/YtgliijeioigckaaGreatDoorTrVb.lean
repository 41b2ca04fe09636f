/- The card: its closed facts. No condition beside the row's own. -/
import Derived.Test.YtgliijeioigckaaGreatDoorRows
import Derived.SevenTiedAt
import Derived.KernelRfl
set_option linter.unusedVariables false
set_option linter.unusedSimpArgs false
namespace Go.Proofs.YtgliijeioigckaaGreatDoor
open Go
theorem card_wf : Rows.dumpTreesRow.wfByText (OpenSpec.ofChange Rows.dumpTreesSpec) = true := by kernel_rfl
theorem card_main : Tryz.prog.mainIs = some (true, "0fd7264df08199e2abf1ec2e8ea253605bbd815af92744fc357896f0bcc52d9b".toList) := by kernel_rfl
theorem card_name : Tryz.prog.funcNamed Tryz.f5.name = some 5 := by kernel_rfl
theorem card_stand : ([27].all fun u => !Tryz.prog.wantsStandIn u) = true := by kernel_rfl
end Go.Proofs.YtgliijeioigckaaGreatDoor
