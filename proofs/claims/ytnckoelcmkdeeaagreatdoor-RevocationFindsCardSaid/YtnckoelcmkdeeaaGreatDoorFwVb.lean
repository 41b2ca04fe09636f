/- The card: its closed facts. No condition beside the row's own. -/
import Derived.Test.YtnckoelcmkdeeaaGreatDoorRows
import Derived.SevenTiedAt
import Derived.KernelRfl
set_option linter.unusedVariables false
set_option linter.unusedSimpArgs false
namespace Go.Proofs.YtnckoelcmkdeeaaGreatDoor
open Go
theorem card_wf : Rows.revocationFindsRow.wfByText (OpenSpec.ofChange Rows.revocationFindsSpec) = true := by kernel_rfl
theorem card_main : Tryz.prog.mainIs = some (true, "c5354ad0fd2136463ef10081bb0a2e9f8c7811db3b6206fa74d5c54ad3d883a3".toList) := by kernel_rfl
theorem card_name : Tryz.prog.funcNamed Tryz.f3.name = some 3 := by kernel_rfl
theorem card_stand : ([32, 22].all fun u => !Tryz.prog.wantsStandIn u) = true := by kernel_rfl
end Go.Proofs.YtnckoelcmkdeeaaGreatDoor
