/- The card: its closed facts. No condition beside the row's own. -/
import Derived.Test.YtfjfjojmeookfaaGreatDoorRows
import Derived.SevenTiedAt
import Derived.KernelRfl
set_option linter.unusedVariables false
set_option linter.unusedSimpArgs false
namespace Go.Proofs.YtfjfjojmeookfaaGreatDoor
open Go
theorem card_wf : Rows.revocationChangesRow.wfByText (OpenSpec.ofChange Rows.revocationChangesSpec) = true := by kernel_rfl
theorem card_main : Tryz.prog.mainIs = some (true, "86b6981eae28e53a1aae877f650a4b39199f11e2d4d455aa02033f799575161c".toList) := by kernel_rfl
theorem card_name : Tryz.prog.funcNamed Tryz.f4.name = some 4 := by kernel_rfl
theorem card_stand : ([36, 37, 5].all fun u => !Tryz.prog.wantsStandIn u) = true := by kernel_rfl
end Go.Proofs.YtfjfjojmeookfaaGreatDoor
