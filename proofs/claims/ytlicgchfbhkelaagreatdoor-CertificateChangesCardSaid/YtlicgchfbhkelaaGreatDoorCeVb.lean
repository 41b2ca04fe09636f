/- The card: its closed facts. No condition beside the row's own. -/
import Derived.Test.YtlicgchfbhkelaaGreatDoorRows
import Derived.SevenTiedAt
import Derived.KernelRfl
set_option linter.unusedVariables false
set_option linter.unusedSimpArgs false
namespace Go.Proofs.YtlicgchfbhkelaaGreatDoor
open Go
theorem card_wf : Rows.certificateChangesRow.wfByText (OpenSpec.ofChange Rows.certificateChangesSpec) = true := by kernel_rfl
theorem card_main : Tryz.prog.mainIs = some (true, "a997f66d2c6d94aff297b0782d7b545f8e5181f74b54d72234c58c384b282524".toList) := by kernel_rfl
theorem card_name : Tryz.prog.funcNamed Tryz.f4.name = some 4 := by kernel_rfl
theorem card_stand : ([37, 38, 5].all fun u => !Tryz.prog.wantsStandIn u) = true := by kernel_rfl
end Go.Proofs.YtlicgchfbhkelaaGreatDoor
