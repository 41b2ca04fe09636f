/- The card: its closed facts, more. No condition beside the row's own. -/
import Derived.Test.YtlicgchfbhkelaaGreatDoorRows
import Derived.SevenTiedAt
import Derived.KernelRfl
set_option linter.unusedVariables false
set_option linter.unusedSimpArgs false
namespace Go.Proofs.YtlicgchfbhkelaaGreatDoor
open Go
theorem card_looks : true = Tryz.prog.looks [] := by kernel_rfl
end Go.Proofs.YtlicgchfbhkelaaGreatDoor
