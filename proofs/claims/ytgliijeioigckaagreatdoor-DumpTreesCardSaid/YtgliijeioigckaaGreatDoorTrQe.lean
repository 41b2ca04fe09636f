/- The row's closed facts, one by one. No condition is added. -/
import Derived.Test.YtgliijeioigckaaGreatDoorRows
import Derived.Test.YtgliijeioigckaaGreatDoorTrP
import Derived.JoinedOf
set_option linter.unusedVariables false
set_option linter.unusedSimpArgs false
namespace Go.Proofs.YtgliijeioigckaaGreatDoor
open Go Go.Fw
theorem unf : Tryz.prog.unfollowed 5 = true := by
  unfold Program.unfollowed
  rw [Go.Proofs.Tryz.clo]
  kernel_rfl
theorem fact_unf : (Rows.dumpTreesRow.unfollowed == Tryz.prog.unfollowed 5) = true := by
  rw [unf]
  rfl
theorem fact_rec : (Rows.dumpTreesRow.recurses == Tryz.prog.recurses 5) = true := by
  unfold Program.recurses
  rw [unf]
  rfl
end Go.Proofs.YtgliijeioigckaaGreatDoor
