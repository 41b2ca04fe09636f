/- The row's closed facts, one by one. No condition is added. -/
import Derived.Test.YtnckoelcmkdeeaaGreatDoorRows
import Derived.Test.YtnckoelcmkdeeaaGreatDoorFwP
import Derived.JoinedOf
set_option linter.unusedVariables false
set_option linter.unusedSimpArgs false
namespace Go.Proofs.YtnckoelcmkdeeaaGreatDoor
open Go Go.Fw
theorem fact_wf : Rows.revocationFindsRow.wf (OpenSpec.ofChange Rows.revocationFindsSpec) = true := by kernel_rfl
theorem fact_laid : laidOutB Tryz.prog = true := by kernel_rfl
theorem fact_maps : mapsRowed Tryz.prog = true := by kernel_rfl
theorem fact_inPlace : (Rows.revocationFindsRow.inPlace == Tryz.prog.inPlace 3) = true := by
  rw [inPlace_of Go.Proofs.Tryz.clo]
  kernel_rfl
theorem unf : Tryz.prog.unfollowed 3 = true := by
  unfold Program.unfollowed
  rw [Go.Proofs.Tryz.clo]
  kernel_rfl
theorem fact_unf : (Rows.revocationFindsRow.unfollowed == Tryz.prog.unfollowed 3) = true := by
  rw [unf]
  rfl
theorem fact_rec : (Rows.revocationFindsRow.recurses == Tryz.prog.recurses 3) = true := by
  unfold Program.recurses
  rw [unf]
  rfl
theorem fact_named : (Rows.revocationFindsRow.named == Tryz.prog.varsNamed 3) = true := by
  rw [varsNamed_of Go.Proofs.Tryz.clo]
  kernel_rfl
theorem fact_heard : Tryz.prog.stopsHeard = true := by kernel_rfl
theorem and2 {a b : Bool} (h : a = true) (k : b = true) : (a && b) = true := by rw [h, k]; rfl
end Go.Proofs.YtnckoelcmkdeeaaGreatDoor
