import Derived.Test.YtfbeeambjjdbjaaGreatDoorRows
import Derived.JoinedOf
namespace Go.Proofs.YtfbeeambjjdbjaaGreatDoor
open Go
theorem fact_wf : Rows.dispatchKindsRow.wf (OpenSpec.ofChange Rows.dispatchKindsSpec) = true := by kernel_rfl
theorem fact_laid : laidOutB Tryz.prog = true := by kernel_rfl
theorem fact_maps : mapsRowed Tryz.prog = true := by kernel_rfl
theorem fact_inPlace : (Rows.dispatchKindsRow.inPlace == Tryz.prog.inPlace 3) = true := by kernel_rfl
theorem fact_unf : (Rows.dispatchKindsRow.unfollowed == Tryz.prog.unfollowed 3) = true := by kernel_rfl
theorem fact_rec : (Rows.dispatchKindsRow.recurses == Tryz.prog.recurses 3) = true := by kernel_rfl
theorem fact_named : (Rows.dispatchKindsRow.named == Tryz.prog.varsNamed 3) = true := by kernel_rfl
theorem fact_heard : Tryz.prog.stopsHeard = true := by kernel_rfl
theorem and2 {a b : Bool} (h : a = true) (k : b = true) : (a && b) = true := by rw [h, k]; rfl
theorem facts : joinedFacts Tryz.prog 3 Tryz.f3 Rows.dispatchKindsSpec Rows.dispatchKindsRow = true :=
  (and2 (and2 (and2 (and2 (and2 (and2 (and2 (and2 (and2 (and2 (and2 (and2 (and2 (and2 (and2 (and2 (and2 (and2 (and2 (and2 (and2 (and2 (and2 (and2 (and2 (and2 (and2 (and2 (and2 (and2 (and2 fact_wf fact_laid) fact_maps) (by kernel_rfl)) (by kernel_rfl)) (by kernel_rfl)) (by kernel_rfl)) (by kernel_rfl)) (by kernel_rfl)) fact_inPlace) fact_unf) fact_rec) fact_named) (by kernel_rfl)) (by kernel_rfl)) (by kernel_rfl)) (by kernel_rfl)) (by kernel_rfl)) (by kernel_rfl)) (by kernel_rfl)) (by kernel_rfl)) (by kernel_rfl)) (by kernel_rfl)) (by kernel_rfl)) (by kernel_rfl)) (by kernel_rfl)) (by kernel_rfl)) (by kernel_rfl)) (by kernel_rfl)) (by kernel_rfl)) (by kernel_rfl)) (by kernel_rfl))
end Go.Proofs.YtfbeeambjjdbjaaGreatDoor
