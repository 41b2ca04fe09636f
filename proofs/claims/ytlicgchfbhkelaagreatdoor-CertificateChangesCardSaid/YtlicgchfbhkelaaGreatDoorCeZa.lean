/- The law's row: a world that meets it, first part. No condition beside the row's own. -/
import Derived.Test.YtlicgchfbhkelaaGreatDoorRows
import Derived.ProofKit
import Derived.OpenShut
import Derived.LaidMore
import Derived.Lay
import Derived.WideKeyArgs
import Derived.Stop.Joined
import Derived.Stop.LaidErr
set_option linter.unusedVariables false
set_option linter.unusedSimpArgs false
namespace Go.Proofs.YtlicgchfbhkelaaGreatDoor
open Go Go.ChangeShapes Go.WideShapes Go.ChangeAt Go.ChangeMaps Go.RowKit
theorem own : ownKnob Tryz.prog.godebug = none := by kernel_rfl
def wargs : Array Value := #[.agg #[.int .i64 0, .slice none 0 0, .string ⟨#[]⟩, .slice none 0 0, .slice none 0 0, .int .i64 0, .int .i64 0, .int .i64 0, .int .i64 0, .int .i64 0, .int .i64 0, .int .i64 0, .int .i64 0, .int .i64 0, .int .i64 0, .int .i64 0, .int .i64 0, .slice none 0 0, .string ⟨#[]⟩, .slice none 0 0, .slice none 0 0, .int .i64 0, .bool false, .slice none 0 0, .int .i64 0, .bool false, .slice none 0 0, .int .i64 0, .slice none 0 0, .string ⟨#[]⟩, .slice none 0 0, .slice none 0 0, .int .i64 0], .int .u16 0, .int .u8 0]
theorem wit_shape (os : Os) : ((World.laidAll Tryz.prog os Rows.certificateChangesRow.laid).forCall (fun _ _ => 0) ⟨#[], wargs, []⟩).Shaped Tryz.checked.prog := World.shaped_of_ZipB (by kernel_rfl) (by kernel_rfl)
theorem wit_laid (os : Os) : laidMetH Tryz.prog Rows.certificateChangesRow.laid ((World.laidAll Tryz.prog os Rows.certificateChangesRow.laid).forCall (fun _ _ => 0) ⟨#[], wargs, []⟩).memory := by
  rw [MakeChecks.laidMetH_plain _ _ _ (by kernel_rfl)]
  exact laidMet_laidAll _ (by kernel_rfl) (by kernel_rfl)
end Go.Proofs.YtlicgchfbhkelaaGreatDoor
