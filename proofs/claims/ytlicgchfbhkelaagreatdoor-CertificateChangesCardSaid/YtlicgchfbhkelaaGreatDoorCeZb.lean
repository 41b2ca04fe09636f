/- The law's row: a world that meets it. No condition beside the row's own. -/
import Derived.Test.YtlicgchfbhkelaaGreatDoorRows
import Derived.ProofKit
import Derived.OpenShut
import Derived.LaidMore
import Derived.Lay
import Derived.WideKeyArgs
import Derived.Stop.Joined
import Derived.Stop.LaidErr
import Derived.Test.YtlicgchfbhkelaaGreatDoorCeZa
set_option linter.unusedVariables false
set_option linter.unusedSimpArgs false
namespace Go.Proofs.YtlicgchfbhkelaaGreatDoor
open Go Go.ChangeShapes Go.WideShapes Go.ChangeAt Go.ChangeMaps Go.RowKit
theorem wit {H : Type} (enc : TypeId × Value → H) (os : Os) : ∃ (w : World) (tape : Tape) (i : Input), w.os = os ∧ (w.forCall tape i).Shaped Tryz.checked.prog ∧ i.vars = [] ∧ Input.okWide Tryz.checked.prog (w.forCall tape i) .any w.heap.size 4 i ∧
    ((Rows.certificateChangesSpec.pre enc Tryz.checked.prog Tryz.f4 [] false (w.forCall tape i).memory i.args ∧ laidMetH Tryz.prog Rows.certificateChangesRow.laid (w.forCall tape i).memory) ∧ sizedMet enc Tryz.checked.prog Tryz.f4 (OpenSpec.ofChange Rows.certificateChangesSpec) false (w.forCall tape i).memory i.args) ∧
      ({ modest := false } : Assume).holds Tryz.checked.prog (lone (Frame.enter Tryz.checked.prog 4 i.args .normal) [] (w.forCall tape i)) :=
  ChangeSpec.witness_shaped (enc := enc) (C := Tryz.checked) (os := os) (f := 4) (fn := Tryz.f4) (s := Rows.certificateChangesSpec) (conds := []) (apart := false) (X := fun w _ => laidMetH Tryz.prog Rows.certificateChangesRow.laid w) false (World.laidAll Tryz.prog os Rows.certificateChangesRow.laid) wargs 12 (World.laidAll_os _ _ _)
    (wit_shape os) (by kernel_rfl) (by kernel_rfl) (by kernel_rfl) (wit_laid os)
end Go.Proofs.YtlicgchfbhkelaaGreatDoor
