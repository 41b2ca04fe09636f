/- The law DumpDates returns true for every input: the row's statement. No condition beside the row's own. -/
import Derived.Test.YtgliijeioigckaaGreatDoorDaY
import Derived.Test.YtgliijeioigckaaGreatDoorDaZb
import Derived.Test.YtgliijeioigckaaGreatDoorDaZc
import Derived.Test.YtgliijeioigckaaGreatDoorRows
import Derived.ProofKit
import Derived.OpenShut
import Derived.LaidMore
import Derived.Lay
import Derived.WideKeyArgs
import Derived.Stop.Joined
import Derived.Stop.LaidErr
set_option linter.unusedVariables false
set_option linter.unusedSimpArgs false
namespace Go.Proofs.YtgliijeioigckaaGreatDoor
open Go Go.Fw Go.ChangeShapes Go.WideShapes Go.ChangeAt Go.ChangeMaps Go.RowKit
set_option maxRecDepth 100000 in
theorem lifted (os : Os) (started : os.Started) (H : Type) (enc : TypeId × Value → H) :
    ReturnsInHanded {} Tryz.checked os 3 .any (fun w args => ((Rows.dumpDatesSpec.pre enc Tryz.prog Tryz.f3 [] false w args ∧ laidMetH Tryz.prog Rows.dumpDatesRow.laid w)) ∧ sizedMet enc Tryz.prog Tryz.f3 (OpenSpec.ofChange Rows.dumpDatesSpec) false w args)
      (Rows.dumpDatesSpec.post enc Tryz.prog Tryz.f3 false true false false) :=
  returnsInHanded_of_change_and (C := Tryz.checked) (X := fun w _ => laidMetH Tryz.prog Rows.dumpDatesRow.laid w) (fun _ _ _ hh h => h.of_heap hh) own started (by kernel_rfl) Tryz.func3
    (wit enc os) (fun W base args ds gs before h1 h2 _ h4 h5 _ => contract enc W base args ds gs before h1 h2 h4 h5)
theorem named3 : Tryz.pinned.checked.prog.funcNamed Rows.dumpDatesRow.func = some 3 := by kernel_rfl
theorem holds : Rows.DumpDatesSaid :=
  OpenClaim.holds_of_wide 3 Tryz.f3 rfl rfl rfl rfl rfl rfl rfl ⟨rfl, rfl, rfl, rfl, rfl⟩ rfl rfl rfl rfl rfl named3 Tryz.func3 facts
    (of_decide_eq_true (by kernel_rfl)) (by unfold Func.isWrapper; first | (rw [if_pos (by decide +kernel)]; kernel_rfl) | (rw [if_neg (by decide +kernel)]; exact ⟨rfl, rfl⟩))
    (fun os started H enc _ => lifted os started H enc)
end Go.Proofs.YtgliijeioigckaaGreatDoor
