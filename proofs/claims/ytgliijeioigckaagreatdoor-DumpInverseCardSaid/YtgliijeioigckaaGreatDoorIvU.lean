/- The law DumpInverse returns true for every input: the row's statement. No condition beside the row's own. -/
import Derived.Test.YtgliijeioigckaaGreatDoorIvY
import Derived.Test.YtgliijeioigckaaGreatDoorIvZb
import Derived.Test.YtgliijeioigckaaGreatDoorIvZc
import Derived.Test.YtgliijeioigckaaGreatDoorRows
import Derived.ProofKit
import Derived.OpenShut
import Derived.LaidMore
import Derived.Lay
import Derived.WideKeyArgs
import Derived.Stop.Joined
import Derived.Stop.LaidErr
set_option linter.unusedVariables false
set_option linter.unusedSimpArgs false
namespace Go.Proofs.YtgliijeioigckaaGreatDoor
open Go Go.Fw Go.ChangeShapes Go.WideShapes Go.ChangeAt Go.ChangeMaps Go.RowKit
set_option maxRecDepth 100000 in
theorem lifted (os : Os) (started : os.Started) (H : Type) (enc : TypeId × Value → H) :
    ReturnsInHanded {} Tryz.checked os 6 .any (fun w args => ((Rows.dumpInverseSpec.pre enc Tryz.prog Tryz.f6 [] false w args ∧ laidMetH Tryz.prog Rows.dumpInverseRow.laid w)) ∧ sizedMet enc Tryz.prog Tryz.f6 (OpenSpec.ofChange Rows.dumpInverseSpec) false w args)
      (Rows.dumpInverseSpec.post enc Tryz.prog Tryz.f6 false true false false) :=
  returnsInHanded_of_change_and (C := Tryz.checked) (X := fun w _ => laidMetH Tryz.prog Rows.dumpInverseRow.laid w) (fun _ _ _ hh h => h.of_heap hh) own started (by kernel_rfl) Tryz.func6
    (wit enc os) (fun W base args ds gs before h1 h2 _ h4 h5 _ => contract enc W base args ds gs before h1 h2 h4 h5)
theorem named6 : Tryz.pinned.checked.prog.funcNamed Rows.dumpInverseRow.func = some 6 := by kernel_rfl
theorem holds : Rows.DumpInverseSaid :=
  OpenClaim.holds_of_wide 6 Tryz.f6 rfl rfl rfl rfl rfl rfl rfl ⟨rfl, rfl, rfl, rfl, rfl⟩ rfl rfl rfl rfl rfl named6 Tryz.func6 facts
    (of_decide_eq_true (by kernel_rfl)) (by unfold Func.isWrapper; first | (rw [if_pos (by decide +kernel)]; kernel_rfl) | (rw [if_neg (by decide +kernel)]; exact ⟨rfl, rfl⟩))
    (fun os started H enc _ => lifted os started H enc)
end Go.Proofs.YtgliijeioigckaaGreatDoor
