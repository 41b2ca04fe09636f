/- The law DumpHex returns true for every input: the row's statement. No condition beside the row's own. -/
import Derived.Test.YtgliijeioigckaaGreatDoorHeY
import Derived.Test.YtgliijeioigckaaGreatDoorHeZb
import Derived.Test.YtgliijeioigckaaGreatDoorHeZc
import Derived.Test.YtgliijeioigckaaGreatDoorRows
import Derived.ProofKit
import Derived.OpenShut
import Derived.LaidMore
import Derived.Lay
import Derived.WideKeyArgs
import Derived.Stop.Joined
import Derived.Stop.LaidErr
set_option linter.unusedVariables false
set_option linter.unusedSimpArgs false
namespace Go.Proofs.YtgliijeioigckaaGreatDoor
open Go Go.Fw Go.ChangeShapes Go.WideShapes Go.ChangeAt Go.ChangeMaps Go.RowKit
set_option maxRecDepth 100000 in
theorem lifted (os : Os) (started : os.Started) (H : Type) (enc : TypeId × Value → H) :
    ReturnsInHanded {} Tryz.checked os 4 .any (fun w args => ((Rows.dumpHexSpec.pre enc Tryz.prog Tryz.f4 [] false w args ∧ laidMetH Tryz.prog Rows.dumpHexRow.laid w)) ∧ sizedMet enc Tryz.prog Tryz.f4 (OpenSpec.ofChange Rows.dumpHexSpec) false w args)
      (Rows.dumpHexSpec.post enc Tryz.prog Tryz.f4 false true false false) :=
  returnsInHanded_of_change_and (C := Tryz.checked) (X := fun w _ => laidMetH Tryz.prog Rows.dumpHexRow.laid w) (fun _ _ _ hh h => h.of_heap hh) own started (by kernel_rfl) Tryz.func4
    (wit enc os) (fun W base args ds gs before h1 h2 _ h4 h5 _ => contract enc W base args ds gs before h1 h2 h4 h5)
theorem named4 : Tryz.pinned.checked.prog.funcNamed Rows.dumpHexRow.func = some 4 := by kernel_rfl
theorem holds : Rows.DumpHexSaid :=
  OpenClaim.holds_of_wide 4 Tryz.f4 rfl rfl rfl rfl rfl rfl rfl ⟨rfl, rfl, rfl, rfl, rfl⟩ rfl rfl rfl rfl rfl named4 Tryz.func4 facts
    (of_decide_eq_true (by kernel_rfl)) (by unfold Func.isWrapper; first | (rw [if_pos (by decide +kernel)]; kernel_rfl) | (rw [if_neg (by decide +kernel)]; exact ⟨rfl, rfl⟩))
    (fun os started H enc _ => lifted os started H enc)
end Go.Proofs.YtgliijeioigckaaGreatDoor
