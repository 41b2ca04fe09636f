/- The law DumpTrees returns true for every input: the row's statement. No condition beside the row's own. -/
import Derived.Test.YtgliijeioigckaaGreatDoorTrY
import Derived.Test.YtgliijeioigckaaGreatDoorTrZb
import Derived.Test.YtgliijeioigckaaGreatDoorTrZc
import Derived.Test.YtgliijeioigckaaGreatDoorRows
import Derived.ProofKit
import Derived.OpenShut
import Derived.LaidMore
import Derived.Lay
import Derived.WideKeyArgs
import Derived.Stop.Joined
import Derived.Stop.LaidErr
set_option linter.unusedVariables false
set_option linter.unusedSimpArgs false
namespace Go.Proofs.YtgliijeioigckaaGreatDoor
open Go Go.Fw Go.ChangeShapes Go.WideShapes Go.ChangeAt Go.ChangeMaps Go.RowKit
set_option maxRecDepth 100000 in
theorem lifted (os : Os) (started : os.Started) (H : Type) (enc : TypeId × Value → H) :
    ReturnsInHanded {} Tryz.checked os 5 .any (fun w args => ((Rows.dumpTreesSpec.pre enc Tryz.prog Tryz.f5 [] false w args ∧ laidMetH Tryz.prog Rows.dumpTreesRow.laid w)) ∧ sizedMet enc Tryz.prog Tryz.f5 (OpenSpec.ofChange Rows.dumpTreesSpec) false w args)
      (Rows.dumpTreesSpec.post enc Tryz.prog Tryz.f5 false true false false) :=
  returnsInHanded_of_change_and (C := Tryz.checked) (X := fun w _ => laidMetH Tryz.prog Rows.dumpTreesRow.laid w) (fun _ _ _ hh h => h.of_heap hh) own started (by kernel_rfl) Tryz.func5
    (wit enc os) (fun W base args ds gs before h1 h2 _ h4 h5 _ => contract enc W base args ds gs before h1 h2 h4 h5)
theorem named5 : Tryz.pinned.checked.prog.funcNamed Rows.dumpTreesRow.func = some 5 := by kernel_rfl
theorem holds : Rows.DumpTreesSaid :=
  OpenClaim.holds_of_wide 5 Tryz.f5 rfl rfl rfl rfl rfl rfl rfl ⟨rfl, rfl, rfl, rfl, rfl⟩ rfl rfl rfl rfl rfl named5 Tryz.func5 facts
    (of_decide_eq_true (by kernel_rfl)) (by unfold Func.isWrapper; first | (rw [if_pos (by decide +kernel)]; kernel_rfl) | (rw [if_neg (by decide +kernel)]; exact ⟨rfl, rfl⟩))
    (fun os started H enc _ => lifted os started H enc)
end Go.Proofs.YtgliijeioigckaaGreatDoor
