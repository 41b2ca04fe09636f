/- The law CertificateChanges returns true for every input: the row's statement. No condition beside the row's own. -/
import Derived.Test.YtlicgchfbhkelaaGreatDoorCeY
import Derived.Test.YtlicgchfbhkelaaGreatDoorCeZb
import Derived.Test.YtlicgchfbhkelaaGreatDoorCeZc
import Derived.Test.YtlicgchfbhkelaaGreatDoorRows
import Derived.ProofKit
import Derived.OpenShut
import Derived.LaidMore
import Derived.Lay
import Derived.WideKeyArgs
import Derived.Stop.Joined
import Derived.Stop.LaidErr
import Derived.Lib.LaidTab
import Derived.Lib.LaidU8T
import Derived.PinnedBridge
set_option linter.unusedVariables false
set_option linter.unusedSimpArgs false
namespace Go.Proofs.YtlicgchfbhkelaaGreatDoor
open Go Go.Fw Go.ChangeShapes Go.WideShapes Go.ChangeAt Go.ChangeMaps Go.RowKit
set_option maxRecDepth 100000 in
theorem lifted (os : Os) (started : os.Started) (H : Type) (enc : TypeId × Value → H) :
    ReturnsInHanded {} Tryz.checked os 4 .any (fun w args => ((Rows.certificateChangesSpec.pre enc Tryz.prog Tryz.f4 [] false w args ∧ laidMetH Tryz.prog Rows.certificateChangesRow.laid w)) ∧ sizedMet enc Tryz.prog Tryz.f4 (OpenSpec.ofChange Rows.certificateChangesSpec) false w args)
      (Rows.certificateChangesSpec.post enc Tryz.prog Tryz.f4 false true false false) := by
  refine returnsInHanded_of_calls own started (by kernel_rfl) (wit enc os) ?_
  intro w tape i _ hsh _ hok hpre _
  obtain ⟨_, _, _, fn, hfn, _, _, _, _, hval⟩ := hok
  obtain rfl : fn = Tryz.f4 := Option.some.inj (hfn.symm.trans Tryz.func4)
  obtain ⟨⟨⟨ds, gs, before, hw, _⟩, hx⟩, hz⟩ := hpre
  have hx' : laidMetH Tryz.prog Rows.certificateChangesRow.laid (w.forCall tape i) := (fun _ _ _ hh h => h.of_heap hh : ∀ (w w' : World) (_ : Array Value), w.heap = w'.heap → laidMetH Tryz.prog Rows.certificateChangesRow.laid w → laidMetH Tryz.prog Rows.certificateChangesRow.laid w') (w.forCall tape i).memory (w.forCall tape i) #[] (by rfl) hx
  refine (contract enc (w.forCall tape i) w.heap.size i.args ds gs before hval (DataW.Whole.of_heap (w' := w.forCall tape i) (by rfl) hw) (hz.weights hw) hx' hsh).mono fun e W' ⟨v, he, hp⟩ => ?_
  subst he
  exact ChangeSpec.post_blind hp
theorem named4 : Tryz.pinned.checked.prog.funcNamed Rows.certificateChangesRow.func = some 4 := by kernel_rfl
theorem holds : Rows.CertificateChangesSaid :=
  OpenClaim.holds_of_wide 4 Tryz.f4 rfl rfl rfl rfl rfl rfl rfl ⟨rfl, rfl, rfl, rfl, rfl⟩ rfl rfl rfl rfl rfl named4 Tryz.func4 facts
    (of_decide_eq_true (by kernel_rfl)) (by unfold Func.isWrapper; first | (rw [if_pos (by decide +kernel)]; kernel_rfl) | (rw [if_neg (by decide +kernel)]; exact ⟨rfl, rfl⟩))
    (fun os started H enc _ => lifted os started H enc)
end Go.Proofs.YtlicgchfbhkelaaGreatDoor
