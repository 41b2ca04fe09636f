/- The card of cretulalaw25.CertificateChanges holds: for every input the law returns true, whatever the memory, the package-level variables that the row lists being as the program's text lays them. No condition beside the row's own. -/
import Derived.Test.YtlicgchfbhkelaaGreatDoorCeVa
import Derived.Test.YtlicgchfbhkelaaGreatDoorCeVb
import Derived.Test.YtlicgchfbhkelaaGreatDoorCeVc
import Derived.Test.YtlicgchfbhkelaaGreatDoorTie
import Derived.Test.YtlicgchfbhkelaaGreatDoorCards
import Derived.SevenTiedAt
set_option linter.unusedVariables false
set_option linter.unusedSimpArgs false
namespace Go.Proofs.YtlicgchfbhkelaaGreatDoor
open Go
theorem card_holds : Rows.CertificateChangesCardSaid :=
  Claim7.holds_tied_plain_at .later [] [.pinned, .data, .sentinel, .sentinel, .data, .data, .data] true (true, "a997f66d2c6d94aff297b0782d7b545f8e5181f74b54d72234c58c384b282524") true holds (fun _ h => by cases h) card_wf (fun _ h => by cases h) certificateChanges_row_tie rfl ⟨rfl, rfl⟩ card_main rfl
    (fun f fn hf hfn => by
      obtain rfl : f = 4 := Option.some.inj ((show Tryz.prog.funcNamed Tryz.f4.name = some 4 from card_name).symm.trans hf) |>.symm
      obtain rfl : fn = Tryz.f4 := (Option.some.inj (Tryz.func4.symm.trans hfn)).symm
      exact ⟨card_looks, fun j t ht => by
        rw [Tryz.params4] at ht
        have hm : t ∈ [37, 38, 5] := by simpa using Array.mem_of_getElem? ht
        exact (show Tryz.prog.wantsStandIn t = false by simpa using List.all_eq_true.1 card_stand t hm)⟩)
    card_goes
#print axioms card_holds
end Go.Proofs.YtlicgchfbhkelaaGreatDoor
