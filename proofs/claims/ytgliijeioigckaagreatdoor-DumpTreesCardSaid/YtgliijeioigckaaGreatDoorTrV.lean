/- The card of cretulalaw29.DumpTrees holds: for every input the law returns true, whatever the memory, the package-level variables that the row lists being as the program's text lays them. No condition beside the row's own. -/
import Derived.Test.YtgliijeioigckaaGreatDoorTrVa
import Derived.Test.YtgliijeioigckaaGreatDoorTrVb
import Derived.Test.YtgliijeioigckaaGreatDoorTrVc
import Derived.Test.YtgliijeioigckaaGreatDoorTrT
import Derived.Test.YtgliijeioigckaaGreatDoorCards
import Derived.SevenTiedAt
set_option linter.unusedVariables false
set_option linter.unusedSimpArgs false
namespace Go.Proofs.YtgliijeioigckaaGreatDoor
open Go
theorem card_holds : Rows.DumpTreesCardSaid :=
  Claim7.holds_tied_plain_at .later [] [.data, .data, .data, .pinned, .data, .sentinel, .sentinel] true (true, "0fd7264df08199e2abf1ec2e8ea253605bbd815af92744fc357896f0bcc52d9b") true holds (fun _ h => by cases h) card_wf (fun _ h => by cases h) row_tie rfl ⟨rfl, rfl⟩ card_main rfl
    (fun f fn hf hfn => by
      obtain rfl : f = 5 := Option.some.inj ((show Tryz.prog.funcNamed Tryz.f5.name = some 5 from card_name).symm.trans hf) |>.symm
      obtain rfl : fn = Tryz.f5 := (Option.some.inj (Tryz.func5.symm.trans hfn)).symm
      exact ⟨card_looks, fun j t ht => by
        rw [Tryz.params5] at ht
        have hm : t ∈ [27] := by simpa using Array.mem_of_getElem? ht
        exact (show Tryz.prog.wantsStandIn t = false by simpa using List.all_eq_true.1 card_stand t hm)⟩)
    card_goes
#print axioms card_holds
end Go.Proofs.YtgliijeioigckaaGreatDoor
