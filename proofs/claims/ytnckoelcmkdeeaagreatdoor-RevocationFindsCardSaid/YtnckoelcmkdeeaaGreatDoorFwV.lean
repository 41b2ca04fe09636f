/- The card of cretulalaw26.RevocationFinds holds: for every list and every serial number the law returns true, whatever the memory, the package-level variables that the row lists being as the program's text lays them. No condition beside the row's own. -/
import Derived.Test.YtnckoelcmkdeeaaGreatDoorFwVa
import Derived.Test.YtnckoelcmkdeeaaGreatDoorFwVb
import Derived.Test.YtnckoelcmkdeeaaGreatDoorFwVc
import Derived.Test.YtnckoelcmkdeeaaGreatDoorFwT
import Derived.Test.YtnckoelcmkdeeaaGreatDoorCards
import Derived.SevenTiedAt
set_option linter.unusedVariables false
set_option linter.unusedSimpArgs false
namespace Go.Proofs.YtnckoelcmkdeeaaGreatDoor
open Go
theorem card_holds : Rows.RevocationFindsCardSaid :=
  Claim7.holds_tied_plain_at .later [] [.pinned, .data, .sentinel, .sentinel, .data, .data, .data] true (true, "c5354ad0fd2136463ef10081bb0a2e9f8c7811db3b6206fa74d5c54ad3d883a3") true holds (fun _ h => by cases h) card_wf (fun _ h => by cases h) row_tie rfl ⟨rfl, rfl⟩ card_main rfl
    (fun f fn hf hfn => by
      obtain rfl : f = 3 := Option.some.inj ((show Tryz.prog.funcNamed Tryz.f3.name = some 3 from card_name).symm.trans hf) |>.symm
      obtain rfl : fn = Tryz.f3 := (Option.some.inj (Tryz.func3.symm.trans hfn)).symm
      exact ⟨card_looks, fun j t ht => by
        rw [Tryz.params3] at ht
        have hm : t ∈ [32, 22] := by simpa using Array.mem_of_getElem? ht
        exact (show Tryz.prog.wantsStandIn t = false by simpa using List.all_eq_true.1 card_stand t hm)⟩)
    card_goes
#print axioms card_holds
end Go.Proofs.YtnckoelcmkdeeaaGreatDoor
