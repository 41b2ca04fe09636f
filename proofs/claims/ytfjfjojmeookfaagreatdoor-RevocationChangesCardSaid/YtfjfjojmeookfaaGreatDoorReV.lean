/- The card of cretulalaw26.RevocationChanges holds: for every input the law returns true, whatever the memory, the package-level variables that the row lists being as the program's text lays them. No condition beside the row's own. -/
import Derived.Test.YtfjfjojmeookfaaGreatDoorReVa
import Derived.Test.YtfjfjojmeookfaaGreatDoorReVb
import Derived.Test.YtfjfjojmeookfaaGreatDoorReVc
import Derived.Test.YtfjfjojmeookfaaGreatDoorTie
import Derived.Test.YtfjfjojmeookfaaGreatDoorCards
import Derived.SevenTiedAt
set_option linter.unusedVariables false
set_option linter.unusedSimpArgs false
namespace Go.Proofs.YtfjfjojmeookfaaGreatDoor
open Go
theorem card_holds : Rows.RevocationChangesCardSaid :=
  Claim7.holds_tied_plain_at .later [] [.pinned, .data, .sentinel, .sentinel, .data, .data, .data] true (true, "86b6981eae28e53a1aae877f650a4b39199f11e2d4d455aa02033f799575161c") true holds (fun _ h => by cases h) card_wf (fun _ h => by cases h) revocationChanges_row_tie rfl ⟨rfl, rfl⟩ card_main rfl
    (fun f fn hf hfn => by
      obtain rfl : f = 4 := Option.some.inj ((show Tryz.prog.funcNamed Tryz.f4.name = some 4 from card_name).symm.trans hf) |>.symm
      obtain rfl : fn = Tryz.f4 := (Option.some.inj (Tryz.func4.symm.trans hfn)).symm
      exact ⟨card_looks, fun j t ht => by
        rw [Tryz.params4] at ht
        have hm : t ∈ [36, 37, 5] := by simpa using Array.mem_of_getElem? ht
        exact (show Tryz.prog.wantsStandIn t = false by simpa using List.all_eq_true.1 card_stand t hm)⟩)
    card_goes
#print axioms card_holds
end Go.Proofs.YtfjfjojmeookfaaGreatDoor
