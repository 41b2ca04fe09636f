/- The tie to the program's text. No condition is added. -/
import Derived.Test.YtgliijeioigckaaGreatDoorRows
import Derived.LaidByTextLater
import Derived.SevenTiedAt
import Derived.Test.YtgliijeioigckaaGreatDoorTrS
import Derived.Test.YtgliijeioigckaaGreatDoorTrTa
import Derived.Test.YtgliijeioigckaaGreatDoorTrTb
import Derived.Test.YtgliijeioigckaaGreatDoorTrTc
import Derived.Test.YtgliijeioigckaaGreatDoorTrTd
import Derived.Test.YtgliijeioigckaaGreatDoorTrTe
set_option linter.unusedVariables false
set_option linter.unusedSimpArgs false
namespace Go.Proofs.YtgliijeioigckaaGreatDoor
open Go
theorem tie_later : Tryz.prog.laidByTextLater tieL [.data, .data, .data, .data, .sentinel, .sentinel] true :=
  Program.laidByTextLater_by_run 400 8 tie_word tie_noword tie_root tie_kinds tie_door tie_named tie_done tie_data tie_rows
theorem row_tie : Rows.dumpTreesRow.laidByTextAt .later Tryz.pinned [.data, .data, .data, .pinned, .data, .sentinel, .sentinel] true :=
  OpenClaim.laidByTextAt_pinned rfl rfl tie_later rfl rfl rfl rfl (fun y hy _e => by
    simp only [Rows.dumpTreesRow, List.zip_cons_cons, List.zip_nil_right, List.mem_cons, List.mem_nil_iff, or_false] at hy
    rcases hy with rfl | rfl | rfl | rfl | rfl | rfl | rfl
    · cases _e
    · cases _e
    · cases _e
    · exact ⟨pin_first, by kernel_rfl⟩
    · cases _e
    · cases _e
    · cases _e) tie_fits
end Go.Proofs.YtgliijeioigckaaGreatDoor
