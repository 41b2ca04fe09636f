/- The row's closed facts, joined. No condition is added. -/
import Derived.Test.YtlicgchfbhkelaaGreatDoorCeQ
import Derived.Test.YtlicgchfbhkelaaGreatDoorCeW
import Derived.Test.YtlicgchfbhkelaaGreatDoorCeX
set_option linter.unusedVariables false
set_option linter.unusedSimpArgs false
namespace Go.Proofs.YtlicgchfbhkelaaGreatDoor
open Go
set_option maxRecDepth 100000 in
theorem facts : joinedFacts Tryz.prog 4 Tryz.f4 Rows.certificateChangesSpec Rows.certificateChangesRow = true :=
  and2 (and2 (and2 (and2 (and2 (and2 (and2 (and2 (and2 (and2 (and2 (and2 (and2 (and2 (and2 (and2 (and2 (and2 (and2 (and2 (and2 (and2 (and2 (and2 (and2 (and2 (and2 (and2 (and2 (and2 (and2 fact_wf fact_laid) fact_maps) fact0) fact1) fact2) fact3) fact4) fact5) fact_inPlace) fact_unf) fact_rec) fact_named) fact6) fact7) fact8) fact9) fact10) fact11) fact12) fact13) fact14) fact15) fact16) fact_heard) fact18) fact19) fact20) fact21) fact22) fact23) fact24
end Go.Proofs.YtlicgchfbhkelaaGreatDoor
