/- The card: no goroutine is started. No condition beside the row's own. -/
import Derived.Test.YtlicgchfbhkelaaGreatDoorCeU
import Derived.SevenTiedAt
set_option linter.unusedVariables false
set_option linter.unusedSimpArgs false
namespace Go.Proofs.YtlicgchfbhkelaaGreatDoor
open Go
theorem goes_of {P : Program} {c : OpenClaim} {f : FuncId} {L : List FuncId} (h1 : c.start = .entering) (h3 : P.funcNamed c.func = some f) (hc : P.closure f = L) (hu : P.unfollowed f = true)
    (hg : (L.any fun g => (P.funcs[g]?).any Func.goes) = false) (ha : P.funcs.any Func.goes = false) : false = c.goesBy P := by
  unfold OpenClaim.goesBy Program.goesAt Program.goesFrom
  rw [h3, h1]
  simp only [Option.any_some]
  unfold Program.goes
  rw [hc, hu, hg, ha]
  rfl
theorem goes_reach : (Go.Proofs.Tryz.cloL.any fun g => (Tryz.prog.funcs[g]?).any Func.goes) = false := by kernel_rfl
theorem goes_all : Tryz.prog.funcs.any Func.goes = false := by kernel_rfl
theorem start_row : Rows.certificateChangesRow.start = .entering := rfl
theorem card_goes : false = Rows.certificateChangesRow.goesBy Tryz.prog := goes_of (P := Tryz.prog) start_row named4 Go.Proofs.Tryz.clo unf goes_reach goes_all
end Go.Proofs.YtlicgchfbhkelaaGreatDoor
