/- The law returns true. No condition beside the row's own. -/
import Derived.Test.YtgliijeioigckaaGreatDoorFwS
import Derived.Test.YtgliijeioigckaaGreatDoorRows
import Derived.ProofKit
import Derived.OpenShut
import Derived.LaidMore
import Derived.Lay
import Derived.WideKeyArgs
import Derived.Stop.Joined
import Derived.Stop.LaidErr
import Derived.Lib.LaidTab
import Derived.Test.YtgliijeioigckaaGreatDoorTrQb
set_option linter.unusedVariables false
set_option linter.unusedSimpArgs false
namespace Go.Proofs.YtgliijeioigckaaGreatDoor
open Go Go.Fw Go.ChangeShapes Go.WideShapes Go.ChangeAt Go.ChangeMaps Go.RowKit
theorem u78 : ∃ ms, Tryz.prog.underlying 78 = some (.interface ms) := by
  have h : (match Tryz.prog.underlying 78 with | some (.interface _) => true | _ => false) = true := by kernel_rfl
  split at h
  · rename_i ms hms
    exact ⟨ms, hms⟩
  · cases h
theorem var_iface {W : World} {n nm : String} {d : DataW Unit} {r : List (String × DataW Unit)} {g : Nat} (h : laidMet Tryz.prog ((n, .iface nm d) :: r) W) (hg : Tryz.prog.globalNamed n = some g) (ht : (Tryz.prog.globals[g]?).map (·.type) = some 78) :
    ∃ u v, W.var? Tryz.prog n = some #[.iface u v] := by
  obtain ⟨ms, hi⟩ := u78
  obtain ⟨ps, ⟨g0, t0, cs0, f0, p0, q0, hg0, ht0, hv0, hd0, _, e0⟩, _, _⟩ := h
  obtain rfl := Option.some.inj (hg.symm.trans hg0)
  obtain rfl := Option.some.inj (ht.symm.trans ht0)
  obtain ⟨l0⟩ := cs0
  obtain ⟨f1, u, v, hcs, _⟩ := iface_of_trod hi hd0
  have hcs' : l0 = [.iface u v] := hcs
  subst hcs'
  exact ⟨u, v, hv0⟩
theorem laid_of {W : World} (h : laidMetH Tryz.prog Rows.dumpTreesRow.laid W) : GlobOk Tryz.prog (snap G0 W) W := by
  rw [MakeChecks.laidMetH_plain _ _ _ (by kernel_rfl)] at h
  have hp : Lib.TabIs Tryz.prog W "internal/strconv.uint64pow10" .u64 Lib.pow10Tab := Lib.tabIs_of_head (g := 1) (t := 451) (e := 203) (n := 20) (by kernel_rfl) (by kernel_rfl) (by kernel_rfl) (by kernel_rfl) (by kernel_rfl) (by kernel_rfl) h
  have h2 := laidMet.tail (laidMet.tail (laidMet.tail (laidMet.tail (laidMet.tail h))))
  obtain ⟨u1, v1, k1⟩ := var_iface (g := 6) h2 (by kernel_rfl) (by kernel_rfl)
  obtain ⟨u2, v2, k2⟩ := var_iface (g := 7) (laidMet.tail h2) (by kernel_rfl) (by kernel_rfl)
  exact Go.Proofs.Tryz.glob_ok hp k1 k2
set_option maxRecDepth 100000 in
theorem contract {H : Type} (enc : TypeId × Value → H) (W : World) (base : Nat) (args : Array Value) (ds gs : List (DataW H)) (before : List MemPlace)
    (hval0 : ∀ (j : Nat) t v, Tryz.f5.params[j]? = some t → args[j]? = some v → Value.okWide Tryz.checked.prog W .any base t v) (hW : DataW.Whole enc Tryz.checked.prog Tryz.f5.params.toList Rows.dumpTreesSpec.vars false W args.toList ds gs before)
    (hwt : (DataW.weightsEach Tryz.checked.prog (Tryz.f5.params.toList ++ Rows.dumpTreesSpec.plain.varTypes Tryz.checked.prog) (ds ++ gs)).all (· ≤ reachBytes) = true) (hL : laidMetH Tryz.prog Rows.dumpTreesRow.laid W) :
    Calls Tryz.checked.prog 5 args W fun e W' => ∃ v, e = .returned v ∧ Rows.dumpTreesSpec.post enc Tryz.checked.prog Tryz.f5 false true false false W args v W' := by
  have hval : ∀ (j : Nat) t v, Tryz.f5.params[j]? = some t → args[j]? = some v → Value.okWide Tryz.prog W .any base t v := hval0
  have hW' := hW
  obtain ⟨p, q, hA0, hV, rfl, _, _⟩ := hW
  have hA : DataW.TrodAll enc Tryz.prog W 0 (fun _ => true) true Tryz.f5.params.toList args.toList ds p := hA0
  rw [Tryz.params5] at hA hval
  obtain ⟨v0, d0, rfl, rfl, h0⟩ := trodAll_one hA
  obtain ⟨rfl, rfl⟩ := trodVars_none hV
  obtain ⟨t, hr⟩ := Go.Proofs.Tryz.open_trees (hval 0 27 v0 rfl rfl) h0
  simp only [List.append_nil] at hW'
  have hlt : ∀ x ∈ p, x.block < W.heap.size := fun x hx => hW'.lt x hx
  refine ((Go.Proofs.Tryz.law_trees t false).run2 W (laid_of hL) (vals := [v0]) hr).mono fun e W' ⟨he, hw⟩ => ?_
  subst he
  exact ⟨_, rfl, post_below (pa := p) (pv := []) hW' (fun _ _ _ => trodAll_mk1 (shut_bool Tryz.underlying4 _))
    (fun sp hsp => trodAll_mk1 (WideElems.Trod_stays fact_laid (by kernel_rfl) (of_decide_eq_true (by kernel_rfl)) h0 (fun x hx => hw.same (hlt x hx)) (fun x hx => hsp x hx)))
    (fun _ _ => rfl) (by simp) hw (ok_one (by kernel_rfl) rfl (okWide_bool_mk Tryz.underlying4 _))⟩
end Go.Proofs.YtgliijeioigckaaGreatDoor
