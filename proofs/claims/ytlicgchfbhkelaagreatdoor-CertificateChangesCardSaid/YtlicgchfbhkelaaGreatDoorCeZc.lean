/- The law returns true. No condition beside the row's own. -/
import Derived.Test.YtlicgchfbhkelaaGreatDoorFwZD
import Derived.Test.YtlicgchfbhkelaaGreatDoorRows
import Derived.ProofKit
import Derived.OpenShut
import Derived.LaidMore
import Derived.Lay
import Derived.WideKeyArgs
import Derived.Stop.Joined
import Derived.Stop.LaidErr
import Derived.Lib.LaidTab
import Derived.Lib.LaidU8T
import Derived.PinnedBridge
import Derived.Test.YtlicgchfbhkelaaGreatDoorCeQb
set_option linter.unusedVariables false
set_option linter.unusedSimpArgs false
namespace Go.Proofs.YtlicgchfbhkelaaGreatDoor
open Go Go.Fw Go.ChangeShapes Go.WideShapes Go.ChangeAt Go.ChangeMaps Go.RowKit
theorem uerr : ∃ ms, Tryz.prog.underlying 251 = some (.interface ms) := by
  have h : (match Tryz.prog.underlying 251 with | some (.interface _) => true | _ => false) = true := by kernel_rfl
  split at h
  · rename_i ms hms
    exact ⟨ms, hms⟩
  · cases h
theorem var_iface {W : World} {n nm : String} {d : DataW Unit} {g : Nat} (h : Lib.VarReads Tryz.prog W n (.iface nm d)) (hg : Tryz.prog.globalNamed n = some g) (ht : (Tryz.prog.globals[g]?).map (·.type) = some 251) :
    ∃ u v, W.var? Tryz.prog n = some #[.iface u v] := by
  obtain ⟨ms, hi⟩ := uerr
  obtain ⟨g0, t0, cs0, f0, p0, hg0, ht0, hv0, hd0⟩ := h
  obtain rfl := Option.some.inj (hg.symm.trans hg0)
  obtain rfl := Option.some.inj (ht.symm.trans ht0)
  obtain ⟨l0⟩ := cs0
  obtain ⟨f1, u, v, hcs, _⟩ := iface_of_trod hi hd0
  have hcs' : l0 = [.iface u v] := hcs
  subst hcs'
  exact ⟨u, v, hv0⟩
theorem var_some {W : World} {n : String} {d : DataW Unit} (h : Lib.VarReads Tryz.prog W n d) : ∃ l, W.var? Tryz.prog n = some l := by
  obtain ⟨_, _, cs, _, _, _, _, h, _⟩ := h
  exact ⟨cs, h⟩
def u8r : Go.Shelf.Ren := { f := fun n => n, t := fun | 5 => 5 | 119 => 546 | 138 => 548 | 139 => 549 | n => n, g := fun | 3 => 6 | 4 => 7 | n => n }
theorem u8t : Go.Proofs.U8Types Tryz.prog u8r := ⟨by kernel_rfl, by kernel_rfl, by kernel_rfl, by kernel_rfl⟩
theorem u8x : Go.Proofs.U8Extra Tryz.prog u8r := ⟨by kernel_rfl, by kernel_rfl, by kernel_rfl, by kernel_rfl, by kernel_rfl, by kernel_rfl, by kernel_rfl⟩
theorem acc_eq : (Rows.laid_unicode_utf8_acceptRanges : DataW Unit) = Lib.acceptData := by kernel_rfl
theorem pow_eq : (Rows.laid_internal_strconv_uint64pow10 : DataW Unit) = Lib.tabData .u64 Lib.pow10Tab := by kernel_rfl
theorem tab_of {P : Program} {W : World} {nm : String} {k : IntKind} {zs : List Int} {g : Nat} {t e : TypeId} {n : Nat} (hg : P.globalNamed nm = some g) (hty : (P.globals[g]?).map (·.type) = some t) (ht : P.underlying t = some (.array n e)) (he : P.underlying e = some (.int k)) (hce : P.cellsOf e = 1) (hct : P.cellsOf t = n) (h : Lib.VarReads P W nm (Lib.tabData k zs)) : Lib.TabIs P W nm k zs := by
  obtain ⟨g', t', cs, fuel, p, hg', ht', hvar, hd⟩ := h
  obtain rfl := Option.some.inj (hg.symm.trans hg')
  obtain rfl := Option.some.inj (hty.symm.trans ht')
  unfold Lib.TabIs
  rw [hvar, ← Lib.cells_of_tab ht he hce hct hd]
theorem laid_of {W : World} (h : laidMetH Tryz.prog Rows.certificateChangesRow.laid W) (hs : W.ShapedOpen Tryz.prog) : GlobOk Tryz.prog (snap G0 W) W := by
  rw [MakeChecks.laidMetH_plain _ _ _ (by kernel_rfl)] at h
  have hp : Lib.TabIs Tryz.prog W "internal/strconv.uint64pow10" .u64 Lib.pow10Tab := tab_of (t := 468) (e := 175) (n := 20) (g := 0) (by kernel_rfl) (by kernel_rfl) (by kernel_rfl) (by kernel_rfl) (by kernel_rfl) (by kernel_rfl) (pow_eq ▸ Lib.laidMet.reads h (n := "internal/strconv.uint64pow10") (d := Rows.laid_internal_strconv_uint64pow10) (List.mem_of_getElem? (i := 4) rfl))
  have hf : Lib.VarReads Tryz.prog W "unicode/utf8.first" Lib.firstData := by rw [← Go.Pinned.utf8First_eq]; exact Lib.laidMet.reads h (List.mem_of_getElem? (i := 0) rfl)
  have ha : Lib.VarReads Tryz.prog W "unicode/utf8.acceptRanges" Lib.acceptData := by rw [← acc_eq]; exact Lib.laidMet.reads h (List.mem_of_getElem? (i := 1) rfl)
  obtain ⟨u1, v1, k1⟩ := var_iface (g := 1) (Lib.laidMet.reads h (n := "strconv.ErrSyntax") (d := Rows.laid_strconv_ErrSyntax) (List.mem_of_getElem? (i := 2) rfl)) (by kernel_rfl) (by kernel_rfl)
  obtain ⟨u2, v2, k2⟩ := var_iface (g := 2) (Lib.laidMet.reads h (n := "strconv.ErrRange") (d := Rows.laid_strconv_ErrRange) (List.mem_of_getElem? (i := 3) rfl)) (by kernel_rfl) (by kernel_rfl)
  exact Go.Proofs.Tryz.glob_ok hp k1 k2 (Go.Proofs.utf8Tabs_of_readsT u8t u8x hf ha) (var_some hf) (var_some ha) hs
set_option maxRecDepth 100000 in
theorem contract {H : Type} (enc : TypeId × Value → H) (W : World) (base : Nat) (args : Array Value) (ds gs : List (DataW H)) (before : List MemPlace)
    (hval0 : ∀ (j : Nat) t v, Tryz.f4.params[j]? = some t → args[j]? = some v → Value.okWide Tryz.checked.prog W .any base t v) (hW : DataW.Whole enc Tryz.checked.prog Tryz.f4.params.toList Rows.certificateChangesSpec.vars false W args.toList ds gs before)
    (hwt : (DataW.weightsEach Tryz.checked.prog (Tryz.f4.params.toList ++ Rows.certificateChangesSpec.plain.varTypes Tryz.checked.prog) (ds ++ gs)).all (· ≤ reachBytes) = true) (hL : laidMetH Tryz.prog Rows.certificateChangesRow.laid W) (hs : W.ShapedOpen Tryz.checked.prog) :
    Calls Tryz.checked.prog 4 args W fun e W' => ∃ v, e = .returned v ∧ Rows.certificateChangesSpec.post enc Tryz.checked.prog Tryz.f4 false true false false W args v W' := by
  have hval : ∀ (j : Nat) t v, Tryz.f4.params[j]? = some t → args[j]? = some v → Value.okWide Tryz.prog W .any base t v := hval0
  have hW' := hW
  obtain ⟨p, q, hA0, hV, rfl, _, _⟩ := hW
  have hA : DataW.TrodAll enc Tryz.prog W 0 (fun _ => true) true Tryz.f4.params.toList args.toList ds p := hA0
  rw [Tryz.params4] at hA hval hwt
  obtain ⟨v0, v1, v2, d0, d1, d2, q0, q1, q2, rfl, rfl, rfl, h0, h1, h2⟩ := trodAll_three hA
  obtain ⟨rfl, rfl⟩ := trodVars_none hV
  have hwt' : (DataW.weightsEach Tryz.prog [37, 38, 5] [d0, d1, d2]).all (· ≤ reachBytes) = true := hwt
  obtain ⟨y, n, s, hr, hy, hn⟩ := Go.Proofs.Tryz.open_ends (hval 0 37 v0 rfl rfl) (hval 1 38 v1 rfl rfl) (hval 2 5 v2 rfl rfl) h0 h1 h2 hwt'
  simp only [List.append_nil] at hW'
  have hlt : ∀ x ∈ q0 ++ (q1 ++ q2), x.block < W.heap.size := fun x hx => hW'.lt x (by simpa using hx)
  refine ((Go.Proofs.Tryz.law_ends y hy n hn s false).run2 W (laid_of hL hs) (vals := [v0, v1, v2]) hr).mono fun e W' ⟨he, hw⟩ => ?_
  subst he
  exact ⟨_, rfl, post_below (pa := q0 ++ (q1 ++ q2)) (pv := []) hW' (fun _ _ _ => trodAll_mk1 (shut_bool Tryz.underlying4 _))
    (fun sp hsp => trodAll_mk3 (WideElems.Trod_stays fact_laid (by kernel_rfl) (of_decide_eq_true (by kernel_rfl)) h0 (fun x hx => hw.same (hlt x (by simp [hx]))) (fun x hx => hsp x (by simp [hx])))
      (WideElems.Trod_stays fact_laid (by kernel_rfl) (of_decide_eq_true (by kernel_rfl)) h1 (fun x hx => hw.same (hlt x (by simp [hx]))) (fun x hx => hsp x (by simp [hx])))
      (WideElems.Trod_stays fact_laid (by kernel_rfl) (of_decide_eq_true (by kernel_rfl)) h2 (fun x hx => hw.same (hlt x (by simp [hx]))) (fun x hx => hsp x (by simp [hx]))))
    (fun _ _ => rfl) (by simp) hw (ok_one (by kernel_rfl) rfl (okWide_bool_mk Tryz.underlying4 _))⟩
end Go.Proofs.YtlicgchfbhkelaaGreatDoor
