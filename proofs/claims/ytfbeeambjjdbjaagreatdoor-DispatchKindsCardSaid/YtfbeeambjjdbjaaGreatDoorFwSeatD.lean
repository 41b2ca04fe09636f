import Derived.Test.YtfbeeambjjdbjaaGreatDoorFwSeatC
namespace Go.Proofs.Tryz
open Go Go.Fw
set_option maxHeartbeats 1000000
theorem inv_all : (kindNos.all fun k => decide (idOf k = []) || decide (kindOf (idOf k) = k)) = true := by kernel_rfl
theorem inv_all2 : (kindIds.all fun s => decide (kindOf s = 0) || decide (idOf (kindOf s) = s)) = true := by kernel_rfl
theorem kind_id {k : Int} (h : idOf k ≠ []) : kindOf (idOf k) = k := by
  by_cases hk : k ∈ kindNos
  · have := List.all_eq_true.1 inv_all k hk
    simpa [h] using this
  · exact absurd (sel_none _ _ fun n hn e => hk (by rw [e]; exact hn)) h
theorem id_kind {s : List UInt8} (h : kindOf s ≠ 0) : idOf (kindOf s) = s := by
  by_cases hs : s ∈ kindIds
  · have := List.all_eq_true.1 inv_all2 s hs
    simpa [h] using this
  · refine absurd ?_ h
    unfold kindOf
    split
    · rfl
    · exact go_zero s _ _ fun i hi => hs (List.mem_of_getElem? hi)
theorem fnok5 : FnOk prog 5 := (fok_of (f := 5) (fn := f5) (by kernel_rfl)).2
theorem fnok7 : FnOk prog 7 := (fok_of (f := 7) (fn := f7) (by kernel_rfl)).2
theorem fnok8 : FnOk prog 8 := (fok_of (f := 8) (fn := f8) (by kernel_rfl)).2
theorem fnok9 : FnOk prog 9 := (fok_of (f := 9) (fn := f9) (by kernel_rfl)).2
theorem fnok10 : FnOk prog 10 := (fok_of (f := 10) (fn := f10) (by kernel_rfl)).2
theorem law_ok (k : Int) (s : List UInt8) : PureOK prog 3 [.int .i64 k, .str s] (.bool true) := by
  refine body1 (i := false) tok func3 rfl rfl rfl ?_
  repeat first | refine awp_seq ?_ | refine awp_region ?_
  refine go1 tok (noK_ok _) rfl rfl rfl ?_
  repeat first | refine awp_seq ?_ | refine awp_region ?_
  refine goC tok rfl rfl rfl rfl fnok4 awake_ok rfl ?_
  repeat refine go1 tok (noK_ok _) rfl rfl rfl ?_
  repeat first | refine awp_seq ?_ | refine awp_region ?_
  by_cases hl : (s.length : Int) > 200
  · refine awp_condT (by show some (D.bool (decide ((s.length : Int) > 200))) = _; rw [decide_eq_true hl]) ?_
    repeat first | refine awp_seq ?_ | refine awp_region ?_
    refine goC tok rfl rfl rfl rfl fnok4 awake_ok rfl ?_
    repeat refine go1 tok (noK_ok _) rfl rfl rfl ?_
    exact awp_ret (end_ret rfl rfl rfl)
  refine awp_condF (by show some (D.bool (decide ((s.length : Int) > 200))) = _; rw [decide_eq_false hl]) (awp_skip ?_)
  repeat first | refine awp_seq ?_ | refine awp_region ?_
  refine go1 tok (noK_ok _) rfl rfl rfl ?_
  refine goC tok rfl rfl rfl rfl fnok5 (id_ok k) rfl ?_
  refine go1 tok (noK_ok _) rfl rfl rfl ?_
  repeat first | refine awp_seq ?_ | refine awp_region ?_
  refine go1 tok (noK_ok _) rfl rfl rfl ?_
  refine goC tok rfl rfl rfl rfl fnok6 (kind_ok s) rfl ?_
  refine go1 tok (noK_ok _) rfl rfl rfl ?_
  repeat first | refine awp_seq ?_ | refine awp_region ?_
  iterate 2 refine go1 tok (noK_ok _) rfl rfl rfl ?_
  refine goC tok rfl rfl rfl rfl fnok7 (rid_ok k) rfl ?_
  have e1 : (idOf k == idOf k) = true := by simp
  have e2 : (nameOf k == nameOf k) = true := by simp
  have e3 : (kindOf s != kindOf s) = false := by simp
  refine go1 tok (noK_ok _) rfl (d := .bool false) (by show some (D.bool (!(idOf k == idOf k)), _) = _; rw [e1]; rfl) rfl ?_
  iterate 2 refine go1 tok (noK_ok _) rfl rfl rfl ?_
  refine goC tok rfl rfl rfl rfl fnok8 (name_ok k) rfl ?_
  refine go1 tok (noK_ok _) rfl rfl rfl ?_
  refine goC tok rfl rfl rfl rfl fnok9 (rname_ok k) rfl ?_
  refine go1 tok (noK_ok _) rfl (d := .bool false) (by show some (D.bool (!(nameOf k == nameOf k)), _) = _; rw [e2]; rfl) rfl ?_
  iterate 4 refine go1 tok (noK_ok _) rfl rfl rfl ?_
  refine goC tok rfl rfl rfl rfl fnok10 (rkind_ok s) rfl ?_
  refine go1 tok (noK_ok _) rfl (d := .bool false) (by show some (D.bool (kindOf s != kindOf s), _) = _; rw [e3]) rfl ?_
  repeat refine go1 tok (noK_ok _) rfl rfl rfl ?_
  refine awp_condF rfl (awp_skip ?_)
  repeat first | refine awp_seq ?_ | refine awp_region ?_
  refine go1 tok (noK_ok _) rfl rfl rfl ?_
  have fin : ∀ {τ : Env}, Go.Fw.get τ 4 = some (.bool true) → endQ T f3.results.toList (.bool true) .ret τ [] := fun {τ} hg =>
    end_ret (d' := .bool true) (σ'' := []) (by show resD T [.tmp 4] τ [] = _; simp only [resD, resVars, resVar, hg]) rfl rfl
  cases hi : (idOf k == [])
  · have hi' : idOf k ≠ [] := by simpa using hi
    have e4 : (kindOf (idOf k) == k) = true := by rw [kind_id hi']; simp
    refine go1 tok (noK_ok _) rfl (d := .bool false) (by show some (D.bool (idOf k == []), _) = _; rw [hi]) rfl ?_
    iterate 2 refine go1 tok (noK_ok _) rfl rfl rfl ?_
    refine goC tok rfl rfl rfl rfl fnok6 (kind_ok (idOf k)) rfl ?_
    refine go1 tok (noK_ok _) rfl rfl rfl ?_
    refine go1 tok (noK_ok _) rfl (d := .bool true) (by show some (D.bool (kindOf (idOf k) == k), _) = _; rw [e4]) rfl ?_
    iterate 3 refine go1 tok (noK_ok _) rfl rfl rfl ?_
    cases hz : (kindOf s == 0)
    · have hz' : kindOf s ≠ 0 := by simpa using hz
      have e5 : (idOf (kindOf s) == s) = true := by rw [id_kind hz']; simp
      refine go1 tok (noK_ok _) rfl (d := .bool false) (by show some (D.bool (kindOf s == 0), _) = _; rw [hz]) rfl ?_
      iterate 2 refine go1 tok (noK_ok _) rfl rfl rfl ?_
      refine goC tok rfl rfl rfl rfl fnok5 (id_ok (kindOf s)) rfl ?_
      refine go1 tok (noK_ok _) rfl rfl rfl ?_
      refine go1 tok (noK_ok _) rfl (d := .bool true) (by show some (D.bool (idOf (kindOf s) == s), _) = _; rw [e5]) rfl ?_
      repeat refine go1 tok (noK_ok _) rfl rfl rfl ?_
      exact awp_ret (fin rfl)
    · refine go1 tok (noK_ok _) rfl (d := .bool true) (by show some (D.bool (kindOf s == 0), _) = _; rw [hz]) rfl ?_
      refine go1 tok (noK_ok _) rfl rfl rfl ?_
      iterate 4 refine no1 rfl rfl ?_
      repeat refine go1 tok (noK_ok _) rfl rfl rfl ?_
      exact awp_ret (fin rfl)
  · refine go1 tok (noK_ok _) rfl (d := .bool true) (by show some (D.bool (idOf k == []), _) = _; rw [hi]) rfl ?_
    refine go1 tok (noK_ok _) rfl rfl rfl ?_
    iterate 4 refine no1 rfl rfl ?_
    iterate 3 refine go1 tok (noK_ok _) rfl rfl rfl ?_
    cases hz : (kindOf s == 0)
    · have hz' : kindOf s ≠ 0 := by simpa using hz
      have e5 : (idOf (kindOf s) == s) = true := by rw [id_kind hz']; simp
      refine go1 tok (noK_ok _) rfl (d := .bool false) (by show some (D.bool (kindOf s == 0), _) = _; rw [hz]) rfl ?_
      iterate 2 refine go1 tok (noK_ok _) rfl rfl rfl ?_
      refine goC tok rfl rfl rfl rfl fnok5 (id_ok (kindOf s)) rfl ?_
      refine go1 tok (noK_ok _) rfl rfl rfl ?_
      refine go1 tok (noK_ok _) rfl (d := .bool true) (by show some (D.bool (idOf (kindOf s) == s), _) = _; rw [e5]) rfl ?_
      repeat refine go1 tok (noK_ok _) rfl rfl rfl ?_
      exact awp_ret (fin rfl)
    · refine go1 tok (noK_ok _) rfl (d := .bool true) (by show some (D.bool (kindOf s == 0), _) = _; rw [hz]) rfl ?_
      refine go1 tok (noK_ok _) rfl rfl rfl ?_
      iterate 4 refine no1 rfl rfl ?_
      repeat refine go1 tok (noK_ok _) rfl rfl rfl ?_
      exact awp_ret (fin rfl)
end Go.Proofs.Tryz
