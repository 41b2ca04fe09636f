import Derived.Test.YtfbeeambjjdbjaaGreatDoorFwSeatB
namespace Go.Proofs.Tryz
open Go Go.Fw
set_option maxHeartbeats 1000000
def refNos : List Int := kindNos.drop 1
def refIds : List (List UInt8) := kindIds.drop 1
def refNames : List (List UInt8) := kindNames.drop 1
def tableD : D := .tuple [.list (flatE (intE .i64) refNos) 23 true, .list (flatE strE refIds) 23 true, .list (flatE strE refNames) 23 true]
theorem table_ok : PureOK prog 14 [] tableD := pure_of_run (n := 20) tok K3_ok mixed rfl rfl rfl (by kernel_rfl)
theorem fnok14 : FnOk prog 14 := (fok_of (f := 14) (fn := f14) (by kernel_rfl)).2
theorem nos_len : refNos.length = 23 := by kernel_rfl
theorem ids_len : refIds.length = 23 := by kernel_rfl
theorem names_len : refNames.length = 23 := by kernel_rfl
/-- the slots of the three loops. -/
def RI (d : D) (n : Nat) (τ : Env) (_σ : Sto) : Prop := ∃ i : Nat, i ≤ 23 ∧ n = 23 - i ∧ get τ 0 = some d ∧ get τ 3 = some (.list (flatE (intE .i64) refNos) refNos.length true) ∧
  get τ 4 = some (.list (flatE strE refIds) refIds.length true) ∧ get τ 5 = some (.list (flatE strE refNames) refNames.length true) ∧ get τ 6 = some (.int .i64 i)

theorem rid_ok (k : Int) : PureOK prog 7 [.int .i64 k] (.str (idOf k)) := by
  by_cases hk : k ∈ kindNos
  · exact runS_ok tok K3_ok mixed rfl (List.all_eq_true.1 rid_all k hk)
  have hk' : ∀ n ∈ kindNos, k ≠ n := fun n hn e => hk (e ▸ hn)
  have hs : idOf k = [] := sel_none _ _ hk'
  rw [hs]
  refine body1 (i := true) tok func7 rfl rfl rfl ?_
  repeat first | refine awp_seq ?_ | refine awp_region ?_
  refine go1 tok (noK_ok _) rfl rfl rfl ?_
  repeat first | refine awp_seq ?_ | refine awp_region ?_
  refine goC tok rfl rfl rfl rfl fnok14 table_ok rfl ?_
  repeat refine go1 tok (noK_ok _) rfl rfl rfl ?_
  repeat first | refine awp_seq ?_ | refine awp_region ?_
  repeat refine go1 tok (noK_ok _) rfl rfl rfl ?_
  repeat first | refine awp_seq ?_ | refine awp_region ?_ | refine awp_block ?_
  refine awp_loop (RI (.int .i64 k)) (n := 23) ⟨0, by omega, rfl, rfl, rfl, rfl, rfl, rfl⟩ ?_
  rintro n τ σ ⟨i, hi, hn, h0, h3, h4, h5, h6⟩
  refine AWp.sub (τ' := [(6, .int .i64 i), (5, .list (flatE strE refNames) refNames.length true), (4, .list (flatE strE refIds) refIds.length true), (3, .list (flatE (intE .i64) refNos) refNos.length true), (0, .int .i64 k)]) ?_ (get_all ⟨h6, h5, h4, h3, h0, trivial⟩)
  · repeat first | refine awp_seq ?_ | refine awp_region ?_
    repeat refine go1 tok (noK_ok _) rfl rfl rfl ?_
    by_cases hlt : i < 23
    · have hc : decide ((i : Int) < ((23 : Nat) : Int)) = true := by simp; omega
      refine awp_condT (by show some (D.bool (decide ((i : Int) < ((23 : Nat) : Int)))) = _; rw [hc]) (awp_skip ?_)
      repeat first | refine awp_seq ?_ | refine awp_block ?_ | refine awp_region ?_
      iterate 2 refine go1 tok (noK_ok _) rfl rfl rfl ?_
      obtain ⟨x, hx⟩ : ∃ x, ix refNos (i : Int) = some x := by
        refine ⟨refNos[i]'(by rw [nos_len]; exact hlt), ?_⟩
        simp [ix, nos_len, hlt]
      have hxm : x ∈ kindNos := List.mem_of_mem_drop (List.mem_of_getElem? (ix_inv hx).2.2)
      have hne : (x == k) = false := by simpa using fun e => hk' x hxm e.symm
      refine goA tok rfl (op_idx (E := intE .i64) (xs := refNos) rfl rfl rfl (by decide) hx) rfl ?_
      refine goA tok rfl (op_ld (E := intE .i64) (xs := refNos) rfl rfl (.inr rfl) hx rfl) rfl ?_
      repeat refine go1 tok (noK_ok _) rfl rfl rfl ?_
      refine awp_condF (by show some (D.bool (x == k)) = _; rw [hne]) (awp_skip ?_)
      repeat first | refine awp_seq ?_ | refine awp_region ?_
      repeat refine go1 tok (noK_ok _) rfl rfl rfl ?_
      refine ⟨23 - (i + 1), by omega, i + 1, by omega, rfl, rfl, rfl, rfl, rfl, ?_⟩
      show some (D.int .i64 (IntKind.i64.wrap ((i : Int) + 1))) = _
      have : IntKind.i64.wrap ((i : Int) + 1) = ((i + 1 : Nat) : Int) := by
        rw [show (i : Int) + 1 = ((i + 1 : Nat) : Int) by omega]
        exact IntWalk.i64_in _ (by omega)
      rw [this]
    · have hc : decide ((i : Int) < ((23 : Nat) : Int)) = false := by simp; omega
      refine awp_condF (by show some (D.bool (decide ((i : Int) < ((23 : Nat) : Int)))) = _; rw [hc]) (awp_exit ?_)
      repeat first | refine awp_seq ?_ | refine awp_region ?_
      repeat refine go1 tok (noK_ok _) rfl rfl rfl ?_
      exact awp_ret (end_ret rfl rfl rfl)
theorem zero_mem : (0 : Int) ∈ kindNos := by
  have h : kindNos = 0 :: kindNos.drop 1 := by kernel_rfl
  rw [h]; exact List.mem_cons_self ..
theorem ids_cons : kindIds = [] :: refIds := by kernel_rfl
theorem rkind_all : (refIds.all fun s => runI (xcall K3 prog T 20) 10 [.str s] (kindOf s)) = true := by kernel_rfl
theorem rname_ok (k : Int) : PureOK prog 9 [.int .i64 k] (.str (nameOf k)) := by
  by_cases hk : k ∈ kindNos
  · exact runS_ok tok K3_ok mixed rfl (List.all_eq_true.1 rname_all k hk)
  have hk' : ∀ n ∈ kindNos, k ≠ n := fun n hn e => hk (e ▸ hn)
  have hs : nameOf k = [] := sel_none _ _ hk'
  rw [hs]
  refine body1 (i := true) tok func9 rfl rfl rfl ?_
  repeat first | refine awp_seq ?_ | refine awp_region ?_
  refine go1 tok (noK_ok _) rfl rfl rfl ?_
  repeat first | refine awp_seq ?_ | refine awp_region ?_
  refine goC tok rfl rfl rfl rfl fnok14 table_ok rfl ?_
  repeat refine go1 tok (noK_ok _) rfl rfl rfl ?_
  repeat first | refine awp_seq ?_ | refine awp_region ?_
  repeat refine go1 tok (noK_ok _) rfl rfl rfl ?_
  repeat first | refine awp_seq ?_ | refine awp_region ?_ | refine awp_block ?_
  refine awp_loop (RI (.int .i64 k)) (n := 23) ⟨0, by omega, rfl, rfl, rfl, rfl, rfl, rfl⟩ ?_
  rintro n τ σ ⟨i, hi, hn, h0, h3, h4, h5, h6⟩
  refine AWp.sub (τ' := [(6, .int .i64 i), (5, .list (flatE strE refNames) refNames.length true), (4, .list (flatE strE refIds) refIds.length true), (3, .list (flatE (intE .i64) refNos) refNos.length true), (0, .int .i64 k)]) ?_ (get_all ⟨h6, h5, h4, h3, h0, trivial⟩)
  · repeat first | refine awp_seq ?_ | refine awp_region ?_
    repeat refine go1 tok (noK_ok _) rfl rfl rfl ?_
    by_cases hlt : i < 23
    · have hc : decide ((i : Int) < ((23 : Nat) : Int)) = true := by simp; omega
      refine awp_condT (by show some (D.bool (decide ((i : Int) < ((23 : Nat) : Int)))) = _; rw [hc]) (awp_skip ?_)
      repeat first | refine awp_seq ?_ | refine awp_block ?_ | refine awp_region ?_
      iterate 2 refine go1 tok (noK_ok _) rfl rfl rfl ?_
      obtain ⟨x, hx⟩ : ∃ x, ix refNos (i : Int) = some x := by
        refine ⟨refNos[i]'(by rw [nos_len]; exact hlt), ?_⟩
        simp [ix, nos_len, hlt]
      have hxm : x ∈ kindNos := List.mem_of_mem_drop (List.mem_of_getElem? (ix_inv hx).2.2)
      have hne : (x == k) = false := by simpa using fun e => hk' x hxm e.symm
      refine goA tok rfl (op_idx (E := intE .i64) (xs := refNos) rfl rfl rfl (by decide) hx) rfl ?_
      refine goA tok rfl (op_ld (E := intE .i64) (xs := refNos) rfl rfl (.inr rfl) hx rfl) rfl ?_
      repeat refine go1 tok (noK_ok _) rfl rfl rfl ?_
      refine awp_condF (by show some (D.bool (x == k)) = _; rw [hne]) (awp_skip ?_)
      repeat first | refine awp_seq ?_ | refine awp_region ?_
      repeat refine go1 tok (noK_ok _) rfl rfl rfl ?_
      refine ⟨23 - (i + 1), by omega, i + 1, by omega, rfl, rfl, rfl, rfl, rfl, ?_⟩
      show some (D.int .i64 (IntKind.i64.wrap ((i : Int) + 1))) = _
      have : IntKind.i64.wrap ((i : Int) + 1) = ((i + 1 : Nat) : Int) := by
        rw [show (i : Int) + 1 = ((i + 1 : Nat) : Int) by omega]
        exact IntWalk.i64_in _ (by omega)
      rw [this]
    · have hc : decide ((i : Int) < ((23 : Nat) : Int)) = false := by simp; omega
      refine awp_condF (by show some (D.bool (decide ((i : Int) < ((23 : Nat) : Int)))) = _; rw [hc]) (awp_exit ?_)
      repeat first | refine awp_seq ?_ | refine awp_region ?_
      repeat refine go1 tok (noK_ok _) rfl rfl rfl ?_
      have h0k : (k == 0) = false := by simpa using hk' 0 zero_mem
      refine awp_condF (by show some (D.bool (k == 0)) = _; rw [h0k]) (awp_skip ?_)
      repeat first | refine awp_seq ?_ | refine awp_region ?_
      repeat refine go1 tok (noK_ok _) rfl rfl rfl ?_
      exact awp_ret (end_ret rfl rfl rfl)
theorem rkind_ok (s : List UInt8) : PureOK prog 10 [.str s] (.int .i64 (kindOf s)) := by
  by_cases hk : s ∈ refIds
  · exact runI_ok tok K3_ok mixed rfl (List.all_eq_true.1 rkind_all s hk)
  have hs : kindOf s = 0 := by
    unfold kindOf
    split
    · rfl
    · rename_i hne
      refine go_zero s _ _ fun i hi => ?_
      have hm := List.mem_of_getElem? hi
      rw [ids_cons] at hm
      rcases List.mem_cons.1 hm with h | h
      · exact hne h
      · exact hk h
  rw [hs]
  refine body1 (i := true) tok func10 rfl rfl rfl ?_
  repeat first | refine awp_seq ?_ | refine awp_region ?_
  refine go1 tok (noK_ok _) rfl rfl rfl ?_
  repeat first | refine awp_seq ?_ | refine awp_region ?_
  refine goC tok rfl rfl rfl rfl fnok14 table_ok rfl ?_
  repeat refine go1 tok (noK_ok _) rfl rfl rfl ?_
  repeat first | refine awp_seq ?_ | refine awp_region ?_
  repeat refine go1 tok (noK_ok _) rfl rfl rfl ?_
  repeat first | refine awp_seq ?_ | refine awp_region ?_ | refine awp_block ?_
  refine awp_loop (RI (.str s)) (n := 23) ⟨0, by omega, rfl, rfl, rfl, rfl, rfl, rfl⟩ ?_
  rintro n τ σ ⟨i, hi, hn, h0, h3, h4, h5, h6⟩
  refine AWp.sub (τ' := [(6, .int .i64 i), (5, .list (flatE strE refNames) refNames.length true), (4, .list (flatE strE refIds) refIds.length true), (3, .list (flatE (intE .i64) refNos) refNos.length true), (0, .str s)]) ?_ (get_all ⟨h6, h5, h4, h3, h0, trivial⟩)
  · repeat first | refine awp_seq ?_ | refine awp_region ?_
    repeat refine go1 tok (noK_ok _) rfl rfl rfl ?_
    by_cases hlt : i < 23
    · have hc : decide ((i : Int) < ((23 : Nat) : Int)) = true := by simp; omega
      refine awp_condT (by show some (D.bool (decide ((i : Int) < ((23 : Nat) : Int)))) = _; rw [hc]) (awp_skip ?_)
      repeat first | refine awp_seq ?_ | refine awp_block ?_ | refine awp_region ?_
      iterate 2 refine go1 tok (noK_ok _) rfl rfl rfl ?_
      obtain ⟨x, hx⟩ : ∃ x, ix refIds (i : Int) = some x := by
        refine ⟨refIds[i]'(by rw [ids_len]; exact hlt), ?_⟩
        simp [ix, ids_len, hlt]
      have hxm : x ∈ refIds := List.mem_of_getElem? (ix_inv hx).2.2
      have hne : (x == s) = false := by rw [beq_eq_false_iff_ne]; rintro rfl; exact hk hxm
      refine goA tok rfl (op_idx (E := strE) (xs := refIds) rfl rfl rfl (by decide) hx) rfl ?_
      refine goA tok rfl (op_ld (E := strE) (xs := refIds) rfl rfl (.inr rfl) hx rfl) rfl ?_
      repeat refine go1 tok (noK_ok _) rfl rfl rfl ?_
      refine awp_condF (by show some (D.bool (x == s)) = _; rw [hne]) (awp_skip ?_)
      repeat first | refine awp_seq ?_ | refine awp_region ?_
      repeat refine go1 tok (noK_ok _) rfl rfl rfl ?_
      refine ⟨23 - (i + 1), by omega, i + 1, by omega, rfl, rfl, rfl, rfl, rfl, ?_⟩
      show some (D.int .i64 (IntKind.i64.wrap ((i : Int) + 1))) = _
      have : IntKind.i64.wrap ((i : Int) + 1) = ((i + 1 : Nat) : Int) := by
        rw [show (i : Int) + 1 = ((i + 1 : Nat) : Int) by omega]
        exact IntWalk.i64_in _ (by omega)
      rw [this]
    · have hc : decide ((i : Int) < ((23 : Nat) : Int)) = false := by simp; omega
      refine awp_condF (by show some (D.bool (decide ((i : Int) < ((23 : Nat) : Int)))) = _; rw [hc]) (awp_exit ?_)
      repeat first | refine awp_seq ?_ | refine awp_region ?_
      repeat refine go1 tok (noK_ok _) rfl rfl rfl ?_
      exact awp_ret (end_ret rfl rfl rfl)
end Go.Proofs.Tryz
