/- A framework for proofs about Go programs in this model: part O. Everything is proved; no condition is added. -/
import Derived.WideShapes
import Derived.WideKeyArgs
import Derived.Stop.LaidErr
import Derived.Test.YtnckoelcmkdeeaaGreatDoorFwN
import Derived.Test.YtnckoelcmkdeeaaGreatDoorFwK
import Derived.Test.YtnckoelcmkdeeaaGreatDoorFwI
set_option linter.unusedVariables false
set_option linter.unusedSimpArgs false
namespace Go.Proofs.Tryz
open Go Go.Fw
set_option maxHeartbeats 4000000
set_option maxRecDepth 100000
abbrev extC : TC := .pair .str (.pair .bool (.sl .byte))
abbrev rdnTC : TC := .sl (.pair .str (.sl .byte))
abbrev timTC : TC := .pair (.int .i64) (.pair (.int .i64) (.pair (.int .i64) (.pair (.int .i64) (.pair (.int .i64) (.int .i64)))))
abbrev revTC : TC := .pair (.sl .byte) (.pair timTC (.sl extC))
abbrev listTC : TC := .pair (.int .i64) (.pair (.pair .str (.sl .byte)) (.pair (.sl rdnTC) (.pair timTC (.pair .bool (.pair timTC (.pair (.sl revTC) (.sl extC)))))))
/-- an entry as it lies in cells. -/
def revCs (r : RevV) : List D := [.list (flatE byteE r.1) r.1.length false, .int .i64 r.2.1.1, .int .i64 r.2.1.2.1, .int .i64 r.2.1.2.2.1, .int .i64 r.2.1.2.2.2.1, .int .i64 r.2.1.2.2.2.2.1, .int .i64 r.2.1.2.2.2.2.2, .list (TC.flat extC r.2.2) r.2.2.length false]
def listCs (v : ListV) : List D := [.int .i64 v.1, .str v.2.1.1, .list (flatE byteE v.2.1.2) v.2.1.2.length false, .list (TC.flat rdnTC v.2.2.1) v.2.2.1.length false,
  .int .i64 v.2.2.2.1.1, .int .i64 v.2.2.2.1.2.1, .int .i64 v.2.2.2.1.2.2.1, .int .i64 v.2.2.2.1.2.2.2.1, .int .i64 v.2.2.2.1.2.2.2.2.1, .int .i64 v.2.2.2.1.2.2.2.2.2, .bool v.2.2.2.2.1,
  .int .i64 v.2.2.2.2.2.1.1, .int .i64 v.2.2.2.2.2.1.2.1, .int .i64 v.2.2.2.2.2.1.2.2.1, .int .i64 v.2.2.2.2.2.1.2.2.2.1, .int .i64 v.2.2.2.2.2.1.2.2.2.2.1, .int .i64 v.2.2.2.2.2.1.2.2.2.2.2,
  .list (TC.flat revTC v.2.2.2.2.2.2.1) v.2.2.2.2.2.2.1.length false, .list (TC.flat extC v.2.2.2.2.2.2.2) v.2.2.2.2.2.2.2.length false]
theorem rev_cells (r : RevV) : revTC.cells r = revCs r := rfl
theorem list_cells (v : ListV) : listTC.cells v = listCs v := rfl
theorem fnok5 : FnOk prog 5 := (c_cref26_FewList 0).1
theorem fnok6 : FnOk prog 6 := (c_revocation_Find 0).1
theorem fnok7 : FnOk prog 7 := (c_cref26_Find 0).1
theorem fnok8 : FnOk prog 8 := (c_cbase_Revoked 0).1
theorem fnok11 : FnOk prog 11 := c_cbase_Bytes.1
theorem few_ok (N : Nat) {v : ListV} {b : Bool} (h : F_cref26_FewList N v = some b) : PureOK prog 5 [.agg (listCs v)] (.bool b) := by
  obtain ⟨hf, _, _, hC⟩ := c_cref26_FewList N
  obtain ⟨w, h1, _, h3⟩ := hC v b h
  cases h1
  exact h3 _ rfl _ ⟨_, _, rfl, ⟨_, rfl, _, _, rfl, rfl, _, _, rfl, rfl, _, _, rfl, ⟨false, rfl, fun h => by cases h⟩, _, _, rfl, ⟨false, rfl, fun h => by cases h⟩, _, _, rfl, rfl, _, _, rfl, rfl, _, _, rfl, rfl, _, _, rfl, rfl, _, _, rfl, rfl, _, _, rfl, rfl, _, _, rfl, rfl, _, _, rfl, rfl, _, _, rfl, rfl, _, _, rfl, rfl, _, _, rfl, rfl, _, _, rfl, rfl, _, _, rfl, rfl, _, _, rfl, ⟨false, rfl, fun h => by cases h⟩, _, _, rfl, ⟨false, rfl, fun h => by cases h⟩, rfl⟩, rfl⟩
theorem bytes_ok (x y : List UInt8) (f g : Bool) : PureOK prog 11 [.list (flatE byteE x) x.length f, .list (flatE byteE y) y.length g] (.bool (x == y)) := by
  obtain ⟨hf, _, _, hC⟩ := c_cbase_Bytes
  obtain ⟨w, h1, _, h3⟩ := hC (x, y) (x == y) rfl
  cases h1
  exact h3 _ rfl _ ⟨_, _, rfl, ⟨f, rfl, fun h => by cases h⟩, _, _, rfl, ⟨g, rfl, fun h => by cases h⟩, rfl⟩
theorem revoked_ok (N : Nat) {x y : List RevV} {f g : Bool} {b : Bool} (h : F_cbase_Revoked N x y = some b) : PureOK prog 8 [.list (TC.flat revTC x) x.length f, .list (TC.flat revTC y) y.length g] (.bool b) := by
  obtain ⟨hf, _, _, hC⟩ := c_cbase_Revoked N
  obtain ⟨w, h1, _, h3⟩ := hC (x, y) b h
  cases h1
  exact h3 _ rfl _ ⟨_, _, rfl, ⟨f, rfl, fun h => by cases h⟩, _, _, rfl, ⟨g, rfl, fun h => by cases h⟩, rfl⟩
theorem rfind_ok (N : Nat) {v : ListV} {s : List UInt8} {f : Bool} {r : RevV} {b : Bool} (h : F_cref26_Find N v s = some (r, b)) : PureOK prog 7 [.agg (listCs v), .list (flatE byteE s) s.length f] (.tuple [.agg (revCs r), .bool b]) := by
  obtain ⟨hf, _, _, hC⟩ := c_cref26_Find N
  obtain ⟨w, h1, _, h3⟩ := hC (v, s) (r, b) h
  cases h1
  exact h3 _ rfl _ ⟨_, _, rfl, ⟨_, rfl, _, _, rfl, rfl, _, _, rfl, rfl, _, _, rfl, ⟨false, rfl, fun h => by cases h⟩, _, _, rfl, ⟨false, rfl, fun h => by cases h⟩, _, _, rfl, rfl, _, _, rfl, rfl, _, _, rfl, rfl, _, _, rfl, rfl, _, _, rfl, rfl, _, _, rfl, rfl, _, _, rfl, rfl, _, _, rfl, rfl, _, _, rfl, rfl, _, _, rfl, rfl, _, _, rfl, rfl, _, _, rfl, rfl, _, _, rfl, rfl, _, _, rfl, ⟨false, rfl, fun h => by cases h⟩, _, _, rfl, ⟨false, rfl, fun h => by cases h⟩, rfl⟩, _, _, rfl, ⟨f, rfl, fun h => by cases h⟩, rfl⟩
theorem ifind_ok (N : Nat) {v : ListV} {s : List UInt8} {f : Bool} {r : RevV} {b : Bool} (h : F_revocation_Find N v s = some (r, b)) : PureOK prog 6 [.agg (listCs v), .list (flatE byteE s) s.length f] (.tuple [.agg (revCs r), .bool b]) := by
  obtain ⟨hf, _, _, hC⟩ := c_revocation_Find N
  obtain ⟨w, h1, _, h3⟩ := hC (v, s) (r, b) h
  cases h1
  exact h3 _ rfl _ ⟨_, _, rfl, ⟨_, rfl, _, _, rfl, rfl, _, _, rfl, rfl, _, _, rfl, ⟨false, rfl, fun h => by cases h⟩, _, _, rfl, ⟨false, rfl, fun h => by cases h⟩, _, _, rfl, rfl, _, _, rfl, rfl, _, _, rfl, rfl, _, _, rfl, rfl, _, _, rfl, rfl, _, _, rfl, rfl, _, _, rfl, rfl, _, _, rfl, rfl, _, _, rfl, rfl, _, _, rfl, rfl, _, _, rfl, rfl, _, _, rfl, rfl, _, _, rfl, rfl, _, _, rfl, ⟨false, rfl, fun h => by cases h⟩, _, _, rfl, ⟨false, rfl, fun h => by cases h⟩, rfl⟩, _, _, rfl, ⟨f, rfl, fun h => by cases h⟩, rfl⟩
end Go.Proofs.Tryz
namespace Go.Proofs.Tryz
open Go Go.Fw
set_option maxHeartbeats 4000000
set_option maxRecDepth 100000
theorem decF : PureOK prog 26 [.agg [.str [], .bool false, .list [] 0 false]] (.tuple [.agg z89, .agg [.int .i64 8, .int .i64 0]]) := pure_of_run (n := 40) tok KE_ok mixed rfl rfl (by kernel_rfl) (by kernel_rfl)
theorem rdecF : PureOK prog 28 [.agg [.str [], .bool false, .list [] 0 false]] (.tuple [.agg z89, .bool false]) := pure_of_run (n := 40) tok KE_ok mixed rfl rfl (by kernel_rfl) (by kernel_rfl)
/-- an entry's cells, with what is known of two slices. -/
def revF (r : RevV) (f' f : Bool) : List D := [.list (flatE byteE r.1) r.1.length f', .int .i64 r.2.1.1, .int .i64 r.2.1.2.1, .int .i64 r.2.1.2.2.1, .int .i64 r.2.1.2.2.2.1, .int .i64 r.2.1.2.2.2.2.1, .int .i64 r.2.1.2.2.2.2.2, .list (TC.flat extC r.2.2) r.2.2.length f]
theorem reasons_eq (r : RevV) (hr : fewE r) : ∃ k : Int, (∀ f f', PureOK prog 9 [.agg (revF r f' f)] (.int .i64 k)) ∧ ∀ f f', PureOK prog 10 [.agg (revF r f' f)] (.int .i64 k) := by
  obtain ⟨h1, h2, h3⟩ := hr
  have hi := if_val 300 r.2.2 R21 (by omega) (by omega) fun x hx => clone_val (h3 x hx)
  have hr' := rf_val 300 r.2.2 R21 (by omega) (by omega)
  unfold findX at hi hr'
  cases hf : r.2.2.find? (fun x => x.1 == R21) with
  | none =>
    rw [hf] at hi hr'
    exact ⟨0, fun f f' => ireason 300 (f := f) (f' := f') (k := 0) (e := 8) (q := 0) (r := 0) (c' := false) hi decF, fun f f' => rreason 300 (f := f) (f' := f') (k := 0) (r := 0) (c' := false) (b' := false) hr' rdecF⟩
  | some x =>
    rw [hf] at hi hr'
    obtain ⟨o, c, v⟩ := x
    have ho : o = R21 := by simpa using List.find?_some hf
    subst ho
    have hv : v.length ≤ 3000 := h3 _ (List.mem_of_find?_eq_some hf)
    obtain ⟨m, e, q, he, hc⟩ := ep_val 300 (by omega) v (by omega)
    have hp := rp_val 300 (by omega) v
    rcases hc with ⟨rfl, x, rfl, hx, rfl⟩ | ⟨hne, hno⟩
    · simp only [hx, cond_true] at hp
      exact ⟨(x.toNat : Int), fun f f' => ireason 300 (f := f) (f' := f') (k := 21) (e := 0) (q := 0) (r := (x.toNat : Int)) (c' := c) hi (dec21 300 he), fun f f' => rreason 300 (f := f) (f' := f') (k := 21) (r := (x.toNat : Int)) (c' := c) (b' := true) hr' (rdec21 300 hp)⟩
    · have hp' : F_cref21_Parse 300 v = some (0, false) := by
        rw [hp]
        split
        · rename_i x
          rw [hno x rfl]
          rfl
        · rfl
      have he0 : (e == 0) = false := by simpa using hne
      refine ⟨0, fun f f' => ?_, fun f f' => rreason 300 (f := f) (f' := f') (k := 0) (r := 0) (c' := false) (b' := false) hr' (rdec21e 300 hp')⟩
      have := ireason 300 (f := f) (f' := f') (sr := r.1) (t1 := r.2.1.1) (t2 := r.2.1.2.1) (t3 := r.2.1.2.2.1) (t4 := r.2.1.2.2.2.1) (t5 := r.2.1.2.2.2.2.1) (t6 := r.2.1.2.2.2.2.2) (k := 0) (r := 0) (c' := false) hi (dec21e 300 (f := false) (c := c) he0 he)
      rw [show (e != 0) = true from by simpa using hne] at this
      exact this
end Go.Proofs.Tryz
namespace Go.Proofs.Tryz
open Go Go.Fw
set_option maxHeartbeats 4000000
set_option maxRecDepth 100000
theorem fnok19 : FnOk prog 19 := (c_slices_IndexFunc_api_Revoked_api_Revoked_v1 0).1
theorem fnok22 : FnOk prog 22 := c_Clone.1
theorem idx_ok (N : Nat) {l : List RevV} {s : List UInt8} {f g : Bool} {j : Int} (h : F_slices_IndexFunc_api_Revoked_api_Revoked_v1 N l s = some j) :
    PureOK prog 19 [.list (TC.flat revTC l) l.length f, .func (.func 20) [] [.rptr [.list (flatE byteE s) s.length g] 0]] (.int .i64 j) := by
  obtain ⟨hf, _, _, hC⟩ := c_slices_IndexFunc_api_Revoked_api_Revoked_v1 N
  obtain ⟨w, h1, _, h3⟩ := hC (l, s) j h
  cases h1
  exact h3 _ rfl _ ⟨_, _, rfl, ⟨f, rfl, fun h => by cases h⟩, _, _, rfl, ⟨_, _, rfl, rfl, _, _, rfl, ⟨_, rfl, _, _, rfl, ⟨g, rfl, fun h => by cases h⟩, rfl⟩, rfl⟩, rfl⟩
def O0 (v : ListV) : AObj := .cells (listCs v) 0 0
def zRev : List D := [.list [] 0 true, .int .i64 0, .int .i64 0, .int .i64 0, .int .i64 0, .int .i64 0, .int .i64 0, .list [] 0 true]
abbrev eE : Enc ExtV := extC.enc
def A2 (s : List UInt8) (f : Bool) : AObj := .cells [.list (flatE byteE s) s.length f] 1 0
def A4 (r : RevV) : AObj := .cells [.sl 5 (flatE byteE r.1).length 0 r.1.length 1 false, .int .i64 r.2.1.1, .int .i64 r.2.1.2.1, .int .i64 r.2.1.2.2.1, .int .i64 r.2.1.2.2.2.1, .int .i64 r.2.1.2.2.2.2.1, .int .i64 r.2.1.2.2.2.2.2, .list (TC.flat extC r.2.2) r.2.2.length false] 0 0
def A5 (r : RevV) : AObj := .cells (flatE byteE r.1) 0 (flatE byteE r.1).length
def A6 (xs : List ExtV) : AObj := .cells (flatE eE xs) 0 (flatE eE xs).length
def bas (v : ListV) (s : List UInt8) (f : Bool) (r : RevV) (i : Nat) : Sto := [O0 v, O0 v, A2 s f, .cells zRev 0 0, A4 r, A5 r, A6 (r.2.2.take i)]
def slL (r : RevV) (i : Nat) : Env := [(30, .int .i64 i), (29, .int .i64 (r.2.2.length : Int)), (28, .list (TC.flat extC r.2.2) r.2.2.length false), (8, .sl 6 (flatE eE (r.2.2.take i)).length 0 (r.2.2.take i).length 3 false), (7, .ptr 4 0 0), (5, .bool false), (4, .ptr 3 0 0)]
def LI (v : ListV) (s : List UInt8) (f : Bool) (r : RevV) (m : Nat) (τ : Env) (σ : Sto) : Prop := ∃ i g, i ≤ r.2.2.length ∧ r.2.2.length - i = m ∧ (∀ t d, Go.Fw.get (slL r i) t = some d → Go.Fw.get τ t = some d) ∧ σ = bas v s f r i ++ g
/-- an entry whose serial number is one's own. -/
def ownCs (r : RevV) : List D := [.sl 5 (flatE byteE r.1).length 0 r.1.length 1 false, .int .i64 r.2.1.1, .int .i64 r.2.1.2.1, .int .i64 r.2.1.2.2.1, .int .i64 r.2.1.2.2.2.1, .int .i64 r.2.1.2.2.2.2.1, .int .i64 r.2.1.2.2.2.2.2, .list (TC.flat extC r.2.2) r.2.2.length false]
def finS (v : ListV) (s : List UInt8) (f : Bool) (r : RevV) : Sto := [O0 v, O0 v, A2 s f, .cells (ownCs r) 0 0, .cells (ownCs r) 0 0, A5 r, .cells (flatE eE r.2.2) (flatE eE r.2.2).length (flatE eE r.2.2).length]
theorem list_okv (n : Nat) (v : ListV) : (listCs v).all (okv n) = true := by
  simp only [listCs, List.all_cons, List.all_nil, okv, D.pure, TC.flat_pure, Go.Fw.flat_pure, Bool.and_self]
theorem bas_ok (v : ListV) (s : List UInt8) (f : Bool) (r : RevV) (i : Nat) : (bas v s f r i).all (okO (bas v s f r i).length) = true := by
  show (bas v s f r i).all (okO 7) = true
  simp only [bas, List.all_cons, List.all_nil, O0, A2, A4, A5, A6, zRev, okO, list_okv, flat_okv, okv, D.pure, Go.Fw.flat_pure, pureL, Bool.and_self]
  rfl
theorem slL_ok (v : ListV) (s : List UInt8) (f : Bool) (r : RevV) (i : Nat) : (slL r i).all (fun p => okv (bas v s f r i).length p.2) = true := by
  show (slL r i).all (fun p => okv 7 p.2) = true
  simp only [slL, List.all_cons, List.all_nil, okv, D.pure, Go.Fw.flat_pure, Bool.and_self]
  rfl
theorem find_walk (N : Nat) {v : ListV} {s : List UInt8} {f : Bool} {j : Nat} {r : RevV} {Q : AEx → Env → Sto → Prop} (hi : F_slices_IndexFunc_api_Revoked_api_Revoked_v1 N v.2.2.2.2.2.2.1 s = some (j : Int)) (hj : ix v.2.2.2.2.2.2.1 (j : Int) = some r) (hr : fewE r)
    (fin : ∀ τ, resD T f6.results.toList τ (finS v s f r) = some (.tuple [.agg (ownCs r), .bool true]) → Q .ret τ (finS v s f r)) : AWp 1 prog f6.ntmps (f6.body.getD .skip) (env0 0 [.agg (listCs v), .list (flatE byteE s) s.length f]) [O0 v] Q := by
  show AWp 1 prog f6.ntmps _ _ _ Q
  repeat first | refine awp_seq ?_ | refine awp_region ?_
  iterate 4 refine go1 tok (noK_ok' _) rfl rfl rfl ?_
  refine AWp.frzPtr (t := 3) rfl rfl rfl ?_
  repeat first | refine awp_seq ?_ | refine awp_region ?_
  iterate 3 refine go1 tok (noK_ok' _) rfl rfl rfl ?_
  refine goCL tok rfl rfl rfl fnok19 (idx_ok N hi) rfl ?_
  refine go1 tok (noK_ok' _) rfl rfl rfl ?_
  repeat first | refine awp_seq ?_ | refine awp_region ?_
  refine go1 tok (noK_ok' _) rfl rfl rfl ?_
  refine go1 (d := .bool false) tok (noK_ok' _) rfl (by show some (D.bool (decide ((j : Int) < 0)), _) = _; rw [decide_eq_false (by omega : ¬ (j : Int) < 0)]) rfl ?_
  refine awp_condF rfl (awp_skip ?_)
  repeat first | refine awp_seq ?_ | refine awp_region ?_
  iterate 3 refine go1 tok (noK_ok' _) rfl rfl rfl ?_
  refine goA tok rfl (op_idx (E := revTC.enc) rfl rfl rfl (by decide) hj) rfl ?_
  refine goA tok rfl (op_ld (E := revTC.enc) (a := r) rfl rfl (.inl rfl) hj rfl) rfl ?_
  iterate 2 refine go1 tok (noK_ok' _) rfl rfl rfl ?_
  repeat first | refine awp_seq ?_ | refine awp_region ?_
  iterate 2 refine go1 tok (noK_ok' _) rfl rfl rfl ?_
  refine goP rfl (aop_callL tok rfl rfl fnok22 (cloneOwn (cs := flatE byteE r.1) (n := r.1.length) (f := false) (flatE_len _ _) (flat_cell _ _) (flat_pure _ _) (by unfold limit; have := hr.1; omega) _)) rfl ?_
  iterate 2 refine go1 tok (noK_ok' _) rfl rfl rfl ?_
  repeat first | refine awp_seq ?_ | refine awp_region ?_
  refine go1 tok (noK_ok' _) rfl rfl rfl ?_
  refine AWp.own_slot (t := 8) 3 rfl ?_
  repeat first | refine awp_seq ?_ | refine awp_region ?_
  iterate 4 refine go1 tok (noK_ok' _) rfl rfl rfl ?_
  repeat first | refine awp_seq ?_ | refine awp_region ?_ | refine awp_block ?_
  refine awp_loop (LI v s f r) (n := r.2.2.length) ⟨0, [], Nat.zero_le _, rfl, ?_, rfl⟩ ?_
  · exact get_all ⟨rfl, rfl, rfl, rfl, rfl, rfl, rfl, trivial⟩
  rintro m τ σ ⟨i, g, hi1, hi2, hτ, rfl⟩
  have hxl : r.2.2.length ≤ 12 := hr.2.1
  refine AWp.cut (τ' := slL r i) rfl (bas_ok v s f r i) (slL_ok v s f r i) hτ ?_
  clear hτ
  repeat first | refine awp_seq ?_ | refine awp_region ?_
  refine go1 (d := .bool (decide ((i : Int) < (r.2.2.length : Int)))) tok (noK_ok' _) rfl rfl rfl ?_
  by_cases hlt : i < r.2.2.length
  · rw [decide_eq_true (by omega : (i : Int) < (r.2.2.length : Int))]
    repeat first | refine awp_seq ?_ | refine awp_region ?_
    refine awp_condT rfl (awp_skip ?_)
    change AWp _ _ _ _ _ _ _
    repeat first | refine awp_seq ?_ | refine awp_region ?_ | refine awp_block ?_
    have hix : ix r.2.2 (i : Int) = some (r.2.2[i]) := ix_at hlt
    have hv3 : (r.2.2[i]).2.2.length ≤ 3000 := hr.2.2 _ (List.getElem_mem hlt)
    refine goA tok rfl (op_idx (E := extC.enc) rfl rfl rfl (by decide) hix) rfl ?_
    refine goA tok rfl (op_ld (E := extC.enc) (a := r.2.2[i]) rfl rfl (.inl rfl) hix rfl) rfl ?_
    have happ : app 48 (r.2.2.take i) [r.2.2[i]] = some (r.2.2.take (i + 1)) := by
      unfold app limit
      rw [if_pos ⟨by simp only [List.length_take, List.length_cons, List.length_nil]; omega, by simp only [List.length_take, List.length_cons, List.length_nil]; omega⟩, List.take_succ_eq_append_getElem hlt]
    generalize r.2.2[i] = x at hix hv3 happ ⊢
    iterate 2 refine go1 tok (noK_ok' _) rfl rfl rfl ?_
    repeat first | refine awp_seq ?_ | refine awp_region ?_
    iterate 2 refine go1 tok (noK_ok' _) rfl rfl rfl ?_
    refine goCL tok rfl rfl rfl fnok22 (cloneK (cs := flatE byteE x.2.2) (n := x.2.2.length) (f := false) (flatE_len _ _) (flat_cell _ _) (flat_pure _ _) (by unfold limit; omega) |>.weak Weak.list) rfl ?_
    iterate 2 refine go1 tok (noK_ok' _) rfl rfl rfl ?_
    repeat first | refine awp_seq ?_ | refine awp_region ?_
    iterate 3 refine go1 tok (noK_ok' _) rfl rfl rfl ?_
    refine goA tok rfl (op_app (E := extC.enc) (xs := r.2.2.take i) (ys := [x]) (zs := r.2.2.take (i + 1)) (l := 6) (fz := 0) (by' := 48) (f := true) rfl rfl rfl rfl happ) rfl ?_
    refine go1 tok (noK_ok' _) rfl rfl rfl ?_
    repeat first | refine awp_seq ?_ | refine awp_region ?_
    refine go1 (d := .int .i64 ((i + 1 : Nat) : Int)) tok (noK_ok' _) rfl (by show some (D.int .i64 (IntKind.i64.wrap ((i : Int) + 1)), _) = _; rw [Go.IntWalk.i64_in _ (by omega), show ((i : Int) + 1) = ((i + 1 : Nat) : Int) from by omega]) rfl ?_
    refine go1 tok (noK_ok' _) rfl rfl rfl ?_
    exact ⟨r.2.2.length - (i + 1), by omega, i + 1, _, by omega, rfl, get_all ⟨rfl, rfl, rfl, rfl, rfl, rfl, rfl, trivial⟩, rfl⟩
  · have hie : i = r.2.2.length := by omega
    rw [decide_eq_false (by omega : ¬ (i : Int) < (r.2.2.length : Int))]
    repeat first | refine awp_seq ?_ | refine awp_region ?_
    refine awp_condF rfl (awp_exit ?_)
    change AWp _ _ _ _ _ _ _
    repeat first | refine awp_seq ?_ | refine awp_region ?_ | refine awp_block ?_
    subst hie
    have eb : bas v s f r r.2.2.length = [O0 v, O0 v, A2 s f, .cells zRev 0 0, A4 r, A5 r, A6 r.2.2] := by unfold bas; rw [List.take_length]
    have es : slL r r.2.2.length = [(30, .int .i64 (r.2.2.length : Int)), (29, .int .i64 (r.2.2.length : Int)), (28, .list (TC.flat extC r.2.2) r.2.2.length false), (8, .sl 6 (flatE eE r.2.2).length 0 r.2.2.length 3 false), (7, .ptr 4 0 0), (5, .bool false), (4, .ptr 3 0 0)] := by unfold slL; rw [List.take_length]
    rw [eb, es]
    refine goP rfl (aop_frz rfl rfl (frzC_own (E := extC.enc) (xs := r.2.2) rfl)) rfl ?_
    iterate 2 refine go1 tok (noK_ok' _) rfl rfl rfl ?_
    repeat first | refine awp_seq ?_ | refine awp_region ?_
    iterate 3 refine go1 tok (noK_ok' _) rfl rfl rfl ?_
    exact awp_ret (fin _ rfl)
end Go.Proofs.Tryz
namespace Go.Proofs.Tryz
open Go Go.Fw
set_option maxRecDepth 100000
noncomputable def KA : List (FuncId × Ctr) := [(351, k_Join), (22, k_Clone), (51, k_const51), (359, k_const359), (84, k_element_Parts 300), (41, k_revocation_contents_api_Bits_v1), (82, k_slices_Concat_byte_byte 300)]
theorem KA_ok : CtrsOk prog KA := ⟨c_Join, c_Clone, c_const51, c_const359, c_element_Parts 300, c_revocation_contents_api_Bits_v1, c_slices_Concat_byte_byte 300, trivial⟩
def OA : FuncId → Bool := fun f => Nat.beq f 336 || (Nat.beq f 337 || Nat.beq f 35)
theorem awake_ok : PureOK prog 4 [] (.bool true) := pure_of_runO (O := OA) (n := 60) tok (Kof_ok KA KA_ok) mixed rfl rfl (by kernel_rfl) (by kernel_rfl)
end Go.Proofs.Tryz
namespace Go.Proofs.Tryz
open Go Go.Fw
theorem lend_ent {σ : Sto} {r : RevV} {fz : Nat} (h5 : σ[5]? = some (.cells (flatE byteE r.1) fz (flatE byteE r.1).length)) (hr : fewE r) : lents σ 200 (ownCs r) = some (revF r false false) := by
  have hb : byteE.sz = 1 := rfl
  have hl : (flatE byteE r.1).length = r.1.length * 1 := flatE_len byteE r.1
  have h1 := hr.1
  refine lents_cons (lent_own h5 hl (Go.Fw.flat_pure _ _) (by omega)) (lents_pure _ _ ?_ (by simp))
  simp only [pureL, D.pure, Go.Fw.flat_pure, Bool.and_self]
end Go.Proofs.Tryz
namespace Go.Proofs.Tryz
open Go Go.Fw
set_option maxHeartbeats 8000000
set_option maxRecDepth 100000
theorem fnok4 : FnOk prog 4 := (fok_of (f := 4) (fn := f4) (by kernel_rfl)).2
theorem fnok9 : FnOk prog 9 := (fok_of (f := 9) (fn := f9) (by kernel_rfl)).2
theorem fnok10 : FnOk prog 10 := (fok_of (f := 10) (fn := f10) (by kernel_rfl)).2
def okV (v : ListV) : Prop := v.2.2.2.2.2.2.1.length ≤ 140737488351232 ∧ (∀ r ∈ v.2.2.2.2.2.2.1, okE r) ∧ v.2.2.2.2.2.2.2.length ≤ 140737488351232 ∧ ∀ x ∈ v.2.2.2.2.2.2.2, x.1.length ≤ 140737488351232 ∧ x.2.2.length ≤ 140737488351232
theorem idx_of_find {α : Type} {l : List α} {p : α → Bool} {r : α} (h : l.find? p = some r) : ∃ j, l.findIdx? p = some j ∧ ∃ hj : j < l.length, l[j] = r := by
  obtain ⟨hp, i, hi, rfl, hn⟩ := List.find?_eq_some_iff_getElem.1 h
  exact ⟨i, List.findIdx?_eq_some_iff_getElem.2 ⟨hi, hp, fun j hj => by simpa using hn j hj⟩, hi, rfl⟩
def lst (v : ListV) (s : List UInt8) (f : Bool) (r : RevV) (ys : List UInt8) : Sto := [O0 v, O0 v, A2 s f, .cells (ownCs r) 0 0, .cells (ownCs r) 0 0, .cells (flatE byteE ys) 0 (flatE byteE r.1).length, .cells (flatE eE r.2.2) (flatE eE r.2.2).length (flatE eE r.2.2).length, .cells (ownCs r) 0 0, .cells (revCs r) 0 0, .cells (ownCs r) 0 0]
def slJ (s : List UInt8) (f : Bool) (i : Nat) : Env := [(9, .int .i64 i), (8, .bool true), (7, .ptr 8 0 0), (5, .ptr 7 0 0), (2, .ptr 0 0 0), (1, .list (flatE byteE s) s.length f)]
def LJ (v : ListV) (s : List UInt8) (f : Bool) (r : RevV) (m : Nat) (τ : Env) (σ : Sto) : Prop := ∃ i ys, i ≤ r.1.length ∧ r.1.length - i = m ∧ ys.length = r.1.length ∧ (∀ t d, Go.Fw.get (slJ s f i) t = some d → Go.Fw.get τ t = some d) ∧ σ = lst v s f r ys
theorem law_ok (v : ListV) (s : List UInt8) (f : Bool) (hv : okV v) : PureOK prog 3 [.agg (listCs v), .list (flatE byteE s) s.length f] (.bool true) := by
  obtain ⟨b, hb, hfew⟩ := few26 300 (by omega) v hv.1 hv.2.1 hv.2.2.1 hv.2.2.2
  refine body1 (i := 0) tok func3 rfl rfl (by simp only [pureL, D.pure, listCs, Go.Fw.flat_pure, Bool.and_self]) ?_
  repeat first | refine awp_seq ?_ | refine awp_region ?_
  iterate 2 refine go1 tok (noK_ok' _) rfl rfl rfl ?_
  repeat first | refine awp_seq ?_ | refine awp_region ?_
  refine goCL tok rfl rfl rfl fnok4 awake_ok rfl ?_
  iterate 3 refine go1 tok (noK_ok' _) rfl rfl rfl ?_
  refine goCL tok rfl rfl rfl fnok5 (few_ok 300 hb) rfl ?_
  cases b with
  | false =>
    iterate 3 refine go1 tok (noK_ok' _) rfl rfl rfl ?_
    iterate 3 refine no1 rfl rfl ?_
    refine go1 tok (noK_ok' _) rfl rfl rfl ?_
    repeat first | refine awp_seq ?_ | refine awp_region ?_
    refine awp_condT rfl ?_
    repeat first | refine awp_seq ?_ | refine awp_region ?_
    refine goCL tok rfl rfl rfl fnok4 awake_ok rfl ?_
    refine go1 tok (noK_ok' _) rfl rfl rfl ?_
    exact awp_ret (end_ret rfl rfl rfl)
  | true =>
    obtain ⟨hl6, hE⟩ := hfew rfl
    iterate 5 refine go1 tok (noK_ok' _) rfl rfl rfl ?_
    by_cases h100 : (s.length : Int) > 100
    · refine go1 (d := .bool true) tok (noK_ok' _) rfl (by show some (D.bool (decide ((s.length : Int) > 100)), _) = _; rw [decide_eq_true h100]) rfl ?_
      refine go1 tok (noK_ok' _) rfl rfl rfl ?_
      repeat first | refine awp_seq ?_ | refine awp_region ?_
      refine awp_condT rfl ?_
      repeat first | refine awp_seq ?_ | refine awp_region ?_
      refine goCL tok rfl rfl rfl fnok4 awake_ok rfl ?_
      refine go1 tok (noK_ok' _) rfl rfl rfl ?_
      exact awp_ret (end_ret rfl rfl rfl)
    · refine go1 (d := .bool false) tok (noK_ok' _) rfl (by show some (D.bool (decide ((s.length : Int) > 100)), _) = _; rw [decide_eq_false h100]) rfl ?_
      refine go1 tok (noK_ok' _) rfl rfl rfl ?_
      repeat first | refine awp_seq ?_ | refine awp_region ?_
      refine awp_condF rfl (awp_skip ?_)
      change AWp _ _ _ _ _ _ _
      repeat first | refine awp_seq ?_ | refine awp_region ?_
      iterate 2 refine go1 tok (noK_ok' _) rfl rfl rfl ?_
      have hiv := rv_find 300 (by omega) v s hl6 hE
      have hrv := rF_val 300 v s (by omega) (by omega)
      unfold findR at hiv hrv
      cases hf : v.2.2.2.2.2.2.1.find? (fun x => x.1 == s) with
      | none =>
        rw [hf] at hiv hrv
        obtain ⟨k, hk1, hk2⟩ := reasons_eq ([], (0, 0, 0, 0, 0, 0), []) ⟨by simp, by simp, fun x hx => by simp at hx⟩
        have hself := rev_self 300 (by omega) ([], (0, 0, 0, 0, 0, 0), []) (by simp)
        refine goCL tok rfl rfl rfl fnok6 (ifind_ok 300 hiv) rfl ?_
        iterate 6 refine go1 tok (noK_ok' _) rfl rfl rfl ?_
        repeat first | refine awp_seq ?_ | refine awp_region ?_
        iterate 2 refine go1 tok (noK_ok' _) rfl rfl rfl ?_
        refine goCL tok rfl rfl rfl fnok7 (rfind_ok 300 hrv) rfl ?_
        iterate 6 refine go1 tok (noK_ok' _) rfl rfl rfl ?_
        repeat refine awp_seq ?_
        refine awp_drawn mixed [] rfl rfl rfl ?_
        refine dr_read (d := .agg (revCs ([], (0, 0, 0, 0, 0, 0), []))) rfl ?_ rfl ?_
        · repeat first | exact trivial | refine ⟨aop_aop tok rfl, ?_⟩
        refine dr_read (d := .list (TC.flat revTC [([], (0, 0, 0, 0, 0, 0), [])]) 1 true) rfl ?_ rfl ?_
        · repeat first | exact trivial | refine ⟨aop_aop tok rfl, ?_⟩
        refine dr_read (d := .agg (revCs ([], (0, 0, 0, 0, 0, 0), []))) rfl ?_ rfl ?_
        · repeat first | exact trivial | refine ⟨aop_aop tok rfl, ?_⟩
        refine dr_read (d := .list (TC.flat revTC [([], (0, 0, 0, 0, 0, 0), [])]) 1 true) rfl ?_ rfl ?_
        · repeat first | exact trivial | refine ⟨aop_aop tok rfl, ?_⟩
        refine dr_read (d := .bool true) rfl ?_ rfl ?_
        · repeat first | exact trivial | refine ⟨aop_callL tok rfl rfl fnok8 ((revoked_ok 300 hself).acall _), ?_⟩
        refine dr_read (d := .bool false) rfl ?_ rfl ?_
        · repeat first | exact trivial | refine ⟨aop_aop tok rfl, ?_⟩
        refine dr_read (d := .bool false) rfl ?_ rfl ?_
        · repeat first | exact trivial | refine ⟨aop_aop tok rfl, ?_⟩
        refine dr_read (d := .bool false) rfl ?_ rfl ?_
        · repeat first | exact trivial | refine ⟨aop_aop tok rfl, ?_⟩
        refine dr_read (d := .bool false) rfl ?_ rfl ?_
        · repeat first | exact trivial | refine ⟨aop_aop tok rfl, ?_⟩
        refine dr_read (d := .bool false) rfl ?_ rfl ?_
        · repeat first | exact trivial | refine ⟨aop_aop tok rfl, ?_⟩
        refine dr_read (d := .bool false) rfl ?_ rfl ?_
        · repeat first | exact trivial | refine ⟨aop_aop tok rfl, ?_⟩
        refine dr_read (d := .bool false) rfl ?_ rfl ?_
        · repeat first | exact trivial | refine ⟨aop_aop tok rfl, ?_⟩
        refine dr_read (d := .agg (revCs ([], (0, 0, 0, 0, 0, 0), []))) rfl ?_ rfl ?_
        · repeat first | exact trivial | refine ⟨aop_aop tok rfl, ?_⟩
        refine dr_read (d := .int .i64 k) rfl ?_ rfl ?_
        · repeat first | exact trivial | refine ⟨aop_callL tok rfl rfl fnok9 ((hk1 false false).acall _), ?_⟩
        refine dr_read (d := .agg (revCs ([], (0, 0, 0, 0, 0, 0), []))) rfl ?_ rfl ?_
        · repeat first | exact trivial | refine ⟨aop_aop tok rfl, ?_⟩
        refine dr_read (d := .int .i64 k) rfl ?_ rfl ?_
        · repeat first | exact trivial | refine ⟨aop_callL tok rfl rfl fnok10 ((hk2 false false).acall _), ?_⟩
        refine dr_read (d := .bool false) rfl ?_ rfl ?_
        · repeat first | exact trivial | refine ⟨aop_aop tok (by show some (D.bool (k != k), _) = _; rw [bne_self_eq_false]), ?_⟩
        refine dr_read (d := .bool false) rfl ?_ rfl ?_
        · repeat first | exact trivial | refine ⟨aop_aop tok rfl, ?_⟩
        refine dr_end trivial rfl ?_
        refine awp_condF rfl (awp_skip ?_)
        change AWp _ _ _ _ _ _ _
        repeat first | refine awp_seq ?_ | refine awp_region ?_
        refine go1 tok (noK_ok' _) rfl rfl rfl ?_
        repeat first | refine awp_seq ?_ | refine awp_region ?_ | refine awp_block ?_
        refine awp_loop1 (lwp_round ?_)
        repeat first | refine awp_seq ?_ | refine awp_region ?_
        iterate 5 refine go1 tok (noK_ok' _) rfl rfl rfl ?_
        refine awp_condF rfl (awp_exit ?_)
        change AWp _ _ _ _ _ _ _
        repeat first | refine awp_seq ?_ | refine awp_region ?_
        iterate 2 refine go1 tok (noK_ok' _) rfl rfl rfl ?_
        refine goCL tok rfl rfl rfl fnok6 (ifind_ok 300 hiv) rfl ?_
        iterate 6 refine go1 tok (noK_ok' _) rfl rfl rfl ?_
        repeat first | refine awp_seq ?_ | refine awp_region ?_
        iterate 8 refine go1 tok (noK_ok' _) rfl rfl rfl ?_
        refine goCL tok rfl rfl rfl fnok11 (bytes_ok [] [] false false) rfl ?_
        iterate 2 refine go1 tok (noK_ok' _) rfl rfl rfl ?_
        exact awp_ret (end_ret rfl rfl rfl)
      | some r =>
        rw [hf] at hiv hrv
        obtain ⟨j, hj1, hj2, hj3⟩ := idx_of_find hf
        have hrE : fewE r := by
          rw [← hj3]
          exact hE _ (List.getElem_mem hj2)
        have hidx := iF_val 300 v.2.2.2.2.2.2.1 s (by omega) (by omega)
        rw [hj1] at hidx
        have hix : ix v.2.2.2.2.2.2.1 (j : Int) = some r := by rw [ix_at hj2, hj3]
        have hr100 : r.1.length ≤ 100 := hrE.1
        obtain ⟨k, hk1, hk2⟩ := reasons_eq r hrE
        have hself := rev_self 300 (by omega) r hrE.2.1
        refine goI tok rfl rfl rfl func6 fnok6 (code := f6.body.getD .skip) rfl rfl ?_
        refine find_walk 300 hidx hix hrE fun τ hres => ⟨.inr rfl, _, hres, _, rfl, ?_⟩
        clear hres
        iterate 6 refine go1 tok (noK_ok' _) rfl rfl rfl ?_
        repeat first | refine awp_seq ?_ | refine awp_region ?_
        iterate 2 refine go1 tok (noK_ok' _) rfl rfl rfl ?_
        refine goCL tok rfl rfl rfl fnok7 (rfind_ok 300 hrv) rfl ?_
        iterate 6 refine go1 tok (noK_ok' _) rfl rfl rfl ?_
        repeat refine awp_seq ?_
        refine awp_drawn mixed [] rfl rfl rfl ?_
        refine dr_read (d := .agg (ownCs r)) rfl ?_ rfl ?_
        · repeat first | exact trivial | refine ⟨aop_aop tok rfl, ?_⟩
        refine .inr (.inr (.inl ⟨rfl, rfl, .sl 9 0 0 1 8 false, _, _, lst v s f r r.1, rfl, ?_, ?_, ?_, rfl, ?_⟩))
        · refine ⟨?_, trivial⟩
          refine AOp.mono (AOp.buildOwn tok rfl rfl rfl (by decide) rfl) ?_
          rintro d s ⟨rfl, rfl⟩
          exact ⟨rfl, rfl⟩
        · repeat first | exact trivial | refine ⟨aop_aop tok rfl, ?_⟩
        · exact trivial
        refine dr_read (d := .agg (revCs r)) rfl ?_ rfl ?_
        · repeat first | exact trivial | refine ⟨aop_aop tok rfl, ?_⟩
        refine dr_read (d := .list (TC.flat revTC [r]) 1 true) rfl ?_ rfl ?_
        · repeat first | exact trivial | refine ⟨aop_aop tok rfl, ?_⟩
        refine dr_read (d := .bool true) rfl ?_ rfl ?_
        · refine ⟨aop_lend (f := 8) (ds := [.sl 9 0 0 1 8 false, .list (TC.flat revTC [r]) 1 true]) (ds1 := [.list (revF r false false) 1 false, .list (TC.flat revTC [r]) 1 true]) (n := 202) tok rfl rfl ?_ fnok8 (revoked_ok 300 (x := [r]) (f := false) hself) rfl, trivial⟩
          refine lents_cons (lent_sl rfl rfl (lend_ent rfl hrE)) ?_
          refine lents_pure 201 _ ?_ ?_
          · simp only [pureL, D.pure, Go.Fw.flat_pure, Bool.and_self]
          · simp
        refine dr_read (d := .bool false) rfl ?_ rfl ?_
        · repeat first | exact trivial | refine ⟨aop_aop tok rfl, ?_⟩
        refine dr_read (d := .bool false) rfl ?_ rfl ?_
        · repeat first | exact trivial | refine ⟨aop_aop tok rfl, ?_⟩
        refine dr_read (d := .bool true) rfl ?_ rfl ?_
        · repeat first | exact trivial | refine ⟨aop_aop tok rfl, ?_⟩
        refine dr_read (d := .bool true) rfl ?_ rfl ?_
        · repeat first | exact trivial | refine ⟨aop_aop tok rfl, ?_⟩
        refine dr_read (d := .bool false) rfl ?_ rfl ?_
        · repeat first | exact trivial | refine ⟨aop_aop tok rfl, ?_⟩
        refine dr_read (d := .bool false) rfl ?_ rfl ?_
        · repeat first | exact trivial | refine ⟨aop_aop tok rfl, ?_⟩
        refine dr_read (d := .bool false) rfl ?_ rfl ?_
        · repeat first | exact trivial | refine ⟨aop_aop tok rfl, ?_⟩
        refine dr_read (d := .agg (ownCs r)) rfl ?_ rfl ?_
        · repeat first | exact trivial | refine ⟨aop_aop tok rfl, ?_⟩
        refine dr_read (d := .int .i64 k) rfl ?_ rfl ?_
        · refine ⟨aop_lend (f := 9) (ds := [.agg (ownCs r)]) (ds1 := [.agg (revF r false false)]) (n := 202) tok rfl rfl ?_ fnok9 (hk1 false false) rfl, trivial⟩
          exact lents_cons (lent_agg rfl (lend_ent rfl hrE)) (lents_pure 201 _ rfl (by simp))
        refine dr_read (d := .agg (revCs r)) rfl ?_ rfl ?_
        · repeat first | exact trivial | refine ⟨aop_aop tok rfl, ?_⟩
        refine dr_read (d := .int .i64 k) rfl ?_ rfl ?_
        · repeat first | exact trivial | refine ⟨aop_callL tok rfl rfl fnok10 ((hk2 false false).acall _), ?_⟩
        refine dr_read (d := .bool false) rfl ?_ rfl ?_
        · repeat first | exact trivial | refine ⟨aop_aop tok (by show some (D.bool (k != k), _) = _; rw [bne_self_eq_false]), ?_⟩
        refine dr_read (d := .bool false) rfl ?_ rfl ?_
        · repeat first | exact trivial | refine ⟨aop_aop tok rfl, ?_⟩
        refine dr_end trivial rfl ?_
        refine awp_condF rfl (awp_skip ?_)
        change AWp _ _ _ _ _ _ _
        repeat first | refine awp_seq ?_ | refine awp_region ?_
        refine go1 tok (noK_ok' _) rfl rfl rfl ?_
        repeat first | refine awp_seq ?_ | refine awp_region ?_ | refine awp_block ?_
        refine awp_loop (LJ v s f r) (n := r.1.length) ⟨0, r.1, Nat.zero_le _, rfl, rfl, get_all ⟨rfl, rfl, rfl, rfl, rfl, rfl, trivial⟩, rfl⟩ ?_
        rintro m τ σ ⟨i, ys, hi1, hi2, hys, hτ, rfl⟩
        refine AWp.sub (τ' := slJ s f i) ?_ hτ
        clear hτ
        repeat first | refine awp_seq ?_ | refine awp_region ?_
        iterate 4 refine go1 tok (noK_ok' _) rfl rfl rfl ?_
        refine go1 (d := .bool (decide ((i : Int) < (r.1.length : Int)))) tok (noK_ok' _) rfl rfl rfl ?_
        by_cases hlt : i < r.1.length
        · rw [decide_eq_true (by omega : (i : Int) < (r.1.length : Int))]
          repeat first | refine awp_seq ?_ | refine awp_region ?_
          refine awp_condT rfl (awp_skip ?_)
          change AWp _ _ _ _ _ _ _
          repeat first | refine awp_seq ?_ | refine awp_region ?_ | refine awp_block ?_
          have hy : ys[i]? = some (ys[i]'(by omega)) := List.getElem?_eq_getElem _
          generalize ys[i]'(by omega) = y at hy
          iterate 3 refine go1 tok (noK_ok' _) rfl rfl rfl ?_
          refine goA tok rfl (op_ixS rfl rfl rfl hlt) rfl ?_
          refine goA tok rfl (op_ldS rfl rfl rfl hy) rfl ?_
          refine go1 (d := .int .u8 ((y + 1).toNat : Int)) tok (noK_ok' _) rfl (by show some (D.int .u8 (IntKind.u8.wrap ((y.toNat : Int) + 1)), _) = _; rw [u8_inc]) rfl ?_
          refine goA tok rfl (op_ixS rfl rfl rfl hlt) rfl ?_
          refine goA tok rfl (op_stS (l := 5) (ys := ys) rfl rfl rfl rfl (by omega)) rfl ?_
          repeat first | refine awp_seq ?_ | refine awp_region ?_
          refine go1 tok (noK_ok' _) rfl rfl rfl ?_
          refine go1 (d := .int .i64 ((i + 1 : Nat) : Int)) tok (noK_ok' _) rfl (by show some (D.int .i64 (IntKind.i64.wrap ((i : Int) + 1)), _) = _; rw [Go.IntWalk.i64_in _ (by omega), show ((i : Int) + 1) = ((i + 1 : Nat) : Int) from by omega]) rfl ?_
          refine go1 tok (noK_ok' _) rfl rfl rfl ?_
          exact ⟨r.1.length - (i + 1), by omega, i + 1, ys.set i (y + 1), by omega, rfl, by simp; omega, get_all ⟨rfl, rfl, rfl, rfl, rfl, rfl, trivial⟩, rfl⟩
        · rw [decide_eq_false (by omega : ¬ (i : Int) < (r.1.length : Int))]
          repeat first | refine awp_seq ?_ | refine awp_region ?_
          refine awp_condF rfl (awp_exit ?_)
          change AWp _ _ _ _ _ _ _
          repeat first | refine awp_seq ?_ | refine awp_region ?_
          iterate 2 refine go1 tok (noK_ok' _) rfl rfl rfl ?_
          refine goCL tok rfl rfl rfl fnok6 (ifind_ok 300 hiv) rfl ?_
          iterate 6 refine go1 tok (noK_ok' _) rfl rfl rfl ?_
          repeat first | refine awp_seq ?_ | refine awp_region ?_
          iterate 8 refine go1 tok (noK_ok' _) rfl rfl rfl ?_
          refine goCL tok rfl rfl rfl fnok11 (bytes_ok r.1 r.1 false false) rfl ?_
          rw [beq_self_eq_true]
          iterate 2 refine go1 tok (noK_ok' _) rfl rfl rfl ?_
          exact awp_ret (end_ret rfl rfl rfl)
end Go.Proofs.Tryz
namespace Go.Proofs.Tryz
open Go Go.Fw Go.RowKit Go.ChangeShapes Go.WideShapes
set_option maxRecDepth 100000
theorem u32 : ∃ fs, prog.underlying 32 = some (.struct fs) := by
  have h : (match prog.underlying 32 with | some (.struct _) => true | _ => false) = true := by kernel_rfl
  split at h
  · rename_i fs hfs
    exact ⟨fs, hfs⟩
  · cases h
section
variable {H : Type} {enc : TypeId × Value → H} {W : World} {base b0 : Nat} {sp : Nat → Bool} {held : Bool}
theorem okV_of {y : listTC.Den} (h : listTC.sm y) : okV y := by
  have hK : reachBytes = 140737488351232 := rfl
  simp only [TC.sm, hK] at h
  obtain ⟨_, _, _, _, _, _, ⟨h1, h2⟩, h3, h4⟩ := h
  exact ⟨h1, fun r hr => ⟨(h2 r hr).2.2.1, fun x hx => ⟨((h2 r hr).2.2.2 x hx).1, ((h2 r hr).2.2.2 x hx).2.2.1⟩⟩, h3, fun x hx => ⟨(h4 x hx).1, (h4 x hx).2.2.1⟩⟩
theorem open_law {v0 v1 : Value} {d0 d1 : DataW H} {q0 q1 : List MemPlace} (k0 : Value.okWide prog W .any b0 32 v0) (k1 : Value.okWide prog W .any b0 22 v1) (h0 : DataW.Trod enc prog W base sp held 32 v0 d0 q0) (h1 : DataW.Trod enc prog W base sp held 22 v1 d1 q1)
    (hw : (DataW.weightsEach prog [32, 22] [d0, d1]).all (· ≤ reachBytes) = true) : ∃ (y : ListV) (s : List UInt8), Reps (snap G0 W) [.agg (listCs y), .list (flatE byteE s) s.length false] [v0, v1] ∧ okV y := by
  obtain ⟨fs, hfs⟩ := u32
  obtain ⟨n0, e0⟩ := h0
  obtain ⟨n1, e1⟩ := h1
  have hv0 : ∃ cs, v0 = .agg cs := by
    unfold Value.okWide at k0
    rw [hfs] at k0
    obtain ⟨cs, rfl, _⟩ := k0
    exact ⟨cs, rfl⟩
  obtain ⟨cs, rfl⟩ := hv0
  obtain ⟨a, l, c, rfl⟩ := okWide_slice us_cl k1
  obtain ⟨y, r1, _, r3⟩ := open_tc (P := prog) (enc := enc) G0 20 listTC 32 (by kernel_rfl) n0 _ _ e0
  obtain ⟨s, s1, _, _⟩ := open_tc (P := prog) (enc := enc) G0 20 (.sl .byte) 22 (by kernel_rfl) n1 _ _ e1
  simp only [DataW.weightsEach, List.all_append, Bool.and_eq_true] at hw
  refine ⟨y, s, ?_, okV_of (r3 hw.1)⟩
  have t1 : Reps (snap G0 W) [.list (flatE byteE s) s.length false] [.slice a l c] := s1
  simp only [Reps] at t1 ⊢
  refine ⟨_, _, rfl, ?_, t1⟩
  simp only [Rep]
  exact ⟨cs, rfl, r1⟩
end
/-! ### the two variables that the law's examples read -/
theorem globs_n : prog.globals.size = 8 := by kernel_rfl
theorem globs_all : ((List.range 8).all fun g => match globOf prog g with | none => true | some _ => Nat.beq g 1 || Nat.beq g 2) = true := by kernel_rfl
theorem globs {g : Nat} {cs : List D} (h : globOf prog g = some cs) : cs = [.anyi] ∧ (g = 1 ∨ g = 2) := by
  constructor
  · unfold globOf globTab at h
    obtain ⟨v, _, h⟩ := Option.bind_eq_some_iff.1 h
    split at h
    · cases h; rfl
    · split at h
      · cases h; rfl
      · cases h
  · have hg : g < 8 := by
      rw [← globs_n]
      unfold globOf at h
      obtain ⟨v, hv, _⟩ := Option.bind_eq_some_iff.1 h
      exact (Array.getElem?_eq_some_iff.1 hv).1
    have ha := List.all_eq_true.1 globs_all g (List.mem_range.2 hg)
    rw [h] at ha
    simp only [Bool.or_eq_true] at ha
    rcases ha with ha | ha
    · exact .inl (nbeq ha)
    · exact .inr (nbeq ha)
theorem var_cell {W : World} {n : String} {g : Nat} {x : Value} (hg : prog.globalNamed n = some g) (h : W.var? prog n = some #[x]) : g < W.heap.size ∧ W.cell? ⟨g, 0, none⟩ = some x := by
  unfold World.var? at h
  rw [hg] at h
  simp only [Option.bind_some] at h
  split at h
  · rename_i cs t f hc
    cases h
    refine ⟨lt_of_some hc, ?_⟩
    unfold World.cell?
    rw [hc]
    rfl
  · cases h
theorem glob_ok {W : World} {t1 t2 : TypeId} {x1 x2 : Value} (h1 : W.var? prog "strconv.ErrSyntax" = some #[.iface t1 x1]) (h2 : W.var? prog "strconv.ErrRange" = some #[.iface t2 x2]) : GlobOk prog (snap G0 W) W := by
  intro g cs h
  obtain ⟨rfl, hg⟩ := globs h
  have key : ∃ t x, g < W.heap.size ∧ W.cell? ⟨g, 0, none⟩ = some (.iface t x) := by
    rcases hg with rfl | rfl
    · exact ⟨t1, x1, var_cell (by kernel_rfl) h1⟩
    · exact ⟨t2, x2, var_cell (by kernel_rfl) h2⟩
  obtain ⟨t, x, k1, k2⟩ := key
  refine ⟨k1, ?_⟩
  simp only [Rep]
  exact ⟨g, 0, rfl, ⟨_, k2, by simp only [Rep]; exact ⟨t, x, rfl⟩⟩, trivial⟩
end Go.Proofs.Tryz
