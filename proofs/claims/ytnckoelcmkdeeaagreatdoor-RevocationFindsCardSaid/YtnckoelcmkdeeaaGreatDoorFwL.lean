/- A framework for proofs about Go programs in this model: part L. Everything is proved; no condition is added. -/
import Derived.Test.YtnckoelcmkdeeaaGreatDoorFwI
import Derived.Test.YtnckoelcmkdeeaaGreatDoorFwC
import Derived.Test.YtnckoelcmkdeeaaGreatDoorFwJ
import Derived.Test.YtnckoelcmkdeeaaGreatDoorFwK
set_option linter.unusedVariables false
set_option linter.unusedSimpArgs false
namespace Go.Proofs.Tryz
open Go Go.Fw
theorem mixed : prog.follows .mixedOrders = true := by kernel_rfl
noncomputable def hH : Tr TC := (.node (.node .nil 22 .byte .nil) 30 (.pair .str (.pair .bool (.sl .byte))) (.node .nil 171 (.pair (.int .i64) (.pair (.int .i64) (.pair .bool (.pair (.int .i64) (.pair (.int .i64) (.int .i64)))))) .nil))
noncomputable def hO : Tr OH := (.node (.node (.node .nil 393224 (.val (.pair .str (.pair .bool (.sl .byte)))) .nil) 393229 .frz (.node .nil 393259 .frzv .nil)) 2686981 .frz (.node (.node .nil 3211270 .frz .nil) 5373976 .res (.node .nil 13959176 (.val (.pair (.int .i64) (.pair (.int .i64) (.pair .bool (.pair (.int .i64) (.pair (.int .i64) (.int .i64))))))) .nil)))
theorem us_cl : prog.underlying 22 = some (.slice 5) := by kernel_rfl
def noK : FuncId → List D → Option D := fun _ _ => none
theorem noK_ok' (P : Program) : KOk P noK := fun _ _ _ h => by cases h
set_option maxHeartbeats 1000000
theorem cloneK {cs : List D} {n : Nat} {f : Bool} (hl : cs.length = n * 1) (hc : cs.all D.isCell = true) (hp : pureL cs = true) (hb : n * 1 ≤ limit) : PureOK prog 22 [.list cs n f] (.list cs n (Nat.beq n 0)) := by
  have hp1 : (D.list cs n f).pure = true := by simp only [D.pure]; exact hp
  have hz : ∀ b : Bool, n = 0 → cs = [] := fun b h => by subst h; simpa using hl
  refine body1 (i := 0) tok func22 rfl rfl (by simp only [pureL, hp1]; rfl) ?_
  repeat first | refine awp_seq ?_ | refine awp_region ?_
  refine go1 tok (noK_ok' _) rfl rfl rfl ?_
  repeat first | refine awp_seq ?_ | refine awp_region ?_
  refine go1 tok (noK_ok' _) rfl rfl rfl ?_
  refine go_nilEq rfl rfl us_cl rfl rfl rfl (fun b hb0 => ?_)
  by_cases hn : n = 0
  · have hcs := hz true hn
    subst hn hcs
    cases b
    · refine awp_condF rfl (awp_skip ?_)
      repeat first | refine awp_seq ?_ | refine awp_region ?_
      repeat refine go1 tok (noK_ok' _) rfl rfl rfl ?_
      exact awp_ret (end_ret rfl rfl rfl)
    · refine awp_condT rfl ?_
      repeat first | refine awp_seq ?_ | refine awp_region ?_
      repeat refine go1 tok (noK_ok' _) rfl rfl rfl ?_
      exact awp_ret (end_ret rfl rfl rfl)
  · have hb1 : b = false := by
      cases b with
      | false => rfl
      | true => have := hb0 rfl; subst this; simp at hl; omega
    subst hb1
    have hnb : Nat.beq n 0 = false := by cases n with | zero => exact absurd rfl hn | succ => rfl
    refine awp_condF rfl (awp_skip ?_)
    repeat first | refine awp_seq ?_ | refine awp_region ?_
    iterate 2 refine go1 tok (noK_ok' _) rfl rfl rfl ?_
    refine goA tok rfl (app_new rfl rfl rfl (by omega) hl hc hb (by omega)) rfl ?_
    repeat refine go1 tok (noK_ok' _) rfl rfl rfl ?_
    rw [hnb]
    exact awp_ret (end_ret rfl (frz_own rfl hl) (by simp only [D.pure]; exact hp))
theorem c_Clone : CtrOk prog 22 k_Clone := clone_ctr (fok_of (f := 22) (fn := f22) (by kernel_rfl)).2 cloneK
theorem us_gr : prog.underlying 22 = some (.slice 5) := by kernel_rfl
theorem ui_gr : prog.underlying 3 = some (.int .i64) := by kernel_rfl
theorem ua_gr : tyApp prog 22 22 = some (1, 1) := by kernel_rfl
theorem ul_gr : tySl prog 22 = some (1, 1) := by kernel_rfl
set_option maxRecDepth 20000 in
theorem growK {n : Nat} (hn : n ≤ limit) : OwnOK prog 210 [.list [] 0 true, .int .i64 n] [] 0 1 := by
  have hn' : n ≤ 1099511627776 := hn
  refine own_of_callG rfl rfl ?_
  refine acall_gho tok func210 rfl (Nat.le_of_ble_eq_true rfl) ?_
  repeat first | refine awp_seq ?_ | refine awp_region ?_
  refine go1 tok (noK_ok' _) rfl rfl rfl ?_
  repeat first | refine awp_seq ?_ | refine awp_region ?_
  refine go1 tok (noK_ok' _) rfl rfl rfl ?_
  refine go1 tok (noK_ok' _) rfl rfl rfl ?_
  rw [show decide ((n : Int) < 0) = false from by simp]
  refine awp_condF rfl (awp_skip ?_)
  repeat first | refine awp_seq ?_ | refine awp_region ?_
  refine go1 tok (noK_ok' _) rfl rfl rfl ?_
  refine go1 tok (noK_ok' _) rfl rfl rfl ?_
  refine goP rfl (aop_cap rfl us_gr rfl) rfl ?_
  refine go1 tok (noK_ok' _) rfl rfl rfl ?_
  refine go1 tok (noK_ok' _) rfl rfl rfl ?_
  refine go1 tok (noK_ok' _) rfl rfl rfl ?_
  refine go1 (d := .int .i64 n) tok (noK_ok' _) rfl (by
    show some (D.int .i64 (IntKind.i64.wrap ((n : Int) - 0)), ([] : Sto)) = _
    rw [Int.sub_zero, Go.IntWalk.i64_in _ (by omega)]) rfl ?_
  refine go1 tok (noK_ok' _) rfl rfl rfl ?_
  repeat first | refine awp_seq ?_ | refine awp_region ?_
  refine go1 tok (noK_ok' _) rfl rfl rfl ?_
  refine go1 (d := .bool (decide ((n : Int) > 0))) tok (noK_ok' _) rfl rfl rfl ?_
  by_cases h0 : 0 < n
  · rw [show decide ((n : Int) > 0) = true from by simpa using h0]
    refine awp_condT rfl ?_
    repeat first | refine awp_seq ?_ | refine awp_region ?_
    refine go1 tok (noK_ok' _) rfl rfl rfl ?_
    refine go1 tok (noK_ok' _) rfl rfl rfl ?_
    refine goP rfl (aop_cap rfl us_gr rfl) rfl ?_
    refine go1 tok (noK_ok' _) rfl rfl rfl ?_
    refine go1 tok (noK_ok' _) rfl rfl rfl ?_
    refine goP rfl (aop_growNil rfl ua_gr ui_gr rfl rfl h0 hn (by omega)) rfl ?_
    refine go1 tok (noK_ok' _) rfl rfl rfl ?_
    refine go1 tok (noK_ok' _) rfl rfl rfl ?_
    refine goP (d := .sl 0 0 0 0 1 false) (σ' := [.cells [] 0 0]) (by rfl) ?_ (by rfl) ?_
    · refine aop_cut0 (t := 22) (e := 5) (x := .tmp 22) (y := .tmp 24) (l := 0) (u := 0) (n := n) (sz := 1) (by' := 1) ?_ us_gr ul_gr ?_ ?_
      · rfl
      · rfl
      · rfl
    refine go1 tok (noK_ok' _) rfl rfl rfl ?_
    repeat first | refine awp_seq ?_ | refine awp_region ?_
    refine go1 tok (noK_ok' _) rfl rfl rfl ?_
    refine go1 tok (noK_ok' _) rfl rfl rfl ?_
    exact awp_ret ⟨.inr rfl, _, rfl, _, _, ⟨0, 0, rfl, rfl⟩, .refl _ _⟩
  · have : n = 0 := Nat.eq_zero_of_not_pos h0
    subst this
    clear hn hn' h0
    refine awp_condF rfl (awp_skip ?_)
    repeat first | refine awp_seq ?_ | refine awp_region ?_
    refine go1 tok (noK_ok' _) rfl rfl rfl ?_
    refine go1 tok (noK_ok' _) rfl rfl rfl ?_
    exact awp_ret ⟨.inr rfl, _, rfl, .sl 0 0 0 0 1 false, [.cells [] 0 0], ⟨0, 0, rfl, rfl⟩, fun B G w x hR hx => ⟨G, .refl G, hR.newObj, nil_own hx⟩⟩
theorem c_Grow : CtrOOk prog 210 k_Grow := grow_ctr (fok_of (f := 210) (fn := f210) (by kernel_rfl)).2 growK
noncomputable def d_const51 : D := .cmap [.int .i64 0, .int .i64 9, .int .i64 14, .int .i64 15, .int .i64 17, .int .i64 18, .int .i64 19, .int .i64 20, .int .i64 21, .int .i64 24, .int .i64 27, .int .i64 28, .int .i64 29, .int .i64 30, .int .i64 31, .int .i64 32, .int .i64 33, .int .i64 35, .int .i64 36, .int .i64 37, .int .i64 46, .int .i64 54, .int .i64 101, .int .i64 111] [.agg [.str [], .str [111, 112, 97, 113, 117, 101], .iface 225 (.agg [.func (.func 111) [] [], .func (.func 124) [] [], .func (.func 125) [] []])], .agg [.str [50, 46, 53, 46, 50, 57, 46, 57], .str [83, 117, 98, 106, 101, 99, 116, 68, 105, 114, 101, 99, 116, 111, 114, 121, 65, 116, 116, 114, 105, 98, 117, 116, 101, 115], .iface 243 (.agg [.func (.func 126) [] [], .func (.func 127) [] [], .func (.func 128) [] []])], .agg [.str [50, 46, 53, 46, 50, 57, 46, 49, 52], .str [83, 117, 98, 106, 101, 99, 116, 75, 101, 121, 73, 100, 101, 110, 116, 105, 102, 105, 101, 114], .iface 225 (.agg [.func (.func 111) [] [], .func (.func 129) [] [], .func (.func 130) [] []])], .agg [.str [50, 46, 53, 46, 50, 57, 46, 49, 53], .str [75, 101, 121, 85, 115, 97, 103, 101], .iface 246 (.agg [.func (.func 112) [] [], .func (.func 131) [] [], .func (.func 132) [] []])], .agg [.str [50, 46, 53, 46, 50, 57, 46, 49, 55], .str [83, 117, 98, 106, 101, 99, 116, 65, 108, 116, 78, 97, 109, 101], .iface 221 (.agg [.func (.func 113) [] [], .func (.func 114) [] [], .func (.func 115) [] []])], .agg [.str [50, 46, 53, 46, 50, 57, 46, 49, 56], .str [73, 115, 115, 117, 101, 114, 65, 108, 116, 78, 97, 109, 101], .iface 221 (.agg [.func (.func 113) [] [], .func (.func 114) [] [], .func (.func 115) [] []])], .agg [.str [50, 46, 53, 46, 50, 57, 46, 49, 57], .str [66, 97, 115, 105, 99, 67, 111, 110, 115, 116, 114, 97, 105, 110, 116, 115], .iface 252 (.agg [.func (.func 133) [] [], .func (.func 134) [] [], .func (.func 135) [] []])], .agg [.str [50, 46, 53, 46, 50, 57, 46, 50, 48], .str [67, 82, 76, 78, 117, 109, 98, 101, 114], .iface 225 (.agg [.func (.func 111) [] [], .func (.func 116) [] [], .func (.func 117) [] []])], .agg [.str [50, 46, 53, 46, 50, 57, 46, 50, 49], .str [67, 82, 76, 82, 101, 97, 115, 111, 110], .iface 246 (.agg [.func (.func 112) [] [], .func (.func 136) [] [], .func (.func 137) [] []])], .agg [.str [50, 46, 53, 46, 50, 57, 46, 50, 52], .str [73, 110, 118, 97, 108, 105, 100, 105, 116, 121, 68, 97, 116, 101], .iface 256 (.agg [.func (.func 138) [] [], .func (.func 139) [] [], .func (.func 140) [] []])], .agg [.str [50, 46, 53, 46, 50, 57, 46, 50, 55], .str [66, 97, 115, 101, 67, 82, 76, 78, 117, 109, 98, 101, 114], .iface 225 (.agg [.func (.func 111) [] [], .func (.func 116) [] [], .func (.func 117) [] []])], .agg [.str [50, 46, 53, 46, 50, 57, 46, 50, 56], .str [73, 115, 115, 117, 105, 110, 103, 68, 105, 115, 116, 114, 105, 98, 117, 116, 105, 111, 110, 80, 111, 105, 110, 116], .iface 262 (.agg [.func (.func 141) [] [], .func (.func 142) [] [], .func (.func 143) [] []])], .agg [.str [50, 46, 53, 46, 50, 57, 46, 50, 57], .str [67, 101, 114, 116, 105, 102, 105, 99, 97, 116, 101, 73, 115, 115, 117, 101, 114], .iface 221 (.agg [.func (.func 113) [] [], .func (.func 114) [] [], .func (.func 115) [] []])], .agg [.str [50, 46, 53, 46, 50, 57, 46, 51, 48], .str [78, 97, 109, 101, 67, 111, 110, 115, 116, 114, 97, 105, 110, 116, 115], .iface 268 (.agg [.func (.func 144) [] [], .func (.func 145) [] [], .func (.func 146) [] []])], .agg [.str [50, 46, 53, 46, 50, 57, 46, 51, 49], .str [67, 82, 76, 68, 105, 115, 116, 114, 105, 98, 117, 116, 105, 111, 110, 80, 111, 105, 110, 116, 115], .iface 231 (.agg [.func (.func 118) [] [], .func (.func 119) [] [], .func (.func 120) [] []])], .agg [.str [50, 46, 53, 46, 50, 57, 46, 51, 50], .str [67, 101, 114, 116, 105, 102, 105, 99, 97, 116, 101, 80, 111, 108, 105, 99, 105, 101, 115], .iface 274 (.agg [.func (.func 147) [] [], .func (.func 148) [] [], .func (.func 149) [] []])], .agg [.str [50, 46, 53, 46, 50, 57, 46, 51, 51], .str [80, 111, 108, 105, 99, 121, 77, 97, 112, 112, 105, 110, 103, 115], .iface 280 (.agg [.func (.func 150) [] [], .func (.func 151) [] [], .func (.func 152) [] []])], .agg [.str [50, 46, 53, 46, 50, 57, 46, 51, 53], .str [65, 117, 116, 104, 111, 114, 105, 116, 121, 75, 101, 121, 73, 100, 101, 110, 116, 105, 102, 105, 101, 114], .iface 286 (.agg [.func (.func 153) [] [], .func (.func 154) [] [], .func (.func 155) [] []])], .agg [.str [50, 46, 53, 46, 50, 57, 46, 51, 54], .str [80, 111, 108, 105, 99, 121, 67, 111, 110, 115, 116, 114, 97, 105, 110, 116, 115], .iface 292 (.agg [.func (.func 156) [] [], .func (.func 157) [] [], .func (.func 158) [] []])], .agg [.str [50, 46, 53, 46, 50, 57, 46, 51, 55], .str [69, 120, 116, 75, 101, 121, 85, 115, 97, 103, 101], .iface 298 (.agg [.func (.func 159) [] [], .func (.func 160) [] [], .func (.func 161) [] []])], .agg [.str [50, 46, 53, 46, 50, 57, 46, 52, 54], .str [70, 114, 101, 115, 104, 101, 115, 116, 67, 82, 76], .iface 231 (.agg [.func (.func 118) [] [], .func (.func 119) [] [], .func (.func 120) [] []])], .agg [.str [50, 46, 53, 46, 50, 57, 46, 53, 52], .str [73, 110, 104, 105, 98, 105, 116, 65, 110, 121, 80, 111, 108, 105, 99, 121], .iface 246 (.agg [.func (.func 112) [] [], .func (.func 162) [] [], .func (.func 163) [] []])], .agg [.str [49, 46, 51, 46, 54, 46, 49, 46, 53, 46, 53, 46, 55, 46, 49, 46, 49], .str [65, 117, 116, 104, 111, 114, 105, 116, 121, 73, 110, 102, 111, 65, 99, 99, 101, 115, 115], .iface 237 (.agg [.func (.func 121) [] [], .func (.func 122) [] [], .func (.func 123) [] []])], .agg [.str [49, 46, 51, 46, 54, 46, 49, 46, 53, 46, 53, 46, 55, 46, 49, 46, 49, 49], .str [83, 117, 98, 106, 101, 99, 116, 73, 110, 102, 111, 65, 99, 99, 101, 115, 115], .iface 237 (.agg [.func (.func 121) [] [], .func (.func 122) [] [], .func (.func 123) [] []])]]
noncomputable def k_const51 : Ctr := ⟨[], .raw d_const51, fun (_ : Unit) => some ()⟩
theorem c_const51 : CtrOk prog 51 k_const51 := const_ctr (fok_of (f := 51) (fn := f51) (by kernel_rfl)).2 (by kernel_rfl) (by kernel_rfl) (pure_of_run (n := 20) tok (noK_ok' _) mixed rfl (by kernel_rfl) (by kernel_rfl) (by kernel_rfl))
noncomputable def d_const359 : D := .cmap [.int .i64 0, .int .i64 1, .int .i64 2, .int .i64 3, .int .i64 4, .int .i64 5, .int .i64 6, .int .i64 7, .int .i64 8] [.func (.func 446) [] [], .func (.func 447) [] [], .func (.func 447) [] [], .func (.func 448) [] [], .func (.func 449) [] [], .func (.func 450) [] [], .func (.func 447) [] [], .func (.func 448) [] [], .func (.func 451) [] []]
noncomputable def k_const359 : Ctr := ⟨[], .raw d_const359, fun (_ : Unit) => some ()⟩
theorem c_const359 : CtrOk prog 359 k_const359 := const_ctr (fok_of (f := 359) (fn := f359) (by kernel_rfl)).2 (by kernel_rfl) (by kernel_rfl) (pure_of_run (n := 20) tok (noK_ok' _) mixed rfl (by kernel_rfl) (by kernel_rfl) (by kernel_rfl))
noncomputable def k_bytes_Equal : Ctr := ⟨[.hole (.sl .byte), .hole (.sl .byte)], .hole .bool, fun (x : Bs × Bs) => F_bytes_Equal x.1 x.2⟩
noncomputable def x_bytes_Equal (L : List LoopC) : Cx := ⟨prog, T, hH, hO, [], [], [], L, .nil⟩
theorem c_bytes_Equal : CtrOk prog 21 (k_bytes_Equal) := fun_ok (cx := x_bytes_Equal []) tok mixed trivial trivial trivial trivial 21 _ (by kernel_rfl) (by kernel_rfl) (by intro x; kernel_rfl)
noncomputable def k_cref22_FewList (N : Nat) : Ctr := ⟨[.hole (.sl (.pair .str (.pair .bool (.sl .byte))))], .hole .bool, fun (x : List (Bs × Bool × Bs)) => F_cref22_FewList N x⟩
noncomputable def x_cref22_FewList (N : Nat) (L : List LoopC) : Cx := ⟨prog, T, hH, hO, [], [], [], L, .nil⟩
noncomputable def h_cref22_FewList_l0 : Pat := ⟨[(0, .hole (.sl (.pair .str (.pair .bool (.sl .byte))))), (3, .hole (.int .i64)), (4, .hole (.int .i64))], []⟩
noncomputable def q_cref22_FewList_l0 : Exits := [(.exit 0, ⟨[(0, .hole (.sl (.pair .str (.pair .bool (.sl .byte))))), (3, .hole (.int .i64))], []⟩)]
noncomputable def e_cref22_FewList_l0 (N n : Nat) : LoopC := ⟨18, 3, 0, h_cref22_FewList_l0, q_cref22_FewList_l0, fun x => F_cref22_FewList_l0 N n x⟩
theorem l_cref22_FewList_l0 (N : Nat) : ∀ n, LOk prog (e_cref22_FewList_l0 N n) := loopc_ok (cx := x_cref22_FewList N []) tok mixed trivial trivial trivial trivial 18 3 0 h_cref22_FewList_l0 q_cref22_FewList_l0 (fun n x => F_cref22_FewList_l0 N n x) (by kernel_rfl) (by kernel_rfl) (fun _ => rfl) (by intro n x; kernel_rfl)
theorem c_cref22_FewList (N : Nat) : CtrOk prog 18 (k_cref22_FewList N) := fun_ok (cx := x_cref22_FewList N [e_cref22_FewList_l0 N N]) tok mixed trivial trivial trivial ⟨l_cref22_FewList_l0 N N, trivial⟩ 18 _ (by kernel_rfl) (by kernel_rfl) (by intro x; kernel_rfl)
noncomputable def k_cref26_FewEntry (N : Nat) : Ctr := ⟨[.hole (.pair (.sl .byte) (.pair (.pair (.int .i64) (.pair (.int .i64) (.pair (.int .i64) (.pair (.int .i64) (.pair (.int .i64) (.int .i64)))))) (.sl (.pair .str (.pair .bool (.sl .byte))))))], .hole .bool, fun (x : (Bs × (Int × Int × Int × Int × Int × Int) × List (Bs × Bool × Bs))) => F_cref26_FewEntry N x⟩
noncomputable def x_cref26_FewEntry (N : Nat) (L : List LoopC) : Cx := ⟨prog, T, hH, hO, [(18, k_cref22_FewList N)], [], [], L, .nil⟩
theorem c_cref26_FewEntry (N : Nat) : CtrOk prog 15 (k_cref26_FewEntry N) := fun_ok (cx := x_cref26_FewEntry N []) tok mixed ⟨c_cref22_FewList N, trivial⟩ trivial trivial trivial 15 _ (by kernel_rfl) (by kernel_rfl) (by intro x; kernel_rfl)
noncomputable def k_cref10_Few : Ctr := ⟨[.hole (.pair .str (.sl .byte))], .hole .bool, fun (x : (Bs × Bs)) => F_cref10_Few x⟩
noncomputable def x_cref10_Few (L : List LoopC) : Cx := ⟨prog, T, hH, hO, [], [], [], L, .nil⟩
theorem c_cref10_Few : CtrOk prog 16 (k_cref10_Few) := fun_ok (cx := x_cref10_Few []) tok mixed trivial trivial trivial trivial 16 _ (by kernel_rfl) (by kernel_rfl) (by intro x; kernel_rfl)
noncomputable def k_cref11_Few : Ctr := ⟨[.hole (.pair .str (.sl .byte))], .hole .bool, fun (x : (Bs × Bs)) => F_cref11_Few x⟩
noncomputable def x_cref11_Few (L : List LoopC) : Cx := ⟨prog, T, hH, hO, [], [], [], L, .nil⟩
theorem c_cref11_Few : CtrOk prog 108 (k_cref11_Few) := fun_ok (cx := x_cref11_Few []) tok mixed trivial trivial trivial trivial 108 _ (by kernel_rfl) (by kernel_rfl) (by intro x; kernel_rfl)
noncomputable def k_cref12_FewRDN (N : Nat) : Ctr := ⟨[.hole (.sl (.pair .str (.sl .byte)))], .hole .bool, fun (x : List (Bs × Bs)) => F_cref12_FewRDN N x⟩
noncomputable def x_cref12_FewRDN (N : Nat) (L : List LoopC) : Cx := ⟨prog, T, hH, hO, [(108, k_cref11_Few)], [], [], L, .nil⟩
noncomputable def h_cref12_FewRDN_l0 : Pat := ⟨[(0, .hole (.sl (.pair .str (.sl .byte)))), (3, .hole (.int .i64)), (4, .hole (.int .i64))], []⟩
noncomputable def q_cref12_FewRDN_l0 : Exits := [(.ret, ⟨[(2, .hole .bool)], []⟩), (.exit 0, ⟨[(0, .hole (.sl (.pair .str (.sl .byte)))), (3, .hole (.int .i64))], []⟩)]
noncomputable def e_cref12_FewRDN_l0 (N n : Nat) : LoopC := ⟨47, 3, 0, h_cref12_FewRDN_l0, q_cref12_FewRDN_l0, fun x => F_cref12_FewRDN_l0 N n x⟩
theorem l_cref12_FewRDN_l0 (N : Nat) : ∀ n, LOk prog (e_cref12_FewRDN_l0 N n) := loopc_ok (cx := x_cref12_FewRDN N []) tok mixed ⟨c_cref11_Few, trivial⟩ trivial trivial trivial 47 3 0 h_cref12_FewRDN_l0 q_cref12_FewRDN_l0 (fun n x => F_cref12_FewRDN_l0 N n x) (by kernel_rfl) (by kernel_rfl) (fun _ => rfl) (by intro n x; kernel_rfl)
theorem c_cref12_FewRDN (N : Nat) : CtrOk prog 47 (k_cref12_FewRDN N) := fun_ok (cx := x_cref12_FewRDN N [e_cref12_FewRDN_l0 N N]) tok mixed ⟨c_cref11_Few, trivial⟩ trivial trivial ⟨l_cref12_FewRDN_l0 N N, trivial⟩ 47 _ (by kernel_rfl) (by kernel_rfl) (by intro x; kernel_rfl)
noncomputable def k_cref12_Few (N : Nat) : Ctr := ⟨[.hole (.sl (.sl (.pair .str (.sl .byte))))], .hole .bool, fun (x : List (List (Bs × Bs))) => F_cref12_Few N x⟩
noncomputable def x_cref12_Few (N : Nat) (L : List LoopC) : Cx := ⟨prog, T, hH, hO, [(47, k_cref12_FewRDN N)], [], [], L, .nil⟩
noncomputable def h_cref12_Few_l0 : Pat := ⟨[(0, .hole (.sl (.sl (.pair .str (.sl .byte))))), (3, .hole (.int .i64)), (4, .hole (.int .i64)), (5, .hole (.int .i64))], []⟩
noncomputable def q_cref12_Few_l0 : Exits := [(.exit 2, ⟨[(0, .hole (.sl (.sl (.pair .str (.sl .byte))))), (3, .hole (.int .i64)), (4, .hole (.int .i64))], []⟩)]
noncomputable def e_cref12_Few_l0 (N n : Nat) : LoopC := ⟨17, 8, 0, h_cref12_Few_l0, q_cref12_Few_l0, fun x => F_cref12_Few_l0 N n x⟩
theorem l_cref12_Few_l0 (N : Nat) : ∀ n, LOk prog (e_cref12_Few_l0 N n) := loopc_ok (cx := x_cref12_Few N []) tok mixed ⟨c_cref12_FewRDN N, trivial⟩ trivial trivial trivial 17 8 0 h_cref12_Few_l0 q_cref12_Few_l0 (fun n x => F_cref12_Few_l0 N n x) (by kernel_rfl) (by kernel_rfl) (fun _ => rfl) (by intro n x; kernel_rfl)
noncomputable def h_cref12_Few_l1 : Pat := ⟨[(0, .hole (.sl (.sl (.pair .str (.sl .byte))))), (3, .hole (.int .i64)), (4, .hole (.int .i64))], []⟩
noncomputable def q_cref12_Few_l1 : Exits := [(.ret, ⟨[(2, .hole .bool)], []⟩), (.exit 0, ⟨[(0, .hole (.sl (.sl (.pair .str (.sl .byte))))), (3, .hole (.int .i64))], []⟩)]
noncomputable def e_cref12_Few_l1 (N n : Nat) : LoopC := ⟨17, 3, 0, h_cref12_Few_l1, q_cref12_Few_l1, fun x => F_cref12_Few_l1 N n x⟩
theorem l_cref12_Few_l1 (N : Nat) : ∀ n, LOk prog (e_cref12_Few_l1 N n) := loopc_ok (cx := x_cref12_Few N [e_cref12_Few_l0 N N]) tok mixed ⟨c_cref12_FewRDN N, trivial⟩ trivial trivial ⟨l_cref12_Few_l0 N N, trivial⟩ 17 3 0 h_cref12_Few_l1 q_cref12_Few_l1 (fun n x => F_cref12_Few_l1 N n x) (by kernel_rfl) (by kernel_rfl) (fun _ => rfl) (by intro n x; kernel_rfl)
theorem c_cref12_Few (N : Nat) : CtrOk prog 17 (k_cref12_Few N) := fun_ok (cx := x_cref12_Few N [e_cref12_Few_l0 N N, e_cref12_Few_l1 N N]) tok mixed ⟨c_cref12_FewRDN N, trivial⟩ trivial trivial ⟨l_cref12_Few_l0 N N, l_cref12_Few_l1 N N, trivial⟩ 17 _ (by kernel_rfl) (by kernel_rfl) (by intro x; kernel_rfl)
noncomputable def k_cref26_FewList (N : Nat) : Ctr := ⟨[.hole (.pair (.int .i64) (.pair (.pair .str (.sl .byte)) (.pair (.sl (.sl (.pair .str (.sl .byte)))) (.pair (.pair (.int .i64) (.pair (.int .i64) (.pair (.int .i64) (.pair (.int .i64) (.pair (.int .i64) (.int .i64)))))) (.pair .bool (.pair (.pair (.int .i64) (.pair (.int .i64) (.pair (.int .i64) (.pair (.int .i64) (.pair (.int .i64) (.int .i64)))))) (.pair (.sl (.pair (.sl .byte) (.pair (.pair (.int .i64) (.pair (.int .i64) (.pair (.int .i64) (.pair (.int .i64) (.pair (.int .i64) (.int .i64)))))) (.sl (.pair .str (.pair .bool (.sl .byte))))))) (.sl (.pair .str (.pair .bool (.sl .byte)))))))))))], .hole .bool, fun (x : (Int × (Bs × Bs) × List (List (Bs × Bs)) × (Int × Int × Int × Int × Int × Int) × Bool × (Int × Int × Int × Int × Int × Int) × List (Bs × (Int × Int × Int × Int × Int × Int) × List (Bs × Bool × Bs)) × List (Bs × Bool × Bs))) => F_cref26_FewList N x⟩
noncomputable def x_cref26_FewList (N : Nat) (L : List LoopC) : Cx := ⟨prog, T, hH, hO, [(15, k_cref26_FewEntry N), (16, k_cref10_Few), (17, k_cref12_Few N), (18, k_cref22_FewList N)], [], [], L, .nil⟩
noncomputable def h_cref26_FewList_l0 : Pat := ⟨[(1, .ptr 0 0), (3, .hole (.int .i64)), (4, .hole (.int .i64)), (5, .hole (.int .i64))], [.cells [.hole (.int .i64), .hole .str, .hole (.sl .byte), .hole (.sl (.sl (.pair .str (.sl .byte)))), .hole (.int .i64), .hole (.int .i64), .hole (.int .i64), .hole (.int .i64), .hole (.int .i64), .hole (.int .i64), .hole .bool, .hole (.int .i64), .hole (.int .i64), .hole (.int .i64), .hole (.int .i64), .hole (.int .i64), .hole (.int .i64), .hole (.sl (.pair (.sl .byte) (.pair (.pair (.int .i64) (.pair (.int .i64) (.pair (.int .i64) (.pair (.int .i64) (.pair (.int .i64) (.int .i64)))))) (.sl (.pair .str (.pair .bool (.sl .byte))))))), .hole (.sl (.pair .str (.pair .bool (.sl .byte))))] false]⟩
noncomputable def q_cref26_FewList_l0 : Exits := [(.exit 2, ⟨[(1, .ptr 0 0), (3, .hole (.int .i64)), (4, .hole (.int .i64))], [.cells [.hole (.int .i64), .hole .str, .hole (.sl .byte), .hole (.sl (.sl (.pair .str (.sl .byte)))), .hole (.int .i64), .hole (.int .i64), .hole (.int .i64), .hole (.int .i64), .hole (.int .i64), .hole (.int .i64), .hole .bool, .hole (.int .i64), .hole (.int .i64), .hole (.int .i64), .hole (.int .i64), .hole (.int .i64), .hole (.int .i64), .hole (.sl (.pair (.sl .byte) (.pair (.pair (.int .i64) (.pair (.int .i64) (.pair (.int .i64) (.pair (.int .i64) (.pair (.int .i64) (.int .i64)))))) (.sl (.pair .str (.pair .bool (.sl .byte))))))), .hole (.sl (.pair .str (.pair .bool (.sl .byte))))] false]⟩)]
noncomputable def e_cref26_FewList_l0 (N n : Nat) : LoopC := ⟨5, 8, 0, h_cref26_FewList_l0, q_cref26_FewList_l0, fun x => F_cref26_FewList_l0 N n x⟩
theorem l_cref26_FewList_l0 (N : Nat) : ∀ n, LOk prog (e_cref26_FewList_l0 N n) := loopc_ok (cx := x_cref26_FewList N []) tok mixed ⟨c_cref26_FewEntry N, c_cref10_Few, c_cref12_Few N, c_cref22_FewList N, trivial⟩ trivial trivial trivial 5 8 0 h_cref26_FewList_l0 q_cref26_FewList_l0 (fun n x => F_cref26_FewList_l0 N n x) (by kernel_rfl) (by kernel_rfl) (fun _ => rfl) (by intro n x; kernel_rfl)
noncomputable def h_cref26_FewList_l1 : Pat := ⟨[(1, .ptr 0 0), (3, .hole (.int .i64)), (4, .hole (.int .i64))], [.cells [.hole (.int .i64), .hole .str, .hole (.sl .byte), .hole (.sl (.sl (.pair .str (.sl .byte)))), .hole (.int .i64), .hole (.int .i64), .hole (.int .i64), .hole (.int .i64), .hole (.int .i64), .hole (.int .i64), .hole .bool, .hole (.int .i64), .hole (.int .i64), .hole (.int .i64), .hole (.int .i64), .hole (.int .i64), .hole (.int .i64), .hole (.sl (.pair (.sl .byte) (.pair (.pair (.int .i64) (.pair (.int .i64) (.pair (.int .i64) (.pair (.int .i64) (.pair (.int .i64) (.int .i64)))))) (.sl (.pair .str (.pair .bool (.sl .byte))))))), .hole (.sl (.pair .str (.pair .bool (.sl .byte))))] false]⟩
noncomputable def q_cref26_FewList_l1 : Exits := [(.ret, ⟨[(2, .hole .bool)], [.junk]⟩), (.exit 0, ⟨[(1, .ptr 0 0), (3, .hole (.int .i64))], [.cells [.hole (.int .i64), .hole .str, .hole (.sl .byte), .hole (.sl (.sl (.pair .str (.sl .byte)))), .hole (.int .i64), .hole (.int .i64), .hole (.int .i64), .hole (.int .i64), .hole (.int .i64), .hole (.int .i64), .hole .bool, .hole (.int .i64), .hole (.int .i64), .hole (.int .i64), .hole (.int .i64), .hole (.int .i64), .hole (.int .i64), .hole (.sl (.pair (.sl .byte) (.pair (.pair (.int .i64) (.pair (.int .i64) (.pair (.int .i64) (.pair (.int .i64) (.pair (.int .i64) (.int .i64)))))) (.sl (.pair .str (.pair .bool (.sl .byte))))))), .hole (.sl (.pair .str (.pair .bool (.sl .byte))))] false]⟩)]
noncomputable def e_cref26_FewList_l1 (N n : Nat) : LoopC := ⟨5, 3, 0, h_cref26_FewList_l1, q_cref26_FewList_l1, fun x => F_cref26_FewList_l1 N n x⟩
theorem l_cref26_FewList_l1 (N : Nat) : ∀ n, LOk prog (e_cref26_FewList_l1 N n) := loopc_ok (cx := x_cref26_FewList N [e_cref26_FewList_l0 N N]) tok mixed ⟨c_cref26_FewEntry N, c_cref10_Few, c_cref12_Few N, c_cref22_FewList N, trivial⟩ trivial trivial ⟨l_cref26_FewList_l0 N N, trivial⟩ 5 3 0 h_cref26_FewList_l1 q_cref26_FewList_l1 (fun n x => F_cref26_FewList_l1 N n x) (by kernel_rfl) (by kernel_rfl) (fun _ => rfl) (by intro n x; kernel_rfl)
theorem c_cref26_FewList (N : Nat) : CtrOk prog 5 (k_cref26_FewList N) := fun_ok (cx := x_cref26_FewList N [e_cref26_FewList_l0 N N, e_cref26_FewList_l1 N N]) tok mixed ⟨c_cref26_FewEntry N, c_cref10_Few, c_cref12_Few N, c_cref22_FewList N, trivial⟩ trivial trivial ⟨l_cref26_FewList_l0 N N, l_cref26_FewList_l1 N N, trivial⟩ 5 _ (by kernel_rfl) (by kernel_rfl) (by intro x; kernel_rfl)
noncomputable def k_revocation_Find_1_v1 : Ctr := ⟨[.agg [.hole (.sl .byte), .hole (.int .i64), .hole (.int .i64), .hole (.int .i64), .hole (.int .i64), .hole (.int .i64), .hole (.int .i64), .hole (.sl (.pair .str (.pair .bool (.sl .byte))))], .rc [.hole (.sl .byte)] 0], .hole .bool, fun (x : Bs × Int × Int × Int × Int × Int × Int × List (Bs × Bool × Bs) × Bs) => F_revocation_Find_1_v1 x.1 x.2.1 x.2.2.1 x.2.2.2.1 x.2.2.2.2.1 x.2.2.2.2.2.1 x.2.2.2.2.2.2.1 x.2.2.2.2.2.2.2.1 x.2.2.2.2.2.2.2.2⟩
noncomputable def x_revocation_Find_1_v1 (L : List LoopC) : Cx := ⟨prog, T, hH, hO, [(21, k_bytes_Equal)], [], [], L, .nil⟩
theorem c_revocation_Find_1_v1 : CtrOk prog 20 (k_revocation_Find_1_v1) := fun_ok (cx := x_revocation_Find_1_v1 []) tok mixed ⟨c_bytes_Equal, trivial⟩ trivial trivial trivial 20 _ (by kernel_rfl) (by kernel_rfl) (by intro x; kernel_rfl)
noncomputable def k_slices_IndexFunc_api_Revoked_api_Revoked_v1 (N : Nat) : Ctr := ⟨[.hole (.sl (.pair (.sl .byte) (.pair (.pair (.int .i64) (.pair (.int .i64) (.pair (.int .i64) (.pair (.int .i64) (.pair (.int .i64) (.int .i64)))))) (.sl (.pair .str (.pair .bool (.sl .byte))))))), .func (.func 20) [] [.rc [.hole (.sl .byte)] 0]], .hole (.int .i64), fun (x : List (Bs × (Int × Int × Int × Int × Int × Int) × List (Bs × Bool × Bs)) × Bs) => F_slices_IndexFunc_api_Revoked_api_Revoked_v1 N x.1 x.2⟩
noncomputable def x_slices_IndexFunc_api_Revoked_api_Revoked_v1 (N : Nat) (L : List LoopC) : Cx := ⟨prog, T, hH, hO, [(20, k_revocation_Find_1_v1)], [], [], L, .nil⟩
noncomputable def h_slices_IndexFunc_api_Revoked_api_Revoked_v1_l0 : Pat := ⟨[(0, .hole (.sl (.pair (.sl .byte) (.pair (.pair (.int .i64) (.pair (.int .i64) (.pair (.int .i64) (.pair (.int .i64) (.pair (.int .i64) (.int .i64)))))) (.sl (.pair .str (.pair .bool (.sl .byte)))))))), (1, .func (.func 20) [] [.rc [.hole (.sl .byte)] 0]), (7, .hole (.int .i64)), (8, .hole (.int .i64))], []⟩
noncomputable def q_slices_IndexFunc_api_Revoked_api_Revoked_v1_l0 : Exits := [(.ret, ⟨[(4, .hole (.int .i64))], []⟩), (.exit 0, ⟨[], []⟩)]
noncomputable def e_slices_IndexFunc_api_Revoked_api_Revoked_v1_l0 (N n : Nat) : LoopC := ⟨19, 2, 0, h_slices_IndexFunc_api_Revoked_api_Revoked_v1_l0, q_slices_IndexFunc_api_Revoked_api_Revoked_v1_l0, fun x => F_slices_IndexFunc_api_Revoked_api_Revoked_v1_l0 N n x⟩
theorem l_slices_IndexFunc_api_Revoked_api_Revoked_v1_l0 (N : Nat) : ∀ n, LOk prog (e_slices_IndexFunc_api_Revoked_api_Revoked_v1_l0 N n) := loopc_ok (cx := x_slices_IndexFunc_api_Revoked_api_Revoked_v1 N []) tok mixed ⟨c_revocation_Find_1_v1, trivial⟩ trivial trivial trivial 19 2 0 h_slices_IndexFunc_api_Revoked_api_Revoked_v1_l0 q_slices_IndexFunc_api_Revoked_api_Revoked_v1_l0 (fun n x => F_slices_IndexFunc_api_Revoked_api_Revoked_v1_l0 N n x) (by kernel_rfl) (by kernel_rfl) (fun _ => rfl) (by intro n x; kernel_rfl)
theorem c_slices_IndexFunc_api_Revoked_api_Revoked_v1 (N : Nat) : CtrOk prog 19 (k_slices_IndexFunc_api_Revoked_api_Revoked_v1 N) := fun_ok (cx := x_slices_IndexFunc_api_Revoked_api_Revoked_v1 N [e_slices_IndexFunc_api_Revoked_api_Revoked_v1_l0 N N]) tok mixed ⟨c_revocation_Find_1_v1, trivial⟩ trivial trivial ⟨l_slices_IndexFunc_api_Revoked_api_Revoked_v1_l0 N N, trivial⟩ 19 _ (by kernel_rfl) (by kernel_rfl) (by intro x; kernel_rfl)
noncomputable def k_revocation_Find (N : Nat) : Ctr := ⟨[.hole (.pair (.int .i64) (.pair (.pair .str (.sl .byte)) (.pair (.sl (.sl (.pair .str (.sl .byte)))) (.pair (.pair (.int .i64) (.pair (.int .i64) (.pair (.int .i64) (.pair (.int .i64) (.pair (.int .i64) (.int .i64)))))) (.pair .bool (.pair (.pair (.int .i64) (.pair (.int .i64) (.pair (.int .i64) (.pair (.int .i64) (.pair (.int .i64) (.int .i64)))))) (.pair (.sl (.pair (.sl .byte) (.pair (.pair (.int .i64) (.pair (.int .i64) (.pair (.int .i64) (.pair (.int .i64) (.pair (.int .i64) (.int .i64)))))) (.sl (.pair .str (.pair .bool (.sl .byte))))))) (.sl (.pair .str (.pair .bool (.sl .byte))))))))))), .hole (.sl .byte)], .tup [.hole (.pair (.sl .byte) (.pair (.pair (.int .i64) (.pair (.int .i64) (.pair (.int .i64) (.pair (.int .i64) (.pair (.int .i64) (.int .i64)))))) (.sl (.pair .str (.pair .bool (.sl .byte)))))), .hole .bool], fun (x : (Int × (Bs × Bs) × List (List (Bs × Bs)) × (Int × Int × Int × Int × Int × Int) × Bool × (Int × Int × Int × Int × Int × Int) × List (Bs × (Int × Int × Int × Int × Int × Int) × List (Bs × Bool × Bs)) × List (Bs × Bool × Bs)) × Bs) => F_revocation_Find N x.1 x.2⟩
noncomputable def x_revocation_Find (N : Nat) (L : List LoopC) : Cx := ⟨prog, T, hH, hO, [(19, k_slices_IndexFunc_api_Revoked_api_Revoked_v1 N), (22, k_Clone)], [], [], L, .nil⟩
noncomputable def h_revocation_Find_l0 : Pat := ⟨[(4, .ptr 2 0), (7, .ptr 3 0), (8, .own 4), (28, .hole (.sl (.pair .str (.pair .bool (.sl .byte))))), (29, .hole (.int .i64)), (30, .hole (.int .i64))], [.junk, .junk, .cells [.nils, .hole (.int .i64), .hole (.int .i64), .hole (.int .i64), .hole (.int .i64), .hole (.int .i64), .hole (.int .i64), .nils] false, .cells [.hole (.sl .byte), .hole (.int .i64), .hole (.int .i64), .hole (.int .i64), .hole (.int .i64), .hole (.int .i64), .hole (.int .i64), .hole (.sl (.pair .str (.pair .bool (.sl .byte))))] false, .arr (.pair .str (.pair .bool (.sl .byte))) false false]⟩
noncomputable def q_revocation_Find_l0 : Exits := [(.exit 0, ⟨[(4, .ptr 2 0), (7, .ptr 3 0), (8, .own 4)], [.junk, .junk, .cells [.nils, .hole (.int .i64), .hole (.int .i64), .hole (.int .i64), .hole (.int .i64), .hole (.int .i64), .hole (.int .i64), .nils] false, .cells [.hole (.sl .byte), .hole (.int .i64), .hole (.int .i64), .hole (.int .i64), .hole (.int .i64), .hole (.int .i64), .hole (.int .i64), .hole (.sl (.pair .str (.pair .bool (.sl .byte))))] false, .arr (.pair .str (.pair .bool (.sl .byte))) false false]⟩)]
noncomputable def e_revocation_Find_l0 (N n : Nat) : LoopC := ⟨6, 8, 0, h_revocation_Find_l0, q_revocation_Find_l0, fun x => F_revocation_Find_l0 N n x⟩
theorem l_revocation_Find_l0 (N : Nat) : ∀ n, LOk prog (e_revocation_Find_l0 N n) := loopc_ok (cx := x_revocation_Find N []) tok mixed ⟨c_slices_IndexFunc_api_Revoked_api_Revoked_v1 N, c_Clone, trivial⟩ trivial trivial trivial 6 8 0 h_revocation_Find_l0 q_revocation_Find_l0 (fun n x => F_revocation_Find_l0 N n x) (by kernel_rfl) (by kernel_rfl) (fun _ => rfl) (by intro n x; kernel_rfl)
theorem c_revocation_Find (N : Nat) : CtrOk prog 6 (k_revocation_Find N) := fun_ok (cx := x_revocation_Find N [e_revocation_Find_l0 N N]) tok mixed ⟨c_slices_IndexFunc_api_Revoked_api_Revoked_v1 N, c_Clone, trivial⟩ trivial trivial ⟨l_revocation_Find_l0 N N, trivial⟩ 6 _ (by kernel_rfl) (by kernel_rfl) (by intro x; kernel_rfl)
noncomputable def k_cbase_Bytes : Ctr := ⟨[.hole (.sl .byte), .hole (.sl .byte)], .hole .bool, fun (x : Bs × Bs) => F_cbase_Bytes x.1 x.2⟩
noncomputable def x_cbase_Bytes (L : List LoopC) : Cx := ⟨prog, T, hH, hO, [], [], [], L, .nil⟩
theorem c_cbase_Bytes : CtrOk prog 11 (k_cbase_Bytes) := fun_ok (cx := x_cbase_Bytes []) tok mixed trivial trivial trivial trivial 11 _ (by kernel_rfl) (by kernel_rfl) (by intro x; kernel_rfl)
noncomputable def k_cref26_Find (N : Nat) : Ctr := ⟨[.hole (.pair (.int .i64) (.pair (.pair .str (.sl .byte)) (.pair (.sl (.sl (.pair .str (.sl .byte)))) (.pair (.pair (.int .i64) (.pair (.int .i64) (.pair (.int .i64) (.pair (.int .i64) (.pair (.int .i64) (.int .i64)))))) (.pair .bool (.pair (.pair (.int .i64) (.pair (.int .i64) (.pair (.int .i64) (.pair (.int .i64) (.pair (.int .i64) (.int .i64)))))) (.pair (.sl (.pair (.sl .byte) (.pair (.pair (.int .i64) (.pair (.int .i64) (.pair (.int .i64) (.pair (.int .i64) (.pair (.int .i64) (.int .i64)))))) (.sl (.pair .str (.pair .bool (.sl .byte))))))) (.sl (.pair .str (.pair .bool (.sl .byte))))))))))), .hole (.sl .byte)], .tup [.hole (.pair (.sl .byte) (.pair (.pair (.int .i64) (.pair (.int .i64) (.pair (.int .i64) (.pair (.int .i64) (.pair (.int .i64) (.int .i64)))))) (.sl (.pair .str (.pair .bool (.sl .byte)))))), .hole .bool], fun (x : (Int × (Bs × Bs) × List (List (Bs × Bs)) × (Int × Int × Int × Int × Int × Int) × Bool × (Int × Int × Int × Int × Int × Int) × List (Bs × (Int × Int × Int × Int × Int × Int) × List (Bs × Bool × Bs)) × List (Bs × Bool × Bs)) × Bs) => F_cref26_Find N x.1 x.2⟩
noncomputable def x_cref26_Find (N : Nat) (L : List LoopC) : Cx := ⟨prog, T, hH, hO, [(11, k_cbase_Bytes)], [], [], L, .nil⟩
noncomputable def h_cref26_Find_l0 : Pat := ⟨[(1, .hole (.sl .byte)), (2, .ptr 0 0), (4, .ptr 1 0), (6, .hole (.int .i64))], [.cells [.hole (.int .i64), .hole .str, .hole (.sl .byte), .hole (.sl (.sl (.pair .str (.sl .byte)))), .hole (.int .i64), .hole (.int .i64), .hole (.int .i64), .hole (.int .i64), .hole (.int .i64), .hole (.int .i64), .hole .bool, .hole (.int .i64), .hole (.int .i64), .hole (.int .i64), .hole (.int .i64), .hole (.int .i64), .hole (.int .i64), .hole (.sl (.pair (.sl .byte) (.pair (.pair (.int .i64) (.pair (.int .i64) (.pair (.int .i64) (.pair (.int .i64) (.pair (.int .i64) (.int .i64)))))) (.sl (.pair .str (.pair .bool (.sl .byte))))))), .hole (.sl (.pair .str (.pair .bool (.sl .byte))))] false, .cells [.nils, .hole (.int .i64), .hole (.int .i64), .hole (.int .i64), .hole (.int .i64), .hole (.int .i64), .hole (.int .i64), .nils] false]⟩
noncomputable def q_cref26_Find_l0 : Exits := [(.ret, ⟨[(4, .ptr 1 0), (5, .hole .bool)], [.junk, .cells [.hole (.sl .byte), .hole (.int .i64), .hole (.int .i64), .hole (.int .i64), .hole (.int .i64), .hole (.int .i64), .hole (.int .i64), .hole (.sl (.pair .str (.pair .bool (.sl .byte))))] false]⟩), (.exit 0, ⟨[(4, .ptr 1 0)], [.junk, .cells [.nils, .hole (.int .i64), .hole (.int .i64), .hole (.int .i64), .hole (.int .i64), .hole (.int .i64), .hole (.int .i64), .nils] false]⟩)]
noncomputable def e_cref26_Find_l0 (N n : Nat) : LoopC := ⟨7, 2, 0, h_cref26_Find_l0, q_cref26_Find_l0, fun x => F_cref26_Find_l0 N n x⟩
theorem l_cref26_Find_l0 (N : Nat) : ∀ n, LOk prog (e_cref26_Find_l0 N n) := loopc_ok (cx := x_cref26_Find N []) tok mixed ⟨c_cbase_Bytes, trivial⟩ trivial trivial trivial 7 2 0 h_cref26_Find_l0 q_cref26_Find_l0 (fun n x => F_cref26_Find_l0 N n x) (by kernel_rfl) (by kernel_rfl) (fun _ => rfl) (by intro n x; kernel_rfl)
theorem c_cref26_Find (N : Nat) : CtrOk prog 7 (k_cref26_Find N) := fun_ok (cx := x_cref26_Find N [e_cref26_Find_l0 N N]) tok mixed ⟨c_cbase_Bytes, trivial⟩ trivial trivial ⟨l_cref26_Find_l0 N N, trivial⟩ 7 _ (by kernel_rfl) (by kernel_rfl) (by intro x; kernel_rfl)
noncomputable def k_cbase_Extension : Ctr := ⟨[.hole (.pair .str (.pair .bool (.sl .byte))), .hole (.pair .str (.pair .bool (.sl .byte)))], .hole .bool, fun (x : (Bs × Bool × Bs) × (Bs × Bool × Bs)) => F_cbase_Extension x.1 x.2⟩
noncomputable def x_cbase_Extension (L : List LoopC) : Cx := ⟨prog, T, hH, hO, [(11, k_cbase_Bytes)], [], [], L, .nil⟩
theorem c_cbase_Extension : CtrOk prog 48 (k_cbase_Extension) := fun_ok (cx := x_cbase_Extension []) tok mixed ⟨c_cbase_Bytes, trivial⟩ trivial trivial trivial 48 _ (by kernel_rfl) (by kernel_rfl) (by intro x; kernel_rfl)
noncomputable def k_cbase_Extensions (N : Nat) : Ctr := ⟨[.hole (.sl (.pair .str (.pair .bool (.sl .byte)))), .hole (.sl (.pair .str (.pair .bool (.sl .byte))))], .hole .bool, fun (x : List (Bs × Bool × Bs) × List (Bs × Bool × Bs)) => F_cbase_Extensions N x.1 x.2⟩
noncomputable def x_cbase_Extensions (N : Nat) (L : List LoopC) : Cx := ⟨prog, T, hH, hO, [(48, k_cbase_Extension)], [], [], L, .nil⟩
noncomputable def h_cbase_Extensions_l0 : Pat := ⟨[(0, .hole (.sl (.pair .str (.pair .bool (.sl .byte))))), (1, .hole (.sl (.pair .str (.pair .bool (.sl .byte))))), (5, .hole (.int .i64))], []⟩
noncomputable def q_cbase_Extensions_l0 : Exits := [(.ret, ⟨[(4, .hole .bool)], []⟩), (.exit 0, ⟨[(0, .hole (.sl (.pair .str (.pair .bool (.sl .byte))))), (1, .hole (.sl (.pair .str (.pair .bool (.sl .byte)))))], []⟩)]
noncomputable def e_cbase_Extensions_l0 (N n : Nat) : LoopC := ⟨23, 2, 0, h_cbase_Extensions_l0, q_cbase_Extensions_l0, fun x => F_cbase_Extensions_l0 N n x⟩
theorem l_cbase_Extensions_l0 (N : Nat) : ∀ n, LOk prog (e_cbase_Extensions_l0 N n) := loopc_ok (cx := x_cbase_Extensions N []) tok mixed ⟨c_cbase_Extension, trivial⟩ trivial trivial trivial 23 2 0 h_cbase_Extensions_l0 q_cbase_Extensions_l0 (fun n x => F_cbase_Extensions_l0 N n x) (by kernel_rfl) (by kernel_rfl) (fun _ => rfl) (by intro n x; kernel_rfl)
theorem c_cbase_Extensions (N : Nat) : CtrOk prog 23 (k_cbase_Extensions N) := fun_ok (cx := x_cbase_Extensions N [e_cbase_Extensions_l0 N N]) tok mixed ⟨c_cbase_Extension, trivial⟩ trivial trivial ⟨l_cbase_Extensions_l0 N N, trivial⟩ 23 _ (by kernel_rfl) (by kernel_rfl) (by intro x; kernel_rfl)
noncomputable def k_cbase_Revoked (N : Nat) : Ctr := ⟨[.hole (.sl (.pair (.sl .byte) (.pair (.pair (.int .i64) (.pair (.int .i64) (.pair (.int .i64) (.pair (.int .i64) (.pair (.int .i64) (.int .i64)))))) (.sl (.pair .str (.pair .bool (.sl .byte))))))), .hole (.sl (.pair (.sl .byte) (.pair (.pair (.int .i64) (.pair (.int .i64) (.pair (.int .i64) (.pair (.int .i64) (.pair (.int .i64) (.int .i64)))))) (.sl (.pair .str (.pair .bool (.sl .byte)))))))], .hole .bool, fun (x : List (Bs × (Int × Int × Int × Int × Int × Int) × List (Bs × Bool × Bs)) × List (Bs × (Int × Int × Int × Int × Int × Int) × List (Bs × Bool × Bs))) => F_cbase_Revoked N x.1 x.2⟩
noncomputable def x_cbase_Revoked (N : Nat) (L : List LoopC) : Cx := ⟨prog, T, hH, hO, [(11, k_cbase_Bytes), (23, k_cbase_Extensions N)], [], [], L, .nil⟩
noncomputable def h_cbase_Revoked_l0 : Pat := ⟨[(0, .hole (.sl (.pair (.sl .byte) (.pair (.pair (.int .i64) (.pair (.int .i64) (.pair (.int .i64) (.pair (.int .i64) (.pair (.int .i64) (.int .i64)))))) (.sl (.pair .str (.pair .bool (.sl .byte)))))))), (1, .hole (.sl (.pair (.sl .byte) (.pair (.pair (.int .i64) (.pair (.int .i64) (.pair (.int .i64) (.pair (.int .i64) (.pair (.int .i64) (.int .i64)))))) (.sl (.pair .str (.pair .bool (.sl .byte)))))))), (5, .hole (.int .i64))], []⟩
noncomputable def q_cbase_Revoked_l0 : Exits := [(.ret, ⟨[(4, .hole .bool)], []⟩), (.exit 0, ⟨[(0, .hole (.sl (.pair (.sl .byte) (.pair (.pair (.int .i64) (.pair (.int .i64) (.pair (.int .i64) (.pair (.int .i64) (.pair (.int .i64) (.int .i64)))))) (.sl (.pair .str (.pair .bool (.sl .byte)))))))), (1, .hole (.sl (.pair (.sl .byte) (.pair (.pair (.int .i64) (.pair (.int .i64) (.pair (.int .i64) (.pair (.int .i64) (.pair (.int .i64) (.int .i64)))))) (.sl (.pair .str (.pair .bool (.sl .byte))))))))], []⟩)]
noncomputable def e_cbase_Revoked_l0 (N n : Nat) : LoopC := ⟨8, 2, 0, h_cbase_Revoked_l0, q_cbase_Revoked_l0, fun x => F_cbase_Revoked_l0 N n x⟩
theorem l_cbase_Revoked_l0 (N : Nat) : ∀ n, LOk prog (e_cbase_Revoked_l0 N n) := loopc_ok (cx := x_cbase_Revoked N []) tok mixed ⟨c_cbase_Bytes, c_cbase_Extensions N, trivial⟩ trivial trivial trivial 8 2 0 h_cbase_Revoked_l0 q_cbase_Revoked_l0 (fun n x => F_cbase_Revoked_l0 N n x) (by kernel_rfl) (by kernel_rfl) (fun _ => rfl) (by intro n x; kernel_rfl)
theorem c_cbase_Revoked (N : Nat) : CtrOk prog 8 (k_cbase_Revoked N) := fun_ok (cx := x_cbase_Revoked N [e_cbase_Revoked_l0 N N]) tok mixed ⟨c_cbase_Bytes, c_cbase_Extensions N, trivial⟩ trivial trivial ⟨l_cbase_Revoked_l0 N N, trivial⟩ 8 _ (by kernel_rfl) (by kernel_rfl) (by intro x; kernel_rfl)
noncomputable def k_dispatch_ID : Ctr := ⟨[.hole (.int .i64)], .hole .str, fun (x : Int) => F_dispatch_ID x⟩
noncomputable def x_dispatch_ID (L : List LoopC) : Cx := ⟨prog, T, hH, hO, [(51, k_const51)], [], [], L, .nil⟩
theorem c_dispatch_ID : CtrOk prog 25 (k_dispatch_ID) := fun_ok (cx := x_dispatch_ID []) tok mixed ⟨c_const51, trivial⟩ trivial trivial trivial 25 _ (by kernel_rfl) (by kernel_rfl) (by intro x; kernel_rfl)
noncomputable def k_extension_index_1_v1 : Ctr := ⟨[.agg [.hole .str, .hole .bool, .hole (.sl .byte)], .rc [.hole .str] 0], .hole .bool, fun (x : Bs × Bool × Bs × Bs) => F_extension_index_1_v1 x.1 x.2.1 x.2.2.1 x.2.2.2⟩
noncomputable def x_extension_index_1_v1 (L : List LoopC) : Cx := ⟨prog, T, hH, hO, [], [], [], L, .nil⟩
theorem c_extension_index_1_v1 : CtrOk prog 110 (k_extension_index_1_v1) := fun_ok (cx := x_extension_index_1_v1 []) tok mixed trivial trivial trivial trivial 110 _ (by kernel_rfl) (by kernel_rfl) (by intro x; kernel_rfl)
noncomputable def k_slices_IndexFunc_api_Extension_api_Extension_v1 (N : Nat) : Ctr := ⟨[.hole (.sl (.pair .str (.pair .bool (.sl .byte)))), .func (.func 110) [] [.rc [.hole .str] 0]], .hole (.int .i64), fun (x : List (Bs × Bool × Bs) × Bs) => F_slices_IndexFunc_api_Extension_api_Extension_v1 N x.1 x.2⟩
noncomputable def x_slices_IndexFunc_api_Extension_api_Extension_v1 (N : Nat) (L : List LoopC) : Cx := ⟨prog, T, hH, hO, [(110, k_extension_index_1_v1)], [], [], L, .nil⟩
noncomputable def h_slices_IndexFunc_api_Extension_api_Extension_v1_l0 : Pat := ⟨[(0, .hole (.sl (.pair .str (.pair .bool (.sl .byte))))), (1, .func (.func 110) [] [.rc [.hole .str] 0]), (7, .hole (.int .i64)), (8, .hole (.int .i64))], []⟩
noncomputable def q_slices_IndexFunc_api_Extension_api_Extension_v1_l0 : Exits := [(.ret, ⟨[(4, .hole (.int .i64))], []⟩), (.exit 0, ⟨[], []⟩)]
noncomputable def e_slices_IndexFunc_api_Extension_api_Extension_v1_l0 (N n : Nat) : LoopC := ⟨109, 2, 0, h_slices_IndexFunc_api_Extension_api_Extension_v1_l0, q_slices_IndexFunc_api_Extension_api_Extension_v1_l0, fun x => F_slices_IndexFunc_api_Extension_api_Extension_v1_l0 N n x⟩
theorem l_slices_IndexFunc_api_Extension_api_Extension_v1_l0 (N : Nat) : ∀ n, LOk prog (e_slices_IndexFunc_api_Extension_api_Extension_v1_l0 N n) := loopc_ok (cx := x_slices_IndexFunc_api_Extension_api_Extension_v1 N []) tok mixed ⟨c_extension_index_1_v1, trivial⟩ trivial trivial trivial 109 2 0 h_slices_IndexFunc_api_Extension_api_Extension_v1_l0 q_slices_IndexFunc_api_Extension_api_Extension_v1_l0 (fun n x => F_slices_IndexFunc_api_Extension_api_Extension_v1_l0 N n x) (by kernel_rfl) (by kernel_rfl) (fun _ => rfl) (by intro n x; kernel_rfl)
theorem c_slices_IndexFunc_api_Extension_api_Extension_v1 (N : Nat) : CtrOk prog 109 (k_slices_IndexFunc_api_Extension_api_Extension_v1 N) := fun_ok (cx := x_slices_IndexFunc_api_Extension_api_Extension_v1 N [e_slices_IndexFunc_api_Extension_api_Extension_v1_l0 N N]) tok mixed ⟨c_extension_index_1_v1, trivial⟩ trivial trivial ⟨l_slices_IndexFunc_api_Extension_api_Extension_v1_l0 N N, trivial⟩ 109 _ (by kernel_rfl) (by kernel_rfl) (by intro x; kernel_rfl)
noncomputable def k_extension_index (N : Nat) : Ctr := ⟨[.hole (.sl (.pair .str (.pair .bool (.sl .byte)))), .hole .str], .hole (.int .i64), fun (x : List (Bs × Bool × Bs) × Bs) => F_extension_index N x.1 x.2⟩
noncomputable def x_extension_index (N : Nat) (L : List LoopC) : Cx := ⟨prog, T, hH, hO, [(109, k_slices_IndexFunc_api_Extension_api_Extension_v1 N)], [], [], L, .nil⟩
theorem c_extension_index (N : Nat) : CtrOk prog 49 (k_extension_index N) := fun_ok (cx := x_extension_index N []) tok mixed ⟨c_slices_IndexFunc_api_Extension_api_Extension_v1 N, trivial⟩ trivial trivial trivial 49 _ (by kernel_rfl) (by kernel_rfl) (by intro x; kernel_rfl)
noncomputable def k_extension_clone : Ctr := ⟨[.hole (.pair .str (.pair .bool (.sl .byte)))], .hole (.pair .str (.pair .bool (.sl .byte))), fun (x : (Bs × Bool × Bs)) => F_extension_clone x⟩
noncomputable def x_extension_clone (L : List LoopC) : Cx := ⟨prog, T, hH, hO, [(22, k_Clone)], [], [], L, .nil⟩
theorem c_extension_clone : CtrOk prog 50 (k_extension_clone) := fun_ok (cx := x_extension_clone []) tok mixed ⟨c_Clone, trivial⟩ trivial trivial trivial 50 _ (by kernel_rfl) (by kernel_rfl) (by intro x; kernel_rfl)
noncomputable def k_extension_Find (N : Nat) : Ctr := ⟨[.hole (.sl (.pair .str (.pair .bool (.sl .byte)))), .hole .str], .tup [.hole (.pair .str (.pair .bool (.sl .byte))), .hole .bool], fun (x : List (Bs × Bool × Bs) × Bs) => F_extension_Find N x.1 x.2⟩
noncomputable def x_extension_Find (N : Nat) (L : List LoopC) : Cx := ⟨prog, T, hH, hO, [(49, k_extension_index N), (50, k_extension_clone)], [], [], L, .nil⟩
theorem c_extension_Find (N : Nat) : CtrOk prog 24 (k_extension_Find N) := fun_ok (cx := x_extension_Find N []) tok mixed ⟨c_extension_index N, c_extension_clone, trivial⟩ trivial trivial trivial 24 _ (by kernel_rfl) (by kernel_rfl) (by intro x; kernel_rfl)
noncomputable def k_cref22_Find (N : Nat) : Ctr := ⟨[.hole (.sl (.pair .str (.pair .bool (.sl .byte)))), .hole .str], .tup [.hole (.pair .str (.pair .bool (.sl .byte))), .hole .bool], fun (x : List (Bs × Bool × Bs) × Bs) => F_cref22_Find N x.1 x.2⟩
noncomputable def x_cref22_Find (N : Nat) (L : List LoopC) : Cx := ⟨prog, T, hH, hO, [], [], [], L, .nil⟩
noncomputable def h_cref22_Find_l0 : Pat := ⟨[(0, .hole (.sl (.pair .str (.pair .bool (.sl .byte))))), (1, .hole .str), (4, .ptr 0 0), (6, .hole (.int .i64))], [.cells [.hole .str, .hole .bool, .nils] false]⟩
noncomputable def q_cref22_Find_l0 : Exits := [(.ret, ⟨[(4, .ptr 0 0), (5, .hole .bool)], [.cells [.hole .str, .hole .bool, .hole (.sl .byte)] false]⟩), (.exit 0, ⟨[(4, .ptr 0 0)], [.cells [.hole .str, .hole .bool, .nils] false]⟩)]
noncomputable def e_cref22_Find_l0 (N n : Nat) : LoopC := ⟨27, 2, 0, h_cref22_Find_l0, q_cref22_Find_l0, fun x => F_cref22_Find_l0 N n x⟩
theorem l_cref22_Find_l0 (N : Nat) : ∀ n, LOk prog (e_cref22_Find_l0 N n) := loopc_ok (cx := x_cref22_Find N []) tok mixed trivial trivial trivial trivial 27 2 0 h_cref22_Find_l0 q_cref22_Find_l0 (fun n x => F_cref22_Find_l0 N n x) (by kernel_rfl) (by kernel_rfl) (fun _ => rfl) (by intro n x; kernel_rfl)
theorem c_cref22_Find (N : Nat) : CtrOk prog 27 (k_cref22_Find N) := fun_ok (cx := x_cref22_Find N [e_cref22_Find_l0 N N]) tok mixed trivial trivial trivial ⟨l_cref22_Find_l0 N N, trivial⟩ 27 _ (by kernel_rfl) (by kernel_rfl) (by intro x; kernel_rfl)
noncomputable def k_cref21_Valid : Ctr := ⟨[.hole (.int .i64)], .hole .bool, fun (x : Int) => F_cref21_Valid x⟩
noncomputable def x_cref21_Valid (L : List LoopC) : Cx := ⟨prog, T, hH, hO, [], [], [], L, .nil⟩
theorem c_cref21_Valid : CtrOk prog 307 (k_cref21_Valid) := fun_ok (cx := x_cref21_Valid []) tok mixed trivial trivial trivial trivial 307 _ (by kernel_rfl) (by kernel_rfl) (by intro x; kernel_rfl)
noncomputable def k_cref21_Marshal : Ctr := ⟨[.hole (.int .i64)], .tup [.hole (.sl .byte), .hole (.int .i64)], fun (x : Int) => F_cref21_Marshal x⟩
noncomputable def x_cref21_Marshal (L : List LoopC) : Cx := ⟨prog, T, hH, hO, [(307, k_cref21_Valid)], [], [], L, .nil⟩
theorem c_cref21_Marshal : CtrOk prog 177 (k_cref21_Marshal) := fun_ok (cx := x_cref21_Marshal []) tok mixed ⟨c_cref21_Valid, trivial⟩ trivial trivial trivial 177 _ (by kernel_rfl) (by kernel_rfl) (by intro x; kernel_rfl)
noncomputable def k_cref21_Parse (N : Nat) : Ctr := ⟨[.hole (.sl .byte)], .tup [.hole (.int .i64), .hole .bool], fun (x : Bs) => F_cref21_Parse N x⟩
noncomputable def x_cref21_Parse (N : Nat) (L : List LoopC) : Cx := ⟨prog, T, hH, hO, [(177, k_cref21_Marshal), (11, k_cbase_Bytes)], [], [], L, .nil⟩
noncomputable def h_cref21_Parse_l0 : Pat := ⟨[(0, .hole (.sl .byte)), (4, .hole (.int .i64))], []⟩
noncomputable def q_cref21_Parse_l0 : Exits := [(.ret, ⟨[(2, .hole (.int .i64)), (3, .hole .bool)], []⟩), (.exit 0, ⟨[], []⟩)]
noncomputable def e_cref21_Parse_l0 (N n : Nat) : LoopC := ⟨62, 2, 0, h_cref21_Parse_l0, q_cref21_Parse_l0, fun x => F_cref21_Parse_l0 N n x⟩
theorem l_cref21_Parse_l0 (N : Nat) : ∀ n, LOk prog (e_cref21_Parse_l0 N n) := loopc_ok (cx := x_cref21_Parse N []) tok mixed ⟨c_cref21_Marshal, c_cbase_Bytes, trivial⟩ trivial trivial trivial 62 2 0 h_cref21_Parse_l0 q_cref21_Parse_l0 (fun n x => F_cref21_Parse_l0 N n x) (by kernel_rfl) (by kernel_rfl) (fun _ => rfl) (by intro n x; kernel_rfl)
theorem c_cref21_Parse (N : Nat) : CtrOk prog 62 (k_cref21_Parse N) := fun_ok (cx := x_cref21_Parse N [e_cref21_Parse_l0 N N]) tok mixed ⟨c_cref21_Marshal, c_cbase_Bytes, trivial⟩ trivial trivial ⟨l_cref21_Parse_l0 N N, trivial⟩ 62 _ (by kernel_rfl) (by kernel_rfl) (by intro x; kernel_rfl)
noncomputable def k_tlv_ReadIdentifier : Ctr := ⟨[.hole (.int .u8)], .tup [.hole (.int .i64), .hole .bool, .hole (.int .i64), .hole (.int .i64)], fun (x : Int) => F_tlv_ReadIdentifier x⟩
noncomputable def x_tlv_ReadIdentifier (L : List LoopC) : Cx := ⟨prog, T, hH, hO, [], [], [], L, .nil⟩
theorem c_tlv_ReadIdentifier : CtrOk prog 439 (k_tlv_ReadIdentifier) := fun_ok (cx := x_tlv_ReadIdentifier []) tok mixed trivial trivial trivial trivial 439 _ (by kernel_rfl) (by kernel_rfl) (by intro x; kernel_rfl)
noncomputable def k_tlv_ReadLength_1 : Ctr := ⟨[.hole (.int .i64), .hole (.int .i64)], .tup [.hole (.int .i64), .hole (.int .i64), .hole (.pair (.int .i64) (.int .i64))], fun (x : Int × Int) => F_tlv_ReadLength_1 x.1 x.2⟩
noncomputable def x_tlv_ReadLength_1 (L : List LoopC) : Cx := ⟨prog, T, hH, hO, [], [], [], L, .nil⟩
theorem c_tlv_ReadLength_1 : CtrOk prog 495 (k_tlv_ReadLength_1) := fun_ok (cx := x_tlv_ReadLength_1 []) tok mixed trivial trivial trivial trivial 495 _ (by kernel_rfl) (by kernel_rfl) (by intro x; kernel_rfl)
noncomputable def k_tlv_ReadLength (N : Nat) : Ctr := ⟨[.hole (.sl .byte)], .tup [.hole (.int .i64), .hole (.int .i64), .hole (.pair (.int .i64) (.int .i64))], fun (x : Bs) => F_tlv_ReadLength N x⟩
noncomputable def x_tlv_ReadLength (N : Nat) (L : List LoopC) : Cx := ⟨prog, T, hH, hO, [(495, k_tlv_ReadLength_1)], [], [], L, .nil⟩
noncomputable def h_tlv_ReadLength_l0 : Pat := ⟨[(0, .hole (.sl .byte)), (4, .ptr 0 0), (5, .func (.func 495) [] []), (6, .hole (.int .i64)), (7, .hole (.int .i64)), (8, .hole (.int .i64))], [.cells [.hole (.int .i64), .hole (.int .i64)] false]⟩
noncomputable def q_tlv_ReadLength_l0 : Exits := [(.exit 0, ⟨[(0, .hole (.sl .byte)), (4, .ptr 0 0), (5, .func (.func 495) [] []), (6, .hole (.int .i64)), (7, .hole (.int .i64))], [.cells [.hole (.int .i64), .hole (.int .i64)] false]⟩)]
noncomputable def e_tlv_ReadLength_l0 (N n : Nat) : LoopC := ⟨440, 14, 0, h_tlv_ReadLength_l0, q_tlv_ReadLength_l0, fun x => F_tlv_ReadLength_l0 N n x⟩
theorem l_tlv_ReadLength_l0 (N : Nat) : ∀ n, LOk prog (e_tlv_ReadLength_l0 N n) := loopc_ok (cx := x_tlv_ReadLength N []) tok mixed ⟨c_tlv_ReadLength_1, trivial⟩ trivial trivial trivial 440 14 0 h_tlv_ReadLength_l0 q_tlv_ReadLength_l0 (fun n x => F_tlv_ReadLength_l0 N n x) (by kernel_rfl) (by kernel_rfl) (fun _ => rfl) (by intro n x; kernel_rfl)
theorem c_tlv_ReadLength (N : Nat) : CtrOk prog 440 (k_tlv_ReadLength N) := fun_ok (cx := x_tlv_ReadLength N [e_tlv_ReadLength_l0 N N]) tok mixed ⟨c_tlv_ReadLength_1, trivial⟩ trivial trivial ⟨l_tlv_ReadLength_l0 N N, trivial⟩ 440 _ (by kernel_rfl) (by kernel_rfl) (by intro x; kernel_rfl)
noncomputable def k_tlv_ReadHeader (N : Nat) : Ctr := ⟨[.hole (.sl .byte)], .tup [.hole (.pair (.int .i64) (.pair (.int .i64) (.pair .bool (.pair (.int .i64) (.int .i64))))), .hole (.pair (.int .i64) (.int .i64))], fun (x : Bs) => F_tlv_ReadHeader N x⟩
noncomputable def x_tlv_ReadHeader (N : Nat) (L : List LoopC) : Cx := ⟨prog, T, hH, hO, [(439, k_tlv_ReadIdentifier), (440, k_tlv_ReadLength N)], [], [], L, .nil⟩
theorem c_tlv_ReadHeader (N : Nat) : CtrOk prog 353 (k_tlv_ReadHeader N) := fun_ok (cx := x_tlv_ReadHeader N []) tok mixed ⟨c_tlv_ReadIdentifier, c_tlv_ReadLength N, trivial⟩ trivial trivial trivial 353 _ (by kernel_rfl) (by kernel_rfl) (by intro x; kernel_rfl)
noncomputable def k_element_next (N : Nat) : Ctr := ⟨[.hole (.sl .byte), .hole (.int .i64), .hole (.int .i64)], .tup [.hole (.pair (.int .i64) (.pair (.int .i64) (.pair .bool (.pair (.int .i64) (.pair (.int .i64) (.int .i64)))))), .hole (.pair (.int .i64) (.int .i64))], fun (x : Bs × Int × Int) => F_element_next N x.1 x.2.1 x.2.2⟩
noncomputable def x_element_next (N : Nat) (L : List LoopC) : Cx := ⟨prog, T, hH, hO, [(353, k_tlv_ReadHeader N)], [], [], L, .nil⟩
theorem c_element_next (N : Nat) : CtrOk prog 226 (k_element_next N) := fun_ok (cx := x_element_next N []) tok mixed ⟨c_tlv_ReadHeader N, trivial⟩ trivial trivial trivial 226 _ (by kernel_rfl) (by kernel_rfl) (by intro x; kernel_rfl)
noncomputable def k_element_One (N : Nat) : Ctr := ⟨[.hole (.sl .byte)], .tup [.hole (.pair (.int .i64) (.pair (.int .i64) (.pair .bool (.pair (.int .i64) (.pair (.int .i64) (.int .i64)))))), .hole (.pair (.int .i64) (.int .i64))], fun (x : Bs) => F_element_One N x⟩
noncomputable def x_element_One (N : Nat) (L : List LoopC) : Cx := ⟨prog, T, hH, hO, [(226, k_element_next N)], [], [], L, .nil⟩
theorem c_element_One (N : Nat) : CtrOk prog 103 (k_element_One N) := fun_ok (cx := x_element_One N []) tok mixed ⟨c_element_next N, trivial⟩ trivial trivial trivial 103 _ (by kernel_rfl) (by kernel_rfl) (by intro x; kernel_rfl)
noncomputable def k_element_Is : Ctr := ⟨[.hole (.pair (.int .i64) (.pair (.int .i64) (.pair .bool (.pair (.int .i64) (.pair (.int .i64) (.int .i64)))))), .hole (.int .i64), .hole .bool, .hole (.int .i64)], .hole .bool, fun (x : (Int × Int × Bool × Int × Int × Int) × Int × Bool × Int) => F_element_Is x.1 x.2.1 x.2.2.1 x.2.2.2⟩
noncomputable def x_element_Is (L : List LoopC) : Cx := ⟨prog, T, hH, hO, [], [], [], L, .nil⟩
theorem c_element_Is : CtrOk prog 99 (k_element_Is) := fun_ok (cx := x_element_Is []) tok mixed trivial trivial trivial trivial 99 _ (by kernel_rfl) (by kernel_rfl) (by intro x; kernel_rfl)
noncomputable def k_element_List (N : Nat) : Ctr := ⟨[.hole (.sl .byte), .hole (.int .i64), .hole (.int .i64)], .tup [.hole (.sl (.pair (.int .i64) (.pair (.int .i64) (.pair .bool (.pair (.int .i64) (.pair (.int .i64) (.int .i64))))))), .hole (.pair (.int .i64) (.int .i64))], fun (x : Bs × Int × Int) => F_element_List N x.1 x.2.1 x.2.2⟩
noncomputable def x_element_List (N : Nat) (L : List LoopC) : Cx := ⟨prog, T, hH, hO, [(226, k_element_next N)], [], [], L, .nil⟩
noncomputable def h_element_List_l0 : Pat := ⟨[(0, .hole (.sl .byte)), (2, .hole (.int .i64)), (7, .ptr 0 0), (8, .own 1), (9, .hole (.int .i64))], [.cells [.hole (.int .i64), .hole (.int .i64)] false, .arr (.pair (.int .i64) (.pair (.int .i64) (.pair .bool (.pair (.int .i64) (.pair (.int .i64) (.int .i64)))))) false false]⟩
noncomputable def q_element_List_l0 : Exits := [(.ret, ⟨[(6, .nils), (7, .ptr 0 0)], [.cells [.hole (.int .i64), .hole (.int .i64)] false, .junk]⟩), (.exit 0, ⟨[(7, .ptr 0 0), (8, .own 1)], [.cells [.hole (.int .i64), .hole (.int .i64)] false, .arr (.pair (.int .i64) (.pair (.int .i64) (.pair .bool (.pair (.int .i64) (.pair (.int .i64) (.int .i64)))))) false false]⟩)]
noncomputable def e_element_List_l0 (N n : Nat) : LoopC := ⟨213, 5, 0, h_element_List_l0, q_element_List_l0, fun x => F_element_List_l0 N n x⟩
theorem l_element_List_l0 (N : Nat) : ∀ n, LOk prog (e_element_List_l0 N n) := loopc_ok (cx := x_element_List N []) tok mixed ⟨c_element_next N, trivial⟩ trivial trivial trivial 213 5 0 h_element_List_l0 q_element_List_l0 (fun n x => F_element_List_l0 N n x) (by kernel_rfl) (by kernel_rfl) (fun _ => rfl) (by intro n x; kernel_rfl)
theorem c_element_List (N : Nat) : CtrOk prog 213 (k_element_List N) := fun_ok (cx := x_element_List N [e_element_List_l0 N N]) tok mixed ⟨c_element_next N, trivial⟩ trivial trivial ⟨l_element_List_l0 N N, trivial⟩ 213 _ (by kernel_rfl) (by kernel_rfl) (by intro x; kernel_rfl)
noncomputable def k_element_Parts (N : Nat) : Ctr := ⟨[.hole (.sl .byte), .hole (.int .i64), .hole (.int .i64)], .tup [.hole (.sl (.pair (.int .i64) (.pair (.int .i64) (.pair .bool (.pair (.int .i64) (.pair (.int .i64) (.int .i64))))))), .hole (.pair (.int .i64) (.int .i64))], fun (x : Bs × Int × Int) => F_element_Parts N x.1 x.2.1 x.2.2⟩
noncomputable def x_element_Parts (N : Nat) (L : List LoopC) : Cx := ⟨prog, T, hH, hO, [(103, k_element_One N), (99, k_element_Is), (213, k_element_List N)], [], [], L, .nil⟩
theorem c_element_Parts (N : Nat) : CtrOk prog 84 (k_element_Parts N) := fun_ok (cx := x_element_Parts N []) tok mixed ⟨c_element_One N, c_element_Is, c_element_List N, trivial⟩ trivial trivial trivial 84 _ (by kernel_rfl) (by kernel_rfl) (by intro x; kernel_rfl)
noncomputable def k_revocation_contents_api_Bits_v1 : Ctr := ⟨[.hole (.int .i64), .func (.func 42) [] []], .func (.func 102) [] [.rc [.hole (.int .i64)] 0, .rc [.func (.func 42) [] []] 0], fun (x : Int) => F_revocation_contents_api_Bits_v1 x⟩
noncomputable def x_revocation_contents_api_Bits_v1 (L : List LoopC) : Cx := ⟨prog, T, hH, hO, [], [], [], L, .nil⟩
theorem c_revocation_contents_api_Bits_v1 : CtrOk prog 41 (k_revocation_contents_api_Bits_v1) := fun_ok (cx := x_revocation_contents_api_Bits_v1 []) tok mixed trivial trivial trivial trivial 41 _ (by kernel_rfl) (by kernel_rfl) (by intro x; kernel_rfl)
noncomputable def j_slices_Concat_byte_byte : Tr Exits := (.node .nil 5502932992 [(.normal, ⟨[(0, .hole (.sl (.sl .byte))), (3, .hole (.int .i64)), (9, .hole (.sl (.sl .byte))), (10, .hole (.int .i64)), (11, .hole (.int .i64))], []⟩)] .nil)
noncomputable def k_slices_Concat_byte_byte (N : Nat) : Ctr := ⟨[.hole (.sl (.sl .byte))], .hole (.sl .byte), fun (x : List Bs) => F_slices_Concat_byte_byte N x⟩
noncomputable def x_slices_Concat_byte_byte (N : Nat) (L : List LoopC) : Cx := ⟨prog, T, hH, hO, [], [(210, k_Grow)], [], L, j_slices_Concat_byte_byte⟩
noncomputable def h_slices_Concat_byte_byte_l0 : Pat := ⟨[(0, .hole (.sl (.sl .byte))), (3, .hole (.int .i64)), (9, .hole (.sl (.sl .byte))), (10, .hole (.int .i64)), (11, .hole (.int .i64))], []⟩
noncomputable def q_slices_Concat_byte_byte_l0 : Exits := [(.exit 0, ⟨[(0, .hole (.sl (.sl .byte))), (3, .hole (.int .i64))], []⟩)]
noncomputable def e_slices_Concat_byte_byte_l0 (N n : Nat) : LoopC := ⟨82, 3, 0, h_slices_Concat_byte_byte_l0, q_slices_Concat_byte_byte_l0, fun x => F_slices_Concat_byte_byte_l0 N n x⟩
theorem l_slices_Concat_byte_byte_l0 (N : Nat) : ∀ n, LOk prog (e_slices_Concat_byte_byte_l0 N n) := loopc_ok (cx := x_slices_Concat_byte_byte N []) tok mixed trivial ⟨c_Grow, trivial⟩ trivial trivial 82 3 0 h_slices_Concat_byte_byte_l0 q_slices_Concat_byte_byte_l0 (fun n x => F_slices_Concat_byte_byte_l0 N n x) (by kernel_rfl) (by kernel_rfl) (fun _ => rfl) (by intro n x; kernel_rfl)
noncomputable def h_slices_Concat_byte_byte_l1 : Pat := ⟨[(6, .own 0), (25, .hole (.sl (.sl .byte))), (26, .hole (.int .i64)), (27, .hole (.int .i64))], [.arr .byte false false]⟩
noncomputable def q_slices_Concat_byte_byte_l1 : Exits := [(.exit 2, ⟨[(6, .own 0)], [.arr .byte false false]⟩)]
noncomputable def e_slices_Concat_byte_byte_l1 (N n : Nat) : LoopC := ⟨82, 11, 0, h_slices_Concat_byte_byte_l1, q_slices_Concat_byte_byte_l1, fun x => F_slices_Concat_byte_byte_l1 N n x⟩
theorem l_slices_Concat_byte_byte_l1 (N : Nat) : ∀ n, LOk prog (e_slices_Concat_byte_byte_l1 N n) := loopc_ok (cx := x_slices_Concat_byte_byte N [e_slices_Concat_byte_byte_l0 N N]) tok mixed trivial ⟨c_Grow, trivial⟩ trivial ⟨l_slices_Concat_byte_byte_l0 N N, trivial⟩ 82 11 0 h_slices_Concat_byte_byte_l1 q_slices_Concat_byte_byte_l1 (fun n x => F_slices_Concat_byte_byte_l1 N n x) (by kernel_rfl) (by kernel_rfl) (fun _ => rfl) (by intro n x; kernel_rfl)
theorem c_slices_Concat_byte_byte (N : Nat) : CtrOk prog 82 (k_slices_Concat_byte_byte N) := fun_ok (cx := x_slices_Concat_byte_byte N [e_slices_Concat_byte_byte_l0 N N, e_slices_Concat_byte_byte_l1 N N]) tok mixed trivial ⟨c_Grow, trivial⟩ trivial ⟨l_slices_Concat_byte_byte_l0 N N, l_slices_Concat_byte_byte_l1 N N, trivial⟩ 82 _ (by kernel_rfl) (by kernel_rfl) (by intro x; kernel_rfl)
noncomputable def k_integer_Valid : Ctr := ⟨[.hole (.sl .byte)], .hole .bool, fun (x : Bs) => F_integer_Valid x⟩
noncomputable def x_integer_Valid (L : List LoopC) : Cx := ⟨prog, T, hH, hO, [], [], [], L, .nil⟩
theorem c_integer_Valid : CtrOk prog 200 (k_integer_Valid) := fun_ok (cx := x_integer_Valid []) tok mixed trivial trivial trivial trivial 200 _ (by kernel_rfl) (by kernel_rfl) (by intro x; kernel_rfl)
noncomputable def k_integer_Int (N : Nat) : Ctr := ⟨[.hole (.sl .byte)], .tup [.hole (.int .i64), .hole .bool], fun (x : Bs) => F_integer_Int N x⟩
noncomputable def x_integer_Int (N : Nat) (L : List LoopC) : Cx := ⟨prog, T, hH, hO, [(200, k_integer_Valid)], [], [], L, .nil⟩
noncomputable def h_integer_Int_l0 : Pat := ⟨[(4, .hole (.int .i64)), (21, .hole (.sl .byte)), (22, .hole (.int .i64)), (23, .hole (.int .i64))], []⟩
noncomputable def q_integer_Int_l0 : Exits := [(.exit 0, ⟨[(4, .hole (.int .i64))], []⟩)]
noncomputable def e_integer_Int_l0 (N n : Nat) : LoopC := ⟨217, 5, 0, h_integer_Int_l0, q_integer_Int_l0, fun x => F_integer_Int_l0 N n x⟩
theorem l_integer_Int_l0 (N : Nat) : ∀ n, LOk prog (e_integer_Int_l0 N n) := loopc_ok (cx := x_integer_Int N []) tok mixed ⟨c_integer_Valid, trivial⟩ trivial trivial trivial 217 5 0 h_integer_Int_l0 q_integer_Int_l0 (fun n x => F_integer_Int_l0 N n x) (by kernel_rfl) (by kernel_rfl) (fun _ => rfl) (by intro n x; kernel_rfl)
theorem c_integer_Int (N : Nat) : CtrOk prog 217 (k_integer_Int N) := fun_ok (cx := x_integer_Int N [e_integer_Int_l0 N N]) tok mixed ⟨c_integer_Valid, trivial⟩ trivial trivial ⟨l_integer_Int_l0 N N, trivial⟩ 217 _ (by kernel_rfl) (by kernel_rfl) (by intro x; kernel_rfl)
noncomputable def k_entry_names_v1 : Ctr := ⟨[], .agg [.hole .str, .hole .str, .hole .str, .hole .str, .hole .str, .hole .str, .hole .str, .hole .str, .hole .str, .hole .str, .hole .str], fun (x : Unit) => F_entry_names_v1⟩
noncomputable def x_entry_names_v1 (L : List LoopC) : Cx := ⟨prog, T, hH, hO, [], [], [], L, .nil⟩
theorem c_entry_names_v1 : CtrOk prog 456 (k_entry_names_v1) := fun_ok (cx := x_entry_names_v1 []) tok mixed trivial trivial trivial trivial 456 _ (by kernel_rfl) (by kernel_rfl) (by intro x; kernel_rfl)
noncomputable def k_entry_Name : Ctr := ⟨[.hole (.int .i64)], .hole .str, fun (x : Int) => F_entry_Name x⟩
noncomputable def x_entry_Name (L : List LoopC) : Cx := ⟨prog, T, hH, hO, [(456, k_entry_names_v1)], [], [], L, .nil⟩
theorem c_entry_Name : CtrOk prog 377 (k_entry_Name) := fun_ok (cx := x_entry_Name []) tok mixed ⟨c_entry_names_v1, trivial⟩ trivial trivial trivial 377 _ (by kernel_rfl) (by kernel_rfl) (by intro x; kernel_rfl)
noncomputable def k_entry_Valid : Ctr := ⟨[.hole (.int .i64)], .hole .bool, fun (x : Int) => F_entry_Valid x⟩
noncomputable def x_entry_Valid (L : List LoopC) : Cx := ⟨prog, T, hH, hO, [(377, k_entry_Name)], [], [], L, .nil⟩
theorem c_entry_Valid : CtrOk prog 257 (k_entry_Valid) := fun_ok (cx := x_entry_Valid []) tok mixed ⟨c_entry_Name, trivial⟩ trivial trivial trivial 257 _ (by kernel_rfl) (by kernel_rfl) (by intro x; kernel_rfl)
noncomputable def k_entry_Parse (N : Nat) : Ctr := ⟨[.hole (.sl .byte)], .tup [.hole (.int .i64), .hole (.pair (.int .i64) (.int .i64))], fun (x : Bs) => F_entry_Parse N x⟩
noncomputable def x_entry_Parse (N : Nat) (L : List LoopC) : Cx := ⟨prog, T, hH, hO, [(103, k_element_One N), (99, k_element_Is), (217, k_integer_Int N), (257, k_entry_Valid)], [], [], L, .nil⟩
theorem c_entry_Parse (N : Nat) : CtrOk prog 137 (k_entry_Parse N) := fun_ok (cx := x_entry_Parse N []) tok mixed ⟨c_element_One N, c_element_Is, c_integer_Int N, c_entry_Valid, trivial⟩ trivial trivial trivial 137 _ (by kernel_rfl) (by kernel_rfl) (by intro x; kernel_rfl)
end Go.Proofs.Tryz
