/- A framework for proofs about Go programs in this model: part N. Everything is proved; no condition is added. -/
import Derived.Test.YtnckoelcmkdeeaaGreatDoorFwL
import Derived.Test.YtnckoelcmkdeeaaGreatDoorFwE
import Derived.Test.YtnckoelcmkdeeaaGreatDoorFwI
import Derived.Test.YtnckoelcmkdeeaaGreatDoorFwM
set_option linter.unusedVariables false
set_option linter.unusedSimpArgs false
namespace Go.Proofs.Tryz
open Go Go.Fw
def kindsK : List D := ((D.int IntKind.i64 0) :: ((D.int IntKind.i64 9) :: ((D.int IntKind.i64 14) :: ((D.int IntKind.i64 15) :: ((D.int IntKind.i64 17) :: ((D.int IntKind.i64 18) :: ((D.int IntKind.i64 19) :: ((D.int IntKind.i64 20) :: ((D.int IntKind.i64 21) :: ((D.int IntKind.i64 24) :: ((D.int IntKind.i64 27) :: ((D.int IntKind.i64 28) :: ((D.int IntKind.i64 29) :: ((D.int IntKind.i64 30) :: ((D.int IntKind.i64 31) :: ((D.int IntKind.i64 32) :: ((D.int IntKind.i64 33) :: ((D.int IntKind.i64 35) :: ((D.int IntKind.i64 36) :: ((D.int IntKind.i64 37) :: ((D.int IntKind.i64 46) :: ((D.int IntKind.i64 54) :: ((D.int IntKind.i64 101) :: ((D.int IntKind.i64 111) :: []))))))))))))))))))))))))
def kindsV : List D := ((D.agg ((D.str []) :: ((D.str (111 :: (112 :: (97 :: (113 :: (117 :: (101 :: []))))))) :: ((D.iface 225 (D.agg ((D.func (Fn.func 111) [] []) :: ((D.func (Fn.func 124) [] []) :: ((D.func (Fn.func 125) [] []) :: []))))) :: [])))) :: ((D.agg ((D.str (50 :: (46 :: (53 :: (46 :: (50 :: (57 :: (46 :: (57 :: []))))))))) :: ((D.str (83 :: (117 :: (98 :: (106 :: (101 :: (99 :: (116 :: (68 :: (105 :: (114 :: (101 :: (99 :: (116 :: (111 :: (114 :: (121 :: (65 :: (116 :: (116 :: (114 :: (105 :: (98 :: (117 :: (116 :: (101 :: (115 :: []))))))))))))))))))))))))))) :: ((D.iface 243 (D.agg ((D.func (Fn.func 126) [] []) :: ((D.func (Fn.func 127) [] []) :: ((D.func (Fn.func 128) [] []) :: []))))) :: [])))) :: ((D.agg ((D.str (50 :: (46 :: (53 :: (46 :: (50 :: (57 :: (46 :: (49 :: (52 :: [])))))))))) :: ((D.str (83 :: (117 :: (98 :: (106 :: (101 :: (99 :: (116 :: (75 :: (101 :: (121 :: (73 :: (100 :: (101 :: (110 :: (116 :: (105 :: (102 :: (105 :: (101 :: (114 :: []))))))))))))))))))))) :: ((D.iface 225 (D.agg ((D.func (Fn.func 111) [] []) :: ((D.func (Fn.func 129) [] []) :: ((D.func (Fn.func 130) [] []) :: []))))) :: [])))) :: ((D.agg ((D.str (50 :: (46 :: (53 :: (46 :: (50 :: (57 :: (46 :: (49 :: (53 :: [])))))))))) :: ((D.str (75 :: (101 :: (121 :: (85 :: (115 :: (97 :: (103 :: (101 :: []))))))))) :: ((D.iface 246 (D.agg ((D.func (Fn.func 112) [] []) :: ((D.func (Fn.func 131) [] []) :: ((D.func (Fn.func 132) [] []) :: []))))) :: [])))) :: ((D.agg ((D.str (50 :: (46 :: (53 :: (46 :: (50 :: (57 :: (46 :: (49 :: (55 :: [])))))))))) :: ((D.str (83 :: (117 :: (98 :: (106 :: (101 :: (99 :: (116 :: (65 :: (108 :: (116 :: (78 :: (97 :: (109 :: (101 :: []))))))))))))))) :: ((D.iface 221 (D.agg ((D.func (Fn.func 113) [] []) :: ((D.func (Fn.func 114) [] []) :: ((D.func (Fn.func 115) [] []) :: []))))) :: [])))) :: ((D.agg ((D.str (50 :: (46 :: (53 :: (46 :: (50 :: (57 :: (46 :: (49 :: (56 :: [])))))))))) :: ((D.str (73 :: (115 :: (115 :: (117 :: (101 :: (114 :: (65 :: (108 :: (116 :: (78 :: (97 :: (109 :: (101 :: [])))))))))))))) :: ((D.iface 221 (D.agg ((D.func (Fn.func 113) [] []) :: ((D.func (Fn.func 114) [] []) :: ((D.func (Fn.func 115) [] []) :: []))))) :: [])))) :: ((D.agg ((D.str (50 :: (46 :: (53 :: (46 :: (50 :: (57 :: (46 :: (49 :: (57 :: [])))))))))) :: ((D.str (66 :: (97 :: (115 :: (105 :: (99 :: (67 :: (111 :: (110 :: (115 :: (116 :: (114 :: (97 :: (105 :: (110 :: (116 :: (115 :: []))))))))))))))))) :: ((D.iface 252 (D.agg ((D.func (Fn.func 133) [] []) :: ((D.func (Fn.func 134) [] []) :: ((D.func (Fn.func 135) [] []) :: []))))) :: [])))) :: ((D.agg ((D.str (50 :: (46 :: (53 :: (46 :: (50 :: (57 :: (46 :: (50 :: (48 :: [])))))))))) :: ((D.str (67 :: (82 :: (76 :: (78 :: (117 :: (109 :: (98 :: (101 :: (114 :: [])))))))))) :: ((D.iface 225 (D.agg ((D.func (Fn.func 111) [] []) :: ((D.func (Fn.func 116) [] []) :: ((D.func (Fn.func 117) [] []) :: []))))) :: [])))) :: ((D.agg ((D.str (50 :: (46 :: (53 :: (46 :: (50 :: (57 :: (46 :: (50 :: (49 :: [])))))))))) :: ((D.str (67 :: (82 :: (76 :: (82 :: (101 :: (97 :: (115 :: (111 :: (110 :: [])))))))))) :: ((D.iface 246 (D.agg ((D.func (Fn.func 112) [] []) :: ((D.func (Fn.func 136) [] []) :: ((D.func (Fn.func 137) [] []) :: []))))) :: [])))) :: ((D.agg ((D.str (50 :: (46 :: (53 :: (46 :: (50 :: (57 :: (46 :: (50 :: (52 :: [])))))))))) :: ((D.str (73 :: (110 :: (118 :: (97 :: (108 :: (105 :: (100 :: (105 :: (116 :: (121 :: (68 :: (97 :: (116 :: (101 :: []))))))))))))))) :: ((D.iface 256 (D.agg ((D.func (Fn.func 138) [] []) :: ((D.func (Fn.func 139) [] []) :: ((D.func (Fn.func 140) [] []) :: []))))) :: [])))) :: ((D.agg ((D.str (50 :: (46 :: (53 :: (46 :: (50 :: (57 :: (46 :: (50 :: (55 :: [])))))))))) :: ((D.str (66 :: (97 :: (115 :: (101 :: (67 :: (82 :: (76 :: (78 :: (117 :: (109 :: (98 :: (101 :: (114 :: [])))))))))))))) :: ((D.iface 225 (D.agg ((D.func (Fn.func 111) [] []) :: ((D.func (Fn.func 116) [] []) :: ((D.func (Fn.func 117) [] []) :: []))))) :: [])))) :: ((D.agg ((D.str (50 :: (46 :: (53 :: (46 :: (50 :: (57 :: (46 :: (50 :: (56 :: [])))))))))) :: ((D.str (73 :: (115 :: (115 :: (117 :: (105 :: (110 :: (103 :: (68 :: (105 :: (115 :: (116 :: (114 :: (105 :: (98 :: (117 :: (116 :: (105 :: (111 :: (110 :: (80 :: (111 :: (105 :: (110 :: (116 :: []))))))))))))))))))))))))) :: ((D.iface 262 (D.agg ((D.func (Fn.func 141) [] []) :: ((D.func (Fn.func 142) [] []) :: ((D.func (Fn.func 143) [] []) :: []))))) :: [])))) :: ((D.agg ((D.str (50 :: (46 :: (53 :: (46 :: (50 :: (57 :: (46 :: (50 :: (57 :: [])))))))))) :: ((D.str (67 :: (101 :: (114 :: (116 :: (105 :: (102 :: (105 :: (99 :: (97 :: (116 :: (101 :: (73 :: (115 :: (115 :: (117 :: (101 :: (114 :: [])))))))))))))))))) :: ((D.iface 221 (D.agg ((D.func (Fn.func 113) [] []) :: ((D.func (Fn.func 114) [] []) :: ((D.func (Fn.func 115) [] []) :: []))))) :: [])))) :: ((D.agg ((D.str (50 :: (46 :: (53 :: (46 :: (50 :: (57 :: (46 :: (51 :: (48 :: [])))))))))) :: ((D.str (78 :: (97 :: (109 :: (101 :: (67 :: (111 :: (110 :: (115 :: (116 :: (114 :: (97 :: (105 :: (110 :: (116 :: (115 :: [])))))))))))))))) :: ((D.iface 268 (D.agg ((D.func (Fn.func 144) [] []) :: ((D.func (Fn.func 145) [] []) :: ((D.func (Fn.func 146) [] []) :: []))))) :: [])))) :: ((D.agg ((D.str (50 :: (46 :: (53 :: (46 :: (50 :: (57 :: (46 :: (51 :: (49 :: [])))))))))) :: ((D.str (67 :: (82 :: (76 :: (68 :: (105 :: (115 :: (116 :: (114 :: (105 :: (98 :: (117 :: (116 :: (105 :: (111 :: (110 :: (80 :: (111 :: (105 :: (110 :: (116 :: (115 :: [])))))))))))))))))))))) :: ((D.iface 231 (D.agg ((D.func (Fn.func 118) [] []) :: ((D.func (Fn.func 119) [] []) :: ((D.func (Fn.func 120) [] []) :: []))))) :: [])))) :: ((D.agg ((D.str (50 :: (46 :: (53 :: (46 :: (50 :: (57 :: (46 :: (51 :: (50 :: [])))))))))) :: ((D.str (67 :: (101 :: (114 :: (116 :: (105 :: (102 :: (105 :: (99 :: (97 :: (116 :: (101 :: (80 :: (111 :: (108 :: (105 :: (99 :: (105 :: (101 :: (115 :: [])))))))))))))))))))) :: ((D.iface 274 (D.agg ((D.func (Fn.func 147) [] []) :: ((D.func (Fn.func 148) [] []) :: ((D.func (Fn.func 149) [] []) :: []))))) :: [])))) :: ((D.agg ((D.str (50 :: (46 :: (53 :: (46 :: (50 :: (57 :: (46 :: (51 :: (51 :: [])))))))))) :: ((D.str (80 :: (111 :: (108 :: (105 :: (99 :: (121 :: (77 :: (97 :: (112 :: (112 :: (105 :: (110 :: (103 :: (115 :: []))))))))))))))) :: ((D.iface 280 (D.agg ((D.func (Fn.func 150) [] []) :: ((D.func (Fn.func 151) [] []) :: ((D.func (Fn.func 152) [] []) :: []))))) :: [])))) :: ((D.agg ((D.str (50 :: (46 :: (53 :: (46 :: (50 :: (57 :: (46 :: (51 :: (53 :: [])))))))))) :: ((D.str (65 :: (117 :: (116 :: (104 :: (111 :: (114 :: (105 :: (116 :: (121 :: (75 :: (101 :: (121 :: (73 :: (100 :: (101 :: (110 :: (116 :: (105 :: (102 :: (105 :: (101 :: (114 :: []))))))))))))))))))))))) :: ((D.iface 286 (D.agg ((D.func (Fn.func 153) [] []) :: ((D.func (Fn.func 154) [] []) :: ((D.func (Fn.func 155) [] []) :: []))))) :: [])))) :: ((D.agg ((D.str (50 :: (46 :: (53 :: (46 :: (50 :: (57 :: (46 :: (51 :: (54 :: [])))))))))) :: ((D.str (80 :: (111 :: (108 :: (105 :: (99 :: (121 :: (67 :: (111 :: (110 :: (115 :: (116 :: (114 :: (97 :: (105 :: (110 :: (116 :: (115 :: [])))))))))))))))))) :: ((D.iface 292 (D.agg ((D.func (Fn.func 156) [] []) :: ((D.func (Fn.func 157) [] []) :: ((D.func (Fn.func 158) [] []) :: []))))) :: [])))) :: ((D.agg ((D.str (50 :: (46 :: (53 :: (46 :: (50 :: (57 :: (46 :: (51 :: (55 :: [])))))))))) :: ((D.str (69 :: (120 :: (116 :: (75 :: (101 :: (121 :: (85 :: (115 :: (97 :: (103 :: (101 :: [])))))))))))) :: ((D.iface 298 (D.agg ((D.func (Fn.func 159) [] []) :: ((D.func (Fn.func 160) [] []) :: ((D.func (Fn.func 161) [] []) :: []))))) :: [])))) :: ((D.agg ((D.str (50 :: (46 :: (53 :: (46 :: (50 :: (57 :: (46 :: (52 :: (54 :: [])))))))))) :: ((D.str (70 :: (114 :: (101 :: (115 :: (104 :: (101 :: (115 :: (116 :: (67 :: (82 :: (76 :: [])))))))))))) :: ((D.iface 231 (D.agg ((D.func (Fn.func 118) [] []) :: ((D.func (Fn.func 119) [] []) :: ((D.func (Fn.func 120) [] []) :: []))))) :: [])))) :: ((D.agg ((D.str (50 :: (46 :: (53 :: (46 :: (50 :: (57 :: (46 :: (53 :: (52 :: [])))))))))) :: ((D.str (73 :: (110 :: (104 :: (105 :: (98 :: (105 :: (116 :: (65 :: (110 :: (121 :: (80 :: (111 :: (108 :: (105 :: (99 :: (121 :: []))))))))))))))))) :: ((D.iface 246 (D.agg ((D.func (Fn.func 112) [] []) :: ((D.func (Fn.func 162) [] []) :: ((D.func (Fn.func 163) [] []) :: []))))) :: [])))) :: ((D.agg ((D.str (49 :: (46 :: (51 :: (46 :: (54 :: (46 :: (49 :: (46 :: (53 :: (46 :: (53 :: (46 :: (55 :: (46 :: (49 :: (46 :: (49 :: [])))))))))))))))))) :: ((D.str (65 :: (117 :: (116 :: (104 :: (111 :: (114 :: (105 :: (116 :: (121 :: (73 :: (110 :: (102 :: (111 :: (65 :: (99 :: (99 :: (101 :: (115 :: (115 :: [])))))))))))))))))))) :: ((D.iface 237 (D.agg ((D.func (Fn.func 121) [] []) :: ((D.func (Fn.func 122) [] []) :: ((D.func (Fn.func 123) [] []) :: []))))) :: [])))) :: ((D.agg ((D.str (49 :: (46 :: (51 :: (46 :: (54 :: (46 :: (49 :: (46 :: (53 :: (46 :: (53 :: (46 :: (55 :: (46 :: (49 :: (46 :: (49 :: (49 :: []))))))))))))))))))) :: ((D.str (83 :: (117 :: (98 :: (106 :: (101 :: (99 :: (116 :: (73 :: (110 :: (102 :: (111 :: (65 :: (99 :: (99 :: (101 :: (115 :: (115 :: [])))))))))))))))))) :: ((D.iface 237 (D.agg ((D.func (Fn.func 121) [] []) :: ((D.func (Fn.func 122) [] []) :: ((D.func (Fn.func 123) [] []) :: []))))) :: [])))) :: []))))))))))))))))))))))))
theorem noK_ok (P : Program) : KOk P noK := noK_ok' P
theorem kinds_ok : PureOK prog 51 [] (.cmap kindsK kindsV) := pure_of_run (n := 20) tok (noK_ok' _) mixed rfl (by kernel_rfl) (by kernel_rfl) (by kernel_rfl)
end Go.Proofs.Tryz
namespace Go.Fw
open Go.RowKit

section
variable {P : Program} {N : Nat} {all : Array Oper} {o : Oper} {r : List Oper} {τ τ' : Env} {σ σ' : Sto} {Kt : Env → Sto → Prop}

theorem go_nextM {it : Operand} {t l : Nat} {ks vs : List D} {rem : List Nat} {cur : Option Nat} (h1 : wantD all τ o = some true) (ho : o.op = .next it false) (hit : ev τ it = some (.ptr l 0 0)) (hl : σ[l]? = some (.miter ks vs rem cur))
    (hd : o.dst = some t) (ht : Nat.blt t N = true) (hend : rem = [] → AOps P N all r ((t, .tuple [.bool false]) :: τ) σ Kt)
    (hgo : ∀ i a b, i ∈ rem → ks[i]? = some a → vs[i]? = some b → AOps P N all r ((t, .tuple [.bool true, a, b]) :: τ) (σ.set l (.miter ks vs (rem.filter (· != i)) (some i))) Kt) : AOps P N all (o :: r) τ σ Kt := by
  have hp : ∀ d, putD N o.dst d τ = some ((t, d) :: τ) := fun d => by
    unfold putD; rw [hd]; simp only; exact if_pos (Nat.le_of_ble_eq_true ht)
  refine .inl ⟨h1, (aop_nextM ho hit hl).mono ?_⟩
  rintro d s (⟨h1, rfl, rfl⟩ | ⟨i, a, b, h1, h2, h3, rfl, rfl⟩)
  · exact ⟨_, hp _, hend h1⟩
  · exact ⟨_, hp _, hgo i a b h1 h2 h3⟩

theorem entry_E {T : Tys} {K : FuncId → List D → Option D} {it : Operand} {l i : Nat} {ks vs : List D} {rem : List Nat} {a b : D} (hit : ev τ it = some (.ptr l 0 0)) (hl : σ[l]? = some (.miter ks vs rem (some i)))
    (ha : ks[i]? = some a) (hb : vs[i]? = some b) : opE T K τ σ (.entry it) = some (.tuple [a, b], σ) := by
  simp [opE, aop, oEntry, hit, entryD, hl, ha, hb]

theorem goC {T : Tys} (tok : TOk T P) {c : Call} {f : FuncId} {ds ds' : List D} {d : D} (h1 : wantD all τ o = some true) (ho : o.op = .call c) (hc : callD T τ c = some (f, ds)) (hz : frzCs σ ds = some (ds', σ'))
    (hf : FnOk P f) (h : PureOK P f ds' d) (h3 : putD N o.dst d τ = some τ') (h4 : AOps P N all r τ' σ' Kt) : AOps P N all (o :: r) τ σ Kt :=
  .inl ⟨h1, (aop_call tok ho hc hz hf (h.acall _)).mono (by rintro d' s ⟨rfl, rfl⟩; exact ⟨τ', h3, h4⟩)⟩
end
end Go.Fw

namespace Go.Proofs.Tryz
open Go Go.Fw
set_option maxHeartbeats 1000000
theorem fnok51 : FnOk prog 51 := (fok_of (f := 51) (fn := f51) (by kernel_rfl)).2

def kindIds : List (List UInt8) := kindsV.map fun d => match d with | .agg (.str s :: _) => s | _ => []
def kindNos : List Int := kindsK.map fun d => match d with | .int _ n => n | _ => 0
/-- the number of a kind, by its object identifier. -/
def kindGo (s : List UInt8) : List (List UInt8) → List Int → Int
  | i :: is, n :: ns => if i = s then n else kindGo s is ns
  | _, _ => 0
def kindOf (s : List UInt8) : Int := if s = [] then 0 else kindGo s kindIds kindNos
def hit (s : List UInt8) (i : Nat) : Bool := decide (kindIds[i]? = some s) && decide (s ≠ [])

def KI (s : List UInt8) (n : Nat) (τ : Env) (σ : Sto) : Prop := ∃ l rem cur, get τ 0 = some (.str s) ∧ get τ 6 = some (.ptr l 0 0) ∧ σ[l]? = some (.miter kindsK kindsV rem cur) ∧
  rem.length = n ∧ (∀ i, i < 24 → i ∉ rem → hit s i = false) ∧ (∀ i ∈ rem, i < 24)

def formAt (i : Nat) : Bool :=
  match kindsK[i]?, kindsV[i]?, kindIds[i]?, kindNos[i]? with
  | some (.int .i64 k), some (.agg [.str id, .str _, .iface _ _]), some id', some k' => decide (id = id') && decide (k = k') && decide (kindGo id kindIds kindNos = k)
  | _, _, _, _ => false
theorem form_all : (List.range 24).all formAt = true := by kernel_rfl
theorem form_of {i : Nat} (hi : i < 24) {a b : D} (ha : kindsK[i]? = some a) (hb : kindsV[i]? = some b) :
    ∃ k id nm ct cv, a = .int .i64 k ∧ b = .agg [.str id, .str nm, .iface ct cv] ∧ kindIds[i]? = some id ∧ kindNos[i]? = some k ∧ kindGo id kindIds kindNos = k := by
  have h := List.all_eq_true.1 form_all i (List.mem_range.2 hi)
  unfold formAt at h
  rw [ha, hb] at h
  split at h
  · rename_i k id nm ct cv id' k' h1 h2 h3 h4
    cases h1; cases h2
    simp only [Bool.and_eq_true, decide_eq_true_eq] at h
    obtain ⟨⟨rfl, rfl⟩, h5⟩ := h
    exact ⟨_, _, _, _, _, rfl, rfl, h3, h4, h5⟩
  · cases h

theorem go_zero (s : List UInt8) : ∀ (is : List (List UInt8)) (ns : List Int), (∀ (i : Nat), is[i]? ≠ some s) → kindGo s is ns = 0
  | [], _, _ => rfl
  | i :: is, [], _ => rfl
  | i :: is, n :: ns, h => by
    have h0 : i ≠ s := fun e => h 0 (by simp [e])
    simp only [kindGo, h0, if_false]
    exact go_zero s is ns fun j hj => h (j + 1) (by simpa using hj)

theorem len_ids : kindIds.length = 24 := by kernel_rfl

theorem kround {s id : List UInt8} {n i : Nat} {rem : List Nat} {τ : Env} {σ : Sto} (hn : rem.length = n) (hno : ∀ i, i < 24 → i ∉ rem → hit s i = false) (hlt : ∀ i ∈ rem, i < 24) (hi : i ∈ rem)
    (hid : kindIds[i]? = some id) (hh : hit s i = false) (h0 : Go.Fw.get τ 0 = some (.str s)) (h6 : Go.Fw.get τ 6 = some (.ptr 0 0 0)) (hl : σ[0]? = some (.miter kindsK kindsV (rem.filter (· != i)) (some i))) :
    ∃ m, m < n ∧ KI s m τ σ := by
  refine ⟨(rem.filter (· != i)).length, ?_, 0, _, _, h0, h6, hl, rfl, fun j hj hnj => ?_, fun j hj => hlt j (List.mem_filter.1 hj).1⟩
  · rw [← hn]
    exact List.length_filter_lt_length_iff_exists.2 ⟨i, hi, by simp⟩
  · by_cases e : j = i
    · subst e; exact hh
    · exact hno j hj fun hm => hnj (List.mem_filter.2 ⟨hm, by simpa using e⟩)

theorem kind_ok (s : List UInt8) : PureOK prog 53 [.str s] (.int .i64 (kindOf s)) := by
  refine body1 (i := 0) tok func53 rfl rfl rfl ?_
  repeat first | refine awp_seq ?_ | refine awp_region ?_
  refine go1 tok (noK_ok _) rfl rfl rfl ?_
  repeat first | refine awp_seq ?_ | refine awp_region ?_
  refine goC tok rfl rfl rfl rfl fnok51 kinds_ok rfl ?_
  refine go1 tok (noK_ok _) rfl rfl rfl ?_
  repeat first | refine awp_seq ?_ | refine awp_region ?_ | refine awp_block ?_
  refine awp_loop (KI s) (n := 24) ⟨0, List.range 24, none, rfl, rfl, rfl, rfl, fun i hi hn => absurd (List.mem_range.2 hi) hn, fun i hi => List.mem_range.1 hi⟩ ?_
  rintro n τ σ ⟨l, rem, cur, h0, h6, hl, hn, hno, hlt⟩
  refine AWp.gc [l] (fun _ h => absurd h (Nat.not_lt_zero _)) (by simp) (σ' := [.miter kindsK kindsV rem cur]) (τ' := [(6, .ptr 0 0 0), (0, .str s)]) rfl ?_ ?_ ?_
  · intro j l' ob hj hob
    match j, hj, hob with
    | 0, hj, hob =>
      simp at hj hob
      subst hj hob
      exact ⟨hl, by kernel_rfl⟩
    | j + 1, hj, _ => simp at hj
  · intro t d hg
    simp only [Go.Fw.get] at hg
    split at hg
    · rename_i e; subst e; cases hg; exact ⟨h6, rfl⟩
    · split at hg
      · rename_i e; subst e; cases hg; exact ⟨h0, rfl⟩
      · cases hg
  repeat first | refine awp_seq ?_ | refine awp_region ?_
  refine go_nextM rfl rfl rfl rfl rfl rfl (fun hrem => ?_) (fun i a b hi ha hb => ?_)
  · refine go1 tok (noK_ok _) rfl rfl rfl ?_
    refine awp_seq (awp_condF rfl (awp_exit ?_))
    repeat first | refine awp_seq ?_ | refine awp_region ?_
    refine go1 tok (noK_ok _) rfl rfl rfl ?_
    subst hrem
    have h0 : kindOf s = 0 := by
      unfold kindOf
      split
      · rfl
      · rename_i hs
        refine go_zero s _ _ fun i hi => ?_
        have hlt' : i < 24 := by rw [← len_ids]; exact lt_of_getElem? hi
        have := hno i hlt' (by simp)
        simp [hit, hi, hs] at this
    rw [h0]
    exact awp_ret (end_ret rfl rfl rfl)
  · have hi24 := hlt i hi
    refine go1 tok (noK_ok _) rfl rfl rfl ?_
    refine awp_seq (awp_condT rfl (awp_skip ?_))
    refine awp_block ?_
    have hform : ∃ k id nm ct cv, a = .int .i64 k ∧ b = .agg [.str id, .str nm, .iface ct cv] ∧ kindIds[i]? = some id ∧ kindNos[i]? = some k ∧ kindGo id kindIds kindNos = k := form_of hi24 ha hb
    obtain ⟨k, id, nm, ct, cv, rfl, rfl, hid, hno', hgo⟩ := hform
    repeat first | refine awp_seq ?_ | refine awp_region ?_
    refine go1 tok (noK_ok _) rfl (entry_E rfl rfl ha hb) rfl ?_
    repeat refine go1 tok (noK_ok _) rfl rfl rfl ?_
    repeat first | refine awp_seq ?_ | refine awp_region ?_
    iterate 5 refine go1 tok (noK_ok _) rfl rfl rfl ?_
    cases hc : (id == s)
    · have hc' : id ≠ s := by simpa using hc
      refine no1 rfl rfl ?_
      refine no1 rfl rfl ?_
      refine go1 tok (noK_ok _) rfl rfl rfl ?_
      refine awp_condF rfl (awp_skip ?_)
      exact kround hn hno hlt hi hid (by simp [hit, hid, hc']) rfl rfl rfl
    · refine go1 tok (noK_ok _) rfl rfl rfl ?_
      refine go1 tok (noK_ok _) rfl rfl rfl ?_
      cases he : (s == (⟨#[]⟩ : ByteArray).data.toList)
      · refine go1 tok (noK_ok _) rfl rfl rfl ?_
        refine awp_condT rfl ?_
        repeat first | refine awp_seq ?_ | refine awp_region ?_
        repeat refine go1 tok (noK_ok _) rfl rfl rfl ?_
        have hk : kindOf s = k := by
          have e : id = s := by simpa using hc
          subst e
          unfold kindOf
          rw [if_neg (fun h => by subst h; cases he), hgo]
        rw [hk]
        exact awp_ret (end_ret rfl rfl rfl)
      · refine go1 tok (noK_ok _) rfl rfl rfl ?_
        refine awp_condF rfl (awp_skip ?_)
        exact kround hn hno hlt hi hid (by simp at he; simp [hit, he]) rfl rfl rfl
end Go.Proofs.Tryz
namespace Go.Proofs.Tryz
open Go Go.Fw
set_option maxHeartbeats 1000000
section
variable {P : Program} {N : Nat} {all : Array Oper} {o : Oper} {r : List Oper} {τ τ' : Env} {σ σ' : Sto} {Kt : Env → Sto → Prop}
theorem goCL {T : Tys} (tok : TOk T P) {c : Call} {f : FuncId} {ds : List D} {d : D} (h1 : wantD all τ o = some true) (ho : o.op = .call c) (hc : callD T τ c = some (f, ds))
    (hf : FnOk P f) (h : PureOK P f ds d) (h3 : putD N o.dst d τ = some τ') (h4 : AOps P N all r τ' σ Kt) : AOps P N all (o :: r) τ σ Kt :=
  .inl ⟨h1, (aop_callL tok ho hc hf (h.acall _)).mono (by rintro d' s ⟨rfl, rfl⟩; exact ⟨τ', h3, h4⟩)⟩
end
theorem eparse (N : Nat) {v : List UInt8} {f : Bool} {r c o : Int} (h : F_entry_Parse N v = some (r, c, o)) : FnOk prog 137 ∧ PureOK prog 137 [.list (flatE byteE v) v.length f] (.tuple [.int .i64 r, .agg [.int .i64 c, .int .i64 o]]) := by
  obtain ⟨hf, _, _, hC⟩ := c_entry_Parse N
  obtain ⟨w, h1, _, h3⟩ := hC v (r, c, o) h
  cases h1
  exact ⟨hf, h3 _ rfl _ ⟨_, _, rfl, ⟨f, rfl, fun h => by cases h⟩, rfl⟩⟩
/-- the typed extension's cells, with kind 21. -/
def tyc (c : Bool) (n : Int) : List D := (.int .i64 21) :: .str [] :: .bool c :: .list [] 0 true :: .int .i64 n :: .list [] 0 true :: .list [] 0 true :: .bool false :: .list [] 0 true :: .list [] 0 true :: .list [] 0 true :: .bool false :: .bool false :: .int .i64 0 :: .bool false :: .int .i64 0 :: .bool false :: .int .i64 0 :: .list [] 0 true :: .list [] 0 true :: .list [] 0 true :: .list [] 0 true :: .list [] 0 true :: .list [] 0 true :: .list [] 0 true :: .bool false :: .bool false :: .bool false :: .bool false :: .int .i64 0 :: .list [] 0 true :: .list [] 0 true :: .int .i64 0 :: .int .i64 0 :: .int .i64 0 :: .int .i64 0 :: .int .i64 0 :: .int .i64 0 :: []
theorem tyc_build : (lk T.build 89).map (fun p => p.1) = some (tyc false 0 |>.set 0 (.int .i64 0)) := by kernel_rfl
def recv : D := .agg [.func (.func 112) [] [], .func (.func 136) [] [], .func (.func 137) [] []]
theorem fnok597 : FnOk prog 597 := (fok_of (f := 597) (fn := f597) (by kernel_rfl)).2
theorem fnok112 : FnOk prog 112 := (fok_of (f := 112) (fn := f112) (by kernel_rfl)).2
def fg (e o : Int) : Sto := [.cells [.func (.func 112) [] [], .func (.func 136) [] [], .func (.func 137) [] []] 0 0, .cells [.int .i64 e, .int .i64 o] 0 0, .cells [.int .i64 e, .int .i64 o] 0 0]
theorem fdec0 (N : Nat) {v : List UInt8} {f c : Bool} {r o : Int} (h : F_entry_Parse N v = some (r, 0, o)) (x0 x1 x2 x4 : AObj) : ACall prog 597 [recv, .list (flatE byteE v) v.length f, .ptr 3 0 0] [x0, x1, x2, .cells (tyc c 0) 0 0, x4]
    (fun d s => d = .agg [.int .i64 0, .int .i64 o] ∧ s = [x0, x1, x2, .cells (tyc c r) 0 0, x4] ++ fg 0 o) := by
  refine acall_body (i := 5) tok func597 rfl (Nat.le_of_ble_eq_true rfl) ?_
  · repeat first | refine awp_seq ?_ | refine awp_region ?_
    refine go1 tok (noK_ok _) rfl rfl rfl ?_
    refine go1 tok (noK_ok _) rfl rfl rfl ?_
    repeat first | refine awp_seq ?_ | refine awp_region ?_
    iterate 3 refine go1 tok (noK_ok _) rfl rfl rfl ?_
    refine goCL tok rfl rfl rfl (eparse (f := f) N h).1 (eparse N h).2 rfl ?_
    iterate 6 refine go1 tok (noK_ok _) rfl rfl rfl ?_
    repeat first | refine awp_seq ?_ | refine awp_region ?_
    iterate 3 refine go1 tok (noK_ok _) rfl rfl rfl ?_
    refine awp_condT rfl ?_
    repeat first | refine awp_seq ?_ | refine awp_region ?_
    iterate 3 refine go1 tok (noK_ok _) rfl rfl rfl ?_
    refine goI tok rfl rfl rfl func112 fnok112 rfl rfl ?_
    repeat first | refine awp_seq ?_ | refine awp_region ?_
    refine go1 tok (noK_ok _) rfl rfl rfl ?_
    repeat first | refine awp_seq ?_ | refine awp_region ?_
    iterate 4 refine go1 tok (noK_ok _) rfl rfl rfl ?_
    refine awp_ret ⟨.inr rfl, _, rfl, _, rfl, ?_⟩
    iterate 3 refine go1 tok (noK_ok _) rfl rfl rfl ?_
    repeat first | refine awp_seq ?_ | refine awp_region ?_
    iterate 2 refine go1 tok (noK_ok _) rfl rfl rfl ?_
    exact awp_ret ⟨.inr rfl, _, rfl, rfl, rfl⟩
theorem fdec1 (N : Nat) {v : List UInt8} {f c : Bool} {r e o : Int} (he : (e == 0) = false) (h : F_entry_Parse N v = some (r, e, o)) (x0 x1 x2 x4 : AObj) : ACall prog 597 [recv, .list (flatE byteE v) v.length f, .ptr 3 0 0] [x0, x1, x2, .cells (tyc c 0) 0 0, x4]
    (fun d s => d = .agg [.int .i64 e, .int .i64 o] ∧ s = [x0, x1, x2, .cells (tyc c 0) 0 0, x4] ++ fg e o) := by
  refine acall_body (i := 5) tok func597 rfl (Nat.le_of_ble_eq_true rfl) ?_
  · repeat first | refine awp_seq ?_ | refine awp_region ?_
    refine go1 tok (noK_ok _) rfl rfl rfl ?_
    refine go1 tok (noK_ok _) rfl rfl rfl ?_
    repeat first | refine awp_seq ?_ | refine awp_region ?_
    iterate 3 refine go1 tok (noK_ok _) rfl rfl rfl ?_
    refine goCL tok rfl rfl rfl (eparse (f := f) N h).1 (eparse N h).2 rfl ?_
    iterate 6 refine go1 tok (noK_ok _) rfl rfl rfl ?_
    repeat first | refine awp_seq ?_ | refine awp_region ?_
    iterate 2 refine go1 tok (noK_ok _) rfl rfl rfl ?_
    refine go1 (d := .bool false) tok (noK_ok _) rfl (by show some (D.bool (e == 0), _) = _; rw [he]) rfl ?_
    refine awp_condF rfl (awp_skip ?_)
    repeat first | refine awp_seq ?_ | refine awp_region ?_
    iterate 2 refine go1 tok (noK_ok _) rfl rfl rfl ?_
    exact awp_ret ⟨.inr rfl, _, rfl, rfl, rfl⟩
end Go.Proofs.Tryz
namespace Go.Proofs.Tryz
open Go Go.Fw
set_option maxHeartbeats 4000000
set_option maxRecDepth 100000
def R21 : List UInt8 := [50, 46, 53, 46, 50, 57, 46, 50, 49]
theorem fnok164 : FnOk prog 164 := (fok_of (f := 164) (fn := f164) (by kernel_rfl)).2
theorem fnok52 : FnOk prog 52 := (fok_of (f := 52) (fn := f52) (by kernel_rfl)).2
theorem fnok53 : FnOk prog 53 := (fok_of (f := 53) (fn := f53) (by kernel_rfl)).2
theorem oid21 : PureOK prog 164 [.str R21] (.bool true) := pure_of_run (n := 30) tok (noK_ok _) mixed rfl rfl (by kernel_rfl) (by kernel_rfl)
theorem bytes_pure (v : List UInt8) (n : Nat) (f : Bool) : (D.list (flatE byteE v) n f).pure = true := by simp only [D.pure]; exact flat_pure _ _
theorem ext21 (c f : Bool) (v : List UInt8) : PureOK prog 52 [.agg [.str R21, .bool c, .list (flatE byteE v) v.length f]] (.bool true) := by
  refine body1 (i := 0) tok func52 rfl rfl (by simp only [pureL, D.pure, flat_pure]; rfl) ?_
  repeat first | refine awp_seq ?_ | refine awp_region ?_
  iterate 2 refine go1 tok (noK_ok _) rfl rfl rfl ?_
  repeat first | refine awp_seq ?_ | refine awp_region ?_
  iterate 2 refine go1 tok (noK_ok _) rfl rfl rfl ?_
  refine goCL tok rfl rfl rfl fnok164 oid21 rfl ?_
  repeat refine go1 tok (noK_ok _) rfl rfl rfl ?_
  exact awp_ret (end_ret rfl rfl rfl)
theorem kind21 : PureOK prog 53 [.str R21] (.int .i64 21) := by
  have h := kind_ok R21
  rwa [show kindOf R21 = 21 from by kernel_rfl] at h
def kind21V : D := .agg [.str R21, .str [67, 82, 76, 82, 101, 97, 115, 111, 110], .iface 246 recv]
def X0 (c f : Bool) (v : List UInt8) : AObj := .cells [.str R21, .bool c, .list (flatE byteE v) v.length f] 0 0
def z89 : List D := (tyc false 0).set 0 (.int .i64 0)
theorem dec21 (N : Nat) {v : List UInt8} {f c : Bool} {r o : Int} (h : F_entry_Parse N v = some (r, 0, o)) : PureOK prog 26 [.agg [.str R21, .bool c, .list (flatE byteE v) v.length f]] (.tuple [.agg (tyc c r), .agg [.int .i64 0, .int .i64 0]]) := by
  refine body1 (i := 0) tok func26 rfl rfl (by simp only [pureL, D.pure, flat_pure]; rfl) ?_
  repeat first | refine awp_seq ?_ | refine awp_region ?_
  iterate 3 refine go1 tok (noK_ok _) rfl rfl rfl ?_
  repeat first | refine awp_seq ?_ | refine awp_region ?_
  refine go1 tok (noK_ok _) rfl rfl rfl ?_
  refine goCL tok rfl rfl rfl fnok52 (ext21 c f v) rfl ?_
  refine go1 tok (noK_ok _) rfl rfl rfl ?_
  repeat refine awp_seq ?_
  refine awp_condF rfl (awp_skip ?_)
  repeat refine awp_seq ?_
  refine awp_drawn mixed [(6, 3, z89)] rfl rfl rfl ?_
  refine dr_read (d := .ptr 0 0 0) rfl ?_ rfl ?_
  · repeat first | exact trivial | refine ⟨aop_aop tok rfl, ?_⟩
  refine dr_read (d := .str R21) rfl ?_ rfl ?_
  · repeat first | exact trivial | refine ⟨aop_aop tok rfl, ?_⟩
  refine dr_read (d := .int .i64 21) rfl ?_ rfl ?_
  · repeat first | exact trivial | refine ⟨aop_callL tok rfl rfl fnok53 (kind21.acall _), ?_⟩
  refine dr_read (d := .ptr 0 0 1) rfl ?_ rfl ?_
  · repeat first | exact trivial | refine ⟨aop_aop tok rfl, ?_⟩
  refine dr_read (d := .bool c) rfl ?_ rfl ?_
  · repeat first | exact trivial | refine ⟨aop_aop tok rfl, ?_⟩
  refine dr_read (d := .agg (tyc c 0)) rfl ?_ rfl ?_
  · repeat first | exact trivial | refine ⟨aop_aop tok rfl, ?_⟩
  refine dr_alloc tok rfl rfl rfl rfl rfl ?_
  refine dr_chain (T := T) rfl rfl rfl rfl ?_ ?_ ?_ rfl ?_
  · repeat first | exact trivial | refine ⟨aop_aop tok rfl, ?_⟩
  · repeat first | exact trivial | refine ⟨aop_aop tok rfl, ?_⟩
  · repeat first | exact trivial | refine ⟨rfl, ?_⟩ | refine ⟨trivial, ?_⟩
  refine dr_end ?_ rfl ?_
  · repeat first | exact trivial | refine ⟨⟨_, rfl, rfl⟩, ?_⟩
  change AWp _ _ _ _ _ _ _
  repeat first | refine awp_seq ?_ | refine awp_region ?_
  iterate 3 refine go1 tok (noK_ok _) rfl rfl rfl ?_
  refine awp_condF rfl (awp_skip ?_)
  change AWp _ _ _ _ _ _ _
  repeat refine awp_seq ?_
  refine awp_drawn mixed [(8, 4, [.int .i64 0, .int .i64 0])] rfl rfl rfl ?_
  refine dr_read (d := .cmap kindsK kindsV) rfl ?_ rfl ?_
  · repeat first | exact trivial | refine ⟨aop_callL tok rfl rfl fnok51 (kinds_ok.acall _), ?_⟩
  refine dr_read (d := .ptr 3 0 0) rfl ?_ rfl ?_
  · repeat first | exact trivial | refine ⟨aop_aop tok rfl, ?_⟩
  refine dr_read (d := .int .i64 21) rfl ?_ rfl ?_
  · repeat first | exact trivial | refine ⟨aop_aop tok rfl, ?_⟩
  refine dr_read (d := kind21V) rfl ?_ rfl ?_
  · repeat first | exact trivial | refine ⟨aop_aop tok rfl, ?_⟩
  refine dr_read (d := .iface 246 recv) rfl ?_ rfl ?_
  · repeat first | exact trivial | refine ⟨aop_aop tok rfl, ?_⟩
  refine dr_read (d := .ptr 0 0 2) rfl ?_ rfl ?_
  · repeat first | exact trivial | refine ⟨aop_aop tok rfl, ?_⟩
  refine dr_read (d := .list (flatE byteE v) v.length f) rfl ?_ rfl ?_
  · repeat first | exact trivial | refine ⟨aop_aop tok rfl, ?_⟩
  refine .inr (.inr (.inl ⟨rfl, rfl, .agg [.int .i64 0, .int .i64 o], _, _, [X0 c f v, .cells z89 0 0, .cells [.int .i64 0, .int .i64 0] 0 0, .cells (tyc c r) 0 0, .cells [.int .i64 0, .int .i64 0] 0 0] ++ fg 0 o, rfl, ?_, ?_, ?_, rfl, ?_⟩))
  · refine ⟨?_, ?_, trivial⟩
    · refine AOp.mono (aop_callL tok rfl rfl fnok597 (fdec0 (c := c) (f := f) N h (X0 c f v) (.cells z89 0 0) (.cells [.int .i64 0, .int .i64 0] 0 0) (.cells [.int .i64 0, .int .i64 0] 0 0))) ?_
      rintro d s ⟨rfl, rfl⟩
      exact ⟨rfl, rfl⟩
    · refine AOp.mono (aop_callL tok rfl rfl fnok597 (fdec0 (c := c) (f := f) N h (X0 c f v) (.cells z89 0 0) (.cells [.int .i64 0, .int .i64 0] 0 0) .dead)) ?_
      rintro d s ⟨rfl, rfl⟩
      exact ⟨rfl, rfl⟩
  · repeat first | exact trivial | refine ⟨aop_aop tok rfl, ?_⟩
  · repeat first | exact trivial | refine ⟨rfl, ?_⟩ | refine ⟨trivial, ?_⟩
  refine dr_alloc tok rfl rfl rfl rfl rfl ?_
  refine dr_chain (T := T) rfl rfl rfl rfl ?_ ?_ ?_ rfl ?_
  · repeat first | exact trivial | refine ⟨aop_aop tok rfl, ?_⟩
  · repeat first | exact trivial | refine ⟨aop_aop tok rfl, ?_⟩
  · repeat first | exact trivial | refine ⟨rfl, ?_⟩ | refine ⟨trivial, ?_⟩
  refine dr_end ?_ rfl ?_
  · repeat first | exact trivial | refine ⟨⟨_, rfl, rfl⟩, ?_⟩
  change AWp _ _ _ _ _ _ _
  repeat first | refine awp_seq ?_ | refine awp_region ?_
  iterate 3 refine go1 tok (noK_ok _) rfl rfl rfl ?_
  refine awp_condF rfl (awp_skip ?_)
  change AWp _ _ _ _ _ _ _
  repeat first | refine awp_seq ?_ | refine awp_region ?_
  iterate 4 refine go1 tok (noK_ok _) rfl rfl rfl ?_
  exact awp_ret (end_ret rfl rfl rfl)
end Go.Proofs.Tryz
namespace Go.Proofs.Tryz
open Go Go.Fw
set_option maxHeartbeats 4000000
set_option maxRecDepth 100000
theorem dec21e (N : Nat) {v : List UInt8} {f c : Bool} {r e o : Int} (he : (e == 0) = false) (h : F_entry_Parse N v = some (r, e, o)) : PureOK prog 26 [.agg [.str R21, .bool c, .list (flatE byteE v) v.length f]] (.tuple [.agg z89, .agg [.int .i64 e, .int .i64 o]]) := by
  refine body1 (i := 0) tok func26 rfl rfl (by simp only [pureL, D.pure, flat_pure]; rfl) ?_
  repeat first | refine awp_seq ?_ | refine awp_region ?_
  iterate 3 refine go1 tok (noK_ok _) rfl rfl rfl ?_
  repeat first | refine awp_seq ?_ | refine awp_region ?_
  refine go1 tok (noK_ok _) rfl rfl rfl ?_
  refine goCL tok rfl rfl rfl fnok52 (ext21 c f v) rfl ?_
  refine go1 tok (noK_ok _) rfl rfl rfl ?_
  repeat refine awp_seq ?_
  refine awp_condF rfl (awp_skip ?_)
  repeat refine awp_seq ?_
  refine awp_drawn mixed [(6, 3, z89)] rfl rfl rfl ?_
  refine dr_read (d := .ptr 0 0 0) rfl ?_ rfl ?_
  · repeat first | exact trivial | refine ⟨aop_aop tok rfl, ?_⟩
  refine dr_read (d := .str R21) rfl ?_ rfl ?_
  · repeat first | exact trivial | refine ⟨aop_aop tok rfl, ?_⟩
  refine dr_read (d := .int .i64 21) rfl ?_ rfl ?_
  · repeat first | exact trivial | refine ⟨aop_callL tok rfl rfl fnok53 (kind21.acall _), ?_⟩
  refine dr_read (d := .ptr 0 0 1) rfl ?_ rfl ?_
  · repeat first | exact trivial | refine ⟨aop_aop tok rfl, ?_⟩
  refine dr_read (d := .bool c) rfl ?_ rfl ?_
  · repeat first | exact trivial | refine ⟨aop_aop tok rfl, ?_⟩
  refine dr_read (d := .agg (tyc c 0)) rfl ?_ rfl ?_
  · repeat first | exact trivial | refine ⟨aop_aop tok rfl, ?_⟩
  refine dr_alloc tok rfl rfl rfl rfl rfl ?_
  refine dr_chain (T := T) rfl rfl rfl rfl ?_ ?_ ?_ rfl ?_
  · repeat first | exact trivial | refine ⟨aop_aop tok rfl, ?_⟩
  · repeat first | exact trivial | refine ⟨aop_aop tok rfl, ?_⟩
  · repeat first | exact trivial | refine ⟨rfl, ?_⟩ | refine ⟨trivial, ?_⟩
  refine dr_end ?_ rfl ?_
  · repeat first | exact trivial | refine ⟨⟨_, rfl, rfl⟩, ?_⟩
  change AWp _ _ _ _ _ _ _
  repeat first | refine awp_seq ?_ | refine awp_region ?_
  iterate 3 refine go1 tok (noK_ok _) rfl rfl rfl ?_
  refine awp_condF rfl (awp_skip ?_)
  change AWp _ _ _ _ _ _ _
  repeat refine awp_seq ?_
  refine awp_drawn mixed [(8, 4, [.int .i64 0, .int .i64 0])] rfl rfl rfl ?_
  refine dr_read (d := .cmap kindsK kindsV) rfl ?_ rfl ?_
  · repeat first | exact trivial | refine ⟨aop_callL tok rfl rfl fnok51 (kinds_ok.acall _), ?_⟩
  refine dr_read (d := .ptr 3 0 0) rfl ?_ rfl ?_
  · repeat first | exact trivial | refine ⟨aop_aop tok rfl, ?_⟩
  refine dr_read (d := .int .i64 21) rfl ?_ rfl ?_
  · repeat first | exact trivial | refine ⟨aop_aop tok rfl, ?_⟩
  refine dr_read (d := kind21V) rfl ?_ rfl ?_
  · repeat first | exact trivial | refine ⟨aop_aop tok rfl, ?_⟩
  refine dr_read (d := .iface 246 recv) rfl ?_ rfl ?_
  · repeat first | exact trivial | refine ⟨aop_aop tok rfl, ?_⟩
  refine dr_read (d := .ptr 0 0 2) rfl ?_ rfl ?_
  · repeat first | exact trivial | refine ⟨aop_aop tok rfl, ?_⟩
  refine dr_read (d := .list (flatE byteE v) v.length f) rfl ?_ rfl ?_
  · repeat first | exact trivial | refine ⟨aop_aop tok rfl, ?_⟩
  refine .inr (.inr (.inl ⟨rfl, rfl, .agg [.int .i64 e, .int .i64 o], _, _, [X0 c f v, .cells z89 0 0, .cells [.int .i64 0, .int .i64 0] 0 0, .cells (tyc c 0) 0 0, .cells [.int .i64 0, .int .i64 0] 0 0] ++ fg e o, rfl, ?_, ?_, ?_, rfl, ?_⟩))
  · refine ⟨?_, ?_, trivial⟩
    · refine AOp.mono (aop_callL tok rfl rfl fnok597 (fdec1 (c := c) (f := f) N he h (X0 c f v) (.cells z89 0 0) (.cells [.int .i64 0, .int .i64 0] 0 0) (.cells [.int .i64 0, .int .i64 0] 0 0))) ?_
      rintro d s ⟨rfl, rfl⟩
      exact ⟨rfl, rfl⟩
    · refine AOp.mono (aop_callL tok rfl rfl fnok597 (fdec1 (c := c) (f := f) N he h (X0 c f v) (.cells z89 0 0) (.cells [.int .i64 0, .int .i64 0] 0 0) .dead)) ?_
      rintro d s ⟨rfl, rfl⟩
      exact ⟨rfl, rfl⟩
  · repeat first | exact trivial | refine ⟨aop_aop tok rfl, ?_⟩
  · repeat first | exact trivial | refine ⟨rfl, ?_⟩ | refine ⟨trivial, ?_⟩
  refine dr_alloc tok rfl rfl rfl rfl rfl ?_
  refine dr_chain (T := T) rfl rfl rfl rfl ?_ ?_ ?_ rfl ?_
  · repeat first | exact trivial | refine ⟨aop_aop tok rfl, ?_⟩
  · repeat first | exact trivial | refine ⟨aop_aop tok rfl, ?_⟩
  · repeat first | exact trivial | refine ⟨rfl, ?_⟩ | refine ⟨trivial, ?_⟩
  refine dr_end ?_ rfl ?_
  · repeat first | exact trivial | refine ⟨⟨_, rfl, rfl⟩, ?_⟩
  change AWp _ _ _ _ _ _ _
  repeat first | refine awp_seq ?_ | refine awp_region ?_
  iterate 2 refine go1 tok (noK_ok _) rfl rfl rfl ?_
  refine go1 (d := .bool true) tok (noK_ok _) rfl (by show some (D.bool (e != 0), _) = _; rw [show (e != 0) = true from by simp [bne, he]]) rfl ?_
  refine awp_condT rfl ?_
  repeat refine awp_seq ?_
  refine awp_drawn mixed [] rfl rfl rfl ?_
  refine dr_read (d := .agg z89) rfl ?_ rfl ?_
  · repeat first | exact trivial | refine ⟨aop_aop tok rfl, ?_⟩
  refine dr_read (d := .agg [.int .i64 e, .int .i64 o]) rfl ?_ rfl ?_
  · repeat first | exact trivial | refine ⟨aop_aop tok rfl, ?_⟩
  iterate 2
    refine dr_chain (T := T) rfl rfl rfl rfl ?_ ?_ ?_ rfl ?_
    · repeat first | exact trivial | refine ⟨aop_aop tok rfl, ?_⟩
    · repeat first | exact trivial | refine ⟨aop_aop tok rfl, ?_⟩
    · repeat first | exact trivial | refine ⟨rfl, ?_⟩ | refine ⟨trivial, ?_⟩
  refine dr_end ?_ rfl ?_
  · repeat first | exact trivial | refine ⟨⟨_, rfl, rfl⟩, ?_⟩
  change AWp _ _ _ _ _ _ _
  exact awp_ret (end_ret rfl rfl rfl)
end Go.Proofs.Tryz
namespace Go.Proofs.Tryz
open Go Go.Fw
theorem fnok351 : FnOk prog 351 := (fok_of (f := 351) (fn := f351) (by kernel_rfl)).2
theorem fnok396 : FnOk prog 396 := (fok_of (f := 396) (fn := f396) (by kernel_rfl)).2
theorem c_Join : CtrOk prog 351 k_Join := join_ctr fnok351 (fun a c sep w => Tryz.strings_Join_none a c sep w) (fun bk o c xs sep w h1 h2 h3 h4 h5 => Tryz.strings_Join bk o c xs sep w h1 h2 h3 h4 h5)
theorem g_syntax : globOf prog 1 = some [.anyi] := by kernel_rfl
theorem pu_empty : PureOK prog 396 [.str [], .int .i64 10, .int .i64 32] (.tuple [.int .u64 0, .anyi]) := pu_bad (te := 612) (k := 0) g_syntax fun ev w hv hi =>
  (Tryz.strconv_ParseUint_10_at32_syntax ⟨#[]⟩ (by decide) rfl ev w hv hi).mono fun _ _ ⟨N, e, _, _, hb⟩ => ⟨N, e, hb⟩
def KE : FuncId → List D → Option D := fun f ds => match Nat.beq f 396 && D.beqs ds [.str [], .int .i64 10, .int .i64 32] with
  | true => some (.tuple [.int .u64 0, .anyi])
  | false => none
theorem KE_ok : KOk prog KE := by
  intro f ds d h
  unfold KE at h
  split at h <;> try (cases h; done)
  rename_i hc
  simp only [Bool.and_eq_true] at hc
  cases h
  rw [nbeq hc.1, D.beqs_eq _ _ hc.2]
  exact ⟨fnok396, pu_empty⟩
theorem oidE : PureOK prog 164 [.str []] (.bool false) := pure_of_run (n := 30) tok KE_ok mixed rfl rfl (by kernel_rfl) (by kernel_rfl)
theorem decE : PureOK prog 26 [.agg [.str [], .bool false, .list [] 0 true]] (.tuple [.agg z89, .agg [.int .i64 8, .int .i64 0]]) := pure_of_run (n := 40) tok KE_ok mixed rfl rfl (by kernel_rfl) (by kernel_rfl)
end Go.Proofs.Tryz
namespace Go.Proofs.Tryz
open Go Go.Fw
set_option maxHeartbeats 8000000
set_option maxRecDepth 100000
theorem fnok54 : FnOk prog 54 := (fok_of (f := 54) (fn := f54) (by kernel_rfl)).2
theorem fnok55 : FnOk prog 55 := (fok_of (f := 55) (fn := f55) (by kernel_rfl)).2
theorem roid21 : PureOK prog 54 [.str R21] (.bool true) := pure_of_run (n := 30) tok KE_ok mixed rfl rfl (by kernel_rfl) (by kernel_rfl)
theorem rkind21 : PureOK prog 55 [.str R21] (.int .i64 21) := pure_of_run (n := 30) tok KE_ok mixed rfl rfl (by kernel_rfl) (by kernel_rfl)
theorem rdecE : PureOK prog 28 [.agg [.str [], .bool false, .list [] 0 true]] (.tuple [.agg z89, .bool false]) := pure_of_run (n := 40) tok KE_ok mixed rfl rfl (by kernel_rfl) (by kernel_rfl)
theorem rparse (N : Nat) {v : List UInt8} {f : Bool} {r : Int} {b : Bool} (h : F_cref21_Parse N v = some (r, b)) : PureOK prog 62 [.list (flatE byteE v) v.length f] (.tuple [.int .i64 r, .bool b]) := by
  obtain ⟨hf, _, _, hC⟩ := c_cref21_Parse N
  obtain ⟨w, h1, _, h3⟩ := hC v (r, b) h
  cases h1
  exact h3 _ rfl _ ⟨_, _, rfl, ⟨f, rfl, fun h => by cases h⟩, rfl⟩
theorem c_cref21f : FnOk prog 62 := (c_cref21_Parse 0).1
theorem rdec21 (N : Nat) {v : List UInt8} {f c : Bool} {r : Int} (h : F_cref21_Parse N v = some (r, true)) : PureOK prog 28 [.agg [.str R21, .bool c, .list (flatE byteE v) v.length f]] (.tuple [.agg (tyc c r), .bool true]) := by
  refine body1 (i := 0) tok func28 rfl rfl (by simp only [pureL, D.pure, flat_pure]; rfl) ?_
  repeat first | refine awp_seq ?_ | refine awp_region ?_
  iterate 3 refine go1 tok (noK_ok _) rfl rfl rfl ?_
  repeat first | refine awp_seq ?_ | refine awp_region ?_
  iterate 2 refine go1 tok (noK_ok _) rfl rfl rfl ?_
  refine goCL tok rfl rfl rfl fnok54 roid21 rfl ?_
  refine go1 tok (noK_ok _) rfl rfl rfl ?_
  repeat refine awp_seq ?_
  refine awp_condF rfl (awp_skip ?_)
  change AWp _ _ _ _ _ _ _
  repeat first | refine awp_seq ?_ | refine awp_region ?_
  iterate 3 refine go1 tok (noK_ok _) rfl rfl rfl ?_
  repeat refine awp_seq ?_
  refine awp_drawn mixed [(6, 2, z89)] rfl rfl rfl ?_
  refine dr_read (d := .ptr 0 0 0) rfl ?_ rfl ?_
  · repeat first | exact trivial | refine ⟨aop_aop tok rfl, ?_⟩
  refine dr_read (d := .str R21) rfl ?_ rfl ?_
  · repeat first | exact trivial | refine ⟨aop_aop tok rfl, ?_⟩
  refine dr_read (d := .int .i64 21) rfl ?_ rfl ?_
  · repeat first | exact trivial | refine ⟨aop_callL tok rfl rfl fnok55 (rkind21.acall _), ?_⟩
  refine dr_read (d := .ptr 0 0 1) rfl ?_ rfl ?_
  · repeat first | exact trivial | refine ⟨aop_aop tok rfl, ?_⟩
  refine dr_read (d := .bool c) rfl ?_ rfl ?_
  · repeat first | exact trivial | refine ⟨aop_aop tok rfl, ?_⟩
  refine dr_read (d := .agg (tyc c 0)) rfl ?_ rfl ?_
  · repeat first | exact trivial | refine ⟨aop_aop tok rfl, ?_⟩
  refine dr_alloc tok rfl rfl rfl rfl rfl ?_
  refine dr_chain (T := T) rfl rfl rfl rfl ?_ ?_ ?_ rfl ?_
  · repeat first | exact trivial | refine ⟨aop_aop tok rfl, ?_⟩
  · repeat first | exact trivial | refine ⟨aop_aop tok rfl, ?_⟩
  · repeat first | exact trivial | refine ⟨rfl, ?_⟩ | refine ⟨trivial, ?_⟩
  refine dr_end ?_ rfl ?_
  · repeat first | exact trivial | refine ⟨⟨_, rfl, rfl⟩, ?_⟩
  change AWp _ _ _ _ _ _ _
  repeat first | refine awp_seq ?_ | refine awp_region ?_ | refine awp_block ?_ | refine go1 tok (noK_ok _) rfl rfl rfl ?_ | refine awp_condT rfl ?_ | refine awp_condF rfl ?_ | refine awp_skip ?_ | dsimp only [thenQ]
  refine goCL tok rfl rfl rfl c_cref21f (rparse (f := f) N h) rfl ?_
  repeat first | refine awp_seq ?_ | refine awp_region ?_ | refine awp_block ?_ | refine go1 tok (noK_ok _) rfl rfl rfl ?_ | refine awp_condT rfl ?_ | refine awp_condF rfl ?_ | refine awp_skip ?_ | dsimp only [thenQ]
  exact awp_ret (end_ret rfl rfl rfl)
theorem rdec21e (N : Nat) {v : List UInt8} {f c : Bool} {r : Int} (h : F_cref21_Parse N v = some (r, false)) : PureOK prog 28 [.agg [.str R21, .bool c, .list (flatE byteE v) v.length f]] (.tuple [.agg z89, .bool false]) := by
  refine body1 (i := 0) tok func28 rfl rfl (by simp only [pureL, D.pure, flat_pure]; rfl) ?_
  repeat first | refine awp_seq ?_ | refine awp_region ?_
  iterate 3 refine go1 tok (noK_ok _) rfl rfl rfl ?_
  repeat first | refine awp_seq ?_ | refine awp_region ?_
  iterate 2 refine go1 tok (noK_ok _) rfl rfl rfl ?_
  refine goCL tok rfl rfl rfl fnok54 roid21 rfl ?_
  refine go1 tok (noK_ok _) rfl rfl rfl ?_
  repeat refine awp_seq ?_
  refine awp_condF rfl (awp_skip ?_)
  change AWp _ _ _ _ _ _ _
  repeat first | refine awp_seq ?_ | refine awp_region ?_
  iterate 3 refine go1 tok (noK_ok _) rfl rfl rfl ?_
  repeat refine awp_seq ?_
  refine awp_drawn mixed [(6, 2, z89)] rfl rfl rfl ?_
  refine dr_read (d := .ptr 0 0 0) rfl ?_ rfl ?_
  · repeat first | exact trivial | refine ⟨aop_aop tok rfl, ?_⟩
  refine dr_read (d := .str R21) rfl ?_ rfl ?_
  · repeat first | exact trivial | refine ⟨aop_aop tok rfl, ?_⟩
  refine dr_read (d := .int .i64 21) rfl ?_ rfl ?_
  · repeat first | exact trivial | refine ⟨aop_callL tok rfl rfl fnok55 (rkind21.acall _), ?_⟩
  refine dr_read (d := .ptr 0 0 1) rfl ?_ rfl ?_
  · repeat first | exact trivial | refine ⟨aop_aop tok rfl, ?_⟩
  refine dr_read (d := .bool c) rfl ?_ rfl ?_
  · repeat first | exact trivial | refine ⟨aop_aop tok rfl, ?_⟩
  refine dr_read (d := .agg (tyc c 0)) rfl ?_ rfl ?_
  · repeat first | exact trivial | refine ⟨aop_aop tok rfl, ?_⟩
  refine dr_alloc tok rfl rfl rfl rfl rfl ?_
  refine dr_chain (T := T) rfl rfl rfl rfl ?_ ?_ ?_ rfl ?_
  · repeat first | exact trivial | refine ⟨aop_aop tok rfl, ?_⟩
  · repeat first | exact trivial | refine ⟨aop_aop tok rfl, ?_⟩
  · repeat first | exact trivial | refine ⟨rfl, ?_⟩ | refine ⟨trivial, ?_⟩
  refine dr_end ?_ rfl ?_
  · repeat first | exact trivial | refine ⟨⟨_, rfl, rfl⟩, ?_⟩
  change AWp _ _ _ _ _ _ _
  repeat first | refine awp_seq ?_ | refine awp_region ?_ | refine awp_block ?_ | refine go1 tok (noK_ok _) rfl rfl rfl ?_ | refine awp_condT rfl ?_ | refine awp_condF rfl ?_ | refine awp_skip ?_ | dsimp only [thenQ]
  refine goCL tok rfl rfl rfl c_cref21f (rparse (f := f) N h) rfl ?_
  repeat first | refine awp_seq ?_ | refine awp_region ?_ | refine awp_block ?_ | refine go1 tok (noK_ok _) rfl rfl rfl ?_ | refine awp_condT rfl ?_ | refine awp_condF rfl ?_ | refine awp_skip ?_ | dsimp only [thenQ]
  exact awp_ret (end_ret rfl rfl rfl)
end Go.Proofs.Tryz
namespace Go.Proofs.Tryz
open Go Go.Fw
set_option maxHeartbeats 8000000
set_option maxRecDepth 100000
abbrev Ext := List UInt8 × Bool × List UInt8
abbrev extTC : TC := .pair .str (.pair .bool (.sl .byte))
theorem fnok24 : FnOk prog 24 := (c_extension_Find 0).1
theorem fnok25 : FnOk prog 25 := c_dispatch_ID.1
theorem fnok27 : FnOk prog 27 := (c_cref22_Find 0).1
theorem fnok26 : FnOk prog 26 := (fok_of (f := 26) (fn := f26) (by kernel_rfl)).2
theorem fnok28 : FnOk prog 28 := (fok_of (f := 28) (fn := f28) (by kernel_rfl)).2
theorem id21 : PureOK prog 25 [.int .i64 21] (.str R21) := by
  obtain ⟨hf, _, _, hC⟩ := c_dispatch_ID
  obtain ⟨w, h1, _, h3⟩ := hC (21 : Int) R21 rfl
  cases h1
  exact h3 _ rfl _ ⟨_, _, rfl, rfl, rfl⟩
theorem efind (N : Nat) {l : List Ext} {f : Bool} {s o v : List UInt8} {c b : Bool} (h : F_extension_Find N l s = some ((o, c, v), b)) : PureOK prog 24 [.list (TC.flat extTC l) l.length f, .str s] (.tuple [.agg [.str o, .bool c, .list (flatE byteE v) v.length false], .bool b]) := by
  obtain ⟨hf, _, _, hC⟩ := c_extension_Find N
  obtain ⟨w, h1, _, h3⟩ := hC (l, s) ((o, c, v), b) h
  cases h1
  exact h3 _ rfl _ ⟨_, _, rfl, ⟨f, rfl, fun h => by cases h⟩, _, _, rfl, rfl, rfl⟩
theorem rfind (N : Nat) {l : List Ext} {f : Bool} {s o v : List UInt8} {c b : Bool} (h : F_cref22_Find N l s = some ((o, c, v), b)) : PureOK prog 27 [.list (TC.flat extTC l) l.length f, .str s] (.tuple [.agg [.str o, .bool c, .list (flatE byteE v) v.length false], .bool b]) := by
  obtain ⟨hf, _, _, hC⟩ := c_cref22_Find N
  obtain ⟨w, h1, _, h3⟩ := hC (l, s) ((o, c, v), b) h
  cases h1
  exact h3 _ rfl _ ⟨_, _, rfl, ⟨f, rfl, fun h => by cases h⟩, _, _, rfl, rfl, rfl⟩
/-- the reference's Reason, given what is found and how that is decoded. -/
theorem rreason (N : Nat) {l : List Ext} {f f' b b' : Bool} {sr o v : List UInt8} {c : Bool} {t1 t2 t3 t4 t5 t6 r k : Int} {c' : Bool} (h : F_cref22_Find N l R21 = some ((o, c, v), b))
    (hd : PureOK prog 28 [.agg [.str o, .bool c, .list (flatE byteE v) v.length false]] (.tuple [.agg ((tyc c' r).set 0 (.int .i64 k)), .bool b'])) :
    PureOK prog 10 [.agg [.list (flatE byteE sr) sr.length f', .int .i64 t1, .int .i64 t2, .int .i64 t3, .int .i64 t4, .int .i64 t5, .int .i64 t6, .list (TC.flat extTC l) l.length f]] (.int .i64 r) := by
  refine body1 (i := 0) tok func10 rfl rfl (by simp only [pureL, D.pure, flat_pure]; rfl) ?_
  repeat first | refine awp_seq ?_ | refine awp_region ?_
  iterate 2 refine go1 tok (noK_ok _) rfl rfl rfl ?_
  repeat first | refine awp_seq ?_ | refine awp_region ?_
  iterate 2 refine go1 tok (noK_ok _) rfl rfl rfl ?_
  refine goCL tok rfl rfl rfl fnok27 (rfind (f := f) N h) rfl ?_
  iterate 6 refine go1 tok (noK_ok _) rfl rfl rfl ?_
  repeat first | refine awp_seq ?_ | refine awp_region ?_
  iterate 1 refine go1 tok (noK_ok _) rfl rfl rfl ?_
  refine goCL tok rfl rfl rfl fnok28 hd rfl ?_
  repeat first | refine awp_seq ?_ | refine awp_region ?_ | refine awp_block ?_ | refine go1 tok (noK_ok _) rfl rfl rfl ?_ | refine awp_condT rfl ?_ | refine awp_condF rfl ?_ | refine awp_skip ?_ | dsimp only [thenQ]
  exact awp_ret (end_ret rfl rfl rfl)
theorem ireason (N : Nat) {l : List Ext} {f f' b : Bool} {sr o v : List UInt8} {c : Bool} {t1 t2 t3 t4 t5 t6 r k e q : Int} {c' : Bool} (h : F_extension_Find N l R21 = some ((o, c, v), b))
    (hd : PureOK prog 26 [.agg [.str o, .bool c, .list (flatE byteE v) v.length false]] (.tuple [.agg ((tyc c' r).set 0 (.int .i64 k)), .agg [.int .i64 e, .int .i64 q]])) :
    PureOK prog 9 [.agg [.list (flatE byteE sr) sr.length f', .int .i64 t1, .int .i64 t2, .int .i64 t3, .int .i64 t4, .int .i64 t5, .int .i64 t6, .list (TC.flat extTC l) l.length f]] (.int .i64 (bif e != 0 then 0 else r)) := by
  refine body1 (i := 0) tok func9 rfl rfl (by simp only [pureL, D.pure, flat_pure]; rfl) ?_
  repeat first | refine awp_seq ?_ | refine awp_region ?_
  iterate 2 refine go1 tok (noK_ok _) rfl rfl rfl ?_
  repeat refine awp_seq ?_
  refine awp_drawn mixed [(7, 1, [.str [], .bool false, .list [] 0 true])] rfl rfl rfl ?_
  refine dr_read (d := .ptr 0 0 7) rfl ?_ rfl ?_
  · repeat first | exact trivial | refine ⟨aop_aop tok rfl, ?_⟩
  refine dr_read (d := .list (TC.flat extTC l) l.length f) rfl ?_ rfl ?_
  · repeat first | exact trivial | refine ⟨aop_aop tok rfl, ?_⟩
  refine dr_read (d := .str R21) rfl ?_ rfl ?_
  · repeat first | exact trivial | refine ⟨aop_callL tok rfl rfl fnok25 (id21.acall _), ?_⟩
  refine dr_read (d := .tuple [.agg [.str o, .bool c, .list (flatE byteE v) v.length false], .bool b]) rfl ?_ rfl ?_
  · repeat first | exact trivial | refine ⟨aop_callL tok rfl rfl fnok24 ((efind (f := f) N h).acall _), ?_⟩
  refine dr_read (d := .tuple [.agg [.str o, .bool c, .list (flatE byteE v) v.length false], .bool b]) rfl ?_ rfl ?_
  · repeat first | exact trivial | refine ⟨aop_aop tok rfl, ?_⟩
  refine dr_read (d := .agg [.str o, .bool c, .list (flatE byteE v) v.length false]) rfl ?_ rfl ?_
  · repeat first | exact trivial | refine ⟨aop_aop tok rfl, ?_⟩
  refine dr_read (d := .bool b) rfl ?_ rfl ?_
  · repeat first | exact trivial | refine ⟨aop_aop tok rfl, ?_⟩
  refine dr_alloc tok rfl rfl rfl rfl rfl ?_
  refine dr_chain (T := T) rfl rfl rfl rfl ?_ ?_ ?_ rfl ?_
  · repeat first | exact trivial | refine ⟨aop_aop tok rfl, ?_⟩
  · repeat first | exact trivial | refine ⟨aop_aop tok rfl, ?_⟩
  · repeat first | exact trivial | refine ⟨rfl, ?_⟩ | refine ⟨trivial, ?_⟩
  refine dr_read (d := .bool b) rfl ?_ rfl ?_
  · repeat first | exact trivial | refine ⟨aop_aop tok rfl, ?_⟩
  refine dr_end ?_ rfl ?_
  · repeat first | exact trivial | refine ⟨⟨_, rfl, rfl⟩, ?_⟩
  change AWp _ _ _ _ _ _ _
  repeat first | refine awp_seq ?_ | refine awp_region ?_
  refine go1 tok (noK_ok _) rfl rfl rfl ?_
  refine goCL tok rfl rfl rfl fnok26 hd rfl ?_
  iterate 7 refine go1 tok (noK_ok _) rfl rfl rfl ?_
  repeat first | refine awp_seq ?_ | refine awp_region ?_
  iterate 2 refine go1 tok (noK_ok _) rfl rfl rfl ?_
  cases he : (e != 0)
  · refine go1 (d := .bool false) tok (noK_ok _) rfl (by show some (D.bool (e != 0), _) = _; rw [he]) rfl ?_
    repeat first | refine awp_seq ?_ | refine awp_region ?_ | refine awp_block ?_ | refine go1 tok (noK_ok _) rfl rfl rfl ?_ | refine awp_condT rfl ?_ | refine awp_condF rfl ?_ | refine awp_skip ?_ | dsimp only [thenQ]
    exact awp_ret (end_ret rfl rfl rfl)
  · refine go1 (d := .bool true) tok (noK_ok _) rfl (by show some (D.bool (e != 0), _) = _; rw [he]) rfl ?_
    repeat first | refine awp_seq ?_ | refine awp_region ?_ | refine awp_block ?_ | refine go1 tok (noK_ok _) rfl rfl rfl ?_ | refine awp_condT rfl ?_ | refine awp_condF rfl ?_ | refine awp_skip ?_ | dsimp only [thenQ]
    exact awp_ret (end_ret rfl rfl rfl)
end Go.Proofs.Tryz
namespace Go.Proofs.Tryz
open Go Go.Fw
set_option maxHeartbeats 1000000
theorem cloneOwn {cs : List D} {n : Nat} {f : Bool} (hl : cs.length = n * 1) (hc : cs.all D.isCell = true) (hp : pureL cs = true) (hb : n * 1 ≤ limit) : OwnOK prog 22 [.list cs n f] cs n 1 := by
  have hp1 : (D.list cs n f).pure = true := by simp only [D.pure]; exact hp
  have hz : ∀ b : Bool, n = 0 → cs = [] := fun b h => by subst h; simpa using hl
  refine own_of_callG (by simp only [pureL, hp1]; rfl) hp ?_
  refine acall_gho tok func22 rfl (Nat.le_of_ble_eq_true rfl) ?_
  repeat first | refine awp_seq ?_ | refine awp_region ?_
  refine go1 tok (noK_ok' _) rfl rfl rfl ?_
  repeat first | refine awp_seq ?_ | refine awp_region ?_
  refine go1 tok (noK_ok' _) rfl rfl rfl ?_
  refine go_nilEq rfl rfl us_cl rfl rfl rfl (fun b hb0 => ?_)
  by_cases hn : n = 0
  · have hcs := hz true hn
    subst hn hcs
    cases b
    · refine awp_condF rfl (awp_skip ?_)
      repeat first | refine awp_seq ?_ | refine awp_region ?_
      repeat refine go1 tok (noK_ok' _) rfl rfl rfl ?_
      exact awp_ret ⟨.inr rfl, _, rfl, .sl 0 0 0 0 1 false, [.cells [] 0 0], ⟨0, 0, rfl, rfl⟩, fun B G w x hR hx => ⟨G, .refl G, hR.newObj, nil_own hx⟩⟩
    · refine awp_condT rfl ?_
      repeat first | refine awp_seq ?_ | refine awp_region ?_
      repeat refine go1 tok (noK_ok' _) rfl rfl rfl ?_
      exact awp_ret ⟨.inr rfl, _, rfl, .sl 0 0 0 0 1 false, [.cells [] 0 0], ⟨0, 0, rfl, rfl⟩, fun B G w x hR hx => ⟨G, .refl G, hR.newObj, nil_own hx⟩⟩
  · have hb1 : b = false := by
      cases b with
      | false => rfl
      | true => have := hb0 rfl; subst this; simp at hl; omega
    subst hb1
    refine awp_condF rfl (awp_skip ?_)
    repeat first | refine awp_seq ?_ | refine awp_region ?_
    iterate 2 refine go1 tok (noK_ok' _) rfl rfl rfl ?_
    refine goA tok rfl (app_new rfl rfl rfl (by omega) hl hc hb (by omega)) rfl ?_
    repeat refine go1 tok (noK_ok' _) rfl rfl rfl ?_
    exact awp_ret ⟨.inr rfl, _, rfl, _, _, ⟨0, 0, rfl, rfl⟩, .refl _ _⟩
end Go.Proofs.Tryz
