import Derived.Test.YtfbeeambjjdbjaaGreatDoorFwKD
import Derived.Test.YtfbeeambjjdbjaaGreatDoorFwGc
namespace Go.Fw
open Go.RowKit

section
variable {P : Program} {N : Nat} {all : Array Oper} {o : Oper} {r : List Oper} {τ τ' : Env} {σ σ' : Sto} {Kt : Env → Sto → Prop}

theorem go_nextM {it : Operand} {t l : Nat} {ks vs : List D} {rem : List Nat} {cur : Option Nat} (h1 : wantD all τ o = some true) (ho : o.op = .next it false) (hit : ev τ it = some (.ptr l 0 0)) (hl : σ[l]? = some (.miter ks vs rem cur))
    (hd : o.dst = some t) (ht : Nat.blt t N = true) (hend : rem = [] → AOps P N all r ((t, .tuple [.bool false]) :: τ) σ Kt)
    (hgo : ∀ i a b, i ∈ rem → ks[i]? = some a → vs[i]? = some b → AOps P N all r ((t, .tuple [.bool true, a, b]) :: τ) (σ.set l (.miter ks vs (rem.filter (· != i)) (some i))) Kt) : AOps P N all (o :: r) τ σ Kt := by
  have hp : ∀ d, putD N o.dst d τ = some ((t, d) :: τ) := fun d => by
    unfold putD; rw [hd]; simp only; exact if_pos (Nat.le_of_ble_eq_true ht)
  refine .inl ⟨h1, (aop_nextM ho hit hl).mono ?_⟩
  rintro d s (⟨h1, rfl, rfl⟩ | ⟨i, a, b, h1, h2, h3, rfl, rfl⟩)
  · exact ⟨_, hp _, hend h1⟩
  · exact ⟨_, hp _, hgo i a b h1 h2 h3⟩

theorem entry_E {T : Tys} {K : FuncId → List D → Option D} {it : Operand} {l i : Nat} {ks vs : List D} {rem : List Nat} {a b : D} (hit : ev τ it = some (.ptr l 0 0)) (hl : σ[l]? = some (.miter ks vs rem (some i)))
    (ha : ks[i]? = some a) (hb : vs[i]? = some b) : opE T K τ σ (.entry it) = some (.tuple [a, b], σ) := by
  simp [opE, aop, oEntry, hit, entryD, hl, ha, hb]

theorem goC {T : Tys} (tok : TOk T P) {c : Call} {f : FuncId} {ds ds' : List D} {d : D} (h1 : wantD all τ o = some true) (ho : o.op = .call c) (hc : callD T τ c = some (f, ds)) (hz : frzCs σ ds = some (ds', σ'))
    (hf : FnOk P f) (h : PureOK P f ds' d) (h3 : putD N o.dst d τ = some τ') (h4 : AOps P N all r τ' σ' Kt) : AOps P N all (o :: r) τ σ Kt :=
  .inl ⟨h1, (aop_call tok ho hc hz hf (h.acall _)).mono (by rintro d' s ⟨rfl, rfl⟩; exact ⟨τ', h3, h4⟩)⟩
end
end Go.Fw

namespace Go.Proofs.Tryz
open Go Go.Fw
set_option maxHeartbeats 1000000
theorem fnok13 : FnOk prog 13 := (fok_of (f := 13) (fn := f13) (by kernel_rfl)).2

def kindIds : List (List UInt8) := kindsV.map fun d => match d with | .agg (.str s :: _) => s | _ => []
def kindNos : List Int := kindsK.map fun d => match d with | .int _ n => n | _ => 0
/-- the number of a kind, by its object identifier. -/
def kindGo (s : List UInt8) : List (List UInt8) → List Int → Int
  | i :: is, n :: ns => if i = s then n else kindGo s is ns
  | _, _ => 0
def kindOf (s : List UInt8) : Int := if s = [] then 0 else kindGo s kindIds kindNos
def hit (s : List UInt8) (i : Nat) : Bool := decide (kindIds[i]? = some s) && decide (s ≠ [])

def KI (s : List UInt8) (n : Nat) (τ : Env) (σ : Sto) : Prop := ∃ l rem cur, get τ 0 = some (.str s) ∧ get τ 6 = some (.ptr l 0 0) ∧ σ[l]? = some (.miter kindsK kindsV rem cur) ∧
  rem.length = n ∧ (∀ i, i < 24 → i ∉ rem → hit s i = false) ∧ (∀ i ∈ rem, i < 24)

def formAt (i : Nat) : Bool :=
  match kindsK[i]?, kindsV[i]?, kindIds[i]?, kindNos[i]? with
  | some (.int .i64 k), some (.agg [.str id, .str _, .iface _ _]), some id', some k' => decide (id = id') && decide (k = k') && decide (kindGo id kindIds kindNos = k)
  | _, _, _, _ => false
theorem form_all : (List.range 24).all formAt = true := by kernel_rfl
theorem form_of {i : Nat} (hi : i < 24) {a b : D} (ha : kindsK[i]? = some a) (hb : kindsV[i]? = some b) :
    ∃ k id nm ct cv, a = .int .i64 k ∧ b = .agg [.str id, .str nm, .iface ct cv] ∧ kindIds[i]? = some id ∧ kindNos[i]? = some k ∧ kindGo id kindIds kindNos = k := by
  have h := List.all_eq_true.1 form_all i (List.mem_range.2 hi)
  unfold formAt at h
  rw [ha, hb] at h
  split at h
  · rename_i k id nm ct cv id' k' h1 h2 h3 h4
    cases h1; cases h2
    simp only [Bool.and_eq_true, decide_eq_true_eq] at h
    obtain ⟨⟨rfl, rfl⟩, h5⟩ := h
    exact ⟨_, _, _, _, _, rfl, rfl, h3, h4, h5⟩
  · cases h

theorem go_zero (s : List UInt8) : ∀ (is : List (List UInt8)) (ns : List Int), (∀ (i : Nat), is[i]? ≠ some s) → kindGo s is ns = 0
  | [], _, _ => rfl
  | i :: is, [], _ => rfl
  | i :: is, n :: ns, h => by
    have h0 : i ≠ s := fun e => h 0 (by simp [e])
    simp only [kindGo, h0, if_false]
    exact go_zero s is ns fun j hj => h (j + 1) (by simpa using hj)

theorem len_ids : kindIds.length = 24 := by kernel_rfl

theorem kround {s id : List UInt8} {n i : Nat} {rem : List Nat} {τ : Env} {σ : Sto} (hn : rem.length = n) (hno : ∀ i, i < 24 → i ∉ rem → hit s i = false) (hlt : ∀ i ∈ rem, i < 24) (hi : i ∈ rem)
    (hid : kindIds[i]? = some id) (hh : hit s i = false) (h0 : Go.Fw.get τ 0 = some (.str s)) (h6 : Go.Fw.get τ 6 = some (.ptr 0 0 0)) (hl : σ[0]? = some (.miter kindsK kindsV (rem.filter (· != i)) (some i))) :
    ∃ m, m < n ∧ KI s m τ σ := by
  refine ⟨(rem.filter (· != i)).length, ?_, 0, _, _, h0, h6, hl, rfl, fun j hj hnj => ?_, fun j hj => hlt j (List.mem_filter.1 hj).1⟩
  · rw [← hn]
    exact List.length_filter_lt_length_iff_exists.2 ⟨i, hi, by simp⟩
  · by_cases e : j = i
    · subst e; exact hh
    · exact hno j hj fun hm => hnj (List.mem_filter.2 ⟨hm, by simpa using e⟩)

theorem kind_ok (s : List UInt8) : PureOK prog 6 [.str s] (.int .i64 (kindOf s)) := by
  refine body1 (i := true) tok func6 rfl rfl rfl ?_
  repeat first | refine awp_seq ?_ | refine awp_region ?_
  refine go1 tok (noK_ok _) rfl rfl rfl ?_
  repeat first | refine awp_seq ?_ | refine awp_region ?_
  refine goC tok rfl rfl rfl rfl fnok13 kinds_ok rfl ?_
  refine go1 tok (noK_ok _) rfl rfl rfl ?_
  repeat first | refine awp_seq ?_ | refine awp_region ?_ | refine awp_block ?_
  refine awp_loop (KI s) (n := 24) ⟨0, List.range 24, none, rfl, rfl, rfl, rfl, fun i hi hn => absurd (List.mem_range.2 hi) hn, fun i hi => List.mem_range.1 hi⟩ ?_
  rintro n τ σ ⟨l, rem, cur, h0, h6, hl, hn, hno, hlt⟩
  refine AWp.gc [l] (by simp) (σ' := [.miter kindsK kindsV rem cur]) (τ' := [(6, .ptr 0 0 0), (0, .str s)]) rfl ?_ ?_ ?_
  · intro j l' ob hj hob
    match j, hj, hob with
    | 0, hj, hob =>
      simp at hj hob
      subst hj hob
      exact ⟨hl, by kernel_rfl⟩
    | j + 1, hj, _ => simp at hj
  · intro t d hg
    simp only [Go.Fw.get] at hg
    split at hg
    · rename_i e; subst e; cases hg; exact ⟨h6, rfl⟩
    · split at hg
      · rename_i e; subst e; cases hg; exact ⟨h0, rfl⟩
      · cases hg
  repeat first | refine awp_seq ?_ | refine awp_region ?_
  refine go_nextM rfl rfl rfl rfl rfl rfl (fun hrem => ?_) (fun i a b hi ha hb => ?_)
  · refine go1 tok (noK_ok _) rfl rfl rfl ?_
    refine awp_seq (awp_condF rfl (awp_exit ?_))
    repeat first | refine awp_seq ?_ | refine awp_region ?_
    refine go1 tok (noK_ok _) rfl rfl rfl ?_
    subst hrem
    have h0 : kindOf s = 0 := by
      unfold kindOf
      split
      · rfl
      · rename_i hs
        refine go_zero s _ _ fun i hi => ?_
        have hlt' : i < 24 := by rw [← len_ids]; exact lt_of_getElem? hi
        have := hno i hlt' (by simp)
        simp [hit, hi, hs] at this
    rw [h0]
    exact awp_ret (end_ret rfl rfl rfl)
  · have hi24 := hlt i hi
    refine go1 tok (noK_ok _) rfl rfl rfl ?_
    refine awp_seq (awp_condT rfl (awp_skip ?_))
    refine awp_block ?_
    have hform : ∃ k id nm ct cv, a = .int .i64 k ∧ b = .agg [.str id, .str nm, .iface ct cv] ∧ kindIds[i]? = some id ∧ kindNos[i]? = some k ∧ kindGo id kindIds kindNos = k := form_of hi24 ha hb
    obtain ⟨k, id, nm, ct, cv, rfl, rfl, hid, hno', hgo⟩ := hform
    repeat first | refine awp_seq ?_ | refine awp_region ?_
    refine go1 tok (noK_ok _) rfl (entry_E rfl rfl ha hb) rfl ?_
    repeat refine go1 tok (noK_ok _) rfl rfl rfl ?_
    repeat first | refine awp_seq ?_ | refine awp_region ?_
    iterate 5 refine go1 tok (noK_ok _) rfl rfl rfl ?_
    cases hc : (id == s)
    · have hc' : id ≠ s := by simpa using hc
      refine no1 rfl rfl ?_
      refine no1 rfl rfl ?_
      refine go1 tok (noK_ok _) rfl rfl rfl ?_
      refine awp_condF rfl (awp_skip ?_)
      exact kround hn hno hlt hi hid (by simp [hit, hid, hc']) rfl rfl rfl
    · refine go1 tok (noK_ok _) rfl rfl rfl ?_
      refine go1 tok (noK_ok _) rfl rfl rfl ?_
      cases he : (s == (⟨#[]⟩ : ByteArray).data.toList)
      · refine go1 tok (noK_ok _) rfl rfl rfl ?_
        refine awp_condT rfl ?_
        repeat first | refine awp_seq ?_ | refine awp_region ?_
        repeat refine go1 tok (noK_ok _) rfl rfl rfl ?_
        have hk : kindOf s = k := by
          have e : id = s := by simpa using hc
          subst e
          unfold kindOf
          rw [if_neg (fun h => by subst h; cases he), hgo]
        rw [hk]
        exact awp_ret (end_ret rfl rfl rfl)
      · refine go1 tok (noK_ok _) rfl rfl rfl ?_
        refine awp_condF rfl (awp_skip ?_)
        exact kround hn hno hlt hi hid (by simp at he; simp [hit, he]) rfl rfl rfl
end Go.Proofs.Tryz
