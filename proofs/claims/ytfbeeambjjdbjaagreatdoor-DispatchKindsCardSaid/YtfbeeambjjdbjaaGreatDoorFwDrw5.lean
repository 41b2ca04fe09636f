import Derived.Test.YtfbeeambjjdbjaaGreatDoorFwDrw4
namespace Go.Fw
open Go.RowKit

section
variable {fl : Bool} {P : Program} {N : Nat} {ops : Array Oper} {A : Res} {M : List Nat} {τ0 : Env} {s0 : Sto} {tab : List Rc} {S : List Sto} {C : List Nat} {τ : Env}

theorem count_false_set {l : List Bool} {i : Nat} (h : l[i]? = some false) : (l.set i true).count false + 1 = l.count false := by
  have hlt := lt_of_getElem? h
  rw [List.getElem?_eq_getElem hlt] at h
  have h := Option.some.inj h
  have hpos : 0 < l.count false := List.count_pos_iff.2 (by rw [← h]; exact List.getElem_mem _)
  rw [List.count_set hlt]
  simp [h]
  omega

theorem count_false_zero {l : List Bool} (h : l.count false = 0) (i : Nat) (hi : i < l.length) : l[i]? = some true := by
  rw [List.getElem?_eq_getElem hi]
  have := List.count_eq_zero.1 h
  cases hb : l[i] with
  | true => rfl
  | false => exact absurd (by rw [← hb]; exact List.getElem_mem _) this

/-- some operation can always go on. -/
theorem ready_some (hp : planOk ops M = true) {L : Array Bool} (hs : L.size = ops.size) : ∀ (n i : Nat), i ≤ n → L.getD i true = false → ∃ j, j ∈ Region.ready .any ops L := by
  intro n
  induction n with
  | zero =>
    intro i hi hL
    have : i = 0 := by omega
    subst this
    obtain ⟨hlt, _⟩ := getD_false_of hL
    refine ⟨0, mem_ready.2 ⟨hL, ops[0]'(by omega), Array.getElem?_eq_getElem (by omega), fun e he hb => ?_⟩⟩
    unfold planOk at hp
    simp only [Bool.and_eq_true] at hp
    have := ordOk_ok hp.1.2 (i := 0) (o := ops[0]'(by omega)) (by rw [Array.getElem?_toList]; exact Array.getElem?_eq_getElem (by omega)) e he hb
    omega
  | succ n ih =>
    intro i hi hL
    obtain ⟨hlt, _⟩ := getD_false_of hL
    by_cases hx : ∃ e ∈ (ops[i]'(by omega)).after, Region.binds .any e = true ∧ L.getD e.on false = false
    · obtain ⟨e, he, hb, hf⟩ := hx
      unfold planOk at hp
      simp only [Bool.and_eq_true] at hp
      have hlt' := ordOk_ok hp.1.2 (i := i) (o := ops[i]'(by omega)) (by rw [Array.getElem?_toList]; exact Array.getElem?_eq_getElem (by omega)) e he hb
      refine ih e.on (by omega) ?_
      have : e.on < L.size := by omega
      simp [Array.getD_eq_getD_getElem?, this] at hf ⊢
      exact hf
    · refine ⟨i, mem_ready.2 ⟨hL, ops[i]'(by omega), Array.getElem?_eq_getElem (by omega), fun e he hb => ?_⟩⟩
      cases hf : L.getD e.on false with
      | true => rfl
      | false => exact absurd ⟨e, he, hb, hf⟩ hx

theorem drawn_wp (hT : TabOk P N ops A M τ0 s0 tab S C τ) (hM : masks ops.toList [] = M) (hp : planOk ops M = true) (hlen : tab.length = ops.size)
    (hal : ∀ x ∈ A, ∃ r : Rc, tab[x.1]? = some r ∧ r.kd = .alloc x.2.1 x.2.2) (hinj : ∀ x ∈ A, ∀ y ∈ A, x.2.1 = y.2.1 → x.1 = y.1)
    {B : Base} {G0 : Gh} {Q : AEx → Env → Sto → Prop} {σ : Sto} (hlast : S.getLast? = some σ) (hQ : Q .normal τ σ) :
    ∀ (fuel : Nat) (L : Array Bool) (a : Act) (w : World), L.toList.count false ≤ fuel → Inv fl ops A τ0 tab S C N B G0 L a w → wpAny P .any ops (liftQ fl B G0 N Q) fuel L a w := by
  have fin : ∀ (L : Array Bool) (a : Act) (w : World), Inv fl ops A τ0 tab S C N B G0 L a w → Region.ready .any ops L = [] → liftQ fl B G0 N Q .normal a w := by
    intro L a w hI hr
    have hL : ∀ i, i < L.size → L.getD i false = true := by
      intro i hi
      cases hb : L.getD i false with
      | true => rfl
      | false =>
        have : L.getD i true = false := by
          simp [Array.getD_eq_getD_getElem?, hi] at hb ⊢
          exact hb
        obtain ⟨j, hj⟩ := ready_some hp hI.size i i (Nat.le_refl _) this
        rw [hr] at hj; cases hj
    obtain ⟨G, k, σ', h0, hS, hC, hR, hsz, hdf, hnew, hold⟩ := hI.st
    have hk : k = C.length := by
      have h1 : k < S.length := lt_of_getElem? hS
      rw [hT.slen] at h1
      rcases Nat.lt_or_ge k C.length with h2 | h2
      · exfalso
        obtain ⟨c, hc⟩ : ∃ c, C[k]? = some c := ⟨C[k], List.getElem?_eq_getElem h2⟩
        obtain ⟨rc, hrc, _⟩ := hT.ch k c hc
        have hlt := lt_of_getElem? hrc
        have := (hC k c hc).1 (hL c (by rw [hI.size, ← hlen]; exact hlt))
        omega
      · omega
    have hσ : σ' = σ := by
      rw [List.getLast?_eq_getElem?, hT.slen] at hlast
      subst hk
      have hlast' : S[C.length]? = some σ := hlast
      rw [hS] at hlast'; exact Option.some.inj hlast'
    subst hσ
    have hh : hide (hidden L A) σ' = σ' := by
      rw [hide_congr (ls' := []) ?_]
      · rfl
      · intro x
        simp only [mem_hidden, List.not_mem_nil, iff_false]
        rintro ⟨y, hy, hf, _⟩
        obtain ⟨r, hr', _⟩ := hal y hy
        have hlt := lt_of_getElem? hr'
        rw [hL y.1 (by rw [hI.size, ← hlen]; exact hlt)] at hf; cases hf
    rw [hh] at hR
    refine ⟨G, τ, σ', h0, hR, ⟨hsz, hdf, fun t d hg => ?_⟩, hQ⟩
    rcases hT.fin t d hg with ⟨j, rj, hj, hrj, hdj, rfl⟩ | ⟨hno, hg0⟩
    · exact hnew j rj t hrj (hL j (by rw [hI.size, ← hlen]; exact hj)) hdj
    · exact hold t d hg0 fun j rj hrj _ => hno j rj (lt_of_getElem? hrj) hrj
  intro fuel
  induction fuel with
  | zero =>
    intro L a w hc hI
    have hr : Region.ready .any ops L = [] := by
      rw [List.eq_nil_iff_forall_not_mem]
      intro i hi
      obtain ⟨hun, _⟩ := mem_ready.1 hi
      obtain ⟨hlt, hf⟩ := getD_false_of hun
      have := count_false_zero (Nat.le_zero.1 hc) i (by simpa using hlt)
      simp [Array.getD_eq_getD_getElem?, hlt] at hf
      simp [hlt, hf] at this
    exact ⟨hr, fin L a w hI hr⟩
  | succ fuel ih =>
    intro L a w hc hI
    refine ⟨fun hr => fin L a w hI hr, fun i hi => ?_⟩
    refine drawn_step hT hM hp hlen hal hinj hI hi fun a' w' hI' => ih _ a' w' ?_ hI'
    obtain ⟨hun, _⟩ := mem_ready.1 hi
    obtain ⟨hlt, hf⟩ := getD_false_of hun
    have h1 : L.toList[i]? = some false := by
      simp [Array.getD_eq_getD_getElem?, hlt] at hf
      simp [hlt, hf]
    have := count_false_set h1
    rw [Array.toList_setIfInBounds]
    omega
end

/-- a region that draws its order. -/
theorem awp_drawn {fl : Bool} {P : Program} {N : Nat} {τ : Env} {σ : Sto} {id : Nat} {ops : Array Oper} {Q : AEx → Env → Sto → Prop} (hm : P.follows .mixedOrders = true) (A : Res) {M : List Nat}
    (hM : masks ops.toList [] = M) (hp : planOk ops M = true) (hA : A.map (·.2.1) = List.range' σ.length A.length)
    (h : ADr P N ops A M ops.toList 0 τ [σ ++ A.map fun x => AObj.cells x.2.2 0 0] [] [] (fun τ' σ' => Q .normal τ' σ')) : AWp fl P N (.region id ops true) τ σ Q := by
  intro B G w a hR hT
  have hget : ∀ x ∈ A, (σ ++ A.map fun x => AObj.cells x.2.2 0 0)[x.2.1]? = some (.cells x.2.2 0 0) ∧ ∃ n, A[n]? = some x ∧ x.2.1 = σ.length + n := by
    intro x hx
    obtain ⟨n, hn⟩ := List.getElem?_of_mem hx
    have h1 : (A.map (·.2.1))[n]? = some x.2.1 := by simp [hn]
    rw [hA] at h1
    have hlt := lt_of_getElem? hn
    rw [List.getElem?_range' hlt] at h1
    simp at h1
    refine ⟨?_, n, hn, h1.symm⟩
    rw [← h1, List.getElem?_append_right (by omega)]
    simp [hn]
  have hinj : ∀ x ∈ A, ∀ y ∈ A, x.2.1 = y.2.1 → x.1 = y.1 := by
    intro x hx y hy e
    obtain ⟨_, n, hn, h1⟩ := hget x hx
    obtain ⟨_, m, hm', h2⟩ := hget y hy
    have : n = m := by omega
    subst this
    rw [hn] at hm'; cases hm'; rfl
  obtain ⟨tab', S', C', τ', σ', hlen, hTab, hlast, hK, hal⟩ := adr_tab (τ0 := τ) (s0 := σ ++ A.map fun x => AObj.cells x.2.2 0 0) ops.toList τ _ [] [] [] (by simp) rfl ⟨fun i r h => by simp at h, rfl, rfl, fun k c h => by simp at h,
    fun x hx k s hs _ => by
      have : s = σ ++ A.map fun x => AObj.cells x.2.2 0 0 := by
        cases k with
        | zero => simp at hs; exact hs.symm
        | succ k => simp at hs
      subst this
      exact (hget x hx).1, fun i r h => by simp at h, fun t d hg => .inr ⟨fun j rj hj _ => absurd hj (Nat.not_lt_zero _), hg⟩, fun i r t h => by simp at h⟩ h
  refine wp_region_any hm (drawn_wp hTab hM hp hlen hal hinj hlast hK ops.size _ a _ (by simp) ⟨by simp, fun j oj hoj hL => ?_, ?_⟩)
  · exfalso
    rcases Nat.lt_or_ge j ops.size with h' | h'
    · simp [Array.getD_eq_getD_getElem?, h'] at hL
    · simp [Array.getD_eq_getD_getElem?, h'] at hL
  · have hrep : ∀ j, (Array.replicate ops.size false).getD j false = false := by
      intro j
      rcases Nat.lt_or_ge j ops.size with h' | h'
      · simp [Array.getD_eq_getD_getElem?, h']
      · simp [Array.getD_eq_getD_getElem?, h']
    refine ⟨G, 0, _, .refl G, hTab.hd, fun k' c hc => ?_, ?_, hT.size, hT.defers, fun i r t _ hL _ => ?_, fun t d hg _ => hT.slot t d hg⟩
    · rw [hrep c]; simp
    · have : hide (hidden (Array.replicate ops.size false) A) (σ ++ A.map fun x => AObj.cells x.2.2 0 0) = σ ++ List.replicate A.length .dead := by
        refine sto_ext fun x => ?_
        rw [hide_get]
        have hin : x ∈ hidden (Array.replicate ops.size false) A ↔ (σ.length ≤ x ∧ x < σ.length + A.length) := by
          rw [mem_hidden]
          constructor
          · rintro ⟨y, hy, _, rfl⟩
            obtain ⟨_, n, hn, h1⟩ := hget y hy
            have := lt_of_getElem? hn
            omega
          · rintro ⟨h1, h2⟩
            have hlt : x - σ.length < A.length := by omega
            refine ⟨A[x - σ.length], List.getElem_mem _, hrep _, ?_⟩
            obtain ⟨_, n, hn, h3⟩ := hget _ (List.getElem_mem hlt)
            have h4 : (A.map (·.2.1))[x - σ.length]? = some (A[x - σ.length]).2.1 := by simp [hlt]
            rw [hA, List.getElem?_range' hlt] at h4
            simp at h4
            omega
        by_cases hx : σ.length ≤ x ∧ x < σ.length + A.length
        · rw [if_pos ⟨hin.2 hx, by simp; exact hx.2⟩, List.getElem?_append_right hx.1, List.getElem?_replicate, if_pos (by omega)]
        · rw [if_neg (fun h => hx (hin.1 h.1))]
          rcases Nat.lt_or_ge x σ.length with h' | h'
          · rw [List.getElem?_append_left h', List.getElem?_append_left h']
          · rw [List.getElem?_eq_none (by simp; omega), List.getElem?_eq_none (by simp; omega)]
      rw [this]
      exact (hR.dead _).drawn
    · rw [hrep i] at hL; cases hL
end Go.Fw
