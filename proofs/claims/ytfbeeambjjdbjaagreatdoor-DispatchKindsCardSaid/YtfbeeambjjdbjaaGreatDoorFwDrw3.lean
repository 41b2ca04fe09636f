import Derived.Test.YtfbeeambjjdbjaaGreatDoorFwDrw2
namespace Go.Fw
open Go.RowKit

def mLt : List Nat → Nat → Bool
  | [], _ => true
  | m :: r, i => Nat.blt m (Nat.pow 2 i) && mLt r (i + 1)

def ordOk : List Oper → Nat → Bool
  | [], _ => true
  | o :: r, i => (o.after.toList.all fun e => !Region.binds .any e || Nat.blt e.on i) && ordOk r (i + 1)

def slotOk (M : List Nat) (ops : Array Oper) (i : Nat) (o : Oper) : Nat → List Oper → Bool
  | _, [] => true
  | j, p :: r => (match p.dst with
      | none => true
      | some t => Nat.beq i j || ((!(o.looksAt ops).contains t || Nat.testBit (M.getD i 0) j || Nat.testBit (M.getD j 0) i) && !(o.dst == some t))) && slotOk M ops i o (j + 1) r

def slotsOk (M : List Nat) (ops : Array Oper) : Nat → List Oper → Bool
  | _, [] => true
  | i, o :: r => slotOk M ops i o 0 ops.toList && slotsOk M ops (i + 1) r

def planOk (ops : Array Oper) (M : List Nat) : Bool := mLt M 0 && ordOk ops.toList 0 && slotsOk M ops 0 ops.toList

theorem mLt_ok : ∀ {M : List Nat} {i0 i m : Nat}, mLt M i0 = true → M[i]? = some m → m < 2 ^ (i0 + i)
  | [], _, _, _, _, h => by simp at h
  | x :: M, i0, 0, m, h, hm => by
    simp at hm; subst hm
    simp only [mLt, Bool.and_eq_true] at h
    exact Nat.le_of_ble_eq_true h.1
  | x :: M, i0, i + 1, m, h, hm => by
    simp only [mLt, Bool.and_eq_true] at h
    have := mLt_ok h.2 (by simpa using hm)
    rwa [show i0 + (i + 1) = i0 + 1 + i by omega]

theorem ordOk_ok : ∀ {l : List Oper} {i0 i : Nat} {o : Oper}, ordOk l i0 = true → l[i]? = some o → ∀ e ∈ o.after, Region.binds .any e = true → e.on < i0 + i
  | [], _, _, _, _, h => by simp at h
  | x :: l, i0, 0, o, h, ho => by
    simp at ho; subst ho
    simp only [ordOk, Bool.and_eq_true, List.all_eq_true, Bool.or_eq_true, Bool.not_eq_true'] at h
    intro e he hb
    rcases h.1 e (by simpa using he) with h1 | h1
    · rw [hb] at h1; cases h1
    · exact Nat.le_of_ble_eq_true h1
  | x :: l, i0, i + 1, o, h, ho => by
    simp only [ordOk, Bool.and_eq_true] at h
    have := ordOk_ok h.2 (by simpa using ho)
    intro e he hb
    have := this e he hb
    omega

theorem slotOk_ok {M : List Nat} {ops : Array Oper} {i : Nat} {o : Oper} : ∀ {l : List Oper} {j0 j : Nat} {p : Oper} {t : Nat}, slotOk M ops i o j0 l = true → l[j]? = some p → p.dst = some t → i ≠ j0 + j →
    ((o.looksAt ops).contains t = true → Nat.testBit (M.getD i 0) (j0 + j) = true ∨ Nat.testBit (M.getD (j0 + j) 0) i = true) ∧ o.dst ≠ some t
  | [], _, _, _, _, _, h, _, _ => by simp at h
  | x :: l, j0, 0, p, t, h, hp, hd, hne => by
    simp at hp; subst hp
    simp only [slotOk, hd, Bool.and_eq_true, Bool.or_eq_true, Bool.not_eq_true'] at h
    rcases h.1 with h1 | ⟨h1, h2⟩
    · exact absurd (Nat.eq_of_beq_eq_true h1) hne
    · refine ⟨fun hc => ?_, by simpa using h2⟩
      rcases h1 with (h1 | h1) | h1
      · rw [hc] at h1; cases h1
      · exact .inl h1
      · exact .inr h1
  | x :: l, j0, j + 1, p, t, h, hp, hd, hne => by
    simp only [slotOk, Bool.and_eq_true] at h
    rw [show j0 + (j + 1) = j0 + 1 + j by omega] at hne ⊢
    exact slotOk_ok h.2 (by simpa using hp) hd hne

theorem slotsOk_ok {M : List Nat} {ops : Array Oper} : ∀ {l : List Oper} {i0 i : Nat} {o : Oper}, slotsOk M ops i0 l = true → l[i]? = some o → slotOk M ops (i0 + i) o 0 ops.toList = true
  | [], _, _, _, _, h => by simp at h
  | x :: l, i0, 0, o, h, ho => by
    simp at ho; subst ho
    simp only [slotsOk, Bool.and_eq_true] at h
    exact h.1
  | x :: l, i0, i + 1, o, h, ho => by
    simp only [slotsOk, Bool.and_eq_true] at h
    rw [show i0 + (i + 1) = i0 + 1 + i by omega]
    exact slotsOk_ok h.2 (by simpa using ho)

theorem mem_hidden {L : Array Bool} {y : Nat} : ∀ {A : Res}, y ∈ hidden L A ↔ ∃ x ∈ A, L.getD x.1 false = false ∧ x.2.1 = y
  | [] => by simp [hidden]
  | (j, l, cs) :: A => by
    simp only [hidden]
    cases hL : L.getD j false <;> simp only [List.mem_cons, mem_hidden (A := A)]
    · constructor
      · rintro (rfl | ⟨x, h1, h2⟩)
        · exact ⟨_, .inl rfl, hL, rfl⟩
        · exact ⟨x, .inr h1, h2⟩
      · rintro ⟨x, rfl | h1, h2, h3⟩
        · exact .inl h3.symm
        · exact .inr ⟨x, h1, h2, h3⟩
    · constructor
      · rintro ⟨x, h1, h2⟩
        exact ⟨x, .inr h1, h2⟩
      · rintro ⟨x, rfl | h1, h2, h3⟩
        · rw [hL] at h2; cases h2
        · exact ⟨x, h1, h2, h3⟩

theorem sto_ext {σ σ' : Sto} (h : ∀ x : Nat, σ[x]? = σ'[x]?) : σ = σ' := List.ext_getElem? h

theorem hide_congr {ls ls' : List Nat} {σ : Sto} (h : ∀ x, x ∈ ls ↔ x ∈ ls') : hide ls σ = hide ls' σ :=
  sto_ext fun x => by simp only [hide_get, h x]

theorem hide_set {ls ls' : List Nat} {σ : Sto} {l : Nat} {ob : AObj} (h : ∀ x, x ∈ ls' ↔ (x ∈ ls ∧ x ≠ l)) (hl : σ[l]? = some ob) : (hide ls σ).set l ob = hide ls' σ := by
  refine sto_ext fun x => ?_
  simp only [List.getElem?_set, hide_len, hide_get, h x]
  by_cases e : l = x
  · subst e
    have := lt_of_getElem? hl
    rw [List.getElem?_eq_getElem this] at hl
    simp [this, Option.some.inj hl]
  · have e' : x ≠ l := fun h => e h.symm
    simp [e, e']

theorem Rel.drawn {B : Base} {G : Gh} {σ : Sto} {w : World} (h : Rel B G σ w) : Rel B G σ { w with drawn := w.drawn + 1 } := h.drew

theorem Rel.dead {B : Base} {G : Gh} {σ : Sto} {w : World} (h : Rel B G σ w) (n : Nat) : Rel B G (σ ++ List.replicate n .dead) w := by
  have hg : ∀ (l : Nat) (ob : AObj), (σ ++ List.replicate n AObj.dead)[l]? = some ob → σ[l]? = some ob ∨ (σ.length ≤ l ∧ ob = .dead) := by
    intro l ob hl
    rcases Nat.lt_or_ge l σ.length with h' | h'
    · rw [List.getElem?_append_left h'] at hl; exact .inl hl
    · rw [List.getElem?_append_right h', List.getElem?_replicate] at hl
      split at hl
      · cases hl; exact .inr ⟨h', rfl⟩
      · cases hl
  have hn : ∀ l u b, G.blk l u = some b → ¬ σ.length ≤ l := fun l u b hb hle => absurd (h.blk l u b hb).1 (by omega)
  refine ⟨h.below, h.imm, h.mimm, h.siz, fun l u b hb => ?_, h.inj, fun l ob b ho hb => ?_, fun l cs frz u b ho hb => ?_, fun l ks vs b ho hb => ?_, fun l ob ho => ?_, fun l ob ho => ?_, h.bimm, h.bmimm⟩
  · obtain ⟨h1, h2⟩ := h.blk l u b hb
    exact ⟨by simp; omega, h2⟩
  · rcases hg l ob ho with h' | ⟨hle, rfl⟩
    · exact h.obj l ob b h' hb
    · exact absurd hle (hn _ _ _ hb)
  · rcases hg l _ ho with h' | ⟨hle, h2⟩
    · exact h.own l cs frz u b h' hb
    · cases h2
  · rcases hg l _ ho with h' | ⟨hle, h2⟩
    · exact h.ownm l ks vs b h' hb
    · cases h2
  · rcases hg l ob ho with h' | ⟨hle, rfl⟩
    · exact h.ver l ob h'
    · exact ⟨Nat.le_refl _, fun u b hb => absurd hle (hn _ _ _ hb)⟩
  · rcases hg l ob ho with h' | ⟨hle, rfl⟩
    · exact h.frzle l ob h'
    · exact Nat.le_refl _

/-- An object that was kept back comes to be. -/
theorem alloc_at {P : Program} {B : Base} {G : Gh} {σ : Sto} {w : World} (hR : Rel B G σ w) {l : Nat} (hl : σ[l]? = some .dead) {t : TypeId} {cs : List D} (h : tyZero P t = some cs) :
    ∃ w' G' v, (Instr.alloc t true (.tuple #[])).run P w = .ok v w' ∧ G.Le G' ∧ Rel B G' (σ.set l (.cells cs 0 0)) w' ∧ Rep G' (.ptr l 0 0) v := by
  obtain ⟨i, v, hi, hv, hz⟩ := tyZero_inv h
  have hlt := lt_of_getElem? hl
  have hver := (hR.ver l .dead hl).2
  have hf : G.blk l 0 = none := by
    cases hb : G.blk l 0 with
    | none => rfl
    | some b => exact (hR.obj l .dead b hl hb).elim
  obtain ⟨h1, h2⟩ := hR.bindCells (l := l) (u := 0) (frz := 0) (cs := cs) (σ' := σ.set l (.cells cs 0 0)) t (by simp) (fun l' hl' => by rw [List.getElem?_set_ne (Ne.symm hl')])
    (by simp [hlt]) hf ⟨Nat.zero_le _, fun u' b hb => hver u' b hb⟩ (Nat.zero_le _) (c := v.cells) (hd := v.cells.toList) (tl := []) (by simp) (cDs_rep G hz)
  refine ⟨_, _, .pointer (some ⟨w.heap.size, 0, none⟩), ?_, h1, h2, ?_⟩
  · unfold Instr.alloc
    simp only [zeroValue, typeInfo, Sem.run_bind, run_program, Result.andThen_ok, hi, Sem.run_pure, hv, newVar, newRow, run_newObj]
    rfl
  · simp only [Rep]; exact ⟨w.heap.size, by simp [Gh.bind], rfl⟩
end Go.Fw
