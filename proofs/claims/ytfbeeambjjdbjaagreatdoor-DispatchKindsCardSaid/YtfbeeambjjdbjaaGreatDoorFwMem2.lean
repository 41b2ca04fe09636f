import Derived.Test.YtfbeeambjjdbjaaGreatDoorFwMem
namespace Go.Fw
open Go.RowKit

/-- A fresh block is bound to an object (new, or a new version of an old one). -/
def Gh.bind (G : Gh) (l u b n : Nat) : Gh :=
  { G with blk := fun l' u' => if l' = l ∧ u' = u then some b else G.blk l' u', siz := fun k => if k = b then some n else G.siz k }

section
variable {B : Base} {G : Gh} {σ σ' : List AObj} {w : World}

theorem Rel.imm_lt (h : Rel B G σ w) {b o : Nat} {v : Value} (hi : G.imm b o = some v) : b < w.heap.size := lt_of_cell (h.imm b o v hi)
theorem Rel.imm_new (h : Rel B G σ w) (o : Nat) : G.imm w.heap.size o = none := by
  cases hi : G.imm w.heap.size o with
  | none => rfl
  | some v => exact absurd (h.imm_lt hi) (Nat.lt_irrefl _)
theorem Rel.mimm_new (h : Rel B G σ w) : G.mimm w.heap.size = none := by
  cases hi : G.mimm w.heap.size with
  | none => rfl
  | some v => obtain ⟨hc, _⟩ := h.mimm _ _ hi; exact absurd (lt_of_some hc) (Nat.lt_irrefl _)
theorem Rel.siz_new (h : Rel B G σ w) : G.siz w.heap.size = none := by
  cases hi : G.siz w.heap.size with
  | none => rfl
  | some v => obtain ⟨vs, et, f, hc, _⟩ := h.siz _ _ hi; exact absurd (lt_of_some hc) (Nat.lt_irrefl _)

theorem bind_le (h : Rel B G σ w) {l u n : Nat} (hf : G.blk l u = none) : G.Le (G.bind l u w.heap.size n) := by
  refine ⟨fun _ _ _ x => x, fun _ _ x => x, fun l' u' b hb => ?_, fun b n' hs => ?_⟩
  · by_cases e : l' = l ∧ u' = u
    · obtain ⟨rfl, rfl⟩ := e; rw [hf] at hb; cases hb
    · simp [Gh.bind, e, hb]
  · by_cases e : b = w.heap.size
    · subst e; rw [h.siz_new] at hs; cases hs
    · simp [Gh.bind, e, hs]

theorem Rel.bindCells (h : Rel B G σ w) {l u frz : Nat} {cs : List D} {hd tl : List Value} {c : Array Value} (t : TypeId) (hlen : σ.length ≤ σ'.length) (ho : ∀ l', l' ≠ l → σ'[l']? = σ[l']?)
    (hl : σ'[l]? = some (.cells cs frz u)) (hf : G.blk l u = none) (hvr : u ≤ cs.length ∧ ∀ u' b, G.blk l u' = some b → u' ≤ u) (hfz : frz ≤ cs.length) (hc : c.toList = hd ++ tl) (hr : Reps G cs hd) :
    G.Le (G.bind l u w.heap.size c.size) ∧ Rel B (G.bind l u w.heap.size c.size) σ' (w.alloc (.cells c t)) := by
  have hle := bind_le h (n := c.size) hf
  have hold : ∀ k, k < w.heap.size → (w.alloc (.cells c t)).heap[k]? = w.heap[k]? := fun k hk => Below.heap_alloc _ _ _ hk
  have hnew : (w.alloc (.cells c t)).heap[w.heap.size]? = some (.cells c t) := heap_new _ _
  refine ⟨hle, ?_⟩
  constructor
  · exact h.below.alloc h.below.size _
  · intro b o v hi
    have hcl := h.imm b o v hi
    rw [World.cell?_alloc_lt _ _ _ (by simpa using lt_of_cell hcl)]; exact hcl
  · intro b es hm
    obtain ⟨hk, hb2⟩ := h.mimm b es hm
    exact ⟨(hold _ (lt_of_some hk)).trans hk, hb2⟩
  · intro b n hs
    by_cases e : b = w.heap.size
    · subst e
      simp [Gh.bind] at hs
      exact ⟨c, t, _, hnew, hs⟩
    · simp [Gh.bind, e] at hs
      obtain ⟨vs, et, f, h1, h2⟩ := h.siz b n hs
      exact ⟨vs, et, f, (hold _ (lt_of_some h1)).trans h1, h2⟩
  · intro l' u' b hb
    by_cases e : l' = l ∧ u' = u
    · obtain ⟨rfl, rfl⟩ := e
      simp [Gh.bind] at hb
      subst hb
      refine ⟨?_, h.below.size, by simp⟩
      rcases Nat.lt_or_ge l' σ'.length with h' | h'
      · exact h'
      · rw [List.getElem?_eq_none h'] at hl; cases hl
    · simp [Gh.bind, e] at hb
      obtain ⟨h1, h2, h3⟩ := h.blk l' u' b hb
      exact ⟨Nat.lt_of_lt_of_le h1 hlen, h2, by simp; omega⟩
  · intro l1 u1 l2 u2 b h1 h2
    by_cases e1 : l1 = l ∧ u1 = u
    · by_cases e2 : l2 = l ∧ u2 = u
      · exact e1.1.trans e2.1.symm
      · simp [Gh.bind, e1] at h1
        simp [Gh.bind, e2] at h2
        subst h1
        exact absurd (h.blk _ _ _ h2).2.2 (Nat.lt_irrefl _)
    · by_cases e2 : l2 = l ∧ u2 = u
      · simp [Gh.bind, e2] at h2
        simp [Gh.bind, e1] at h1
        subst h2
        exact absurd (h.blk _ _ _ h1).2.2 (Nat.lt_irrefl _)
      · simp [Gh.bind, e1] at h1
        simp [Gh.bind, e2] at h2
        exact h.inj _ _ _ _ _ h1 h2
  · intro l' ob b hob hb
    by_cases e : l' = l
    · subst e
      rw [hl] at hob
      cases hob
      simp [Gh.bind, AObj.ver] at hb
      subst hb
      exact ⟨c, t, hnew, by simp [Gh.bind], tl, hd, hc, Reps.mono hle _ _ hr⟩
    · simp [Gh.bind, e] at hb
      rw [ho l' e] at hob
      have hk := h.obj l' ob b hob hb
      exact hk.keep hle (hold _ hk.lt)
  · intro l' cs' frz' u' b hob hb o v hi
    by_cases e : l' = l ∧ u' = u
    · simp [Gh.bind, e] at hb
      subst hb
      have : G.imm w.heap.size o = some v := hi
      rw [h.imm_new] at this; cases this
    · have hb' : G.blk l' u' = some b := by simpa [Gh.bind, e] using hb
      by_cases e' : l' = l
      · subst e'
        rw [hl] at hob; cases hob
        exact absurd ⟨rfl, rfl⟩ e
      · rw [ho l' e'] at hob
        exact h.own l' cs' frz' u' b hob hb' o v hi
  · intro l' ks vs b hob hb
    by_cases e : l' = l
    · subst e; rw [hl] at hob; cases hob
    · simp [Gh.bind, e] at hb
      rw [ho l' e] at hob
      exact h.ownm l' ks vs b hob hb
  · intro l' ob hob
    by_cases e : l' = l
    · subst e
      rw [hl] at hob; cases hob
      refine ⟨hvr.1, fun u' b hb => ?_⟩
      by_cases e' : u' = u
      · subst e'; exact Nat.le_refl _
      · simp [Gh.bind, e'] at hb
        exact hvr.2 u' b hb
    · rw [ho l' e] at hob
      refine ⟨(h.ver l' ob hob).1, fun u' b hb => ?_⟩
      simp [Gh.bind, e] at hb
      exact (h.ver l' ob hob).2 u' b hb
  · intro l' ob hob
    by_cases e : l' = l
    · subst e
      rw [hl] at hob; cases hob
      exact hfz
    · rw [ho l' e] at hob
      exact h.frzle l' ob hob
  · exact h.bimm
  · exact h.bmimm

/-- One object is changed in place (perhaps under a new version number). -/
theorem Rel.update (h : Rel B G σ w) {G' : Gh} {w' : World} {l b : Nat} {ob ob' : AObj} (hl : σ[l]? = some ob) (hb : G.blk l ob.ver = some b)
    (hle : G.Le G') (hblk : ∀ l' u' b', G'.blk l' u' = some b' → G.blk l' u' = some b' ∨ (l' = l ∧ u' = ob'.ver ∧ b' = b))
    (hcur : G'.blk l ob'.ver = some b)
    (himm : ∀ b' o v, G'.imm b' o = some v → w'.cell? ⟨b', o, none⟩ = some v ∧ (b' ≠ b → G.imm b' o = some v)) (hmim : G'.mimm = G.mimm) (hsz : G'.siz = G.siz)
    (hBel : Below B.w.heap.size B.w w') (hsize : w'.heap.size = w.heap.size) (hoth : ∀ k, k ≠ b → w'.heap[k]? = w.heap[k]?)
    (hsb : ∀ n, G.siz b = some n → ∃ vs et f, w'.heap[b]? = some (.cells vs et f) ∧ vs.size = n) (hmb : G.mimm b = none)
    (hobj : ObjAt G' w' b ob') (hown : ∀ cs frz u, ob' = .cells cs frz u → ∀ o v, G'.imm b o = some v → o < frz) (hvr : ob.ver ≤ ob'.ver ∧ ob'.ver ≤ ob'.len) (hfz : ob'.frz ≤ ob'.len) : Rel B G' (σ.set l ob') w' := by
  have hlt : l < σ.length := by
    rcases Nat.lt_or_ge l σ.length with h' | h'
    · exact h'
    · rw [List.getElem?_eq_none h'] at hl; cases hl
  have hne : ∀ l' u' b', l' ≠ l → G'.blk l' u' = some b' → G.blk l' u' = some b' ∧ b' ≠ b := by
    intro l' u' b' hn hx
    rcases hblk _ _ _ hx with h1 | ⟨h1, _⟩
    · exact ⟨h1, fun e => hn (h.inj _ _ _ _ _ (e ▸ h1) hb)⟩
    · exact absurd h1 hn
  constructor
  · exact hBel
  · exact fun b' o v hi => (himm b' o v hi).1
  · intro b' es hm
    rw [hmim] at hm
    obtain ⟨hk, hb2⟩ := h.mimm b' es hm
    by_cases e : b' = b
    · subst e; rw [hmb] at hm; cases hm
    · exact ⟨(hoth _ e).trans hk, hb2⟩
  · intro b' n hs
    rw [hsz] at hs
    by_cases e : b' = b
    · subst e; exact hsb n hs
    · obtain ⟨vs, et, f, h1, h2⟩ := h.siz b' n hs
      exact ⟨vs, et, f, (hoth _ e).trans h1, h2⟩
  · intro l' u' b' hx
    rw [List.length_set, hsize]
    rcases hblk _ _ _ hx with h1 | ⟨h1, _, h3⟩
    · exact h.blk _ _ _ h1
    · subst h1; subst h3; exact h.blk _ _ _ hb
  · intro l1 u1 l2 u2 b' h1 h2
    by_cases e1 : l1 = l
    · by_cases e2 : l2 = l
      · exact e1.trans e2.symm
      · have hb1 : b' = b := by
          rcases hblk _ _ _ h1 with h3 | ⟨_, _, h3⟩
          · subst e1
            obtain ⟨h4, h5⟩ := hne _ _ _ e2 h2
            exact absurd (h.inj _ _ _ _ _ h4 h3) e2
          · exact h3
        exact absurd hb1 (hne _ _ _ e2 h2).2
    · by_cases e2 : l2 = l
      · have hb1 : b' = b := by
          rcases hblk _ _ _ h2 with h3 | ⟨_, _, h3⟩
          · subst e2
            obtain ⟨h4, h5⟩ := hne _ _ _ e1 h1
            exact absurd (h.inj _ _ _ _ _ h4 h3) e1
          · exact h3
        exact absurd hb1 (hne _ _ _ e1 h1).2
      · exact h.inj _ _ _ _ _ (hne _ _ _ e1 h1).1 (hne _ _ _ e2 h2).1
  · intro l' ob'' b' hob hx
    by_cases e : l' = l
    · subst e
      rw [List.getElem?_set_self hlt] at hob
      cases hob
      rw [hcur] at hx; cases hx
      exact hobj
    · rw [List.getElem?_set_ne (Ne.symm e)] at hob
      obtain ⟨h1, h2⟩ := hne _ _ _ e hx
      exact (h.obj l' ob'' b' hob h1).keep hle (hoth _ h2)
  · intro l' cs frz u b' hob hx o v hi
    by_cases e : l' = l
    · subst e
      rw [List.getElem?_set_self hlt] at hob
      cases hob
      have : b' = b := by
        have := hcur
        simp only [AObj.ver] at this
        rw [this] at hx; cases hx; rfl
      subst this
      exact hown _ _ _ rfl o v hi
    · rw [List.getElem?_set_ne (Ne.symm e)] at hob
      obtain ⟨h1, h2⟩ := hne _ _ _ e hx
      exact h.own l' cs frz u b' hob h1 o v ((himm _ _ _ hi).2 h2)
  · intro l' ks vs b' hob hx
    rw [hmim]
    by_cases e : l' = l
    · subst e
      rw [List.getElem?_set_self hlt] at hob
      cases hob
      have : b' = b := by
        have := hcur
        simp only [AObj.ver] at this
        rw [this] at hx; cases hx; rfl
      subst this; exact hmb
    · rw [List.getElem?_set_ne (Ne.symm e)] at hob
      exact h.ownm l' ks vs b' hob (hne _ _ _ e hx).1
  · intro l' ob'' hob
    by_cases e : l' = l
    · subst e
      rw [List.getElem?_set_self hlt] at hob
      cases hob
      refine ⟨hvr.2, fun u b' hx => ?_⟩
      rcases hblk _ _ _ hx with h1 | ⟨_, h1, _⟩
      · exact Nat.le_trans ((h.ver _ _ hl).2 u b' h1) hvr.1
      · omega
    · rw [List.getElem?_set_ne (Ne.symm e)] at hob
      exact ⟨(h.ver _ _ hob).1, fun u b' hx => (h.ver _ _ hob).2 u b' (hne _ _ _ e hx).1⟩
  · intro l' ob'' hob
    by_cases e : l' = l
    · subst e
      rw [List.getElem?_set_self hlt] at hob
      cases hob
      exact hfz
    · rw [List.getElem?_set_ne (Ne.symm e)] at hob
      exact h.frzle _ _ hob
  · intro b' o hb'
    have hbB := (h.blk _ _ _ hb).2.1
    rw [← h.bimm b' o hb']
    cases hx : G'.imm b' o with
    | none =>
      cases hy : G.imm b' o with
      | none => rfl
      | some v => rw [hle.imm _ _ _ hy] at hx; cases hx
    | some v => exact ((himm _ _ _ hx).2 (by omega)).symm
  · intro b' hb'
    rw [hmim]; exact h.bmimm b' hb'
end
end Go.Fw
