import Derived.Test.YtfbeeambjjdbjaaGreatDoorFwMem2
namespace Go.Fw
open Go.RowKit
section
variable {B : Base} {G : Gh} {σ : List AObj} {w : World}

def Gh.bind0 (G : Gh) (l b : Nat) : Gh := { G with blk := fun l' u' => if l' = l ∧ u' = 0 then some b else G.blk l' u' }

/-- A new object that is no row of cells (a map, an iterator). -/
theorem Rel.bindOther (h : Rel B G σ w) (o : Obj) (ob : AObj) (hnc : ∀ cs f u, ob ≠ .cells cs f u) (hob : ∀ G', G.Le G' → ∀ w' : World, w'.heap[w.heap.size]? = some o → ObjAt G' w' w.heap.size ob) :
    G.Le (G.bind0 σ.length w.heap.size) ∧ Rel B (G.bind0 σ.length w.heap.size) (σ ++ [ob]) (w.alloc o) := by
  have hf : ∀ u, G.blk σ.length u = none := fun u => by
    cases hx : G.blk σ.length u with
    | none => rfl
    | some b => exact absurd (h.blk _ _ _ hx).1 (Nat.lt_irrefl _)
  have hver : ob.ver = 0 := by cases ob <;> first | rfl | exact absurd rfl (hnc _ _ _)
  have hlen : ob.len = 0 := by cases ob <;> first | rfl | exact absurd rfl (hnc _ _ _)
  have hfrz : ob.frz = 0 := by cases ob <;> first | rfl | exact absurd rfl (hnc _ _ _)
  have hle : G.Le (G.bind0 σ.length w.heap.size) := by
    refine ⟨fun _ _ _ x => x, fun _ _ x => x, fun l' u' b hb => ?_, fun _ _ x => x⟩
    by_cases e : l' = σ.length ∧ u' = 0
    · obtain ⟨rfl, rfl⟩ := e; rw [hf] at hb; cases hb
    · simp [Gh.bind0, e, hb]
  have hold : ∀ k, k < w.heap.size → (w.alloc o).heap[k]? = w.heap[k]? := fun k hk => Below.heap_alloc _ _ _ hk
  have hnew : (w.alloc o).heap[w.heap.size]? = some o := heap_new _ _
  have hget : ∀ l', l' ≠ σ.length → (σ ++ [ob])[l']? = σ[l']? := fun l' hl' => by
    rcases Nat.lt_or_ge l' σ.length with h | h
    · rw [List.getElem?_append_left h]
    · rw [List.getElem?_append_right h, List.getElem?_eq_none h]
      have : l' - σ.length ≠ 0 := by omega
      cases hk : l' - σ.length with
      | zero => exact absurd hk this
      | succ k => simp
  have hself : (σ ++ [ob])[σ.length]? = some ob := by simp
  refine ⟨hle, ?_⟩
  constructor
  · exact h.below.alloc h.below.size _
  · intro b o' v hi
    have hcl := h.imm b o' v hi
    rw [World.cell?_alloc_lt _ _ _ (by simpa using lt_of_cell hcl)]; exact hcl
  · intro b es hm
    obtain ⟨hk, hb2⟩ := h.mimm b es hm
    exact ⟨(hold _ (lt_of_some hk)).trans hk, hb2⟩
  · intro b n hs
    obtain ⟨vs, et, f, h1, h2⟩ := h.siz b n hs
    exact ⟨vs, et, f, (hold _ (lt_of_some h1)).trans h1, h2⟩
  · intro l' u' b hb
    by_cases e : l' = σ.length ∧ u' = 0
    · obtain ⟨rfl, rfl⟩ := e
      simp [Gh.bind0] at hb
      subst hb
      exact ⟨by simp, h.below.size, by simp⟩
    · simp [Gh.bind0, e] at hb
      obtain ⟨h1, h2, h3⟩ := h.blk l' u' b hb
      exact ⟨by simp; omega, h2, by simp; omega⟩
  · intro l1 u1 l2 u2 b h1 h2
    by_cases e1 : l1 = σ.length ∧ u1 = 0
    · by_cases e2 : l2 = σ.length ∧ u2 = 0
      · exact e1.1.trans e2.1.symm
      · simp [Gh.bind0, e1] at h1
        simp [Gh.bind0, e2] at h2
        subst h1
        exact absurd (h.blk _ _ _ h2).2.2 (Nat.lt_irrefl _)
    · by_cases e2 : l2 = σ.length ∧ u2 = 0
      · simp [Gh.bind0, e2] at h2
        simp [Gh.bind0, e1] at h1
        subst h2
        exact absurd (h.blk _ _ _ h1).2.2 (Nat.lt_irrefl _)
      · simp [Gh.bind0, e1] at h1
        simp [Gh.bind0, e2] at h2
        exact h.inj _ _ _ _ _ h1 h2
  · intro l' ob' b hob' hb
    by_cases e : l' = σ.length
    · subst e
      rw [hself] at hob'
      cases hob'
      simp [Gh.bind0, hver] at hb
      subst hb
      exact hob _ hle _ hnew
    · simp [Gh.bind0, e] at hb
      rw [hget l' e] at hob'
      have hk := h.obj l' ob' b hob' hb
      exact hk.keep hle (hold _ hk.lt)
  · intro l' cs' frz' u' b hob' hb o' v hi
    by_cases e : l' = σ.length
    · subst e
      rw [hself] at hob'
      cases hob'
      exact absurd rfl (hnc _ _ _)
    · rw [hget l' e] at hob'
      have hb' : G.blk l' u' = some b := by simpa [Gh.bind0, e] using hb
      exact h.own l' cs' frz' u' b hob' hb' o' v hi
  · intro l' ks vs b hob' hb
    by_cases e : l' = σ.length
    · subst e
      simp [Gh.bind0] at hb
      subst hb
      exact h.mimm_new
    · simp [Gh.bind0, e] at hb
      rw [hget l' e] at hob'
      exact h.ownm l' ks vs b hob' hb
  · intro l' ob' hob'
    by_cases e : l' = σ.length
    · subst e
      rw [hself] at hob'
      cases hob'
      refine ⟨by omega, fun u b hb => ?_⟩
      by_cases e' : u = 0
      · omega
      · simp [Gh.bind0, e', hf] at hb
    · rw [hget l' e] at hob'
      refine ⟨(h.ver l' ob' hob').1, fun u b hb => ?_⟩
      simp [Gh.bind0, e] at hb
      exact (h.ver l' ob' hob').2 u b hb
  · intro l' ob' hob'
    by_cases e : l' = σ.length
    · subst e
      rw [hself] at hob'
      cases hob'
      omega
    · rw [hget l' e] at hob'
      exact h.frzle l' ob' hob'
  · exact h.bimm
  · exact h.bmimm
end
end Go.Fw
