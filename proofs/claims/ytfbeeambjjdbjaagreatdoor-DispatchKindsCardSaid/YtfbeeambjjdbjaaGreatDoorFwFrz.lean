import Derived.Test.YtfbeeambjjdbjaaGreatDoorFwAopOk
namespace Go.Fw
open Go.RowKit

section
variable {P : Program} {B : Base} {G : Gh} {σ σ' : List AObj} {w : World}

theorem freeze_ok (hR : Rel B G σ w) {l u o n sz frz : Nat} {full : Bool} {cs : List D} {v : Value} (hl : σ[l]? = some (.cells cs frz u)) (hlen : o + n * sz ≤ cs.length) (hv : Rep G (.sl l u o n sz full) v) :
    ∃ G', G.Le G' ∧ Rel B G' (σ.set l (.cells cs cs.length u)) w ∧ Rep G' (.list ((cs.drop o).take (n * sz)) n full) v := by
  simp only [Rep] at hv
  obtain ⟨b, cap, tot, hb, rfl, h1, h2, h3, h4, h5⟩ := hv
  obtain ⟨vs, et, o1, o2, tl, hd, o3, o4⟩ := hR.obj _ _ b hl hb
  have hl4 := o4.length
  have hcell : ∀ j v, hd[j]? = some v → w.cell? ⟨b, j, none⟩ = some v := by
    intro j v hj
    have hlt : j < hd.length := by
      rcases Nat.lt_or_ge j hd.length with h' | h'
      · exact h'
      · rw [List.getElem?_eq_none h'] at hj; cases hj
    unfold World.cell?
    rw [o1]
    show vs[j]? = some v
    have : vs[j]? = vs.toList[j]? := by simp
    rw [this, o3, List.getElem?_append_left hlt]; exact hj
  let G' : Gh := { G with imm := fun b' j => if b' = b ∧ j < hd.length then hd[j]? else G.imm b' j }
  have hle : G.Le G' := by
    refine ⟨fun b' j v hi => ?_, fun _ _ x => x, fun _ _ _ x => x, fun _ _ x => x⟩
    by_cases e : b' = b ∧ j < hd.length
    · obtain ⟨rfl, hj⟩ := e
      have hc := hR.imm _ _ _ hi
      have := hcell j _ (List.getElem?_eq_getElem hj)
      rw [hc] at this
      cases this
      simp [G', hj]
    · simp only [G', e, if_false]; exact hi
  have hmb : G.mimm b = none := by
    cases hm : G.mimm b with
    | none => rfl
    | some es =>
      obtain ⟨hc, _⟩ := hR.mimm _ _ hm
      rw [o1] at hc; cases hc
  refine ⟨G', hle, ?_, ?_⟩
  · refine hR.update hl hb hle (fun _ _ _ x => .inl x) hb ?_ rfl rfl hR.below rfl (fun _ _ => rfl) (fun k hk => hR.siz b k hk) hmb ?_ ?_ ⟨Nat.le_refl _, (hR.ver _ _ hl).1⟩ (Nat.le_refl _)
    · intro b' j v hi
      by_cases e : b' = b ∧ j < hd.length
      · obtain ⟨rfl, hj⟩ := e
        simp only [G', hj, and_self, if_true] at hi
        exact ⟨hcell j v hi, fun h => absurd rfl h⟩
      · simp only [G', e, if_false] at hi
        exact ⟨hR.imm _ _ _ hi, fun _ => hi⟩
    · exact ⟨vs, et, o1, o2, tl, hd, o3, Reps.mono hle _ _ o4⟩
    · intro cs' frz' u' e j v hi
      cases e
      by_cases e : j < hd.length
      · omega
      · have hi : G.imm b j = some v := by simpa [G', e] using hi
        have h6 := hR.own _ _ _ _ _ hl hb j v hi
        have h7 := hR.frzle _ _ hl
        simp only [AObj.frz, AObj.len] at h7
        omega
  · simp only [Rep]
    refine ⟨_, cap, rfl, h1, h2, h3, .inl ⟨b, o, rfl, ?_⟩⟩
    have key : ∀ (ds : List D) (pre r : List Value), hd = pre ++ r → Reps G' ds r → Cells G' b pre.length ds := by
      intro ds
      induction ds with
      | nil => intro pre r _ _; simp only [Cells]
      | cons d ds ih =>
        intro pre r e hr
        simp only [Reps] at hr
        obtain ⟨v, r', rfl, hd', hr'⟩ := hr
        simp only [Cells]
        refine ⟨⟨v, by simp [G', e], hd'⟩, ?_⟩
        have := ih (pre ++ [v]) r' (by simp [e]) hr'
        simpa using this
    have hall := key cs [] hd rfl (Reps.mono hle _ _ o4)
    have := (hall.drop o).take (n * sz)
    simpa using this

/-- A value that is handed to a pure function, or handed back by one: a slice of an object becomes a list. -/
def frzC (σ : List AObj) (d : D) : Option (D × List AObj) :=
  match d with
  | .sl l u o n sz full => match σ[l]? with
    | some (.cells cs _ u') => if u' = u ∧ o + n * sz ≤ cs.length then some (.list ((cs.drop o).take (n * sz)) n full, σ.set l (.cells cs cs.length u)) else none
    | _ => none
  | d => some (d, σ)

theorem frzC_ok (hR : Rel B G σ w) {d d' : D} {v : Value} (h : frzC σ d = some (d', σ')) (hv : Rep G d v) : ∃ G', G.Le G' ∧ Rel B G' σ' w ∧ Rep G' d' v := by
  unfold frzC at h
  split at h
  · split at h <;> try (cases h; done)
    rename_i hl
    split at h <;> try (cases h; done)
    rename_i hc
    obtain ⟨rfl, hlen⟩ := hc
    cases h
    exact freeze_ok hR hl hlen hv
  · cases h
    exact ⟨G, .refl G, hR, hv⟩

def frzCs (σ : List AObj) : List D → Option (List D × List AObj)
  | [] => some ([], σ)
  | d :: ds => match frzC σ d with
    | some (d', σ1) => match frzCs σ1 ds with
      | some (ds', σ2) => some (d' :: ds', σ2)
      | none => none
    | none => none

theorem frzCs_ok : ∀ {ds ds' : List D} {G : Gh} {σ σ' : List AObj} {vs : List Value}, Rel B G σ w → frzCs σ ds = some (ds', σ') → Reps G ds vs → ∃ G', G.Le G' ∧ Rel B G' σ' w ∧ Reps G' ds' vs
  | [], _, G, σ, σ', vs, hR, h, hv => by
    simp only [frzCs, Option.some.injEq, Prod.mk.injEq] at h
    obtain ⟨rfl, rfl⟩ := h
    exact ⟨G, .refl G, hR, hv⟩
  | d :: ds, _, G, σ, σ', vs, hR, h, hv => by
    simp only [frzCs] at h
    split at h <;> try (cases h; done)
    rename_i d' σ1 h1
    split at h <;> try (cases h; done)
    rename_i ds' σ2 h2
    cases h
    simp only [Reps] at hv
    obtain ⟨v, r, rfl, hd, hr⟩ := hv
    obtain ⟨G1, l1, R1, r1⟩ := frzC_ok hR h1 hd
    obtain ⟨G2, l2, R2, r2⟩ := frzCs_ok R1 h2 (Reps.mono l1 _ _ hr)
    exact ⟨G2, l1.trans l2, R2, by simp only [Reps]; exact ⟨v, r, rfl, Rep.mono l2 _ _ r1, r2⟩⟩

/-- a map that no longer changes. -/
theorem freezeMap_ok (hR : Rel B G σ w) {l : Nat} {ks vs : List D} {v : Value} (hl : σ[l]? = some (.map ks vs)) (hv : Rep G (.map l) v) :
    ∃ G', G.Le G' ∧ Rel B G' (σ.set l .gone) w ∧ Rep G' (.cmap ks vs) v := by
  simp only [Rep] at hv
  obtain ⟨b, hb, rfl⟩ := hv
  obtain ⟨es, o1, o2, o3⟩ := hR.obj _ _ b hl hb
  have hm0 := hR.ownm _ _ _ b hl hb
  have hlt : l < σ.length := by
    rcases Nat.lt_or_ge l σ.length with h' | h'
    · exact h'
    · rw [List.getElem?_eq_none h'] at hl; cases hl
  let G' : Gh := { G with mimm := fun b' => if b' = b then some es else G.mimm b' }
  have hle : G.Le G' := by
    refine ⟨fun _ _ _ x => x, fun b' es' hm => ?_, fun _ _ _ x => x, fun _ _ x => x⟩
    by_cases e : b' = b
    · subst e; rw [hm0] at hm; cases hm
    · simp only [G', e, if_false]; exact hm
  have hset : ∀ (l' : Nat) (ob : AObj), (σ.set l .gone)[l']? = some ob → (l' = l ∧ ob = .gone) ∨ (l' ≠ l ∧ σ[l']? = some ob) := by
    intro l' ob h
    by_cases e : l' = l
    · subst e
      rw [List.getElem?_set_self hlt] at h
      cases h; exact .inl ⟨rfl, rfl⟩
    · rw [List.getElem?_set_ne (Ne.symm e)] at h
      exact .inr ⟨e, h⟩
  refine ⟨G', hle, ⟨hR.below, hR.imm, fun b' es' hm => ?_, hR.siz, fun l' u b' h => ?_, hR.inj, fun l' ob b' ho h => ?_, fun l' cs frz u b' ho h => ?_, fun l' ks' vs' b' ho h => ?_, fun l' ob ho => ?_, fun l' ob ho => ?_, hR.bimm, fun b' h => ?_⟩, ?_⟩
  · by_cases e : b' = b
    · subst e
      simp only [G', if_true, Option.some.injEq] at hm
      subst hm; exact o1
    · simp only [G', e, if_false] at hm; exact hR.mimm _ _ hm
  · rw [List.length_set]; exact hR.blk l' u b' h
  · rcases hset l' ob ho with ⟨rfl, rfl⟩ | ⟨_, ho⟩
    · exact (hR.blk _ _ _ h).2.2
    · exact (hR.obj l' ob b' ho h).keep hle rfl
  · rcases hset l' _ ho with ⟨_, h2⟩ | ⟨_, ho⟩
    · cases h2
    · exact hR.own l' cs frz u b' ho h
  · rcases hset l' _ ho with ⟨_, h2⟩ | ⟨hne, ho⟩
    · cases h2
    · have : b' ≠ b := fun e => hne (hR.inj _ _ _ _ _ h (e ▸ hb))
      simp only [G', this, if_false]
      exact hR.ownm l' ks' vs' b' ho h
  · rcases hset l' ob ho with ⟨rfl, rfl⟩ | ⟨_, ho⟩
    · exact ⟨Nat.le_refl _, (hR.ver _ _ hl).2⟩
    · exact hR.ver l' ob ho
  · rcases hset l' ob ho with ⟨rfl, rfl⟩ | ⟨_, ho⟩
    · exact Nat.le_refl _
    · exact hR.frzle l' ob ho
  · have : b' ≠ b := fun e => by have := (hR.blk _ _ _ hb).2.1; omega
    simp only [G', this, if_false]
    exact hR.bmimm b' h
  · simp only [Rep]
    exact ⟨b, es, rfl, by simp [G'], Reps.mono hle _ _ o2, Reps.mono hle _ _ o3⟩

/-- what a function hands back: a struct's fields, a tuple's parts, a map. -/
def frz1 (σ : List AObj) (d : D) : Option (D × List AObj) :=
  match d with
  | .map l => match σ[l]? with
    | some (.map ks vs) => some (.cmap ks vs, σ.set l .gone)
    | _ => none
  | .agg cs => match frzCs σ cs with
    | some (cs', σ') => some (.agg cs', σ')
    | none => none
  | d => frzC σ d

theorem frz1_ok (hR : Rel B G σ w) {d d' : D} {v : Value} (h : frz1 σ d = some (d', σ')) (hv : Rep G d v) : ∃ G', G.Le G' ∧ Rel B G' σ' w ∧ Rep G' d' v := by
  unfold frz1 at h
  split at h
  · split at h <;> try (cases h; done)
    rename_i hl
    cases h
    exact freezeMap_ok hR hl hv
  · split at h <;> try (cases h; done)
    rename_i h1
    cases h
    simp only [Rep] at hv
    obtain ⟨a, rfl, hr⟩ := hv
    obtain ⟨G', l1, R1, r1⟩ := frzCs_ok hR h1 hr
    exact ⟨G', l1, R1, by simp only [Rep]; exact ⟨a, rfl, r1⟩⟩
  · exact frzC_ok hR h hv

def frz1s (σ : List AObj) : List D → Option (List D × List AObj)
  | [] => some ([], σ)
  | d :: ds => match frz1 σ d with
    | some (d', σ1) => match frz1s σ1 ds with
      | some (ds', σ2) => some (d' :: ds', σ2)
      | none => none
    | none => none

theorem frz1s_ok : ∀ {ds ds' : List D} {G : Gh} {σ σ' : List AObj} {vs : List Value}, Rel B G σ w → frz1s σ ds = some (ds', σ') → Reps G ds vs → ∃ G', G.Le G' ∧ Rel B G' σ' w ∧ Reps G' ds' vs
  | [], _, G, σ, σ', vs, hR, h, hv => by
    simp only [frz1s, Option.some.injEq, Prod.mk.injEq] at h
    obtain ⟨rfl, rfl⟩ := h
    exact ⟨G, .refl G, hR, hv⟩
  | d :: ds, _, G, σ, σ', vs, hR, h, hv => by
    simp only [frz1s] at h
    split at h <;> try (cases h; done)
    rename_i d' σ1 h1
    split at h <;> try (cases h; done)
    rename_i ds' σ2 h2
    cases h
    simp only [Reps] at hv
    obtain ⟨v, r, rfl, hd, hr⟩ := hv
    obtain ⟨G1, l1, R1, r1⟩ := frz1_ok hR h1 hd
    obtain ⟨G2, l2, R2, r2⟩ := frz1s_ok R1 h2 (Reps.mono l1 _ _ hr)
    exact ⟨G2, l1.trans l2, R2, by simp only [Reps]; exact ⟨v, r, rfl, Rep.mono l2 _ _ r1, r2⟩⟩

def frzR (σ : List AObj) (d : D) : Option (D × List AObj) :=
  match d with
  | .tuple ds => match frz1s σ ds with
    | some (ds', σ') => some (.tuple ds', σ')
    | none => none
  | d => frz1 σ d

theorem frzR_ok (hR : Rel B G σ w) {d d' : D} {v : Value} (h : frzR σ d = some (d', σ')) (hv : Rep G d v) : ∃ G', G.Le G' ∧ Rel B G' σ' w ∧ Rep G' d' v := by
  unfold frzR at h
  split at h
  · split at h <;> try (cases h; done)
    rename_i h1
    cases h
    simp only [Rep] at hv
    obtain ⟨a, rfl, hr⟩ := hv
    obtain ⟨G', l1, R1, r1⟩ := frz1s_ok hR h1 hr
    exact ⟨G', l1, R1, by simp only [Rep]; exact ⟨a, rfl, r1⟩⟩
  · exact frz1_ok hR h hv
end

/-! ### data without objects -/
mutual
def D.pure : D → Bool
  | .bool _ => true
  | .int _ _ => true
  | .str _ => true
  | .nilp => true
  | .ptr _ _ _ => false
  | .rptr cs _ => pureL cs
  | .list cs _ _ => pureL cs
  | .sl _ _ _ _ _ _ => false
  | .map _ => false
  | .nilmap => true
  | .cmap ks vs => pureL ks && pureL vs
  | .func _ a b => pureL a && pureL b
  | .nilf => true
  | .iface _ v => v.pure
  | .nili => true
  | .anyi => true
  | .agg cs => pureL cs
  | .tuple cs => pureL cs
  | .junk => true
def pureL : List D → Bool
  | [] => true
  | d :: ds => d.pure && pureL ds
end

mutual
theorem Rep.pure {G G' : Gh} (hi : ∀ b o v, G.imm b o = some v → G'.imm b o = some v) (hm : ∀ b es, G.mimm b = some es → G'.mimm b = some es) : ∀ (d : D) (v : Value), d.pure = true → Rep G d v → Rep G' d v
  | .bool _, _, _, x => by simpa only [Rep] using x
  | .int _ _, _, _, x => by simpa only [Rep] using x
  | .str _, _, _, x => by simpa only [Rep] using x
  | .nilp, _, _, x => by simpa only [Rep] using x
  | .ptr _ _ _, _, h, _ => by simp [D.pure] at h
  | .rptr cs _, _, h, x => by
    simp only [Rep] at x ⊢
    simp only [D.pure] at h
    obtain ⟨b, o', e, r⟩ := x
    exact ⟨b, o', e, Cells.pure hi hm b _ cs h r⟩
  | .list cs _ _, _, h, x => by
    simp only [Rep] at x ⊢
    simp only [D.pure] at h
    obtain ⟨a, cap, e, h1, h2, h3, h4⟩ := x
    refine ⟨a, cap, e, h1, h2, h3, h4.imp ?_ id⟩
    rintro ⟨b, o, ha, hc⟩
    exact ⟨b, o, ha, Cells.pure hi hm b _ cs h hc⟩
  | .sl _ _ _ _ _ _, _, h, _ => by simp [D.pure] at h
  | .map _, _, h, _ => by simp [D.pure] at h
  | .nilmap, _, _, x => by simpa only [Rep] using x
  | .cmap ks vs, _, h, x => by
    simp only [Rep] at x ⊢
    simp only [D.pure, Bool.and_eq_true] at h
    obtain ⟨b, es, e, hm', h1, h2⟩ := x
    exact ⟨b, es, e, hm _ _ hm', Reps.pure hi hm ks _ h.1 h1, Reps.pure hi hm vs _ h.2 h2⟩
  | .func _ first cap, _, h, x => by
    simp only [Rep] at x ⊢
    simp only [D.pure, Bool.and_eq_true] at h
    obtain ⟨f, c, e, h1, h2⟩ := x
    exact ⟨f, c, e, Reps.pure hi hm first _ h.1 h1, Reps.pure hi hm cap _ h.2 h2⟩
  | .nilf, _, _, x => by simpa only [Rep] using x
  | .iface _ d, _, h, x => by
    simp only [Rep] at x ⊢
    simp only [D.pure] at h
    obtain ⟨y, e, h1⟩ := x
    exact ⟨y, e, Rep.pure hi hm d _ h h1⟩
  | .nili, _, _, x => by simpa only [Rep] using x
  | .anyi, _, _, x => by simpa only [Rep] using x
  | .agg cs, _, h, x => by
    simp only [Rep] at x ⊢
    simp only [D.pure] at h
    obtain ⟨a, e, h1⟩ := x
    exact ⟨a, e, Reps.pure hi hm cs _ h h1⟩
  | .tuple cs, _, h, x => by
    simp only [Rep] at x ⊢
    simp only [D.pure] at h
    obtain ⟨a, e, h1⟩ := x
    exact ⟨a, e, Reps.pure hi hm cs _ h h1⟩
  | .junk, _, _, _ => by simp only [Rep]
theorem Cells.pure {G G' : Gh} (hi : ∀ b o v, G.imm b o = some v → G'.imm b o = some v) (hm : ∀ b es, G.mimm b = some es → G'.mimm b = some es) (b : Nat) : ∀ (o : Nat) (ds : List D), pureL ds = true → Cells G b o ds → Cells G' b o ds
  | _, [], _, _ => by simp only [Cells]
  | o, d :: ds, h, x => by
    simp only [pureL, Bool.and_eq_true] at h
    simp only [Cells] at x ⊢
    obtain ⟨⟨v, e, r⟩, hs⟩ := x
    exact ⟨⟨v, hi _ _ _ e, Rep.pure hi hm d v h.1 r⟩, Cells.pure hi hm b _ ds h.2 hs⟩
theorem Reps.pure {G G' : Gh} (hi : ∀ b o v, G.imm b o = some v → G'.imm b o = some v) (hm : ∀ b es, G.mimm b = some es → G'.mimm b = some es) : ∀ (ds : List D) (vs : List Value), pureL ds = true → Reps G ds vs → Reps G' ds vs
  | [], _, _, x => by simpa only [Reps] using x
  | d :: ds, _, h, x => by
    simp only [pureL, Bool.and_eq_true] at h
    simp only [Reps] at x ⊢
    obtain ⟨v, r, e, h1, h2⟩ := x
    exact ⟨v, r, e, Rep.pure hi hm d v h.1 h1, Reps.pure hi hm ds r h.2 h2⟩
end
end Go.Fw
