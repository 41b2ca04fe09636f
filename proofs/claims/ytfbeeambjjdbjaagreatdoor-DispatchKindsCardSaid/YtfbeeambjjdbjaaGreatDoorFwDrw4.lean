import Derived.Test.YtfbeeambjjdbjaaGreatDoorFwDrw3
namespace Go.Fw
open Go.RowKit

section
variable {fl : Bool} {P : Program} {N : Nat} {ops : Array Oper} {A : Res} {M : List Nat} {τ0 : Env} {s0 : Sto} {tab : List Rc} {S : List Sto} {C : List Nat} {τ : Env}

structure Inv (fl : Bool) (ops : Array Oper) (A : Res) (τ0 : Env) (tab : List Rc) (S : List Sto) (C : List Nat) (N : Nat) (B : Base) (G0 : Gh) (L : Array Bool) (a : Act) (w : World) : Prop where
  size : L.size = ops.size
  down : DownCl ops L
  st : ∃ G k σ, G0.LeB fl G ∧ S[k]? = some σ ∧ (∀ (k' c : Nat), C[k']? = some c → (L.getD c false = true ↔ k' < k)) ∧ Rel B G (hide (hidden L A) σ) w ∧
    a.tmps.size = N ∧ a.defers = [] ∧
    (∀ (i : Nat) (r : Rc) (t : Nat), tab[i]? = some r → L.getD i false = true → r.o.dst = some t → Rep G r.v (a.tmps.getD t undef)) ∧
    (∀ t d, get τ0 t = some d → (∀ (i : Nat) (r : Rc), tab[i]? = some r → L.getD i false = true → r.o.dst ≠ some t) → Rep G d (a.tmps.getD t undef))

theorem getD_set_iff {L : Array Bool} {i j : Nat} (hi : i < L.size) : (L.setIfInBounds i true).getD j false = true ↔ (j = i ∨ L.getD j false = true) := by
  by_cases e : i = j
  · subst e; simp [hi]
  · have e' : ¬ j = i := fun h => e h.symm
    rw [getD_set_ne false e]; simp [e']

theorem getD_false_of {L : Array Bool} {i : Nat} (h : L.getD i true = false) : i < L.size ∧ L.getD i false = false := by
  rcases Nat.lt_or_ge i L.size with h' | h'
  · refine ⟨h', ?_⟩
    simp [Array.getD_eq_getD_getElem?, h'] at h ⊢
    exact h
  · simp [Array.getD_eq_getD_getElem?, Array.getElem?_eq_none h'] at h

theorem put_getD {a : Act} {dst : Option Tmp} {v : Value} {t : Nat} (ht : t < a.tmps.size) : (a.put dst v).tmps.getD t undef = if dst = some t then v else a.tmps.getD t undef := by
  cases dst with
  | none => simp [Act.put]
  | some d =>
    by_cases e : d = t
    · subst e; simp [Act.put, Array.getD_eq_getD_getElem?, ht]
    · have : ¬ (some d = some t) := fun h => e (Option.some.inj h)
      simp [Act.put, Array.getD_eq_getD_getElem?, Array.getElem?_setIfInBounds_ne e, e]

theorem put_getD' {a : Act} {dst : Option Tmp} {v : Value} {t : Nat} (h : dst ≠ some t) : (a.put dst v).tmps.getD t undef = a.tmps.getD t undef := by
  cases dst with
  | none => rfl
  | some d =>
    have : d ≠ t := fun e => h (by rw [e])
    simp [Act.put, Array.getD_eq_getD_getElem?, Array.getElem?_setIfInBounds_ne this]

/-- the state behind one more operation. -/
theorem Inv.next (hT : TabOk P N ops A M τ0 s0 tab S C τ) (hp : planOk ops M = true) {B : Base} {G0 : Gh} {L : Array Bool} {a : Act} {w : World} (hI : Inv fl ops A τ0 tab S C N B G0 L a w)
    {i : Nat} {r : Rc} (hr : tab[i]? = some r) (hi : L.getD i true = false) (hall : ∀ e ∈ r.o.after, Region.binds .any e = true → L.getD e.on false = true)
    {G' : Gh} {k' : Nat} {σ' : Sto} {v : Value} {w' : World}
    (hle : ∃ G, G0.LeB fl G ∧ G.Le G' ∧
      (∀ (i : Nat) (r : Rc) (t : Nat), tab[i]? = some r → L.getD i false = true → r.o.dst = some t → Rep G r.v (a.tmps.getD t undef)) ∧
      (∀ t d, get τ0 t = some d → (∀ (i : Nat) (r : Rc), tab[i]? = some r → L.getD i false = true → r.o.dst ≠ some t) → Rep G d (a.tmps.getD t undef)))
    (hk' : S[k']? = some σ') (hC : ∀ (k1 c : Nat), C[k1]? = some c → ((L.setIfInBounds i true).getD c false = true ↔ k1 < k'))
    (hR : Rel B G' (hide (hidden (L.setIfInBounds i true) A) σ') w') (hv : Rep G' r.v v) : Inv fl ops A τ0 tab S C N B G0 (L.setIfInBounds i true) (a.put r.o.dst v) w' := by
  obtain ⟨hilt, hif⟩ := getD_false_of hi
  obtain ⟨G, h0, hGG, hnew, hold⟩ := hle
  obtain ⟨_, _, _, _, _, _, _, hsz, hdf, _, _⟩ := hI.st
  refine ⟨by simpa using hI.size, fun j oj hoj hL e he hb => ?_, G', k', σ', h0.trans hGG.b, hk', hC, hR, ?_, ?_, fun j rj t hj hL ht => ?_, fun t d hd hno => ?_⟩
  · have hnow : L.getD e.on false = true := by
      rcases (getD_set_iff hilt).1 hL with rfl | hL
      · have := (hT.rc j r hr).1
        rw [hoj] at this; cases this
        exact hall e he hb
      · exact hI.down j oj hoj hL e he hb
    exact getD_set_true hnow
  · cases hd : r.o.dst <;> simp [Act.put, hsz]
  · cases hd : r.o.dst <;> simp [Act.put, hdf]
  · by_cases e : j = i
    · subst e
      rw [hr] at hj; cases hj
      rw [put_getD (by rw [hsz]; exact hT.dst _ _ _ hr ht), if_pos ht]
      exact hv
    · have hLj : L.getD j false = true := by
        rcases (getD_set_iff hilt).1 hL with h | h
        · exact absurd h e
        · exact h
      have hne : r.o.dst ≠ some t := by
        unfold planOk at hp
        simp only [Bool.and_eq_true] at hp
        have hoj := (hT.rc j rj hj).1
        have hoi := (hT.rc i r hr).1
        have := slotsOk_ok hp.2 (by rw [Array.getElem?_toList]; exact hoi)
        exact (slotOk_ok (j := j) this (by rw [Array.getElem?_toList]; exact hoj) ht (by omega)).2
      rw [put_getD' hne]
      exact Rep.mono hGG _ _ (hnew j rj t hj hLj ht)
  · have hne : r.o.dst ≠ some t := hno i r hr ((getD_set_iff hilt).2 (.inl rfl))
    rw [put_getD' hne]
    exact Rep.mono hGG _ _ (hold t d hd fun j rj hj hL => hno j rj hj ((getD_set_iff hilt).2 (.inr hL)))

/-- what an operation sees when its turn comes. -/
theorem Inv.trel (hT : TabOk P N ops A M τ0 s0 tab S C τ) (hM : masks ops.toList [] = M) (hp : planOk ops M = true) {B : Base} {G0 G : Gh} {L : Array Bool} {a : Act} {w : World} (hI : Inv fl ops A τ0 tab S C N B G0 L a w)
    (hnew : ∀ (i : Nat) (r : Rc) (t : Nat), tab[i]? = some r → L.getD i false = true → r.o.dst = some t → Rep G r.v (a.tmps.getD t undef))
    (hold : ∀ t d, get τ0 t = some d → (∀ (i : Nat) (r : Rc), tab[i]? = some r → L.getD i false = true → r.o.dst ≠ some t) → Rep G d (a.tmps.getD t undef))
    {i : Nat} {r : Rc} (hr : tab[i]? = some r) (hi : L.getD i true = false) (hn : NeedsL L (M.getD i 0)) : TRel G N r.env a := by
  obtain ⟨_, _, _, _, _, _, _, hsz, hdf, _, _⟩ := hI.st
  obtain ⟨hilt, hif⟩ := getD_false_of hi
  unfold planOk at hp
  simp only [Bool.and_eq_true] at hp
  obtain ⟨⟨hp1, hp2⟩, hp3⟩ := hp
  refine ⟨hsz, hdf, fun t d hg => ?_⟩
  obtain ⟨hrd, hat⟩ := hT.env i r hr t d hg
  have hoi := (hT.rc i r hr).1
  have hslots := slotsOk_ok hp3 (by rw [Array.getElem?_toList]; exact hoi)
  rw [Nat.zero_add] at hslots
  rcases hat with ⟨j, rj, hj, hrj, hdj, rfl⟩ | ⟨hno, hg0⟩
  · have hoj := (hT.rc j rj hrj).1
    have := (slotOk_ok (j := j) hslots (by rw [Array.getElem?_toList]; exact hoj) hdj (by omega)).1 hrd
    rw [Nat.zero_add] at this
    rcases this with h | h
    · exact hnew j rj t hrj (hn j h) hdj
    · exfalso
      cases hm : M[j]? with
      | none => rw [List.getD_eq_getElem?_getD, hm] at h; simp at h
      | some m =>
        have hlt := mLt_ok hp1 hm
        rw [List.getD_eq_getElem?_getD, hm] at h
        have := Nat.testBit_lt_two_pow (i := i) (x := m) (Nat.lt_of_lt_of_le hlt (Nat.pow_le_pow_right (by omega) (by omega)))
        simp [this] at h
  · refine hold t d hg0 fun j rj hrj hL hdj => ?_
    have hoj := (hT.rc j rj hrj).1
    by_cases e : i = j
    · subst e; rw [hif] at hL; cases hL
    · have := (slotOk_ok (j := j) hslots (by rw [Array.getElem?_toList]; exact hoj) hdj (by omega)).1 hrd
      rw [Nat.zero_add] at this
      rcases this with h | h
      · refine hno j rj ?_ hrj hdj
        cases hm : M[i]? with
        | none => rw [List.getD_eq_getElem?_getD, hm] at h; simp at h
        | some m =>
          have hlt := mLt_ok hp1 hm
          rw [List.getD_eq_getElem?_getD, hm] at h
          rcases Nat.lt_or_ge j i with h' | h'
          · exact h'
          · have := Nat.testBit_lt_two_pow (i := j) (x := m) (Nat.lt_of_lt_of_le hlt (Nat.pow_le_pow_right (by omega) (by omega)))
            simp [this] at h
      · -- i lies ahead of j, and j has been
        have hd := hI.down
        have hPM := masks_ok (ops := ops) (L := L) hd ops.toList [] [] (by simp) rfl (fun j m oj h => by simp at h)
        rw [hM] at hPM
        cases hm : M[j]? with
        | none => rw [List.getD_eq_getElem?_getD, hm] at h; simp at h
        | some m =>
          rw [List.getD_eq_getElem?_getD, hm] at h
          have := hPM j m _ hm hoj (fun e he hb => hd j _ hoj hL e he hb) i h
          rw [hif] at this; cases this

theorem aop_alloc_at {o : Oper} {e : TypeId} {cs : List D} {σ : Sto} {l : Nat} {τ : Env} (ho : o.op = .alloc e) (hz : tyZero P e = some cs) (hl : σ[l]? = some .dead) :
    AOp P N o τ σ fun d s => d = .ptr l 0 0 ∧ s = σ.set l (.cells cs 0 0) := by
  intro B G w a hR hT next Q hn
  obtain ⟨w', G', v, h1, h2, h3, h4⟩ := alloc_at hR hl hz
  have hrun : (execOp a.eval o).run P w = .ok (.value v) w' := by
    obtain ⟨dst, op, ty, pos, after, guard⟩ := o
    simp only at ho
    subst ho
    unfold execOp
    simp [h1]
  unfold Oper.wp
  rw [hrun]
  exact hn v w' G' _ _ h2 h3 h4 ⟨rfl, rfl⟩

theorem hidden_same {L : Array Bool} {i : Nat} (hno : ∀ x ∈ A, x.1 ≠ i) (y : Nat) : y ∈ hidden (L.setIfInBounds i true) A ↔ y ∈ hidden L A := by
  simp only [mem_hidden]
  constructor
  · rintro ⟨x, h1, h2, h3⟩
    refine ⟨x, h1, ?_, h3⟩
    rw [getD_set_ne false (Ne.symm (hno x h1))] at h2; exact h2
  · rintro ⟨x, h1, h2, h3⟩
    refine ⟨x, h1, ?_, h3⟩
    rw [getD_set_ne false (Ne.symm (hno x h1))]; exact h2

theorem drawn_step (hT : TabOk P N ops A M τ0 s0 tab S C τ) (hM : masks ops.toList [] = M) (hp : planOk ops M = true) (hlen : tab.length = ops.size)
    (hal : ∀ x ∈ A, ∃ r : Rc, tab[x.1]? = some r ∧ r.kd = .alloc x.2.1 x.2.2) (hinj : ∀ x ∈ A, ∀ y ∈ A, x.2.1 = y.2.1 → x.1 = y.1)
    {B : Base} {G0 : Gh} {L : Array Bool} {a : Act} {w : World} (hI : Inv fl ops A τ0 tab S C N B G0 L a w) {i : Nat} (hi : i ∈ Region.ready .any ops L) {Q : Exit → Act → World → Prop}
    {K : Act → World → Prop} (hK : ∀ a' w', Inv fl ops A τ0 tab S C N B G0 (L.setIfInBounds i true) a' w' → K a' w') : wpOp P ops Q i K a w := by
  obtain ⟨hun, o, ho, hall⟩ := mem_ready.1 hi
  obtain ⟨hilt, hif⟩ := getD_false_of hun
  have hir : i < tab.length := by rw [hlen]; exact (Array.getElem?_eq_some_iff.1 ho).1
  obtain ⟨r, hr⟩ : ∃ r, tab[i]? = some r := ⟨_, List.getElem?_eq_getElem hir⟩
  obtain ⟨hor, hkd⟩ := hT.rc i r hr
  rw [ho] at hor; cases hor
  have hPM := masks_ok (ops := ops) (L := L) hI.down ops.toList [] [] (by simp) rfl (fun j m oj h => by simp at h)
  rw [hM] at hPM
  have hn : NeedsL L (M.getD i 0) := by
    intro j hj
    cases hm : M[i]? with
    | none => rw [List.getD_eq_getElem?_getD, hm] at hj; simp at hj
    | some m =>
      rw [List.getD_eq_getElem?_getD, hm] at hj
      exact hPM i m _ hm ho hall j hj
  obtain ⟨G, k, σ, h0, hS, hC, hR, hsz, hdf, hnew, hold⟩ := hI.st
  have htr := hI.trel hT hM hp hnew hold hr hun hn
  have hwin : Win M C i k := by
    intro k' c hc
    constructor
    · intro hlt
      have hL := (hC k' c hc).2 hlt
      cases hb : Nat.testBit (M.getD c 0) i with
      | false => rfl
      | true =>
        obtain ⟨rc, hrc, _⟩ := hT.ch k' c hc
        have hoc := (hT.rc c rc hrc).1
        cases hm : M[c]? with
        | none => rw [List.getD_eq_getElem?_getD, hm] at hb; simp at hb
        | some m =>
          rw [List.getD_eq_getElem?_getD, hm] at hb
          have := hPM c m _ hm hoc (fun e he hbb => hI.down c _ hoc hL e he hbb) i hb
          rw [hif] at this; cases this
    · intro hle
      cases hb : Nat.testBit (M.getD i 0) c with
      | false => rfl
      | true =>
        have := (hC k' c hc).1 (hn c hb)
        omega
  have hw0 : ∀ {b : Bool}, wantD ops r.env r.o = some b → Region.wanted r.o (yielded ops a.tmps) = b := fun h => wantD_ok htr h
  have nochain : (∀ k, r.kd ≠ .chain k) → ∀ (k1 c : Nat), C[k1]? = some c → ((L.setIfInBounds i true).getD c false = true ↔ k1 < k) := by
    intro hno k1 c hc
    have : c ≠ i := by
      rintro rfl
      obtain ⟨rc, hrc, hkk⟩ := hT.ch k1 c hc
      rw [hr] at hrc; cases hrc
      exact hno _ hkk
    rw [getD_set_ne false (Ne.symm this)]
    exact hC k1 c hc
  have noalloc : (∀ l cs, r.kd ≠ .alloc l cs) → ∀ x ∈ A, x.1 ≠ i := by
    rintro hno x hx rfl
    obtain ⟨r', hr', hkk⟩ := hal x hx
    rw [hr] at hr'; cases hr'
    exact hno _ _ hkk
  have hmem := hidden_mem hn A
  unfold KdOk at hkd
  unfold wpOp
  rw [ho]
  simp only
  cases hk : r.kd with
  | skip =>
    simp only [hk] at hkd
    rw [if_neg (by rw [hw0 hkd.1]; simp)]
    refine hK _ _ (hI.next hT hp hr hun hall ⟨G, h0, .refl G, hnew, hold⟩ hS (nochain (by rw [hk]; simp)) ?_ ?_)
    · rw [hide_congr (hidden_same (noalloc (by rw [hk]; simp)))]; exact hR
    · rw [hkd.2]; simp only [Rep, undef]; exact ⟨#[], rfl, by simp [Reps]⟩
  | read =>
    simp only [hk] at hkd
    rw [if_pos (hw0 hkd.1)]
    refine .inl (hkd.2 k σ hS hwin _ hmem B G w a hR htr _ _ ?_)
    rintro v w' G' d s' hle hR' hd ⟨rfl, rfl⟩
    refine hK _ _ (hI.next hT hp hr hun hall ⟨G, h0, hle, hnew, hold⟩ hS (nochain (by rw [hk]; simp)) ?_ hd)
    rw [hide_congr (hidden_same (noalloc (by rw [hk]; simp)))]; exact hR'
  | chain k0 =>
    simp only [hk] at hkd
    obtain ⟨hw, hci, hprev, σ1, σ2, hs1, hs2, hop⟩ := hkd
    rw [if_pos (hw0 hw)]
    have hk0 : k0 = k := by
      have h1 : ¬ k0 < k := fun h => by
        have := (hC k0 i hci).2 h
        rw [hif] at this; cases this
      rcases Nat.lt_or_ge k k0 with h2 | h2
      · exfalso
        obtain ⟨k1, rfl⟩ : ∃ k1, k0 = k1 + 1 := ⟨k0 - 1, by omega⟩
        have hlt := lt_of_getElem? hci
        obtain ⟨c, hc⟩ : ∃ c, C[k1]? = some c := ⟨C[k1], List.getElem?_eq_getElem (by omega)⟩
        have := (hC k1 c hc).1 (hn c (hprev k1 c rfl hc))
        omega
      · omega
    subst hk0
    rw [hS] at hs1; cases hs1
    refine .inl (hop _ hmem B G w a hR htr _ _ ?_)
    rintro v w' G' d s' hle hR' hd ⟨rfl, rfl⟩
    refine hK _ _ (hI.next hT hp hr hun hall ⟨G, h0, hle, hnew, hold⟩ hs2 ?_ ?_ hd)
    · intro k1 c hc
      rw [getD_set_iff hilt, hC k1 c hc]
      constructor
      · rintro (rfl | h)
        · obtain ⟨rc, hrc, hkk⟩ := hT.ch k1 c hc
          rw [hr] at hrc; cases hrc
          rw [hk] at hkk; cases hkk; omega
        · omega
      · intro h
        rcases Nat.lt_or_ge k1 k0 with h' | h'
        · exact .inr h'
        · have : k1 = k0 := by omega
          subst this
          rw [hci] at hc; cases hc; exact .inl rfl
    · rw [hide_congr (hidden_same (noalloc (by rw [hk]; simp)))]; exact hR'
  | alloc l cs =>
    simp only [hk] at hkd
    obtain ⟨hw, hAm, hv, e, hop, hz⟩ := hkd
    rw [if_pos (hw0 hw)]
    obtain ⟨x, hx, rfl, hx2⟩ : ∃ x ∈ A, x.1 = i ∧ x.2 = (l, cs) := ⟨_, hAm, rfl, rfl⟩
    have hσl : σ[l]? = some (.cells cs 0 0) := by
      have := hT.res x hx k σ hS fun k' c hc hlt => (hwin k' c hc).1 hlt
      rw [hx2] at this; exact this
    have hin : l ∈ hidden L A := mem_hidden.2 ⟨x, hx, hif, by rw [hx2]⟩
    have hdead : (hide (hidden L A) σ)[l]? = some .dead := by
      rw [hide_get, if_pos ⟨hin, lt_of_getElem? hσl⟩]
    refine .inl (aop_alloc_at (N := N) (τ := r.env) hop hz hdead B G w a hR htr _ _ ?_)
    rintro v w' G' d s' hle hR' hd ⟨rfl, rfl⟩
    refine hK _ _ (hI.next hT hp hr hun hall ⟨G, h0, hle, hnew, hold⟩ hS (nochain (by rw [hk]; simp)) ?_ (by rw [hv]; exact hd))
    rw [← hide_set (ls := hidden L A) (l := l) ?_ hσl]
    · exact hR'
    · intro y
      simp only [mem_hidden]
      constructor
      · rintro ⟨z, h1, h2, h3⟩
        have hne : z.1 ≠ x.1 := by
          intro e'
          rw [e', (getD_set_iff hilt).2 (.inl rfl)] at h2; cases h2
        rw [getD_set_ne false (Ne.symm hne)] at h2
        refine ⟨⟨z, h1, h2, h3⟩, ?_⟩
        rintro rfl
        exact hne (hinj z h1 x hx (by rw [h3, hx2]))
      · rintro ⟨⟨z, h1, h2, h3⟩, hne⟩
        refine ⟨z, h1, ?_, h3⟩
        have : z.1 ≠ x.1 := by
          intro e'
          obtain ⟨rz, hrz, hkz⟩ := hal z h1
          rw [e', hr] at hrz; cases hrz
          rw [hk] at hkz; cases hkz
          exact hne h3.symm
        rw [getD_set_ne false (Ne.symm this)]; exact h2
end
end Go.Fw
