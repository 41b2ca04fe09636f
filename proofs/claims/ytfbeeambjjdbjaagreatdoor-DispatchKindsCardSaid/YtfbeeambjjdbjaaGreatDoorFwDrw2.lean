import Derived.Test.YtfbeeambjjdbjaaGreatDoorFwDrw
namespace Go.Fw
open Go.RowKit

def Win (M C : List Nat) (i k : Nat) : Prop :=
  ∀ (k' c : Nat), C[k']? = some c → (k' < k → Nat.testBit (M.getD c 0) i = false) ∧ (k ≤ k' → Nat.testBit (M.getD i 0) c = false)

def KdOk (P : Program) (N : Nat) (ops : Array Oper) (A : Res) (M : List Nat) (S : List Sto) (C : List Nat) (i : Nat) (r : Rc) : Prop :=
  match r.kd with
  | .skip => wantD ops r.env r.o = some false ∧ r.v = .tuple []
  | .read => wantD ops r.env r.o = some true ∧ ∀ (k : Nat) (σ : Sto), S[k]? = some σ → Win M C i k → ∀ ls ∈ subsA A (M.getD i 0), AOp P N r.o r.env (hide ls σ) (fun d' s' => d' = r.v ∧ s' = hide ls σ)
  | .chain k => wantD ops r.env r.o = some true ∧ C[k]? = some i ∧ (∀ (k1 c : Nat), k = k1 + 1 → C[k1]? = some c → Nat.testBit (M.getD i 0) c = true) ∧
      ∃ (σ σ' : Sto), S[k]? = some σ ∧ S[k + 1]? = some σ' ∧ ∀ ls ∈ subsA A (M.getD i 0), AOp P N r.o r.env (hide ls σ) (fun d' s' => d' = r.v ∧ s' = hide ls σ')
  | .alloc l cs => wantD ops r.env r.o = some true ∧ (i, l, cs) ∈ A ∧ r.v = .ptr l 0 0 ∧ ∃ e, r.o.op = .alloc e ∧ tyZero P e = some cs

def EnvAt (tab : List Rc) (τ0 : Env) (i t : Nat) (d : D) : Prop :=
  (∃ (j : Nat) (rj : Rc), j < i ∧ tab[j]? = some rj ∧ rj.o.dst = some t ∧ rj.v = d) ∨ ((∀ (j : Nat) (rj : Rc), j < i → tab[j]? = some rj → rj.o.dst ≠ some t) ∧ get τ0 t = some d)

structure TabOk (P : Program) (N : Nat) (ops : Array Oper) (A : Res) (M : List Nat) (τ0 : Env) (s0 : Sto) (tab : List Rc) (S : List Sto) (C : List Nat) (τ : Env) : Prop where
  rc : ∀ (i : Nat) (r : Rc), tab[i]? = some r → ops[i]? = some r.o ∧ KdOk P N ops A M S C i r
  slen : S.length = C.length + 1
  hd : S[0]? = some s0
  ch : ∀ (k c : Nat), C[k]? = some c → ∃ r : Rc, tab[c]? = some r ∧ r.kd = .chain k
  res : ∀ x ∈ A, ∀ (k : Nat) (σ : Sto), S[k]? = some σ → (∀ (k' c : Nat), C[k']? = some c → k' < k → Nat.testBit (M.getD c 0) x.1 = false) → σ[x.2.1]? = some (.cells x.2.2 0 0)
  env : ∀ (i : Nat) (r : Rc), tab[i]? = some r → ∀ t d, get r.env t = some d → (r.o.looksAt ops).contains t = true ∧ EnvAt tab τ0 i t d
  fin : ∀ t d, get τ t = some d → EnvAt tab τ0 tab.length t d
  dst : ∀ (i : Nat) (r : Rc) (t : Nat), tab[i]? = some r → r.o.dst = some t → t < N

theorem get_filter {p : Nat → Bool} : ∀ {τ : Env} {t : Nat} {d : D}, get (τ.filter fun q => p q.1) t = some d → p t = true ∧ get τ t = some d
  | [], _, _, h => by simp [get] at h
  | (i, x) :: τ, t, d, h => by
    simp only [List.filter_cons] at h
    by_cases hp : p i = true
    · simp only [hp, if_true, get] at h ⊢
      by_cases e : i = t
      · subst e; simp only [if_true] at h ⊢; exact ⟨hp, h⟩
      · simp only [e, if_false] at h ⊢; exact get_filter h
    · simp only [hp] at h
      obtain ⟨h1, h2⟩ := get_filter h
      refine ⟨h1, ?_⟩
      have : i ≠ t := fun e => by subst e; exact hp h1
      simp only [get, this, if_false]; exact h2

theorem lt_of_getElem? {α : Type} {l : List α} {i : Nat} {x : α} (h : l[i]? = some x) : i < l.length := by
  rcases Nat.lt_or_ge i l.length with h' | h'
  · exact h'
  · rw [List.getElem?_eq_none h'] at h; cases h

theorem push_get {α : Type} {l : List α} {x y : α} {i : Nat} (h : (l ++ [x])[i]? = some y) : (i < l.length ∧ l[i]? = some y) ∨ (i = l.length ∧ y = x) := by
  have hl := lt_of_getElem? h
  simp at hl
  rcases Nat.lt_or_ge i l.length with h' | h'
  · rw [List.getElem?_append_left h'] at h; exact .inl ⟨h', h⟩
  · have : i = l.length := by omega
    subst this
    simp at h
    exact .inr ⟨rfl, h.symm⟩

theorem push_old {α : Type} {l : List α} {x y : α} {i : Nat} (h : l[i]? = some y) : (l ++ [x])[i]? = some y := by
  rw [List.getElem?_append_left (lt_of_getElem? h)]; exact h

section
variable {P : Program} {N : Nat} {ops : Array Oper} {A : Res} {M : List Nat} {τ0 : Env} {s0 : Sto} {tab : List Rc} {S : List Sto} {C : List Nat} {τ τ2 : Env}

theorem EnvAt.push {r : Rc} {i t : Nat} {d : D} (h : EnvAt tab τ0 i t d) (hi : i ≤ tab.length) : EnvAt (tab ++ [r]) τ0 i t d := by
  rcases h with ⟨j, rj, h1, h2, h3, h4⟩ | ⟨h1, h2⟩
  · exact .inl ⟨j, rj, h1, push_old h2, h3, h4⟩
  · refine .inr ⟨fun j rj hj hr => ?_, h2⟩
    rcases push_get hr with ⟨_, h⟩ | ⟨rfl, _⟩
    · exact h1 j rj hj h
    · omega

theorem env_push (h : TabOk P N ops A M τ0 s0 tab S C τ) {r : Rc} (hp : putD N r.o.dst r.v τ = some τ2) (he : r.env = rst ops r.o τ) :
    (∀ (i : Nat) (r' : Rc), (tab ++ [r])[i]? = some r' → ∀ t d, get r'.env t = some d → (r'.o.looksAt ops).contains t = true ∧ EnvAt (tab ++ [r]) τ0 i t d) ∧
    (∀ t d, get τ2 t = some d → EnvAt (tab ++ [r]) τ0 (tab ++ [r]).length t d) ∧ (∀ (i : Nat) (r' : Rc) (t : Nat), (tab ++ [r])[i]? = some r' → r'.o.dst = some t → t < N) := by
  refine ⟨fun i r' hi t d hg => ?_, fun t d hg => ?_, fun i r' t hi ht => ?_⟩
  · rcases push_get hi with ⟨hl, h'⟩ | ⟨rfl, rfl⟩
    · obtain ⟨h1, h2⟩ := h.env i r' h' t d hg
      exact ⟨h1, h2.push (Nat.le_of_lt hl)⟩
    · rw [he] at hg
      obtain ⟨h1, h2⟩ := get_filter (p := fun x => (r'.o.looksAt ops).contains x) hg
      exact ⟨h1, (h.fin t d h2).push (Nat.le_refl _)⟩
  · unfold putD at hp
    have hold : r.o.dst ≠ some t → get τ t = some d → EnvAt (tab ++ [r]) τ0 (tab ++ [r]).length t d := by
      intro hne hg
      rcases h.fin t d hg with ⟨j, rj, h1, h2, h3, h4⟩ | ⟨h1, h2⟩
      · exact .inl ⟨j, rj, by simp; omega, push_old h2, h3, h4⟩
      · refine .inr ⟨fun j rj hj hr => ?_, h2⟩
        rcases push_get hr with ⟨hl, h'⟩ | ⟨rfl, rfl⟩
        · exact h1 j rj hl h'
        · exact hne
    split at hp
    · rename_i hd
      cases hp
      exact hold (by rw [hd]; simp) hg
    · rename_i t' hd
      split at hp <;> try (cases hp; done)
      cases hp
      simp only [get] at hg
      by_cases e : t' = t
      · subst e
        simp only [if_true, Option.some.injEq] at hg
        exact .inl ⟨tab.length, r, by simp, by simp, hd, hg⟩
      · simp only [e, if_false] at hg
        exact hold (by rw [hd]; simpa using e) hg
  · rcases push_get hi with ⟨hl, h'⟩ | ⟨rfl, rfl⟩
    · exact h.dst i r' t h' ht
    · unfold putD at hp
      rw [ht] at hp
      simp only at hp
      split at hp
      · assumption
      · cases hp

theorem TabOk.push (h : TabOk P N ops A M τ0 s0 tab S C τ) {r : Rc} (ho : ops[tab.length]? = some r.o) (hk : KdOk P N ops A M S C tab.length r) (hp : putD N r.o.dst r.v τ = some τ2) (he : r.env = rst ops r.o τ) :
    TabOk P N ops A M τ0 s0 (tab ++ [r]) S C τ2 where
  rc i r' hi := by
    rcases push_get hi with ⟨_, h'⟩ | ⟨rfl, rfl⟩
    · exact h.rc i r' h'
    · exact ⟨ho, hk⟩
  slen := h.slen
  hd := h.hd
  ch k c hc := by
    obtain ⟨r', h1, h2⟩ := h.ch k c hc
    exact ⟨r', push_old h1, h2⟩
  res := h.res
  env := (env_push h hp he).1
  fin := (env_push h hp he).2.1
  dst := (env_push h hp he).2.2

theorem reS_mem {σ : Sto} : ∀ {tab : List Rc} {j0 j : Nat} {r : Rc} {ls : List Nat}, tab[j]? = some r → r.kd = .read → C.all (fun c => !Nat.testBit (M.getD c 0) (j0 + j)) = true → ls ∈ subsA A (M.getD (j0 + j) 0) →
    (r, hide ls σ) ∈ reS A M C σ j0 tab
  | [], _, _, _, _, h, _, _, _ => by simp at h
  | x :: tab, j0, 0, r, ls, h, hk, hc, hl => by
    simp at h
    subst h
    simp only [Nat.add_zero] at hc hl
    simp only [reS, hk, hc]
    exact List.mem_append_left _ (List.mem_map.2 ⟨ls, hl, rfl⟩)
  | x :: tab, j0, j + 1, r, ls, h, hk, hc, hl => by
    simp only [List.getElem?_cons_succ] at h
    have e : j0 + (j + 1) = (j0 + 1) + j := by omega
    rw [e] at hc hl
    have ih := reS_mem (σ := σ) (j0 := j0 + 1) h hk hc hl
    simp only [reS]
    split
    · split
      · exact List.mem_append_right _ ih
      · exact ih
    · exact ih

theorem TabOk.pushC (h : TabOk P N ops A M τ0 s0 tab S C τ) {r : Rc} {σ' : Sto} (ho : ops[tab.length]? = some r.o) (hkd : r.kd = .chain C.length)
    (hk : KdOk P N ops A M (S ++ [σ']) (C ++ [tab.length]) tab.length r)
    (hre : ∀ x ∈ reS A M (C ++ [tab.length]) σ' 0 tab, AOp P N x.1.o x.1.env x.2 fun d' s' => d' = x.1.v ∧ s' = x.2)
    (hres : ∀ x ∈ A, match Nat.testBit (M.getD tab.length 0) x.1 with | true => True | false => σ'[x.2.1]? = some (.cells x.2.2 0 0))
    (hp : putD N r.o.dst r.v τ = some τ2) (he : r.env = rst ops r.o τ) :
    TabOk P N ops A M τ0 s0 (tab ++ [r]) (S ++ [σ']) (C ++ [tab.length]) τ2 where
  rc i r' hi := by
    rcases push_get hi with ⟨hlt, h'⟩ | ⟨rfl, rfl⟩
    · obtain ⟨h1, h2⟩ := h.rc i r' h'
      refine ⟨h1, ?_⟩
      unfold KdOk at h2 ⊢
      cases hkd' : r'.kd with
      | skip => simp only [hkd'] at h2 ⊢; exact h2
      | alloc l cs => simp only [hkd'] at h2 ⊢; exact h2
      | read =>
        simp only [hkd'] at h2 ⊢
        refine ⟨h2.1, fun k σ hk hw ls hls => ?_⟩
        rcases push_get hk with ⟨_, hk'⟩ | ⟨rfl, rfl⟩
        · exact h2.2 k σ hk' (fun k' c hc => hw k' c (push_old hc)) ls hls
        · refine hre (r', hide ls σ) (reS_mem h' hkd' ?_ (by simpa using hls))
          rw [List.all_eq_true]
          intro c hc
          obtain ⟨k', hk'⟩ := List.getElem?_of_mem hc
          have hlt := lt_of_getElem? hk'
          have := (hw k' c hk').1 (by rw [h.slen]; simpa using hlt)
          rw [Nat.zero_add, this]; rfl
      | chain k =>
        simp only [hkd'] at h2 ⊢
        obtain ⟨h3, h4, h5, σ, σ1, h6, h7, h8⟩ := h2
        refine ⟨h3, push_old h4, fun k1 c hk1 hc => ?_, σ, σ1, push_old h6, push_old h7, h8⟩
        subst hk1
        have := lt_of_getElem? h4
        rw [List.getElem?_append_left (by omega)] at hc
        exact h5 k1 c rfl hc
    · exact ⟨ho, hk⟩
  slen := by simp [h.slen]
  hd := push_old h.hd
  ch k c hc := by
    rcases push_get hc with ⟨_, h'⟩ | ⟨rfl, rfl⟩
    · obtain ⟨r', h1, h2⟩ := h.ch k c h'
      exact ⟨r', push_old h1, h2⟩
    · exact ⟨r, by simp, hkd⟩
  res x hx k σ hk hc := by
    rcases push_get hk with ⟨_, h'⟩ | ⟨rfl, rfl⟩
    · exact h.res x hx k σ h' fun k' c hc' hlt => hc k' c (push_old hc') hlt
    · have h1 := hres x hx
      have h2 := hc C.length tab.length (by simp) (by rw [h.slen]; omega)
      rw [h2] at h1
      exact h1
  env := (env_push h hp he).1
  fin := (env_push h hp he).2.1
  dst := (env_push h hp he).2.2

theorem resOf_mem {i l : Nat} {cs : List D} (h : resOf? A i = some (l, cs)) : (i, l, cs) ∈ A := by
  unfold resOf? at h
  split at h
  · rename_i x hx
    have h1 := List.find?_some hx
    have h2 := List.mem_of_find?_eq_some hx
    simp only [beq_iff_eq] at h1
    obtain ⟨a, b⟩ := x
    simp only at h1 h
    cases h; subst h1; exact h2
  · cases h

/-- what the rounds of a drawn region have gathered. -/
theorem adr_tab {K : Env → Sto → Prop} : ∀ (r : List Oper) (τ : Env) (S : List Sto) (C : List Nat) (tab : List Rc) (pre : List Oper), ops.toList = pre ++ r → tab.length = pre.length →
    TabOk P N ops A M τ0 s0 tab S C τ → ADr P N ops A M r tab.length τ S C tab K →
    ∃ (tab' : List Rc) (S' : List Sto) (C' : List Nat) (τ' : Env) (σ' : Sto), tab'.length = ops.size ∧ TabOk P N ops A M τ0 s0 tab' S' C' τ' ∧ S'.getLast? = some σ' ∧ K τ' σ' ∧ (∀ x ∈ A, ∃ r : Rc, tab'[x.1]? = some r ∧ r.kd = .alloc x.2.1 x.2.2)
  | [], τ, S, C, tab, pre, hops, hlen, hT, h => by
    obtain ⟨hal, σ, h1, h2⟩ := h
    have : ops.size = pre.length := by have := congrArg List.length hops; simpa using this
    exact ⟨tab, S, C, τ, σ, by omega, hT, h1, h2, hal.mem⟩
  | o :: r, τ, S, C, tab, pre, hops, hlen, hT, h => by
    have ho : ops[tab.length]? = some o := by rw [← Array.getElem?_toList, hops, hlen]; simp
    have next : ∀ (r' : Rc) (τ2 : Env) (S' : List Sto) (C' : List Nat), r'.o = o → TabOk P N ops A M τ0 s0 (tab ++ [r']) S' C' τ2 → ADr P N ops A M r (tab.length + 1) τ2 S' C' (tab ++ [r']) K →
        ∃ (tab' : List Rc) (S' : List Sto) (C' : List Nat) (τ' : Env) (σ' : Sto), tab'.length = ops.size ∧ TabOk P N ops A M τ0 s0 tab' S' C' τ' ∧ S'.getLast? = some σ' ∧ K τ' σ' ∧ (∀ x ∈ A, ∃ r : Rc, tab'[x.1]? = some r ∧ r.kd = .alloc x.2.1 x.2.2) := by
      intro r' τ2 S' C' hr hT' h'
      exact adr_tab r τ2 S' C' (tab ++ [r']) (pre ++ [o]) (by simp [hops]) (by simp [hlen]) hT' (by simpa using h')
    rcases h with ⟨hw, τ2, hp, h⟩ | ⟨hw, d, τ2, hall, hp, h⟩ | ⟨hw, hch, d, τ2, σ, σ', hlast, hall, hre, hres, hp, h⟩ | ⟨hw, e, l, cs, τ2, hop, hA, hz, hp, h⟩
    · exact next ⟨o, rst ops o τ, .tuple [], .skip⟩ τ2 S C rfl (hT.push ho ⟨hw, rfl⟩ hp rfl) h
    · refine next ⟨o, rst ops o τ, d, .read⟩ τ2 S C rfl (hT.push ho ⟨hw, fun k σ hk hwin ls hls => ?_⟩ hp rfl) h
      refine hall.mem _ (List.mem_flatMap.2 ⟨σ, keepS_mem hk fun k' c hc hle => (hwin k' c hc).2 hle, List.mem_map.2 ⟨ls, hls, rfl⟩⟩)
    · refine next ⟨o, rst ops o τ, d, .chain C.length⟩ τ2 (S ++ [σ']) (C ++ [tab.length]) rfl (hT.pushC ho rfl ⟨hw, by simp, fun k1 c hk1 hc => ?_, σ, σ', ?_, ?_, fun ls hls => hall.mem ls hls⟩ hre.mem hres.mem hp rfl) h
      · have hc' : C.getLast? = some c := by
          rw [List.getElem?_append_left (by omega)] at hc
          rw [List.getLast?_eq_getElem?, hk1]; exact hc
        unfold chOk at hch
        rw [hc'] at hch
        exact hch
      · have : S[C.length]? = some σ := by
          rw [List.getLast?_eq_getElem?, hT.slen] at hlast; exact hlast
        exact push_old this
      · rw [← hT.slen]; simp
    · refine next ⟨o, rst ops o τ, .ptr l 0 0, .alloc l cs⟩ τ2 S C rfl (hT.push ho ⟨hw, resOf_mem hA, rfl, e, hop, hz⟩ hp rfl) h
end
end Go.Fw
