import Derived.Test.YtfbeeambjjdbjaaGreatDoorFwRun
import Derived.ScopeJumps
namespace Go.Fw
open Go.RowKit

/-! ### a loop, round by round -/
def LWp (i : Bool) (P : Program) (N : Nat) (c : Code) (τ : Env) (σ : Sto) (Q : AEx → Env → Sto → Prop) : Prop :=
  ∀ (B : Base) (G : Gh) (w : World) (a : Act), Rel B G σ w → TRel G N τ a → ∀ b k cs,
    ∃ e a' w', liftQ i B G N Q e a' w' ∧ Arrives P (lone (b.at a (.code c :: .inLoop c :: k)) cs w) b k cs e a' w'

section
variable {i : Bool} {P : Program} {N : Nat} {c : Code} {τ τ' : Env} {σ σ' : Sto} {Q : AEx → Env → Sto → Prop}

theorem awp_loop1 (h : LWp i P N c τ σ Q) : AWp i P N (.loop c) τ σ Q := by
  intro B G w a hR hT b k cs
  obtain ⟨e, a', w', hq, harr⟩ := h B G w a hR hT b k cs
  exact ⟨e, a', w', hq, .of_steps (.one step_loop) harr⟩

theorem lwp_round (h : AWp i P N c τ σ (thenQ (fun τ' σ' => LWp i P N c τ' σ' Q) Q)) : LWp i P N c τ σ Q := by
  intro B G w a hR hT b k cs
  obtain ⟨e, a₁, w₁, hq, harr⟩ := h B G w a hR hT b (.inLoop c :: k) cs
  cases e with
  | normal =>
    obtain ⟨G', τ1, σ1, h1, h2, h3, h4⟩ := hq
    obtain ⟨e₂, a₂, w₂, hq₂, harr₂⟩ := h4 B G' w₁ a₁ h2 h3 b k cs
    exact ⟨e₂, a₂, w₂, liftQ_le h1 (fun _ _ _ y => y) e₂ a₂ w₂ hq₂, .of_steps (Steps.trans harr (.one step_inLoop)) harr₂⟩
  | exit id => exact ⟨.exit id, a₁, w₁, (show liftQ i B G N Q (.exit id) a₁ w₁ from hq), .pass (x := .inLoop c) rfl (fun _ _ => .inl (by simp)) harr⟩
  | goto l => exact ⟨.goto l, a₁, w₁, (show liftQ i B G N Q (.goto l) a₁ w₁ from hq), .pass (x := .inLoop c) rfl (fun _ _ => .inl (by simp)) harr⟩
  | ret => exact ⟨.ret, a₁, w₁, (show liftQ i B G N Q .ret a₁ w₁ from hq), .pass (x := .inLoop c) rfl (fun _ _ => .inl (by simp)) harr⟩
  | panic ch => exact hq.elim
  | outgrown => exact hq.elim

theorem LWp.mono {Q' : AEx → Env → Sto → Prop} (h : LWp i P N c τ σ Q) (hq : ∀ e τ σ, Q e τ σ → Q' e τ σ) : LWp i P N c τ σ Q' := by
  intro B G w a hR hT b k cs
  obtain ⟨e, a', w', h1, h2⟩ := h B G w a hR hT b k cs
  exact ⟨e, a', w', liftQ_le (.refl G) hq e a' w' h1, h2⟩

def noGotoQ (Q : AEx → Env → Sto → Prop) : AEx → Env → Sto → Prop
  | .goto _, _, _ => False
  | .normal, τ, σ => Q .normal τ σ
  | .exit id, τ, σ => Q (.exit id) τ σ
  | .ret, τ, σ => Q .ret τ σ

/-- a scope through which the run goes without a jump. -/
theorem awp_scope (h : AWp i P N c τ σ (noGotoQ Q)) : AWp i P N (.scope c) τ σ Q := by
  intro B G w a hR hT
  refine wp_scope_straight (wp_mono (h B G w a hR hT) fun e a' w' x => ?_)
  cases e with
  | normal => exact x
  | exit id => exact x
  | goto l => obtain ⟨_, _, _, _, _, _, h⟩ := x; exact h.elim
  | ret => exact x
  | panic ch => exact x
  | outgrown => exact x

theorem awp_condT {x : Operand} {c1 c2 : Code} (hc : ev τ x = some (.bool true)) (h : AWp i P N c1 τ σ Q) : AWp i P N (.cond x c1 c2) τ σ Q := awp_cond hc h
theorem awp_condF {x : Operand} {c1 c2 : Code} (hc : ev τ x = some (.bool false)) (h : AWp i P N c2 τ σ Q) : AWp i P N (.cond x c1 c2) τ σ Q := awp_cond hc h
end

/-! ### functions at hand -/
def okF (P : Program) (f : FuncId) : Option Func :=
  match P.funcs[f]? with
  | some fn => if fn.body.isSome = true ∧ (fn.name == "runtime.NumGoroutine") = false then some fn else none
  | none => none

theorem fok_of {P : Program} {f : FuncId} {fn : Func} (this : okF P f = some fn) : P.funcs[f]? = some fn ∧ FnOk P f := by
  unfold okF at this
  split at this <;> try (cases this; done)
  rename_i fn' hfn
  split at this <;> try (cases this; done)
  rename_i hb
  cases this
  exact ⟨hfn, fn, hfn, hb.1, hb.2⟩

/-- only the last word on each slot. -/
def tidy : Env → List Nat → Env
  | [], _ => []
  | (t, d) :: r, seen => match seen.any (Nat.beq t) with
    | true => tidy r seen
    | false => (t, d) :: tidy r (t :: seen)

theorem get_tidy : ∀ (τ : Env) (seen : List Nat) (t : Nat) (d : D), get (tidy τ seen) t = some d → seen.any (Nat.beq t) = false ∧ get τ t = some d
  | [], _, _, _, h => by simp [tidy, get] at h
  | (i, x) :: r, seen, t, d, h => by
    simp only [tidy] at h
    split at h
    · rename_i hs
      obtain ⟨h1, h2⟩ := get_tidy r seen t d h
      refine ⟨h1, ?_⟩
      have : i ≠ t := fun e => by subst e; rw [hs] at h1; cases h1
      simp only [get, this, if_false]; exact h2
    · rename_i hs
      simp only [get] at h ⊢
      by_cases e : i = t
      · subst e; simp only [if_true] at h ⊢; exact ⟨hs, h⟩
      · simp only [e, if_false] at h ⊢
        obtain ⟨h1, h2⟩ := get_tidy r (i :: seen) t d h
        simp only [List.any_cons, Bool.or_eq_false_iff] at h1
        exact ⟨h1.2, h2⟩

def xcode (call : CallF) (T : Tys) (N : Nat) : Nat → Code → Env → Sto → Option (AEx × Env × Sto)
  | 0, _, _, _ => none
  | n + 1, c, τ, σ => match c with
    | .skip => some (.normal, τ, σ)
    | .label _ => some (.normal, τ, σ)
    | .ret => some (.ret, τ, σ)
    | .exit id => some (.exit id, τ, σ)
    | .seq a b => match xcode call T N n a τ σ with
      | some (.normal, τ', σ') => xcode call T N n b τ' σ'
      | r => r
    | .cond x a b => match ev τ x with
      | some (.bool true) => xcode call T N n a τ σ
      | some (.bool false) => xcode call T N n b τ σ
      | _ => none
    | .block id b => match xcode call T N n b τ σ with
      | some (.exit id', τ', σ') => match Nat.beq id' id with
        | true => some (.normal, τ', σ')
        | false => some (.exit id', τ', σ')
      | r => r
    | .loop b => match xcode call T N n b (tidy τ []) σ with
      | some (.normal, τ', σ') => xcode call T N n (.loop b) τ' σ'
      | r => r
    | .scope b => match xcode call T N n b τ σ with
      | some (.goto _, _, _) => none
      | r => r
    | .region _ ops false => match xops call T N ops ops.toList τ σ with
      | some (τ', σ') => some (.normal, τ', σ')
      | none => none
    | .region _ ops true => match xdraw call T N ops τ σ with
      | some (τ', σ') => some (.normal, τ', σ')
      | none => none
    | _ => none

section
variable {i : Bool} {P : Program} {T : Tys} {call : CallF} {N : Nat}

theorem xcode_ok (hTy : TOk T P) (hC : CallsOk P call) (hm : P.follows .mixedOrders = true) : ∀ (n : Nat),
    (∀ (c : Code) (τ : Env) (σ : Sto) (e : AEx) (τ' : Env) (σ' : Sto), xcode call T N n c τ σ = some (e, τ', σ') → AWp i P N c τ σ (fun e' τ'' σ'' => e' = e ∧ τ'' = τ' ∧ σ'' = σ')) ∧
    (∀ (c : Code) (τ : Env) (σ : Sto) (e : AEx) (τ' : Env) (σ' : Sto), xcode call T N n (.loop c) τ σ = some (e, τ', σ') → LWp i P N c τ σ (fun e' τ'' σ'' => e' = e ∧ τ'' = τ' ∧ σ'' = σ'))
  | 0 => ⟨fun _ _ _ _ _ _ h => by simp [xcode] at h, fun _ _ _ _ _ _ h => by simp [xcode] at h⟩
  | n + 1 => by
    obtain ⟨ih1, ih2⟩ := xcode_ok hTy hC hm n
    have loop : ∀ (c : Code) (τ : Env) (σ : Sto) (e : AEx) (τ' : Env) (σ' : Sto), xcode call T N (n + 1) (.loop c) τ σ = some (e, τ', σ') → LWp i P N c τ σ (fun e' τ'' σ'' => e' = e ∧ τ'' = τ' ∧ σ'' = σ') := by
      intro c τ σ e τ' σ' h
      simp only [xcode] at h
      refine lwp_round (AWp.sub (τ' := tidy τ []) ?_ (fun t d hg => (get_tidy τ [] t d hg).2))
      split at h
      · rename_i τ1 σ1 h1
        refine (ih1 c _ σ _ _ _ h1).mono ?_
        rintro e' τ2 σ2 ⟨rfl, rfl, rfl⟩
        exact ih2 c _ _ e τ' σ' h
      · rename_i hno
        refine (ih1 c _ σ _ _ _ h).mono ?_
        rintro e' τ2 σ2 ⟨rfl, rfl, rfl⟩
        cases e' with
        | normal => exact absurd h (hno _ _)
        | exit id => exact ⟨rfl, rfl, rfl⟩
        | goto l => exact ⟨rfl, rfl, rfl⟩
        | ret => exact ⟨rfl, rfl, rfl⟩
    refine ⟨fun c τ σ e τ' σ' h => ?_, loop⟩
    cases c <;> (try (simp only [xcode] at h; cases h; done))
    case skip => simp only [xcode, Option.some.injEq, Prod.mk.injEq] at h; exact awp_skip ⟨h.1 ▸ rfl, h.2.1 ▸ rfl, h.2.2 ▸ rfl⟩
    case label => simp only [xcode, Option.some.injEq, Prod.mk.injEq] at h; exact awp_label ⟨h.1 ▸ rfl, h.2.1 ▸ rfl, h.2.2 ▸ rfl⟩
    case ret => simp only [xcode, Option.some.injEq, Prod.mk.injEq] at h; exact awp_ret ⟨h.1 ▸ rfl, h.2.1 ▸ rfl, h.2.2 ▸ rfl⟩
    case exit id => simp only [xcode, Option.some.injEq, Prod.mk.injEq] at h; exact awp_exit ⟨h.1 ▸ rfl, h.2.1 ▸ rfl, h.2.2 ▸ rfl⟩
    case seq a b =>
      simp only [xcode] at h
      refine awp_seq ?_
      split at h
      · rename_i τ1 σ1 h1
        refine (ih1 a τ σ _ _ _ h1).mono ?_
        rintro e' τ2 σ2 ⟨rfl, rfl, rfl⟩
        exact ih1 b _ _ e τ' σ' h
      · rename_i hno
        refine (ih1 a τ σ _ _ _ h).mono ?_
        rintro e' τ2 σ2 ⟨rfl, rfl, rfl⟩
        cases e' with
        | normal => exact absurd h (hno _ _)
        | exit id => exact ⟨rfl, rfl, rfl⟩
        | goto l => exact ⟨rfl, rfl, rfl⟩
        | ret => exact ⟨rfl, rfl, rfl⟩
    case cond x a b =>
      simp only [xcode] at h
      split at h <;> try (cases h; done)
      · rename_i hx; exact awp_condT hx (ih1 a τ σ _ _ _ h)
      · rename_i hx; exact awp_condF hx (ih1 b τ σ _ _ _ h)
    case block id b =>
      simp only [xcode] at h
      refine awp_block ?_
      split at h
      · rename_i id' τ1 σ1 h1
        refine (ih1 b τ σ _ _ _ h1).mono ?_
        rintro e' τ2 σ2 ⟨rfl, rfl, rfl⟩
        simp only [blockQ]
        split at h
        · rename_i he
          have he := nbeq he
          cases h
          rw [if_pos he]; exact ⟨rfl, rfl, rfl⟩
        · rename_i he
          cases h
          rw [if_neg (fun e => by subst e; rw [Nat.beq_refl] at he; cases he)]; exact ⟨rfl, rfl, rfl⟩
      · rename_i hno
        refine (ih1 b τ σ _ _ _ h).mono ?_
        rintro e' τ2 σ2 ⟨rfl, rfl, rfl⟩
        cases e' with
        | normal => exact ⟨rfl, rfl, rfl⟩
        | exit id => exact absurd h (hno _ _ _)
        | goto l => exact ⟨rfl, rfl, rfl⟩
        | ret => exact ⟨rfl, rfl, rfl⟩
    case scope b =>
      simp only [xcode] at h
      refine awp_scope ?_
      split at h
      · cases h
      · rename_i hno
        refine (ih1 b τ σ _ _ _ h).mono ?_
        rintro e' τ2 σ2 ⟨rfl, rfl, rfl⟩
        cases e' with
        | normal => exact ⟨rfl, rfl, rfl⟩
        | exit id => exact ⟨rfl, rfl, rfl⟩
        | goto l => exact absurd h (hno _ _ _)
        | ret => exact ⟨rfl, rfl, rfl⟩
    case loop b => exact awp_loop1 (loop b τ σ e τ' σ' h)
    case region id ops draw =>
      cases draw with
      | false =>
        simp only [xcode] at h
        split at h <;> try (cases h; done)
        rename_i τ1 σ1 h1
        cases h
        exact awp_region (xops_ok hTy hC _ _ _ _ _ h1 ⟨rfl, rfl, rfl⟩)
      | true =>
        simp only [xcode] at h
        split at h <;> try (cases h; done)
        rename_i τ1 σ1 h1
        cases h
        exact xdraw_ok hTy hC hm h1 ⟨rfl, rfl, rfl⟩

def xret (T : Tys) (rs : List ResultVar) : Option (AEx × Env × Sto) → Option (D × Sto)
  | some (.normal, τ, σ) => match resD T rs τ σ with
    | some d => some (d, σ)
    | none => none
  | some (.ret, τ, σ) => match resD T rs τ σ with
    | some d => some (d, σ)
    | none => none
  | _ => none

theorem xret_ok {rs : List ResultVar} {r : Option (AEx × Env × Sto)} {d : D} {σ' : Sto} (h : xret T rs r = some (d, σ')) : ∃ e τ, r = some (e, τ, σ') ∧ (e = .normal ∨ e = .ret) ∧ resD T rs τ σ' = some d := by
  unfold xret at h
  split at h
  · split at h <;> try (cases h; done)
    rename_i d' hd
    cases h
    exact ⟨_, _, rfl, .inl rfl, hd⟩
  · split at h <;> try (cases h; done)
    rename_i d' hd
    cases h
    exact ⟨_, _, rfl, .inr rfl, hd⟩
  · cases h

def xfn (call : CallF) (T : Tys) (fn : Func) (ds : List D) (σ : Sto) : Option (D × Sto) :=
  match fn.body, Nat.ble ds.length fn.ntmps with
  | some c, true => xret T fn.results.toList (xcode call T fn.ntmps 100000 c (env0 0 ds) σ)
  | _, _ => none

theorem xfn_ok (hTy : TOk T P) (hC : CallsOk P call) (hm : P.follows .mixedOrders = true) {f : FuncId} {fn : Func} {ds : List D} {σ σ' : Sto} {d : D} (hf : P.funcs[f]? = some fn)
    (h : xfn call T fn ds σ = some (d, σ')) : ACall P f ds σ (fun d' s => d' = d ∧ s = σ') := by
  unfold xfn at h
  split at h <;> try (cases h; done)
  rename_i c hb hn
  obtain ⟨e, τ, hr, he, hd⟩ := xret_ok h
  refine acall_body hTy hf hb (Nat.le_of_ble_eq_true hn) (((xcode_ok hTy hC hm _).1 c _ σ e τ σ' hr).mono ?_)
  rintro e' τ' s ⟨rfl, rfl, rfl⟩
  exact ⟨he, d, hd, rfl, rfl⟩

/-- calls, so many deep; what is handed data and hands back data leaves no trace. K: contracts at hand. -/
def xcall (K : FuncId → List D → Option D) (P : Program) (T : Tys) : Nat → CallF
  | 0 => fun _ _ _ => none
  | n + 1 => fun f ds σ => match K f ds with
    | some d => some (d, σ)
    | none => match okF P f with
      | some fn => match pureL ds with
        | true => match xfn (xcall K P T n) T fn ds [] with
          | some (d, σ') => match frzR σ' d with
            | some (d', _) => match d'.pure with
              | true => some (d', σ)
              | false => none
            | none => none
          | none => none
        | false => xfn (xcall K P T n) T fn ds σ
      | none => none

theorem xcall_ok {K : FuncId → List D → Option D} (hTy : TOk T P) (hK : KOk P K) (hm : P.follows .mixedOrders = true) : ∀ n, CallsOk P (xcall K P T n)
  | 0 => fun _ _ _ _ _ h => by simp [xcall] at h
  | n + 1 => by
    have ih := xcall_ok hTy hK hm n
    intro f ds σ d σ' h
    simp only [xcall] at h
    split at h
    · rename_i d' hk
      cases h
      obtain ⟨h1, h2⟩ := hK _ _ _ hk
      exact ⟨h1, h2.acall _⟩
    · split at h <;> try (cases h; done)
      rename_i fn hfn
      obtain ⟨h1, h2⟩ := fok_of hfn
      refine ⟨h2, ?_⟩
      split at h
      · rename_i hp
        split at h <;> try (cases h; done)
        rename_i d1 σ1 hx
        split at h <;> try (cases h; done)
        rename_i d2 σ2 hz
        split at h <;> try (cases h; done)
        rename_i hpd
        cases h
        have := pure_of_call (P := P) (f := f) (d := d) hp ((xfn_ok hTy ih hm h1 hx).mono (by rintro d' s ⟨rfl, rfl⟩; exact ⟨_, hz, hpd⟩))
        exact this.acall _
      · exact xfn_ok hTy ih hm h1 h

theorem pure_of_run {K : FuncId → List D → Option D} (hTy : TOk T P) (hK : KOk P K) (hm : P.follows .mixedOrders = true) {n : Nat} {f : FuncId} {ds : List D} {d : D}
    (hp : pureL ds = true) (hpd : d.pure = true) (hz : frzR [] d = some (d, [])) (h : xcall K P T n f ds [] = some (d, [])) : PureOK P f ds d := by
  obtain ⟨h1, h2⟩ := xcall_ok hTy hK hm n _ _ _ _ _ h
  exact pure_of_call hp (h2.mono (by rintro d' s ⟨rfl, rfl⟩; exact ⟨_, hz, hpd⟩))
end
end Go.Fw
