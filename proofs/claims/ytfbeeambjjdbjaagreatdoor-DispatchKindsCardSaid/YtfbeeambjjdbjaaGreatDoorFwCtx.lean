import Derived.Test.YtfbeeambjjdbjaaGreatDoorFwFrz
namespace Go.Fw
open Go.RowKit

abbrev Env := List (Nat × D)
abbrev Sto := List AObj

/-! ### one operation -/
def AOp (P : Program) (N : Nat) (o : Oper) (τ : Env) (σ : Sto) (K : D → Sto → Prop) : Prop :=
  ∀ (B : Base) (G : Gh) (w : World) (a : Act), Rel B G σ w → TRel G N τ a → ∀ (next : Act → World → Prop) (Q : Exit → Act → World → Prop),
    (∀ v w' G' d σ', G.Le G' → Rel B G' σ' w' → Rep G' d v → K d σ' → next (a.put o.dst v) w') → o.wp P a w next Q

theorem AOp.mono {P : Program} {N : Nat} {o : Oper} {τ : Env} {σ : Sto} {K K' : D → Sto → Prop} (h : AOp P N o τ σ K) (hk : ∀ d s, K d s → K' d s) : AOp P N o τ σ K' :=
  fun B G w a hR hT next Q hn => h B G w a hR hT next Q fun v w' G' d σ' h1 h2 h3 h4 => hn v w' G' d σ' h1 h2 h3 (hk _ _ h4)

theorem aop_aop {P : Program} {T : Tys} (hTy : TOk T P) {N : Nat} {o : Oper} {τ : Env} {σ σ' : Sto} {d : D} (h : aop T τ σ o.op = some (d, σ')) : AOp P N o τ σ (fun d' s => d' = d ∧ s = σ') := by
  intro B G w a hR hT next Q hn
  obtain ⟨v, w', G', hrun, hle, hR', hd⟩ := aop_ok hTy hR hT o h
  unfold Oper.wp
  rcases hrun with hr | ⟨hr, rfl⟩
  · rw [hr]; exact hn v w' G' d σ' hle hR' hd ⟨rfl, rfl⟩
  · rw [hr]; exact hn undef w' G' d σ' hle hR' hd ⟨rfl, rfl⟩

/-! ### calls -/
def FnOk (P : Program) (f : FuncId) : Prop := ∃ fn, P.funcs[f]? = some fn ∧ fn.body.isSome = true ∧ (fn.name == "runtime.NumGoroutine") = false

/-- i: where objects lie may be forgotten. -/
structure Gh.LeB (i : Bool) (G G' : Gh) : Prop where
  imm : ∀ b o v, G.imm b o = some v → G'.imm b o = some v
  mimm : ∀ b es, G.mimm b = some es → G'.mimm b = some es
  siz : ∀ b n, G.siz b = some n → G'.siz b = some n
  blk : i = false → ∀ l u b, G.blk l u = some b → G'.blk l u = some b

theorem Gh.LeB.refl {i : Bool} (G : Gh) : G.LeB i G := ⟨fun _ _ _ x => x, fun _ _ x => x, fun _ _ x => x, fun _ _ _ _ x => x⟩
theorem Gh.LeB.trans {i : Bool} {A B C : Gh} (h : A.LeB i B) (k : B.LeB i C) : A.LeB i C :=
  ⟨fun _ _ _ x => k.imm _ _ _ (h.imm _ _ _ x), fun _ _ x => k.mimm _ _ (h.mimm _ _ x), fun _ _ x => k.siz _ _ (h.siz _ _ x), fun e _ _ _ x => k.blk e _ _ _ (h.blk e _ _ _ x)⟩
theorem Gh.Le.b {i : Bool} {A B : Gh} (h : A.Le B) : A.LeB i B := ⟨h.imm, h.mimm, h.siz, fun _ => h.blk⟩
theorem Gh.LeB.le {A B : Gh} (h : A.LeB false B) : A.Le B := ⟨h.imm, h.mimm, h.blk rfl, h.siz⟩

/-- A call, objects and all. -/
def ACallB (i : Bool) (P : Program) (f : FuncId) (ds : List D) (σ : Sto) (R : D → Sto → Prop) : Prop :=
  ∀ (B : Base) (G : Gh) (w : World) (vals : List Value), Rel B G σ w → Reps G ds vals →
    Calls P f vals.toArray w fun e w' => ∃ v G' d σ', e = .returned v ∧ G.LeB i G' ∧ Rel B G' σ' w' ∧ Rep G' d v ∧ R d σ'

abbrev ACall := ACallB false

theorem ACallB.mono {i : Bool} {P : Program} {f : FuncId} {ds : List D} {σ : Sto} {R R' : D → Sto → Prop} (h : ACallB i P f ds σ R) (hr : ∀ d s, R d s → R' d s) : ACallB i P f ds σ R' :=
  fun B G w vals h1 h2 => (h B G w vals h1 h2).mono fun _ _ ⟨v, G', d, σ', e1, e2, e3, e4, e5⟩ => ⟨v, G', d, σ', e1, e2, e3, e4, hr _ _ e5⟩

structure ImmOk (G : Gh) (w : World) : Prop where
  imm : ∀ b o v, G.imm b o = some v → w.cell? ⟨b, o, none⟩ = some v
  mimm : ∀ b es, G.mimm b = some es → MapAt w b es
  siz : ∀ b n, G.siz b = some n → ∃ vs et f, w.heap[b]? = some (.cells vs et f) ∧ vs.size = n

/-- A call that is handed data and hands back data. -/
def PureOK (P : Program) (f : FuncId) (ds : List D) (d : D) : Prop :=
  ∀ (G : Gh) (w : World) (vals : List Value), ImmOk G w → Reps G ds vals →
    Calls P f vals.toArray w fun e w' => ∃ v G', e = .returned v ∧ Grow G G' w w' ∧ Rep G' d v

theorem PureOK.acall {P : Program} {f : FuncId} {ds : List D} {d : D} (h : PureOK P f ds d) (σ : Sto) : ACall P f ds σ (fun d' s => d' = d ∧ s = σ) :=
  fun _ G w vals hR hv => (h G w vals ⟨hR.imm, hR.mimm, hR.siz⟩ hv).mono fun _ _ ⟨v, G', e1, e2, e3⟩ => ⟨v, G', d, σ, e1, e2.le.b, hR.grow e2, e3, rfl, rfl⟩

/-- The slots as a call finds them. -/
def env0 : Nat → List D → Env
  | _, [] => []
  | i, d :: ds => (i, d) :: env0 (i + 1) ds

theorem get_env0 : ∀ (ds : List D) (i t : Nat) (d : D), get (env0 i ds) t = some d → i ≤ t ∧ ds[t - i]? = some d
  | [], _, _, _, h => by simp [env0, get] at h
  | d :: ds, i, t, d', h => by
    simp only [env0, get] at h
    by_cases e : i = t
    · subst e
      simp only [if_true, Option.some.injEq] at h
      subst h
      simp
    · simp only [e, if_false] at h
      obtain ⟨h1, h2⟩ := get_env0 ds (i + 1) t d' h
      refine ⟨by omega, ?_⟩
      have : t - i = (t - (i + 1)) + 1 := by omega
      rw [this]; simpa using h2

/-! ### code -/
inductive AEx where
  | normal | exit (id : Nat) | goto (l : Nat) | ret
  deriving DecidableEq

def liftQ (i : Bool) (B : Base) (G : Gh) (N : Nat) (Q : AEx → Env → Sto → Prop) : Exit → Act → World → Prop
  | .normal, a, w => ∃ G' τ σ, G.LeB i G' ∧ Rel B G' σ w ∧ TRel G' N τ a ∧ Q .normal τ σ
  | .exit id, a, w => ∃ G' τ σ, G.LeB i G' ∧ Rel B G' σ w ∧ TRel G' N τ a ∧ Q (.exit id) τ σ
  | .goto l, a, w => ∃ G' τ σ, G.LeB i G' ∧ Rel B G' σ w ∧ TRel G' N τ a ∧ Q (.goto l) τ σ
  | .ret, a, w => ∃ G' τ σ, G.LeB i G' ∧ Rel B G' σ w ∧ TRel G' N τ a ∧ Q .ret τ σ
  | .panic _, _, _ => False
  | .outgrown, _, _ => False

theorem liftQ_le {i : Bool} {B : Base} {G G' : Gh} {N : Nat} {Q Q' : AEx → Env → Sto → Prop} (h : G.LeB i G') (hq : ∀ e τ σ, Q e τ σ → Q' e τ σ) (e : Exit) (a : Act) (w : World) (x : liftQ i B G' N Q e a w) : liftQ i B G N Q' e a w := by
  cases e <;> simp only [liftQ] at x ⊢ <;> first | exact x | (obtain ⟨G2, τ, σ, h1, h2, h3, h4⟩ := x; exact ⟨G2, τ, σ, h.trans h1, h2, h3, hq _ _ _ h4⟩)

def AWp (i : Bool) (P : Program) (N : Nat) (c : Code) (τ : Env) (σ : Sto) (Q : AEx → Env → Sto → Prop) : Prop :=
  ∀ (B : Base) (G : Gh) (w : World) (a : Act), Rel B G σ w → TRel G N τ a → c.wp P (liftQ i B G N Q) a w

section
variable {i : Bool} {P : Program} {N : Nat} {c c1 c2 : Code} {τ τ' : Env} {σ σ' : Sto} {Q Q' : AEx → Env → Sto → Prop}

theorem AWp.mono (h : AWp i P N c τ σ Q) (hq : ∀ e τ σ, Q e τ σ → Q' e τ σ) : AWp i P N c τ σ Q' :=
  fun B G w a hR hT => wp_mono (h B G w a hR hT) fun e a w x => liftQ_le (.refl G) hq e a w x

/-- forget slots. -/
theorem AWp.sub (h : AWp i P N c τ' σ Q) (hs : ∀ t d, get τ' t = some d → get τ t = some d) : AWp i P N c τ σ Q :=
  fun B G w a hR hT => h B G w a hR (hT.sub hs)

/-- a value that is handed on by a function's end: a step without any operation. -/
theorem AWp.ghost (h : AWp i P N c τ σ' Q) (hg : ∀ (B : Base) (G : Gh) (w : World), Rel B G σ w → ∃ G', G.Le G' ∧ Rel B G' σ' w) : AWp i P N c τ σ Q := by
  intro B G w a hR hT
  obtain ⟨G', hle, hR'⟩ := hg B G w hR
  exact wp_mono (h B G' w a hR' (hT.mono hle)) fun e a w x => liftQ_le hle.b (fun _ _ _ y => y) e a w x

theorem awp_skip (h : Q .normal τ σ) : AWp i P N .skip τ σ Q := fun _ G _ _ hR hT => wp_skip ⟨G, τ, σ, .refl G, hR, hT, h⟩
theorem awp_label {l : Nat} (h : Q .normal τ σ) : AWp i P N (.label l) τ σ Q := fun _ G _ _ hR hT => wp_label ⟨G, τ, σ, .refl G, hR, hT, h⟩
theorem awp_exit {id : Nat} (h : Q (.exit id) τ σ) : AWp i P N (.exit id) τ σ Q := fun _ G _ _ hR hT => wp_exit ⟨G, τ, σ, .refl G, hR, hT, h⟩
theorem awp_ret (h : Q .ret τ σ) : AWp i P N .ret τ σ Q := fun _ G _ _ hR hT => wp_ret ⟨G, τ, σ, .refl G, hR, hT, h⟩

def thenQ (next : Env → Sto → Prop) (Q : AEx → Env → Sto → Prop) : AEx → Env → Sto → Prop
  | .normal, τ, σ => next τ σ
  | .exit id, τ, σ => Q (.exit id) τ σ
  | .goto l, τ, σ => Q (.goto l) τ σ
  | .ret, τ, σ => Q .ret τ σ

theorem awp_seq (h : AWp i P N c1 τ σ (thenQ (fun τ' σ' => AWp i P N c2 τ' σ' Q) Q)) : AWp i P N (.seq c1 c2) τ σ Q := by
  intro B G w a hR hT
  refine wp_seq (wp_mono (h B G w a hR hT) fun e a' w' x => ?_)
  cases e with
  | normal =>
    obtain ⟨G', τ1, σ1, h1, h2, h3, h4⟩ := x
    exact wp_mono (h4 B G' w' a' h2 h3) fun e a w x => liftQ_le h1 (fun _ _ _ y => y) e a w x
  | exit id => exact x
  | goto l => exact x
  | ret => exact x
  | panic ch => exact x
  | outgrown => exact x

theorem awp_cond {x : Operand} {b : Bool} (hc : ev τ x = some (.bool b)) (h : AWp i P N (if b then c1 else c2) τ σ Q) : AWp i P N (.cond x c1 c2) τ σ Q := by
  intro B G w a hR hT
  have he := ev_ok hT hc
  simp only [Rep] at he
  exact wp_cond he (h B G w a hR hT)

def blockQ (id : Nat) (Q : AEx → Env → Sto → Prop) : AEx → Env → Sto → Prop
  | .normal, τ, σ => Q .normal τ σ
  | .exit id', τ, σ => if id' = id then Q .normal τ σ else Q (.exit id') τ σ
  | .goto l, τ, σ => Q (.goto l) τ σ
  | .ret, τ, σ => Q .ret τ σ

theorem awp_block {id : Nat} (h : AWp i P N c τ σ (blockQ id Q)) : AWp i P N (.block id c) τ σ Q := by
  intro B G w a hR hT
  refine wp_block (wp_mono (h B G w a hR hT) fun e a' w' x => ?_)
  cases e with
  | normal => exact x
  | exit id' =>
    obtain ⟨G', τ1, σ1, h1, h2, h3, h4⟩ := x
    simp only [Exit.inBlock, blockQ] at h4 ⊢
    by_cases e : id' = id
    · simp only [e, if_true] at h4 ⊢; exact ⟨G', τ1, σ1, h1, h2, h3, h4⟩
    · simp only [e, if_false] at h4 ⊢; exact ⟨G', τ1, σ1, h1, h2, h3, h4⟩
  | goto l => exact x
  | ret => exact x
  | panic ch => exact x
  | outgrown => exact x

theorem wp_loop_idx {Q : Exit → Act → World → Prop} {a : Act} {w : World} {n : Nat} (I : Nat → Act → World → Prop) (h₀ : I n a w)
    (round : ∀ n a w, I n a w → c.wp P (Exit.then (fun a' w' => ∃ m, m < n ∧ I m a' w') Q) a w) : (Code.loop c).wp P Q a w := by
  intro b k cs
  have key : ∀ n a w, I n a w →
      ∃ e a' w', Q e a' w' ∧ Arrives P (lone (b.at a (.code c :: .inLoop c :: k)) cs w) b k cs e a' w' := by
    intro n
    induction n using Nat.strongRecOn with
    | _ n ih =>
      intro a w hI
      obtain ⟨e, a₁, w₁, hq, harr⟩ := round n a w hI b (.inLoop c :: k) cs
      cases e with
      | normal =>
        obtain ⟨m, hlt, hI₁⟩ := hq
        obtain ⟨e₂, a₂, w₂, hq₂, harr₂⟩ := ih m hlt a₁ w₁ hI₁
        exact ⟨e₂, a₂, w₂, hq₂, .of_steps (Steps.trans harr (.one step_inLoop)) harr₂⟩
      | exit id => exact ⟨_, a₁, w₁, hq, .pass (x := .inLoop c) rfl (fun _ _ => .inl (by simp)) harr⟩
      | goto l => exact ⟨_, a₁, w₁, hq, .pass (x := .inLoop c) rfl (fun _ _ => .inl (by simp)) harr⟩
      | ret => exact ⟨_, a₁, w₁, hq, .pass (x := .inLoop c) rfl (fun _ _ => .inl (by simp)) harr⟩
      | panic ch => exact ⟨_, a₁, w₁, hq, .pass (x := .inLoop c) rfl (fun _ _ => .inl (by simp)) harr⟩
      | outgrown => exact ⟨_, a₁, w₁, hq, .pass (x := .inLoop c) rfl (fun _ _ => .inl (by simp)) harr⟩
  obtain ⟨e, a', w', hq, harr⟩ := key n a w h₀
  exact ⟨e, a', w', hq, .of_steps (.one step_loop) harr⟩

/-- a loop: I: what holds ahead of each round, with a number that falls. -/
theorem awp_loop (I : Nat → Env → Sto → Prop) {n : Nat} (h0 : I n τ σ) (round : ∀ n τ σ, I n τ σ → AWp i P N c τ σ (thenQ (fun τ' σ' => ∃ m, m < n ∧ I m τ' σ') Q)) : AWp i P N (.loop c) τ σ Q := by
  intro B G w a hR hT
  refine wp_loop_idx (fun n a w => ∃ G' τ σ, G.LeB i G' ∧ Rel B G' σ w ∧ TRel G' N τ a ∧ I n τ σ) ⟨G, τ, σ, .refl G, hR, hT, h0⟩ ?_
  rintro n a w ⟨G1, τ1, σ1, h1, h2, h3, h4⟩
  refine wp_mono (round n τ1 σ1 h4 B G1 w a h2 h3) fun e a' w' x => ?_
  cases e with
  | normal =>
    obtain ⟨G2, τ2, σ2, k1, k2, k3, m, k4, k5⟩ := x
    exact ⟨m, k4, G2, τ2, σ2, h1.trans k1, k2, k3, k5⟩
  | exit id => exact liftQ_le h1 (Q := Q) (fun _ _ _ y => y) (.exit id) a' w' x
  | goto l => exact liftQ_le h1 (Q := Q) (fun _ _ _ y => y) (.goto l) a' w' x
  | ret => exact liftQ_le h1 (Q := Q) (fun _ _ _ y => y) .ret a' w' x
  | panic ch => exact x
  | outgrown => exact x
end

/-! ### a function's body -/
def resVar (T : Tys) (τ : Env) (σ : Sto) : ResultVar → Option D
  | .tmp t => get τ t
  | .cell t ty => oLoad T τ σ ty (.tmp t)

def resVars (T : Tys) (τ : Env) (σ : Sto) : List ResultVar → Option (List D)
  | [] => some []
  | r :: rs => match resVar T τ σ r, resVars T τ σ rs with
    | some d, some ds => some (d :: ds)
    | _, _ => none

def resD (T : Tys) (rs : List ResultVar) (τ : Env) (σ : Sto) : Option D :=
  match resVars T τ σ rs with
  | some [d] => some d
  | some ds => some (.tuple ds)
  | none => none

section
variable {P : Program} {T : Tys} {B : Base} {G : Gh} {σ : Sto} {w : World} {N : Nat} {τ : Env} {a : Act}

def resOf (tmps : Array Value) : ResultVar → Sem Value
  | .tmp t => Pure.pure (tmps.getD t undef)
  | .cell x t => do loadVar t (← asAddr (tmps.getD x undef))

theorem results_eq (fn : Func) (tmps : Array Value) : results fn tmps = (fn.results.mapM (resOf tmps)).bind fun vs => Sem.pure (if h : vs.size = 1 then vs[0] else .tuple vs) := by
  unfold results
  congr 1

theorem resVars_ok (hTy : TOk T P) (hR : Rel B G σ w) (hT : TRel G N τ a) : ∀ {rs : List ResultVar} {ds : List D}, resVars T τ σ rs = some ds →
    ∃ vs, (rs.mapM (resOf a.tmps)).run P w = .ok vs w ∧ Reps G ds vs
  | [], _, h => by simp only [resVars, Option.some.injEq] at h; subst h; exact ⟨[], by simp, by simp [Reps]⟩
  | r :: rs, _, h => by
    simp only [resVars] at h
    split at h <;> try (cases h; done)
    rename_i d ds hd hds
    cases h
    obtain ⟨vs, h1, h2⟩ := resVars_ok hTy hR hT hds
    have hv : ∃ v, ((resOf a.tmps) r).run P w = .ok v w ∧ Rep G d v := by
      cases r with
      | tmp t => exact ⟨_, rfl, hT.slot _ _ hd⟩
      | cell t ty =>
        simp only [resVar, oLoad] at hd
        split at hd <;> try (cases hd; done)
        rename_i n b dx ht hdx
        have ht := lk_of hTy.ld ht
        split at hd <;> try (cases hd; done)
        rename_i hb
        split at hd <;> try (cases hd; done)
        rename_i cs hcs
        have hdr := ev_ok hT hdx
        obtain ⟨u, hu, hrep⟩ := load_ok hR ht hdr hcs hb
        obtain ⟨bl, o, _, hpt, _⟩ := readAt_ok hR hcs hdr
        refine ⟨u, ?_, ?_⟩
        · have hpt' : a.tmps.getD t undef = .pointer (some ⟨bl, o, none⟩) := hpt
          have hu' : (loadVar ty ⟨bl, o, none⟩).run P w = .ok u w := by
            unfold Instr.loadAt at hu
            rw [hpt] at hu
            simpa [Instr.sureAddr] using hu
          simp only [resOf, hpt', asAddr, Sem.run_bind, Sem.run_pure, Result.andThen_ok, hu']
        · unfold ldFin at hd
          cases b with
          | true => simp only [if_true, Option.some.injEq] at hd hrep; subst hd; exact hrep
          | false =>
            simp only [Bool.false_eq_true, if_false] at hd hrep
            obtain ⟨y, rfl, hy⟩ := hrep
            simp only [Option.some.injEq] at hd
            subst hd; exact hy
    obtain ⟨v, hv1, hv2⟩ := hv
    refine ⟨v :: vs, ?_, by simp only [Reps]; exact ⟨v, vs, rfl, hv2, h2⟩⟩
    simp only [List.mapM_cons, Sem.run_bind, hv1, h1, Result.andThen_ok, Sem.run_pure]

theorem results_ok (hTy : TOk T P) (hR : Rel B G σ w) (hT : TRel G N τ a) {fn : Func} {d : D} (h : resD T fn.results.toList τ σ = some d) : ∃ v, (results fn a.tmps).run P w = .ok v w ∧ Rep G d v := by
  unfold resD at h
  have hm : ∀ vs, (fn.results.toList.mapM (resOf a.tmps)).run P w = .ok vs w →
      (results fn a.tmps).run P w = .ok (if h : vs.toArray.size = 1 then vs.toArray[0] else .tuple vs.toArray) w := by
    intro vs hvs
    rw [results_eq]
    show Sem.run P ((fn.results.mapM (resOf a.tmps)) >>= fun vs => Pure.pure (if h : vs.size = 1 then vs[0] else .tuple vs)) w = _
    simp only [Sem.run_bind, Array.mapM_eq_mapM_toList, Sem.run_map, hvs, Result.andThen_ok, Sem.run_pure]
  split at h
  · rename_i d' hd
    cases h
    obtain ⟨vs, h1, h2⟩ := resVars_ok hTy hR hT hd
    obtain ⟨v, rfl, hv⟩ := reps_one h2
    exact ⟨v, by rw [hm _ h1]; rfl, hv⟩
  · rename_i ds hne hds
    cases h
    obtain ⟨vs, h1, h2⟩ := resVars_ok hTy hR hT hds
    have hl := h2.length
    have hsz : ¬ vs.toArray.size = 1 := by
      intro e
      obtain ⟨x, rfl⟩ := list_one (l := ds) (by rw [hl]; simpa using e.symm)
      exact hne x rfl
    refine ⟨.tuple vs.toArray, by rw [hm _ h1, dif_neg hsz], ?_⟩
    simp only [Rep]
    exact ⟨_, rfl, by simpa using h2⟩
  · cases h

theorem acall_body {i : Bool} (hTy : TOk T P) {f : FuncId} {fn : Func} {c : Code} {ds : List D} {R : D → Sto → Prop} (hf : P.funcs[f]? = some fn) (hb : fn.body = some c) (hn : ds.length ≤ fn.ntmps)
    (h : AWp i P fn.ntmps c (env0 0 ds) σ fun e τ' σ' => (e = .normal ∨ e = .ret) ∧ ∃ d, resD T fn.results.toList τ' σ' = some d ∧ R d σ') : ACallB i P f ds σ R := by
  intro B G w vals hR hv
  have hl := hv.length
  refine calls_of_wp hf hb (wp_mono (h B G w _ hR ⟨?_, rfl, ?_⟩) fun e a' w' x => ?_)
  · simp; omega
  · intro t d ht
    obtain ⟨_, h2⟩ := get_env0 ds 0 t d ht
    obtain ⟨v, hv1, hv2⟩ := hv.get _ h2
    have hlt : t < vals.length := by
      rcases Nat.lt_or_ge t vals.length with h' | h'
      · exact h'
      · rw [Nat.sub_zero, List.getElem?_eq_none h'] at hv1; cases hv1
    have : (vals.toArray ++ Array.replicate (fn.ntmps - vals.toArray.size) undef).getD t undef = v := by
      rw [Nat.sub_zero, List.getElem?_eq_getElem hlt] at hv1
      cases hv1
      simp [Array.getD_eq_getD_getElem?, Array.getElem?_append, hlt]
    show Rep G d ((vals.toArray ++ Array.replicate (fn.ntmps - vals.toArray.size) undef).getD t undef)
    rw [this]; exact hv2
  · cases e with
    | normal =>
      obtain ⟨G', τ', σ', h1, h2, h3, _, d, h5, h6⟩ := x
      obtain ⟨v, hv1, hv2⟩ := results_ok hTy h2 h3 h5
      exact ⟨h3.defers, v, hv1, v, G', d, σ', rfl, h1, h2, hv2, h6⟩
    | ret =>
      obtain ⟨G', τ', σ', h1, h2, h3, _, d, h5, h6⟩ := x
      obtain ⟨v, hv1, hv2⟩ := results_ok hTy h2 h3 h5
      exact ⟨h3.defers, v, hv1, v, G', d, σ', rfl, h1, h2, hv2, h6⟩
    | exit id => obtain ⟨_, _, _, _, _, _, h, _⟩ := x; rcases h with h | h <;> cases h
    | goto l => obtain ⟨_, _, _, _, _, _, h, _⟩ := x; rcases h with h | h <;> cases h
    | panic ch => exact x.elim
    | outgrown => exact x.elim
end
end Go.Fw
