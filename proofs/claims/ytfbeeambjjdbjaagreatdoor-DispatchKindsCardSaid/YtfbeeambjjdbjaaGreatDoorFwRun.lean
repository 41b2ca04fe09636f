import Derived.Test.YtfbeeambjjdbjaaGreatDoorFwDrw5
namespace Go.Fw
open Go.RowKit

theorem nbeq {a b : Nat} (h : Nat.beq a b = true) : a = b := Nat.eq_of_beq_eq_true h

/-! ### equality of data -/
mutual
def D.beq : D → D → Bool
  | .bool a, e => match e with | .bool b => a == b | _ => false
  | .int k a, e => match e with | .int l b => decide (k = l) && decide (a = b) | _ => false
  | .str a, e => match e with | .str b => decide (a = b) | _ => false
  | .nilp, e => match e with | .nilp => true | _ => false
  | .ptr l u o, e => match e with | .ptr l' u' o' => Nat.beq l l' && Nat.beq u u' && Nat.beq o o' | _ => false
  | .rptr cs o, e => match e with | .rptr cs' o' => Nat.beq o o' && D.beqs cs cs' | _ => false
  | .list cs n f, e => match e with | .list cs' n' f' => Nat.beq n n' && f == f' && D.beqs cs cs' | _ => false
  | .sl l u o n z f, e => match e with | .sl l' u' o' n' z' f' => Nat.beq l l' && Nat.beq u u' && Nat.beq o o' && Nat.beq n n' && Nat.beq z z' && f == f' | _ => false
  | .map l, e => match e with | .map l' => Nat.beq l l' | _ => false
  | .nilmap, e => match e with | .nilmap => true | _ => false
  | .cmap ks vs, e => match e with | .cmap ks' vs' => D.beqs ks ks' && D.beqs vs vs' | _ => false
  | .func fn a b, e => match e with | .func fn' a' b' => decide (fn = fn') && D.beqs a a' && D.beqs b b' | _ => false
  | .nilf, e => match e with | .nilf => true | _ => false
  | .iface t v, e => match e with | .iface t' v' => Nat.beq t t' && D.beq v v' | _ => false
  | .nili, e => match e with | .nili => true | _ => false
  | .anyi, e => match e with | .anyi => true | _ => false
  | .agg cs, e => match e with | .agg cs' => D.beqs cs cs' | _ => false
  | .tuple cs, e => match e with | .tuple cs' => D.beqs cs cs' | _ => false
  | .junk, e => match e with | .junk => true | _ => false
def D.beqs : List D → List D → Bool
  | [], l => match l with | [] => true | _ => false
  | x :: r, l => match l with | y :: s => D.beq x y && D.beqs r s | [] => false
end

mutual
theorem D.beq_eq : ∀ (a b : D), D.beq a b = true → a = b
  | .bool a, e, h => by cases e <;> simp only [D.beq] at h <;> first | (cases h; done) | simp_all
  | .int k a, e, h => by cases e <;> simp only [D.beq] at h <;> first | (cases h; done) | simp_all
  | .str a, e, h => by cases e <;> simp only [D.beq] at h <;> first | (cases h; done) | simp_all
  | .nilp, e, h => by cases e <;> simp only [D.beq] at h <;> first | (cases h; done) | rfl
  | .ptr l u o, e, h => by cases e <;> simp only [D.beq] at h <;> first | (cases h; done) | simp_all
  | .rptr cs o, e, h => by
    cases e <;> simp only [D.beq] at h <;> first | (cases h; done) | skip
    simp only [Bool.and_eq_true] at h
    rw [nbeq h.1, D.beqs_eq _ _ h.2]
  | .list cs n f, e, h => by
    cases e <;> simp only [D.beq] at h <;> first | (cases h; done) | skip
    simp only [Bool.and_eq_true, beq_iff_eq] at h
    rw [nbeq h.1.1, h.1.2, D.beqs_eq _ _ h.2]
  | .sl l u o n z f, e, h => by cases e <;> simp only [D.beq] at h <;> first | (cases h; done) | simp_all
  | .map l, e, h => by cases e <;> simp only [D.beq] at h <;> first | (cases h; done) | simp_all
  | .nilmap, e, h => by cases e <;> simp only [D.beq] at h <;> first | (cases h; done) | rfl
  | .cmap ks vs, e, h => by
    cases e <;> simp only [D.beq] at h <;> first | (cases h; done) | skip
    simp only [Bool.and_eq_true] at h
    rw [D.beqs_eq _ _ h.1, D.beqs_eq _ _ h.2]
  | .func fn a b, e, h => by
    cases e <;> simp only [D.beq] at h <;> first | (cases h; done) | skip
    simp only [Bool.and_eq_true, decide_eq_true_eq] at h
    rw [h.1.1, D.beqs_eq _ _ h.1.2, D.beqs_eq _ _ h.2]
  | .nilf, e, h => by cases e <;> simp only [D.beq] at h <;> first | (cases h; done) | rfl
  | .iface t v, e, h => by
    cases e <;> simp only [D.beq] at h <;> first | (cases h; done) | skip
    simp only [Bool.and_eq_true] at h
    rw [nbeq h.1, D.beq_eq _ _ h.2]
  | .nili, e, h => by cases e <;> simp only [D.beq] at h <;> first | (cases h; done) | rfl
  | .anyi, e, h => by cases e <;> simp only [D.beq] at h <;> first | (cases h; done) | rfl
  | .agg cs, e, h => by
    cases e <;> simp only [D.beq] at h <;> first | (cases h; done) | skip
    rw [D.beqs_eq _ _ h]
  | .tuple cs, e, h => by
    cases e <;> simp only [D.beq] at h <;> first | (cases h; done) | skip
    rw [D.beqs_eq _ _ h]
  | .junk, e, h => by cases e <;> simp only [D.beq] at h <;> first | (cases h; done) | rfl
theorem D.beqs_eq : ∀ (a b : List D), D.beqs a b = true → a = b
  | [], e, h => by cases e <;> simp only [D.beqs] at h <;> first | (cases h; done) | rfl
  | x :: r, e, h => by
    cases e <;> simp only [D.beqs] at h <;> first | (cases h; done) | skip
    simp only [Bool.and_eq_true] at h
    rw [D.beq_eq _ _ h.1, D.beqs_eq _ _ h.2]
end

def AObj.beq : AObj → AObj → Bool
  | .cells cs f v, e => match e with | .cells cs' f' v' => Nat.beq f f' && Nat.beq v v' && D.beqs cs cs' | _ => false
  | .map ks vs, e => match e with | .map ks' vs' => D.beqs ks ks' && D.beqs vs vs' | _ => false
  | .siter s p, e => match e with | .siter s' p' => decide (s = s') && Nat.beq p p' | _ => false
  | .miter a b r c, e => match e with | .miter a' b' r' c' => D.beqs a a' && D.beqs b b' && decide (r = r') && decide (c = c') | _ => false
  | .dead, e => match e with | .dead => true | _ => false
  | .gone, e => match e with | .gone => true | _ => false

theorem AObj.beq_eq (a b : AObj) (h : a.beq b = true) : a = b := by
  cases a <;> cases b <;> simp only [AObj.beq] at h <;> first | (cases h; done) | skip
  · simp only [Bool.and_eq_true] at h
    rw [nbeq h.1.1, nbeq h.1.2, D.beqs_eq _ _ h.2]
  · simp only [Bool.and_eq_true] at h
    rw [D.beqs_eq _ _ h.1, D.beqs_eq _ _ h.2]
  · simp_all
  · simp only [Bool.and_eq_true, decide_eq_true_eq] at h
    rw [D.beqs_eq _ _ h.1.1.1, D.beqs_eq _ _ h.1.1.2, h.1.2, h.2]
  · rfl
  · rfl

def stoBeq : Sto → Sto → Bool
  | [], l => match l with | [] => true | _ => false
  | x :: r, l => match l with | y :: s => x.beq y && stoBeq r s | [] => false

theorem stoBeq_eq : ∀ (a b : Sto), stoBeq a b = true → a = b
  | [], e, h => by cases e <;> simp only [stoBeq] at h <;> first | (cases h; done) | rfl
  | x :: r, e, h => by
    cases e <;> simp only [stoBeq] at h <;> first | (cases h; done) | skip
    simp only [Bool.and_eq_true] at h
    rw [AObj.beq_eq _ _ h.1, stoBeq_eq _ _ h.2]

/-! ### running with data in hand -/
abbrev CallF := FuncId → List D → Sto → Option (D × Sto)

def CallsOk (P : Program) (call : CallF) : Prop := ∀ f ds σ d σ', call f ds σ = some (d, σ') → FnOk P f ∧ ACall P f ds σ (fun d' s => d' = d ∧ s = σ')

def xop (call : CallF) (T : Tys) (τ : Env) (σ : Sto) (op : Op) : Option (D × Sto) :=
  match op with
  | .call c => match isBuiltin c.callee with
    | true => aop T τ σ op
    | false => match callD T τ c with
      | some (f, ds) => match lk T.ext f with
        | some k => match extD k ds with
          | some d => some (d, σ)
          | none => none
        | none => match frzCs σ ds with
          | some (ds', σ1) => call f ds' σ1
          | none => none
      | none => none
  | _ => aop T τ σ op

section
variable {P : Program} {T : Tys} {call : CallF} {N : Nat} {o : Oper} {τ : Env} {σ : Sto}

theorem aop_X (hTy : TOk T P) (hC : CallsOk P call) {d : D} {σ' : Sto} (h : xop call T τ σ o.op = some (d, σ')) : AOp P N o τ σ (fun d' s => d' = d ∧ s = σ') := by
  unfold xop at h
  split at h
  · rename_i c hop
    split at h
    · exact aop_aop hTy h
    · split at h <;> try (cases h; done)
      rename_i f ds hc
      split at h
      · rename_i k hk
        split at h <;> try (cases h; done)
        rename_i d' hd
        cases h
        exact aop_ext hTy hop hc hk hd
      · split at h <;> try (cases h; done)
        rename_i ds' σ1 hz
        obtain ⟨h1, h2⟩ := hC _ _ _ _ _ h
        exact aop_call hTy hop hc hz h1 h2
  · exact aop_aop hTy h

def xops (call : CallF) (T : Tys) (N : Nat) (all : Array Oper) : List Oper → Env → Sto → Option (Env × Sto)
  | [], τ, σ => some (τ, σ)
  | o :: r, τ, σ => match wantD all τ o with
    | some true => match xop call T τ σ o.op with
      | some (d, σ') => match putD N o.dst d τ with
        | some τ' => xops call T N all r τ' σ'
        | none => none
      | none => none
    | some false => match putD N o.dst (.tuple []) τ with
      | some τ' => xops call T N all r τ' σ
      | none => none
    | none => none

theorem xops_ok (hTy : TOk T P) (hC : CallsOk P call) {all : Array Oper} {Kt : Env → Sto → Prop} : ∀ (l : List Oper) (τ : Env) (σ : Sto) (τ' : Env) (σ' : Sto), xops call T N all l τ σ = some (τ', σ') → Kt τ' σ' → AOps P N all l τ σ Kt
  | [], τ, σ, τ', σ', h, hk => by
    simp only [xops, Option.some.injEq, Prod.mk.injEq] at h
    obtain ⟨rfl, rfl⟩ := h
    exact hk
  | o :: r, τ, σ, τ', σ', h, hk => by
    simp only [xops] at h
    split at h <;> try (cases h; done)
    · rename_i hw
      split at h <;> try (cases h; done)
      rename_i d σ1 hop
      split at h <;> try (cases h; done)
      rename_i τ1 hp
      refine .inl ⟨hw, (aop_X hTy hC hop).mono ?_⟩
      rintro d' s ⟨rfl, rfl⟩
      exact ⟨τ1, hp, xops_ok hTy hC r τ1 _ τ' σ' h hk⟩
    · rename_i hw
      split at h <;> try (cases h; done)
      rename_i τ1 hp
      exact .inr ⟨hw, τ1, hp, xops_ok hTy hC r τ1 _ τ' σ' h hk⟩

/-- does the operation do this? -/
def isX (call : CallF) (T : Tys) (τ : Env) (σ : Sto) (op : Op) (d : D) (σ' : Sto) : Bool :=
  match xop call T τ σ op with
  | some (d', s) => D.beq d' d && stoBeq s σ'
  | none => false

theorem isX_ok (hTy : TOk T P) (hC : CallsOk P call) {d : D} {σ' : Sto} (h : isX call T τ σ o.op d σ' = true) : AOp P N o τ σ (fun d' s => d' = d ∧ s = σ') := by
  unfold isX at h
  split at h
  · rename_i d' s hx
    simp only [Bool.and_eq_true] at h
    rw [← D.beq_eq _ _ h.1, ← stoBeq_eq _ _ h.2]
    exact aop_X hTy hC hx
  · cases h

def noRes (M : List Nat) (i : Nat) (σ' : Sto) : Res → Bool
  | [] => true
  | x :: A => (Nat.testBit (M.getD i 0) x.1 || match σ'[x.2.1]? with
      | some ob => ob.beq (.cells x.2.2 0 0)
      | none => false) && noRes M i σ' A

def resDone (tab : List Rc) : Res → Bool
  | [] => true
  | x :: A => (match tab[x.1]? with
      | some r => match r.kd with
        | .alloc l cs => Nat.beq l x.2.1 && D.beqs cs x.2.2
        | _ => false
      | none => false) && resDone tab A

def isAlloc : Op → Option TypeId
  | .alloc e => some e
  | _ => none

def xdr (call : CallF) (T : Tys) (N : Nat) (ops : Array Oper) (A : Res) (M : List Nat) : List Oper → Nat → Env → Sto → List Sto → List Nat → List Rc → Option (Env × Sto)
  | [], _, τ, σ, _, _, tab => match resDone tab A with
    | true => some (τ, σ)
    | false => none
  | o :: r, i, τ, σ, S, C, tab => match wantD ops (rst ops o τ) o with
    | none => none
    | some false => match putD N o.dst (.tuple []) τ with
      | some τ2 => xdr call T N ops A M r (i + 1) τ2 σ S C (tab ++ [⟨o, rst ops o τ, .tuple [], .skip⟩])
      | none => none
    | some true => match isAlloc o.op with
      | some e => match resOf? A i, lk T.zero e with
        | some (l, cs), some cs' => match D.beqs cs cs', putD N o.dst (.ptr l 0 0) τ with
          | true, some τ2 => xdr call T N ops A M r (i + 1) τ2 σ S C (tab ++ [⟨o, rst ops o τ, .ptr l 0 0, .alloc l cs⟩])
          | _, _ => none
        | _, _ => none
      | none => match xop call T (rst ops o τ) σ o.op with
        | some (d, σ') => match putD N o.dst d τ with
          | some τ2 => match stoBeq σ' σ with
            | true => match ((keepS (M.getD i 0) S C).flatMap fun σ => (subsA A (M.getD i 0)).map (hide · σ)).all fun s => isX call T (rst ops o τ) s o.op d s with
              | true => xdr call T N ops A M r (i + 1) τ2 σ S C (tab ++ [⟨o, rst ops o τ, d, .read⟩])
              | false => none
            | false => match chOk (M.getD i 0) C && ((subsA A (M.getD i 0)).all fun ls => isX call T (rst ops o τ) (hide ls σ) o.op d (hide ls σ')) &&
                ((reS A M (C ++ [i]) σ' 0 tab).all fun x => isX call T x.1.env x.2 x.1.o.op x.1.v x.2) && noRes M i σ' A with
              | true => xdr call T N ops A M r (i + 1) τ2 σ' (S ++ [σ']) (C ++ [i]) (tab ++ [⟨o, rst ops o τ, d, .chain C.length⟩])
              | false => none
          | none => none
        | none => none

theorem allP_of {α : Type} {f : α → Prop} : ∀ {l : List α}, (∀ x ∈ l, f x) → AllP f l
  | [], _ => trivial
  | x :: _, h => ⟨h x (List.mem_cons_self ..), allP_of fun y hy => h y (List.mem_cons_of_mem _ hy)⟩

theorem noRes_ok {M : List Nat} {i : Nat} {σ' : Sto} : ∀ {A : Res}, noRes M i σ' A = true → ∀ x ∈ A, match Nat.testBit (M.getD i 0) x.1 with | true => True | false => σ'[x.2.1]? = some (.cells x.2.2 0 0)
  | y :: A, h, x, hx => by
    simp only [noRes, Bool.and_eq_true] at h
    rcases List.mem_cons.1 hx with rfl | hx
    · split
      · trivial
      · rename_i hb
        have h1 := h.1
        rw [hb, Bool.false_or] at h1
        split at h1
        · rename_i ob ho
          rw [ho, AObj.beq_eq _ _ h1]
        · cases h1
    · exact noRes_ok h.2 x hx

theorem resDone_ok {tab : List Rc} : ∀ {A : Res}, resDone tab A = true → ∀ x ∈ A, ∃ r : Rc, tab[x.1]? = some r ∧ r.kd = .alloc x.2.1 x.2.2
  | y :: A, h, x, hx => by
    simp only [resDone, Bool.and_eq_true] at h
    rcases List.mem_cons.1 hx with rfl | hx
    · have h1 := h.1
      split at h1
      · rename_i r hr
        split at h1
        · rename_i l cs hk
          simp only [Bool.and_eq_true] at h1
          exact ⟨r, hr, by rw [hk, nbeq h1.1, D.beqs_eq _ _ h1.2]⟩
        · cases h1
      · cases h1
    · exact resDone_ok h.2 x hx

theorem xdr_ok (hTy : TOk T P) (hC : CallsOk P call) {ops : Array Oper} {A : Res} {M : List Nat} {K : Env → Sto → Prop} : ∀ (l : List Oper) (i : Nat) (τ : Env) (σ : Sto) (S : List Sto) (C : List Nat) (tab : List Rc) (τ' : Env) (σ' : Sto),
    S.getLast? = some σ → xdr call T N ops A M l i τ σ S C tab = some (τ', σ') → K τ' σ' → ADr P N ops A M l i τ S C tab K
  | [], i, τ, σ, S, C, tab, τ', σ', hS, h, hk => by
    simp only [xdr] at h
    split at h <;> try (cases h; done)
    rename_i hr
    cases h
    exact ⟨allP_of (resDone_ok hr), _, hS, hk⟩
  | o :: r, i, τ, σ, S, C, tab, τ', σ', hS, h, hk => by
    simp only [xdr] at h
    split at h <;> try (cases h; done)
    · rename_i hw
      split at h <;> try (cases h; done)
      rename_i τ2 hp
      exact .inl ⟨hw, τ2, hp, xdr_ok hTy hC r _ τ2 σ S C _ τ' σ' hS h hk⟩
    · rename_i hw
      split at h
      · rename_i e he
        split at h <;> try (cases h; done)
        rename_i l cs cs' hA hz
        split at h <;> try (cases h; done)
        rename_i τ2 hcs hp
        have hop : o.op = .alloc e := by
          unfold isAlloc at he
          split at he
          · rename_i e' ho; cases he; exact ho
          · cases he
        refine .inr (.inr (.inr ⟨hw, e, l, cs, τ2, hop, hA, ?_, hp, xdr_ok hTy hC r _ τ2 σ S C _ τ' σ' hS h hk⟩))
        rw [D.beqs_eq _ _ hcs]; exact lk_of hTy.zero hz
      · split at h <;> try (cases h; done)
        rename_i d σ1 hop
        split at h <;> try (cases h; done)
        rename_i τ2 hp
        split at h
        · split at h <;> try (cases h; done)
          rename_i hall
          refine .inr (.inl ⟨hw, d, τ2, allP_of fun s hs => ?_, hp, xdr_ok hTy hC r _ τ2 σ S C _ τ' σ' hS h hk⟩)
          exact isX_ok hTy hC (List.all_eq_true.1 hall s hs)
        · split at h <;> try (cases h; done)
          rename_i hall
          simp only [Bool.and_eq_true] at hall
          obtain ⟨⟨⟨h1, h2⟩, h3⟩, h4⟩ := hall
          refine .inr (.inr (.inl ⟨hw, h1, d, τ2, σ, σ1, hS, allP_of fun ls hls => ?_, allP_of fun x hx => ?_, allP_of (noRes_ok h4), hp, xdr_ok hTy hC r _ τ2 σ1 _ _ _ τ' σ' (by simp) h hk⟩))
          · exact isX_ok hTy hC (List.all_eq_true.1 h2 ls hls)
          · exact isX_ok hTy hC (List.all_eq_true.1 h3 x hx)

/-- the objects that a drawn region makes. -/
def mkRes (T : Tys) : List Oper → Nat → Nat → Option Res
  | [], _, _ => some []
  | o :: r, i, l => match isAlloc o.op with
    | some e => match lk T.zero e, mkRes T r (i + 1) (l + 1) with
      | some cs, some A => some ((i, l, cs) :: A)
      | _, _ => none
    | none => mkRes T r (i + 1) l

theorem mkRes_ok : ∀ {l : List Oper} {i n : Nat} {A : Res}, mkRes T l i n = some A → A.map (·.2.1) = List.range' n A.length
  | [], _, _, _, h => by simp only [mkRes, Option.some.injEq] at h; subst h; rfl
  | o :: r, i, n, A, h => by
    simp only [mkRes] at h
    split at h
    · split at h <;> try (cases h; done)
      rename_i cs A' hz hA
      cases h
      simp [mkRes_ok hA, List.range'_succ]
    · exact mkRes_ok h

def xdraw (call : CallF) (T : Tys) (N : Nat) (ops : Array Oper) (τ : Env) (σ : Sto) : Option (Env × Sto) :=
  match mkRes T ops.toList 0 σ.length with
  | some A => match planOk ops (masks ops.toList []) with
    | true => xdr call T N ops A (masks ops.toList []) ops.toList 0 τ (σ ++ A.map fun x => AObj.cells x.2.2 0 0) [σ ++ A.map fun x => AObj.cells x.2.2 0 0] [] []
    | false => none
  | none => none

theorem xdraw_ok {i : Bool} (hTy : TOk T P) (hC : CallsOk P call) (hm : P.follows .mixedOrders = true) {id : Nat} {ops : Array Oper} {τ' : Env} {σ' : Sto} {Q : AEx → Env → Sto → Prop}
    (h : xdraw call T N ops τ σ = some (τ', σ')) (hQ : Q .normal τ' σ') : AWp i P N (.region id ops true) τ σ Q := by
  unfold xdraw at h
  split at h <;> try (cases h; done)
  rename_i A hA
  split at h <;> try (cases h; done)
  rename_i hp
  exact awp_drawn hm A rfl hp (mkRes_ok hA) (xdr_ok hTy hC _ _ _ _ _ _ _ _ _ (by simp) h hQ)
end
end Go.Fw
