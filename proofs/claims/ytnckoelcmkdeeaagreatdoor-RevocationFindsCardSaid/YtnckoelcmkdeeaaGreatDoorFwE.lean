/- A framework for proofs about Go programs in this model: part E. Everything is proved; no condition is added. -/
import Derived.IntWalk
import Derived.Test.YtnckoelcmkdeeaaGreatDoorFwD
set_option linter.unusedVariables false
set_option linter.unusedSimpArgs false
namespace Go.Fw
open Go.RowKit

/-! ### forgetting objects, and numbering the rest anew -/
def mv (ks : List Nat) : D → D
  | .ptr j u o => .ptr (ks.getD j 0) u o
  | .sl j u o n sz f => .sl (ks.getD j 0) u o n sz f
  | .map j => .map (ks.getD j 0)
  | d => d

def okv (n : Nat) : D → Bool
  | .ptr j _ _ => Nat.blt j n
  | .sl j _ _ _ _ _ => Nat.blt j n
  | .map j => Nat.blt j n
  | d => d.pure

def mvO (ks : List Nat) : AObj → AObj
  | .cells cs f v => .cells (cs.map (mv ks)) f v
  | ob => ob

def okO (n : Nat) : AObj → Bool
  | .cells cs _ _ => cs.all (okv n)
  | .map a b => pureL a && pureL b
  | .miter a b _ _ => pureL a && pureL b
  | _ => true

def Gh.sel (G : Gh) (ks : List Nat) : Gh := { G with blk := fun j u => match ks[j]? with
  | some l => G.blk l u
  | none => none }

theorem sel_blk {G : Gh} {ks : List Nat} {j u b : Nat} (hj : j < ks.length) (h : G.blk (ks.getD j 0) u = some b) : (G.sel ks).blk j u = some b := by
  have e : ks[j]? = some (ks.getD j 0) := by rw [List.getD_eq_getElem?_getD, List.getElem?_eq_getElem hj]; rfl
  simp only [Gh.sel, e]; exact h

theorem mv_rep {G : Gh} {ks : List Nat} {d : D} {v : Value} (hk : okv ks.length d = true) (h : Rep G (mv ks d) v) : Rep (G.sel ks) d v := by
  have pure : d.pure = true → mv ks d = d → Rep (G.sel ks) d v := fun hp e => by
    rw [e] at h
    exact Rep.pure (G := G) (G' := G.sel ks) (fun _ _ _ x => x) (fun _ _ x => x) d v hp h
  cases d
  case ptr j u o =>
    have hk : j < ks.length := Nat.le_of_ble_eq_true hk
    simp only [mv, Rep] at h ⊢
    obtain ⟨b, hb, e⟩ := h
    exact ⟨b, sel_blk hk hb, e⟩
  case sl j u o n sz f =>
    have hk : j < ks.length := Nat.le_of_ble_eq_true hk
    simp only [mv, Rep] at h ⊢
    rcases h with ⟨b, cap, tot, hb, e⟩ | h
    · exact .inl ⟨b, cap, tot, sel_blk hk hb, e⟩
    · exact .inr h
  case map j =>
    have hk : j < ks.length := Nat.le_of_ble_eq_true hk
    simp only [mv, Rep] at h ⊢
    obtain ⟨b, hb, e⟩ := h
    exact ⟨b, sel_blk hk hb, e⟩
  all_goals exact pure hk rfl

theorem mv_reps {G : Gh} {ks : List Nat} : ∀ {ds : List D} {vs : List Value}, ds.all (okv ks.length) = true → Reps G (ds.map (mv ks)) vs → Reps (G.sel ks) ds vs
  | [], _, _, h => by simpa only [List.map_nil, Reps] using h
  | d :: ds, _, hk, h => by
    simp only [List.all_cons, Bool.and_eq_true] at hk
    simp only [List.map_cons, Reps] at h ⊢
    obtain ⟨v, r, e, h1, h2⟩ := h
    exact ⟨v, r, e, mv_rep hk.1 h1, mv_reps hk.2 h2⟩

theorem mvO_obj {G : Gh} {ks : List Nat} {w : World} {b : Nat} {ob : AObj} (hk : okO ks.length ob = true) (h : ObjAt G w b (mvO ks ob)) : ObjAt (G.sel ks) w b ob := by
  cases ob with
  | cells cs f v =>
    obtain ⟨vs, et, h1, h2, tl, hd, h3, h4⟩ := h
    exact ⟨vs, et, h1, h2, tl, hd, h3, mv_reps hk h4⟩
  | map a c =>
    simp only [okO, Bool.and_eq_true] at hk
    obtain ⟨es, h1, h2, h3⟩ := h
    exact ⟨es, h1, Reps.pure (G := G) (G' := G.sel ks) (fun _ _ _ x => x) (fun _ _ x => x) _ _ hk.1 h2, Reps.pure (G := G) (G' := G.sel ks) (fun _ _ _ x => x) (fun _ _ x => x) _ _ hk.2 h3⟩
  | siter s p => exact h
  | miter a c r cur =>
    simp only [okO, Bool.and_eq_true] at hk
    obtain ⟨m, es, seen, h1, h2, h3, h4, h5, h6⟩ := h
    exact ⟨m, es, seen, h1, h2, Reps.pure (G := G) (G' := G.sel ks) (fun _ _ _ x => x) (fun _ _ x => x) _ _ hk.1 h3, Reps.pure (G := G) (G' := G.sel ks) (fun _ _ _ x => x) (fun _ _ x => x) _ _ hk.2 h4, h5, h6⟩
  | dead => exact h
  | gone => exact h

theorem mvO_ver {ks : List Nat} (ob : AObj) : (mvO ks ob).ver = ob.ver ∧ (mvO ks ob).frz = ob.frz ∧ (mvO ks ob).len = ob.len := by
  cases ob <;> simp [mvO, AObj.ver, AObj.frz, AObj.len]

theorem Rel.sel {P : Program} {B : Base P} {G : Gh} {σ σ' : Sto} {w : World} (hR : Rel B G σ w) {ks : List Nat} (hnd : ks.Nodup) (hlen : σ'.length = ks.length)
    (hob : ∀ (j l : Nat) (ob : AObj), ks[j]? = some l → σ'[j]? = some ob → σ[l]? = some (mvO ks ob) ∧ okO ks.length ob = true) : Rel B (G.sel ks) σ' w := by
  have hb : ∀ {j u b : Nat}, (G.sel ks).blk j u = some b → ∃ l, ks[j]? = some l ∧ G.blk l u = some b := by
    intro j u b h
    simp only [Gh.sel] at h
    split at h
    · rename_i l hl; exact ⟨l, hl, h⟩
    · cases h
  have hin : ∀ {j : Nat} {ob : AObj}, σ'[j]? = some ob → ∃ l, ks[j]? = some l := by
    intro j ob h
    have := lt_of_getElem? h
    exact ⟨ks[j]'(by omega), List.getElem?_eq_getElem (by omega)⟩
  refine ⟨hR.below, hR.imm, hR.mimm, hR.siz, fun j u b h => ?_, fun j u j' u' b h h' => ?_, fun j ob b ho h => ?_, fun j cs f u b ho h => ?_, fun j a c b ho h => ?_, fun j ob ho => ?_, fun j ob ho => ?_, hR.bimm, hR.bmimm⟩
  · obtain ⟨l, hl, h⟩ := hb h
    exact ⟨by rw [hlen]; exact lt_of_getElem? hl, (hR.blk _ _ _ h).2⟩
  · obtain ⟨l, hl, h⟩ := hb h
    obtain ⟨l', hl', h'⟩ := hb h'
    have e := hR.inj _ _ _ _ _ h h'
    subst e
    have h1 := lt_of_getElem? hl
    have h2 := lt_of_getElem? hl'
    rw [List.getElem?_eq_getElem h1] at hl
    rw [List.getElem?_eq_getElem h2] at hl'
    have e := (Option.some.inj hl).trans (Option.some.inj hl').symm
    rcases Nat.lt_trichotomy j j' with h3 | h3 | h3
    · exact absurd e (List.pairwise_iff_getElem.1 hnd j j' h1 h2 h3)
    · exact h3
    · exact absurd e.symm (List.pairwise_iff_getElem.1 hnd j' j h2 h1 h3)
  · obtain ⟨l, hl, h⟩ := hb h
    obtain ⟨h1, h2⟩ := hob j l ob hl ho
    exact mvO_obj h2 (hR.obj l _ b h1 (by rw [(mvO_ver ob).1]; exact h))
  · obtain ⟨l, hl, h⟩ := hb h
    obtain ⟨h1, h2⟩ := hob j l _ hl ho
    exact hR.own l _ f u b h1 h
  · obtain ⟨l, hl, h⟩ := hb h
    obtain ⟨h1, h2⟩ := hob j l _ hl ho
    exact hR.ownm l _ _ b h1 h
  · obtain ⟨l, hl⟩ := hin ho
    obtain ⟨h1, h2⟩ := hob j l ob hl ho
    have h3 := hR.ver l _ h1
    rw [(mvO_ver ob).1, (mvO_ver ob).2.2] at h3
    refine ⟨h3.1, fun u b h => ?_⟩
    obtain ⟨l', hl', h⟩ := hb h
    rw [hl] at hl'; cases hl'
    exact h3.2 u b h
  · obtain ⟨l, hl⟩ := hin ho
    obtain ⟨h1, h2⟩ := hob j l ob hl ho
    have h3 := hR.frzle l _ h1
    rw [(mvO_ver ob).2.1, (mvO_ver ob).2.2] at h3
    exact h3

theorem TRel.sel {G : Gh} {N : Nat} {τ τ' : Env} {a : Act} (hT : TRel G N τ a) {ks : List Nat} (h : ∀ t d, get τ' t = some d → get τ t = some (mv ks d) ∧ okv ks.length d = true) : TRel (G.sel ks) N τ' a :=
  ⟨hT.size, hT.defers, fun t d hg => mv_rep (h t d hg).2 (hT.slot t _ (h t d hg).1)⟩

/-- at the head of a round: only what is needed. -/
theorem AWp.gc {i : Nat} {P : Program} {N : Nat} {c : Code} {τ τ' : Env} {σ σ' : Sto} {Q : AEx → Env → Sto → Prop} (ks : List Nat) (hi : ∀ l, l < i → ks[l]? = some l) (hnd : ks.Nodup) (hlen : σ'.length = ks.length)
    (hob : ∀ (j l : Nat) (ob : AObj), ks[j]? = some l → σ'[j]? = some ob → σ[l]? = some (mvO ks ob) ∧ okO ks.length ob = true)
    (hτ : ∀ t d, get τ' t = some d → get τ t = some (mv ks d) ∧ okv ks.length d = true) (h : AWp i P N c τ' σ' Q) : AWp i P N c τ σ Q := by
  intro B G w a hR hT
  refine wp_mono (h B (G.sel ks) w a (hR.sel hnd hlen hob) (hT.sel hτ)) fun e a w x => liftQ_le ?_ (fun _ _ _ y => y) e a w x
  exact ⟨fun _ _ _ x => x, fun _ _ x => x, fun _ _ x => x, fun l u b hl x => by simp only [Gh.sel, hi l hl]; exact x⟩
end Go.Fw
namespace Go.Fw
open Go.RowKit

/-- how a type's values lie in cells; flat: those of a list of them. -/
structure Enc (α : Type) where
  sz : Nat
  cells : α → List D
  flat : List α → List D
  fnil : flat [] = []
  fcons : ∀ a r, flat (a :: r) = cells a ++ flat r
  len : ∀ a, (cells a).length = sz
  pure : ∀ a, pureL (cells a) = true
  cell : ∀ a, (cells a).all D.isCell = true

def flatOf {α : Type} (cells : α → List D) : List α → List D
  | [] => []
  | a :: r => cells a ++ flatOf cells r

/-- of a type that does not hold itself. -/
def mkE {α : Type} (sz : Nat) (cells : α → List D) (len : ∀ a, (cells a).length = sz) (pure : ∀ a, pureL (cells a) = true) (cell : ∀ a, (cells a).all D.isCell = true) : Enc α :=
  ⟨sz, cells, flatOf cells, rfl, fun _ _ => rfl, len, pure, cell⟩

def flatE {α : Type} (E : Enc α) (xs : List α) : List D := E.flat xs

section
variable {α : Type}

theorem flatE_nil (E : Enc α) : flatE E [] = [] := E.fnil
theorem flatE_cons (E : Enc α) (a : α) (r : List α) : flatE E (a :: r) = E.cells a ++ flatE E r := E.fcons a r

theorem flatE_len (E : Enc α) : ∀ xs : List α, (flatE E xs).length = xs.length * E.sz
  | [] => by simp [flatE_nil]
  | a :: r => by simp [flatE_cons, E.len, flatE_len E r, Nat.add_mul, Nat.add_comm]

theorem pureL_append : ∀ a b : List D, pureL (a ++ b) = (pureL a && pureL b)
  | [], b => by simp [pureL]
  | d :: a, b => by simp [pureL, pureL_append a b, Bool.and_assoc]

theorem flat_pure (E : Enc α) : ∀ xs : List α, pureL (flatE E xs) = true
  | [] => by rw [flatE_nil]; rfl
  | a :: r => by simp [flatE_cons, pureL_append, E.pure, flat_pure E r]

theorem flat_cell (E : Enc α) : ∀ xs : List α, (flatE E xs).all D.isCell = true
  | [] => by rw [flatE_nil]; rfl
  | a :: r => by simp only [flatE_cons, List.all_append, E.cell, flat_cell E r, Bool.and_self]

theorem flatE_append (E : Enc α) : ∀ xs ys : List α, flatE E (xs ++ ys) = flatE E xs ++ flatE E ys
  | [], ys => by simp [flatE_nil]
  | a :: r, ys => by simp [flatE_cons, flatE_append E r ys]

theorem flatE_take (E : Enc α) : ∀ (n : Nat) (xs : List α), (flatE E xs).take (n * E.sz) = flatE E (xs.take n)
  | 0, xs => by simp [flatE_nil]
  | n + 1, [] => by simp [flatE_nil]
  | n + 1, a :: r => by
    have e : (n + 1) * E.sz = (E.cells a).length + n * E.sz := by rw [E.len, Nat.add_mul, Nat.one_mul, Nat.add_comm]
    simp only [flatE_cons, List.take_succ_cons]
    rw [e, List.take_length_add_append, flatE_take E n r]

theorem flatE_drop (E : Enc α) : ∀ (n : Nat) (xs : List α), (flatE E xs).drop (n * E.sz) = flatE E (xs.drop n)
  | 0, xs => by simp
  | n + 1, [] => by simp [flatE_nil]
  | n + 1, a :: r => by
    have e : (n + 1) * E.sz = (E.cells a).length + n * E.sz := by rw [E.len, Nat.add_mul, Nat.one_mul, Nat.add_comm]
    simp only [flatE_cons, List.drop_succ_cons]
    rw [e, List.drop_length_add_append, flatE_drop E n r]

theorem flatE_get {E : Enc α} {xs : List α} {i : Nat} {a : α} (h : xs[i]? = some a) : ((flatE E xs).drop (i * E.sz)).take E.sz = E.cells a := by
  have hlt := lt_of_getElem? h
  rw [flatE_drop, List.drop_eq_getElem_cons hlt]
  rw [List.getElem?_eq_getElem hlt] at h
  cases h
  rw [flatE_cons]
  have e : E.sz = (E.cells xs[i]).length := (E.len _).symm
  rw [e, List.take_left]

/-- an element. -/
def ix (xs : List α) (i : Int) : Option α := if 0 ≤ i then xs[i.toNat]? else none

theorem ix_inv {xs : List α} {i : Int} {a : α} (h : ix xs i = some a) : 0 ≤ i ∧ i < xs.length ∧ xs[i.toNat]? = some a := by
  unfold ix at h
  split at h <;> try (cases h; done)
  rename_i h0
  have := lt_of_getElem? h
  exact ⟨h0, by omega, h⟩

variable {T : Tys} {τ : Env} {σ : Sto} {E : Enc α} {xs : List α}

theorem op_idx {t : TypeId} {x i : Operand} {k : IntKind} {n : Int} {a : α} {f : Bool} (h1 : lk T.idx t = some (.slice E.sz)) (h2 : ev τ x = some (.list (flatE E xs) xs.length f)) (h3 : ev τ i = some (.int k n))
    (hp : 0 < E.sz) (h : ix xs n = some a) : aop T τ σ (.indexAddr t x i) = some (.rptr (flatE E xs) (n.toNat * E.sz), σ) := by
  obtain ⟨h4, h5, _⟩ := ix_inv h
  simp [aop, oIndexAddr, h1, h2, h3, idxInt, idxSl, h4, h5, hp, flatE_len]

theorem op_ld {t : TypeId} {x : Operand} {n : Int} {a : α} {b : Bool} {d : D} (h1 : lk T.ld t = some (E.sz, b)) (h2 : ev τ x = some (.rptr (flatE E xs) (n.toNat * E.sz))) (hb : b = true ∨ E.sz = 1) (h : ix xs n = some a)
    (h3 : ldFin b (E.cells a) = some d) : aop T τ σ (.load t x) = some (d, σ) := by
  obtain ⟨h4, h5, h6⟩ := ix_inv h
  have hl : n.toNat * E.sz + E.sz ≤ (flatE E xs).length := by
    rw [flatE_len, ← Nat.succ_mul]
    exact Nat.mul_le_mul_right _ (by omega)
  simp only [aop, oLoad, h1, h2, if_pos hb, readAt, if_pos hl, flatE_get h6, h3]
  rfl
end

section
variable {P : Program} {T : Tys} {N : Nat} {all : Array Oper} {o : Oper} {r : List Oper} {τ τ' : Env} {σ σ' : Sto} {d : D} {Kt : Env → Sto → Prop}
theorem goA (tok : TOk T P) (h1 : wantD all τ o = some true) (h2 : aop T τ σ o.op = some (d, σ')) (h3 : putD N o.dst d τ = some τ') (h : AOps P N all r τ' σ' Kt) : AOps P N all (o :: r) τ σ Kt :=
  .inl ⟨h1, (aop_aop tok h2).mono (by rintro d' s ⟨rfl, rfl⟩; exact ⟨τ', h3, h⟩)⟩
end

/-! ### integers that fit -/
def fits (k : IntKind) (n : Int) : Bool := decide (k.wrap n = n)
def ck (k : IntKind) (n : Int) : Option Int := match fits k n with | true => some n | false => none
theorem ck_inv {k : IntKind} {n m : Int} (h : ck k n = some m) : k.wrap n = n ∧ m = n := by
  unfold ck at h
  split at h <;> try (cases h; done)
  rename_i hf
  cases h
  exact ⟨by simpa [fits] using hf, rfl⟩

theorem bind_inv {α β : Type} {x : Option α} {f : α → Option β} {b : β} (h : x.bind f = some b) : ∃ a, x = some a ∧ f a = some b := by
  cases x with
  | none => cases h
  | some a => exact ⟨a, rfl, h⟩

/-- forgetting slots: those that are kept, one by one. -/
theorem get_all {τ : Env} : ∀ {τ' : Env}, AllP (fun p : Nat × D => get τ p.1 = some p.2) τ' → ∀ t d, get τ' t = some d → get τ t = some d
  | [], _, _, _, h => by simp [get] at h
  | (i, x) :: r, ha, t, d, h => by
    simp only [get] at h
    split at h
    · rename_i e; subst e; cases h; exact ha.1
    · exact get_all ha.2 t d h
end Go.Fw
namespace Go.Fw
abbrev Bs := List UInt8
open Go.RowKit

def intE (k : IntKind) : Enc Int := mkE 1 (fun n => [.int k n]) (fun _ => rfl) (fun _ => rfl) (fun _ => rfl)
def strE : Enc (List UInt8) := mkE 1 (fun s => [.str s]) (fun _ => rfl) (fun _ => rfl) (fun _ => rfl)

section
variable {P : Program} {T : Tys} {N : Nat} {all : Array Oper} {o : Oper} {r : List Oper} {τ τ' : Env} {σ σ' : Sto} {Kt : Env → Sto → Prop}

/-- 's == nil': a list without elements may be nil or not. -/
theorem aop_nilEq {t ty : TypeId} {x : Operand} {cs : List D} {n : Nat} {f : Bool} {e : TypeId} (ho : o.op = .binOp .eql t x (.const (.slice none 0 0)) ty) (ht : P.underlying t = some (.slice e)) (hx : ev τ x = some (.list cs n f)) :
    AOp P N o τ σ (fun d s => s = σ ∧ ∃ b : Bool, d = .bool b ∧ (b = true → cs = [])) := by
  intro B G w a hR hT next Q hn
  have hxr := ev_ok hT hx
  simp only [Rep] at hxr
  obtain ⟨ad, cap, hv, h1, h2, h3, h4⟩ := hxr
  have key : ∃ b : Bool, (Op.equal t (.slice ad n cap) (.slice none 0 0)).run P w = .ok b w ∧ (b = true → cs = []) := by
    have e2 : ∀ x y, Op.equal t x y = Op.equalIn (9999 + 1) t x y := fun _ _ => rfl
    simp only [e2]
    clear e2
    generalize (9999 : Nat) = dep
    cases ad with
    | none =>
      refine ⟨true, by simp [Op.equalIn, run_underlying ht], fun _ => ?_⟩
      rcases h4 with ⟨b, o', h, _⟩ | h
      · cases h
      · exact h
    | some ad => exact ⟨false, by simp [Op.equalIn, run_underlying ht], fun h => by cases h⟩
  obtain ⟨b, hb, hc⟩ := key
  have hrun : (execOp a.eval o).run P w = .ok (.value (.bool b)) w := by
    obtain ⟨dst, op, ty', pos, after, guard⟩ := o
    simp only at ho
    subst ho
    unfold execOp
    have e1 : a.eval (.const (.slice none 0 0)) = .slice none 0 0 := rfl
    have hg : (eqGuard .eql t x (.const (.slice none 0 0)) (.slice ad n cap) (.slice none 0 0)).run P w = .ok () w := eqGuard_prim (fun _ _ => .inl (by simp)) (.inl (by simp))
    have hbin : (binOp .eql t (.slice ad n cap) (.slice none 0 0)).run P w = .ok (.bool b) w := by
      rw [bin_eql (by simp [notNum]), hb]; rfl
    simp only [hv, e1, Sem.run_bind, hg, Result.andThen_ok, hbin, Sem.run_pure]
  unfold Oper.wp
  rw [hrun]
  exact hn _ w G _ σ (.refl G) hR (by simp only [Rep]) ⟨rfl, b, rfl, hc⟩

theorem go_nilEq {t ty : TypeId} {x : Operand} {cs : List D} {n : Nat} {f : Bool} {e : TypeId} {tt : Nat} (h1 : wantD all τ o = some true) (ho : o.op = .binOp .eql t x (.const (.slice none 0 0)) ty) (ht : P.underlying t = some (.slice e))
    (hx : ev τ x = some (.list cs n f)) (hd : o.dst = some tt) (hN : Nat.blt tt N = true) (h : ∀ b : Bool, (b = true → cs = []) → AOps P N all r ((tt, .bool b) :: τ) σ Kt) : AOps P N all (o :: r) τ σ Kt := by
  refine .inl ⟨h1, (aop_nilEq ho ht hx).mono ?_⟩
  rintro d s ⟨rfl, b, rfl, hb⟩
  refine ⟨(tt, .bool b) :: τ, ?_, h b hb⟩
  unfold putD; rw [hd]; simp only; exact if_pos (Nat.le_of_ble_eq_true hN)
end

/-- what is appended to a new slice. -/
theorem app_new {T : Tys} {τ : Env} {σ : Sto} {t tx : TypeId} {s x : Operand} {sz by' n : Nat} {cs : List D} {f : Bool} (h1 : lk2 T.app t tx = some (sz, by')) (h2 : ev τ s = some (.list [] 0 true)) (h3 : ev τ x = some (.list cs n f))
    (hn : 0 < n) (hl : cs.length = n * sz) (hc : cs.all D.isCell = true) (hb : n * by' ≤ limit) (hb' : n ≤ limit) : aop T τ σ (.call { callee := .builtin .append, args := #[s, x], argTypes := #[t, tx] }) = some (.sl σ.length 0 0 n sz false, σ ++ [.cells cs 0 0]) := by
  show oAppend T τ σ [s, x] [t, tx] = _
  have hn' : ¬ n = 0 := by omega
  simp [oAppend, h1, h2, h3, appD, srcD, hl, hc, hn', hb, hb']

/-- a slice of one's own, handed back whole. -/
theorem frz_own {σ : Sto} {l u n sz fz : Nat} {cs : List D} {f : Bool} (hl : σ[l]? = some (.cells cs fz u)) (hn : cs.length = n * sz) : frzR σ (.sl l u 0 n sz f) = some (.list cs n f, σ.set l (.cells cs cs.length u)) := by
  have h1 : ¬ (n * sz) > cs.length := by omega
  simp [frzR, frz1, frzC, hl, hn, List.take_of_length_le (Nat.le_of_eq hn)]
end Go.Fw
namespace Go.Fw
open Go.RowKit

/-! ### weaker words for a value -/
def Weak (d e : D) : Prop := ∀ (G : Gh) (v : Value), Rep G d v → Rep G e v
theorem Weak.refl (d : D) : Weak d d := fun _ _ h => h
theorem Weak.list {cs : List D} {n : Nat} {f : Bool} : Weak (.list cs n f) (.list cs n false) := by
  intro G v h
  simp only [Rep] at h ⊢
  obtain ⟨a, cap, e, h1, h2, _, h4⟩ := h
  refine ⟨a, cap, e, h1, h2, ?_, h4⟩
  intro h
  cases h
def Weaks : List D → List D → Prop
  | [], l => l = []
  | d :: ds, l => match l with
    | e :: es => Weak d e ∧ Weaks ds es
    | [] => False
theorem Weaks.reps {G : Gh} : ∀ {ds es : List D} {vs : List Value}, Weaks ds es → Reps G ds vs → Reps G es vs
  | [], es, _, h, hv => by
    have h : es = [] := h
    subst h; exact hv
  | d :: ds, [], _, h, _ => h.elim
  | d :: ds, e :: es, _, h, hv => by
    simp only [Reps] at hv ⊢
    obtain ⟨v, r, rfl, h1, h2⟩ := hv
    exact ⟨v, r, rfl, h.1 G v h1, Weaks.reps h.2 h2⟩
theorem Weak.agg {ds es : List D} (h : Weaks ds es) : Weak (.agg ds) (.agg es) := by
  intro G v hv
  simp only [Rep] at hv ⊢
  obtain ⟨a, e, h1⟩ := hv
  exact ⟨a, e, h.reps h1⟩
theorem Weak.tuple {ds es : List D} (h : Weaks ds es) : Weak (.tuple ds) (.tuple es) := by
  intro G v hv
  simp only [Rep] at hv ⊢
  obtain ⟨a, e, h1⟩ := hv
  exact ⟨a, e, h.reps h1⟩

theorem PureOK.weak {P : Program} {f : FuncId} {ds : List D} {d e : D} (h : PureOK P f ds d) (hw : Weak d e) : PureOK P f ds e :=
  fun G w vals h1 h2 h3 => (h G w vals h1 h2 h3).mono fun _ _ ⟨v, G', e1, e2, e3⟩ => ⟨v, G', e1, e2, hw _ _ e3⟩

section
variable {P : Program} {T : Tys} {N : Nat} {all : Array Oper} {o : Oper} {r : List Oper} {τ τ' : Env} {σ σ' : Sto} {d e : D} {Kt : Env → Sto → Prop}

theorem AOp.weak (h : AOp P N o τ σ fun d' s => d' = d ∧ s = σ') (hw : Weak d e) : AOp P N o τ σ fun d' s => d' = e ∧ s = σ' := by
  intro B G w a hR hT next Q hn
  refine h B G w a hR hT next Q ?_
  rintro v w' G' d' s h1 h2 h3 ⟨rfl, rfl⟩
  exact hn v w' G' e _ h1 h2 (hw _ _ h3) ⟨rfl, rfl⟩

theorem goP (h1 : wantD all τ o = some true) (h2 : AOp P N o τ σ fun d' s => d' = d ∧ s = σ') (h3 : putD N o.dst d τ = some τ') (h : AOps P N all r τ' σ' Kt) : AOps P N all (o :: r) τ σ Kt :=
  .inl ⟨h1, h2.mono (by rintro d' s ⟨rfl, rfl⟩; exact ⟨τ', h3, h⟩)⟩

/-- one operation, its value said in weaker words. -/
theorem goW (tok : TOk T P) (h1 : wantD all τ o = some true) (h2 : aop T τ σ o.op = some (d, σ')) (hw : Weak d e) (h3 : putD N o.dst e τ = some τ') (h : AOps P N all r τ' σ' Kt) : AOps P N all (o :: r) τ σ Kt :=
  goP h1 ((aop_aop tok h2).weak hw) h3 h

/-- a value of one's own is handed on for good. -/
theorem aop_frz {x : Operand} (ho : o.op = .move x) (hx : ev τ x = some d) (hz : frzC σ d = some (e, σ')) : AOp P N o τ σ fun d' s => d' = e ∧ s = σ' := by
  intro B G w a hR hT next Q hn
  obtain ⟨G', h1, h2, h3⟩ := frzC_ok hR hz (ev_ok hT hx)
  have hrun : (execOp a.eval o).run P w = .ok (.value (a.eval x)) w := by
    obtain ⟨dst, op, ty', pos, after, guard⟩ := o
    simp only at ho
    subst ho
    rfl
  unfold Oper.wp
  rw [hrun]
  exact hn _ w G' _ _ h1 h2 h3 ⟨rfl, rfl⟩
end

/-! ### a function's end -/
def endW (T : Tys) (rs : List ResultVar) (d : D) : AEx → Env → Sto → Prop := fun e τ' σ' =>
  (e = .normal ∨ e = .ret) ∧ ∃ d' d'', resD T rs τ' σ' = some d' ∧ (∃ σ'', frzR σ' d' = some (d'', σ'')) ∧ Weak d'' d ∧ d''.pure = true

theorem bodyW {P : Program} {T : Tys} {i : Nat} (tok : TOk T P) {f : FuncId} {fn : Func} {c : Code} {ds : List D} {d : D} (hf : P.funcs[f]? = some fn) (hb : fn.body = some c) (hn : Nat.ble ds.length fn.ntmps = true) (hp : pureL ds = true)
    (h : AWp i P fn.ntmps c (env0 0 ds) [] (endW T fn.results.toList d)) : PureOK P f ds d := by
  intro G w vals hI hg hv
  have key : ACallB i P f ds [] fun d' σ' => ∃ d'', (∃ σ'', frzR σ' d' = some (d'', σ'')) ∧ Weak d'' d ∧ d''.pure = true := by
    refine acall_body tok hf hb (Nat.le_of_ble_eq_true hn) (h.mono ?_)
    rintro e τ σ ⟨h1, d', d'', h2, h3, h4, h5⟩
    exact ⟨h1, d', h2, d'', h3, h4, h5⟩
  let B0 : Base P := ⟨w, G, hg, fun b o v h => lt_of_cell (hI.imm b o v h), fun b es h => lt_of_some (hI.mimm b es h).1⟩
  have hR : Rel B0 G.strip [] w := by
    refine ⟨Below.refl _ _, hI.imm, hI.mimm, hI.siz, ?_, ?_, ?_, ?_, ?_, ?_, ?_, fun _ _ _ => rfl, fun _ _ => rfl⟩
    · intro l u b hb; cases hb
    · intro l u l' u' b hb; cases hb
    · intro l ob b ho; simp at ho
    · intro l cs frz u b ho; simp at ho
    · intro l ks vs b ho; simp at ho
    · intro l ob ho; simp at ho
    · intro l ob ho; simp at ho
  refine (key B0 G.strip w vals hR (Reps.pure (G := G) (G' := G.strip) (fun _ _ _ x => x) (fun _ _ x => x) ds vals hp hv)).mono ?_
  rintro e w' ⟨v, G', d', σ', rfl, hle, hR', hd, d'', ⟨σ'', hz⟩, hw, hpd⟩
  obtain ⟨G2, l2, R2, r2⟩ := frzR_ok hR' hz hd
  let G3 : Gh := { G2 with blk := G.blk }
  refine ⟨v, G3, rfl, ?_, hw _ _ (Rep.pure (G := G2) (G' := G3) (fun _ _ _ x => x) (fun _ _ x => x) d'' v hpd r2)⟩
  have hle2 := hle.trans (l2.b (i := i))
  exact {
    le := ⟨hle2.imm, hle2.mimm, fun _ _ _ x => x, hle2.siz⟩
    below := R2.below
    blk := rfl
    imm := R2.imm
    mimm := R2.mimm
    siz := R2.siz
    imm_new := R2.bimm
    mimm_new := R2.bmimm }

theorem endW_ret {T : Tys} {rs : List ResultVar} {d d' d'' : D} {τ : Env} {σ σ'' : Sto} (h1 : resD T rs τ σ = some d') (h2 : frzR σ d' = some (d'', σ'')) (h3 : Weak d'' d) (h4 : d''.pure = true) : endW T rs d .ret τ σ :=
  ⟨.inr rfl, d', d'', h1, ⟨σ'', h2⟩, h3, h4⟩

/-! ### parts of lists -/
def slc {α : Type} (xs : List α) (lo hi : Int) : Option (List α) := if 0 ≤ lo ∧ lo ≤ hi ∧ hi ≤ xs.length then some ((xs.take hi.toNat).drop lo.toNat) else none

theorem slc_inv {α : Type} {xs ys : List α} {lo hi : Int} (h : slc xs lo hi = some ys) : 0 ≤ lo ∧ lo ≤ hi ∧ hi ≤ xs.length ∧ ys = (xs.take hi.toNat).drop lo.toNat ∧ ys.length = hi.toNat - lo.toNat := by
  unfold slc at h
  split at h <;> try (cases h; done)
  rename_i hc
  cases h
  refine ⟨hc.1, hc.2.1, hc.2.2, rfl, ?_⟩
  simp only [List.length_drop, List.length_take]
  omega

theorem flatE_part {α : Type} (E : Enc α) (xs : List α) (l h : Nat) (hlh : l ≤ h) : ((flatE E xs).drop (l * E.sz)).take ((h - l) * E.sz) = flatE E ((xs.take h).drop l) := by
  rw [flatE_drop, flatE_take, List.drop_take]

section
variable {α : Type} {T : Tys} {τ : Env} {σ : Sto} {E : Enc α} {xs ys : List α}

/-- 'x[lo:hi]' -/
theorem op_slc {t : TypeId} {x : Operand} {lo hi : Option Operand} {f : Bool} {l h : Option D} {li hi' : Option Int} (h1 : lk T.sli t = some (.slice E.sz)) (h2 : ev τ x = some (.list (flatE E xs) xs.length f))
    (h3 : evo τ lo = some l) (h4 : evo τ hi = some h) (h5 : optInt l = some li) (h6 : optInt h = some hi') (hs : slc xs (oget 0 li) (oget xs.length hi') = some ys) :
    aop T τ σ (.slice t x lo hi none) = some (.list (flatE E ys) ys.length (f && decide (oget (xs.length : Int) hi' = xs.length)), σ) := by
  obtain ⟨a1, a2, a3, rfl, a5⟩ := slc_inv hs
  have hb : bnds xs.length f li hi' none = some ((oget 0 li).toNat, (oget (xs.length : Int) hi').toNat, f && decide (oget (xs.length : Int) hi' = xs.length)) := by
    simp only [bnds]
    rw [if_pos ⟨a1, a2, a3⟩]
  have hm : evo τ none = some none := rfl
  simp only [aop, oSlice, h1, h2, h3, h4, hm, h5, h6, show optInt none = some none from rfl, sliceD, hb, flatE_len, if_true]
  rw [flatE_part E xs _ _ (by omega), ← a5]
  rfl

/-- 'x[lo:hi:max]' -/
theorem op_slc3 {t : TypeId} {x lo hi mx : Operand} {f : Bool} {k1 k2 k3 : IntKind} {l h m : Int} (h1 : lk T.sli t = some (.slice E.sz)) (h2 : ev τ x = some (.list (flatE E xs) xs.length f))
    (h3 : ev τ lo = some (.int k1 l)) (h4 : ev τ hi = some (.int k2 h)) (h5 : ev τ mx = some (.int k3 m)) (hm : h ≤ m ∧ m ≤ xs.length) (hs : slc xs l h = some ys) :
    aop T τ σ (.slice t x (some lo) (some hi) (some mx)) = some (.list (flatE E ys) ys.length (decide (m = h)), σ) := by
  obtain ⟨a1, a2, a3, rfl, a5⟩ := slc_inv hs
  have hb : bnds xs.length f (some l) (some h) (some m) = some (l.toNat, h.toNat, decide (m = h)) := by
    simp only [bnds, oget, Option.isSome]
    rw [if_pos ⟨trivial, a1, a2, hm⟩]
    first | rfl | (congr 3)
  have e3 : evo τ (some lo) = some (some (.int k1 l)) := by simp only [evo, h3]
  have e4 : evo τ (some hi) = some (some (.int k2 h)) := by simp only [evo, h4]
  have e5 : evo τ (some mx) = some (some (.int k3 m)) := by simp only [evo, h5]
  simp only [aop, oSlice, h1, h2, e3, e4, e5, optInt, idxInt, sliceD, hb, flatE_len, if_true]
  rw [flatE_part E xs _ _ (by omega), ← a5]
  rfl

/-- 's[lo:hi]', s a string. -/
theorem op_slcS {t : TypeId} {x : Operand} {lo hi : Option Operand} {s u : List UInt8} {l h : Option D} {li hi' : Option Int} (h1 : lk T.sli t = some .string) (h2 : ev τ x = some (.str s))
    (h3 : evo τ lo = some l) (h4 : evo τ hi = some h) (h5 : optInt l = some li) (h6 : optInt h = some hi') (hs : slc s (oget 0 li) (oget s.length hi') = some u) :
    aop T τ σ (.slice t x lo hi none) = some (.str u, σ) := by
  obtain ⟨a1, a2, a3, rfl, a5⟩ := slc_inv hs
  have hb : bnds s.length true li hi' none = some ((oget 0 li).toNat, (oget (s.length : Int) hi').toNat, true && decide (oget (s.length : Int) hi' = s.length)) := by
    simp only [bnds]
    rw [if_pos ⟨a1, a2, a3⟩]
  have hm : evo τ none = some none := rfl
  simp only [aop, oSlice, h1, h2, h3, h4, hm, h5, h6, show optInt none = some none from rfl, slStr, hb]
  rfl

/-- 's[i]', s a string. -/
theorem op_idxS {t : TypeId} {x i : Operand} {k : IntKind} {n : Int} {s : List UInt8} {b : UInt8} (h1 : lk T.idxV t = some .string) (h2 : ev τ x = some (.str s)) (h3 : ev τ i = some (.int k n)) (h : ix s n = some b) :
    aop T τ σ (.index t x i) = some (.int .u8 b.toNat, σ) := by
  obtain ⟨h4, h5, h6⟩ := ix_inv h
  simp [aop, oIndex, h1, h2, h3, idxInt, strAt, h4, h6]

/-! ### numbers -/
theorem op_add {t ty : TypeId} {x y : Operand} {k : IntKind} {a b c : Int} (h1 : ev τ x = some (.int k a)) (h2 : ev τ y = some (.int k b)) (h : ck k (a + b) = some c) : aop T τ σ (.binOp .add t x y ty) = some (.int k c, σ) := by
  obtain ⟨e, rfl⟩ := ck_inv h
  simp [aop, oBin, h1, h2, binD, intD, e]
theorem op_sub {t ty : TypeId} {x y : Operand} {k : IntKind} {a b c : Int} (h1 : ev τ x = some (.int k a)) (h2 : ev τ y = some (.int k b)) (h : ck k (a - b) = some c) : aop T τ σ (.binOp .sub t x y ty) = some (.int k c, σ) := by
  obtain ⟨e, rfl⟩ := ck_inv h
  simp [aop, oBin, h1, h2, binD, intD, e]
theorem op_mul {t ty : TypeId} {x y : Operand} {k : IntKind} {a b c : Int} (h1 : ev τ x = some (.int k a)) (h2 : ev τ y = some (.int k b)) (h : ck k (a * b) = some c) : aop T τ σ (.binOp .mul t x y ty) = some (.int k c, σ) := by
  obtain ⟨e, rfl⟩ := ck_inv h
  simp [aop, oBin, h1, h2, binD, intD, e]

/-- quotients and remainders: by what is not 0. -/
def dv (k : IntKind) (a b : Int) : Option Int := if b = 0 then none else ck k (a.tdiv b)
def md (a b : Int) : Option Int := if b = 0 then none else some (a.tmod b)
theorem op_quo {t ty : TypeId} {x y : Operand} {k : IntKind} {a b c : Int} (h1 : ev τ x = some (.int k a)) (h2 : ev τ y = some (.int k b)) (h : dv k a b = some c) : aop T τ σ (.binOp .quo t x y ty) = some (.int k c, σ) := by
  unfold dv at h
  split at h <;> try (cases h; done)
  rename_i hb
  obtain ⟨e, rfl⟩ := ck_inv h
  simp [aop, oBin, h1, h2, binD, intD, e, hb]
theorem op_rem {t ty : TypeId} {x y : Operand} {k : IntKind} {a b c : Int} (h1 : ev τ x = some (.int k a)) (h2 : ev τ y = some (.int k b)) (h : md a b = some c) : aop T τ σ (.binOp .rem t x y ty) = some (.int k c, σ) := by
  unfold md at h
  split at h <;> try (cases h; done)
  rename_i hb
  cases h
  simp [aop, oBin, h1, h2, binD, intD, hb]

/-! ### strings -/
def cat (a b : List UInt8) : Option (List UInt8) := if a.length + b.length ≤ 9223372036854775807 then some (a ++ b) else none
theorem op_cat {t ty : TypeId} {x y : Operand} {a b c : List UInt8} (h1 : ev τ x = some (.str a)) (h2 : ev τ y = some (.str b)) (h : cat a b = some c) : aop T τ σ (.binOp .add t x y ty) = some (.str c, σ) := by
  unfold cat at h
  split at h <;> try (cases h; done)
  rename_i hb
  cases h
  simp [aop, oBin, h1, h2, binD, strD, hb]

def byteE : Enc UInt8 := mkE 1 (fun b => [.int .u8 b.toNat]) (fun _ => rfl) (fun _ => rfl) (fun _ => rfl)
def boolE : Enc Bool := mkE 1 (fun b => [.bool b]) (fun _ => rfl) (fun _ => rfl) (fun _ => rfl)
def listE {β : Type} (F : Enc β) : Enc (List β) := mkE 1 (fun xs => [.list (flatE F xs) xs.length false]) (fun _ => rfl) (fun _ => by simp [pureL, D.pure, flat_pure]) (fun _ => rfl)

theorem flat_bytes : ∀ s : List UInt8, flatE byteE s = s.map fun b => .int .u8 b.toNat
  | [] => rfl
  | b :: s => by rw [flatE_cons, flat_bytes s]; rfl
theorem bytes_flat : ∀ s : List UInt8, bytesOfD (flatE byteE s) = some s
  | [] => rfl
  | b :: s => by
    have : byteOfD (.int .u8 b.toNat) = some b := by simp [byteOfD]
    show (match byteOfD (.int .u8 b.toNat), bytesOfD (flatE byteE s) with
      | some b, some bs => some (b :: bs)
      | _, _ => none) = _
    rw [this, bytes_flat s]
theorem op_toStr {s' t : TypeId} {x : Operand} {b : List UInt8} {f : Bool} (h1 : lk2 T.conv s' t = some .toStr) (h2 : ev τ x = some (.list (flatE byteE b) b.length f)) : aop T τ σ (.convert s' t x) = some (.str b, σ) := by
  have hl : (flatE byteE b).length = b.length * 1 := flatE_len byteE b
  simp [aop, oConv, h1, h2, convD, srcD, hl, bytes_flat]
def small (s : List UInt8) : Option (List UInt8) := if s.length ≤ limit then some s else none
theorem op_toBytes {s' t : TypeId} {x : Operand} {b c : List UInt8} (h1 : lk2 T.conv s' t = some .toBytes) (h2 : ev τ x = some (.str b)) (h : small b = some c) : aop T τ σ (.convert s' t x) = some (.list (flatE byteE c) c.length false, σ) := by
  unfold small at h
  split at h <;> try (cases h; done)
  rename_i hb
  cases h
  simp [aop, oConv, h1, h2, convD, hb, flat_bytes]

/-- a byte, out of a number. -/
def toB (n : Int) : Option UInt8 := if 0 ≤ n ∧ n < 256 then some (UInt8.ofNat n.toNat) else none
theorem toB_inv {n : Int} {b : UInt8} (h : toB n = some b) : n = (b.toNat : Int) := by
  unfold toB at h
  split at h <;> try (cases h; done)
  rename_i hc
  cases h
  simp only [UInt8.toNat_ofNat']
  omega
end

/-! ### branches -/
theorem ev_b {τ : Env} {x : Operand} {c b : Bool} (h : ev τ x = some (.bool c)) (hc : c = b) : ev τ x = some (.bool b) := by rw [h, hc]
theorem go_b {P : Program} {T : Tys} {N : Nat} {all : Array Oper} {o : Oper} {r : List Oper} {τ τ' : Env} {σ σ' : Sto} {c b : Bool} {Kt : Env → Sto → Prop} (tok : TOk T P) (h1 : wantD all τ o = some true) (h2 : aop T τ σ o.op = some (.bool c, σ')) (hc : c = b)
    (h3 : putD N o.dst (.bool b) τ = some τ') (h : AOps P N all r τ' σ' Kt) : AOps P N all (o :: r) τ σ Kt := by
  subst hc
  exact goA tok h1 h2 h3 h
theorem bif_t {α : Type} {c : Bool} {a b : α} {r : α} (h : (bif c then a else b) = r) (hc : c = true) : a = r := by subst hc; exact h
theorem bif_f {α : Type} {c : Bool} {a b : α} {r : α} (h : (bif c then a else b) = r) (hc : c = false) : b = r := by subst hc; exact h

theorem bool_or (c : Bool) : c = false ∨ c = true := by cases c <;> simp

section
variable {α : Type} {T : Tys} {τ : Env} {σ : Sto} {E : Enc α} {xs : List α}
/-- a field of an element. -/
theorem op_ldf {t : TypeId} {x : Operand} {n : Int} {a : α} {b : Bool} {d : D} {off m : Nat} (h1 : lk T.ld t = some (m, b)) (h2 : ev τ x = some (.rptr (flatE E xs) (n.toNat * E.sz + off))) (hb : b = true ∨ m = 1) (hm : off + m ≤ E.sz) (h : ix xs n = some a)
    (h3 : ldFin b (((E.cells a).drop off).take m) = some d) : aop T τ σ (.load t x) = some (d, σ) := by
  obtain ⟨h4, h5, h6⟩ := ix_inv h
  have hl : n.toNat * E.sz + E.sz ≤ (flatE E xs).length := by
    rw [flatE_len, ← Nat.succ_mul]
    exact Nat.mul_le_mul_right _ (by omega)
  have hg := flatE_get (E := E) h6
  have e : ((flatE E xs).drop (n.toNat * E.sz + off)).take m = ((E.cells a).drop off).take m := by
    rw [← hg, ← List.drop_drop, List.drop_take, List.take_take]
    congr 1
    omega
  have hl' : n.toNat * E.sz + off + m ≤ (flatE E xs).length := by omega
  simp only [aop, oLoad, h1, h2, if_pos hb, readAt, if_pos hl', e, h3]
  rfl

/-- '[]byte{x}' -/
theorem op_bs1 {t : TypeId} {x : Operand} {n : Int} {b : UInt8} {z : List D} (h1 : lk T.bs t = some (z, 1)) (h2 : ev τ x = some (.int .u8 n)) (h : n = (b.toNat : Int)) (hz : z = [.int .u8 0]) :
    aop T τ σ (.buildSlice t 1 #[(0, x)]) = some (.list (flatE byteE [b]) (List.length [b]) true, σ) := by
  subst h hz
  simp only [aop, oBuildSlice, h1, evp, h2]
  rfl
end

/-! ### equal structs -/
def allEq : List LK → List D → List D → Option Bool
  | [], [], [] => some true
  | k :: ks, a :: as, b :: bs => match cellEq k a b, allEq ks as bs with
    | some r, some s => some (r && s)
    | _, _ => none
  | _, _, _ => none
theorem allEq_cells : ∀ (ks : List LK) (a b : List D) (r : Bool), allEq ks a b = some r → cellsEq ks a b = some r
  | [], [], [], r, h => h
  | [], [], _ :: _, r, h => by cases h
  | [], _ :: _, _, r, h => by cases h
  | k :: ks, [], _, r, h => by cases h
  | k :: ks, a :: as, [], r, h => by cases h
  | k :: ks, a :: as, b :: bs, r, h => by
    simp only [allEq] at h
    split at h <;> try (cases h; done)
    rename_i x y h1 h2
    cases h
    have := allEq_cells ks as bs y h2
    simp only [cellsEq, h1]
    cases x
    · rfl
    · simpa using this

section
variable {T : Tys} {τ : Env} {σ : Sto}
theorem op_seq {t ty : TypeId} {x y : Operand} {ks : List LK} {a b : List D} {r : Bool} (h0 : lk T.eq t = some (.flat ks)) (h1 : ev τ x = some (.agg a)) (h2 : ev τ y = some (.agg b)) (hl : (Nat.beq a.length ks.length && Nat.beq b.length ks.length) = true) (h : allEq ks a b = some r) :
    aop T τ σ (.binOp .eql t x y ty) = some (.bool r, σ) := by
  simp only [Bool.and_eq_true] at hl
  simp [aop, oBin, h1, h2, h0, binD, eqD, nbeq hl.1, nbeq hl.2, allEq_cells _ _ _ _ h]
theorem op_seqN {t ty : TypeId} {x y : Operand} {ks : List LK} {a b : List D} {r : Bool} (h0 : lk T.eq t = some (.flat ks)) (h1 : ev τ x = some (.agg a)) (h2 : ev τ y = some (.agg b)) (hl : (Nat.beq a.length ks.length && Nat.beq b.length ks.length) = true) (h : allEq ks a b = some r) :
    aop T τ σ (.binOp .neq t x y ty) = some (.bool (!r), σ) := by
  simp only [Bool.and_eq_true] at hl
  simp [aop, oBin, h1, h2, h0, binD, eqD, nbeq hl.1, nbeq hl.2, allEq_cells _ _ _ _ h]
end

/-! ### a cut: slots and objects that are needed, and no others -/
theorem mv_range {n : Nat} {d : D} (h : okv n d = true) : mv (List.range n) d = d := by
  have key : ∀ j, Nat.blt j n = true → (List.range n).getD j 0 = j := fun j hj => by
    have hj : j < n := Nat.le_of_ble_eq_true hj
    simp [List.getD_eq_getElem?_getD, List.getElem?_range hj]
  cases d <;> simp only [mv] <;> first | rfl | (rw [key _ h])

theorem mvO_range {n : Nat} {ob : AObj} (h : okO n ob = true) : mvO (List.range n) ob = ob := by
  cases ob with
  | cells cs f v =>
    simp only [okO] at h
    have : cs.map (mv (List.range n)) = cs := by
      conv => rhs; rw [← List.map_id cs]
      exact List.map_congr_left fun d hd => mv_range (List.all_eq_true.1 h d hd)
    simp only [mvO, this]
  | _ => rfl

theorem AWp.cut {i : Nat} {P : Program} {N : Nat} {c : Code} {τ τ' : Env} {σ g : Sto} {Q : AEx → Env → Sto → Prop} (h0 : Nat.ble i σ.length = true) (h1 : σ.all (okO σ.length) = true) (h2 : τ'.all (fun p => okv σ.length p.2) = true)
    (hs : ∀ t d, get τ' t = some d → get τ t = some d) (h : AWp i P N c τ' σ Q) : AWp i P N c τ (σ ++ g) Q := by
  have mem : ∀ (τ : Env) (t : Nat) (d : D), get τ t = some d → (t, d) ∈ τ := by
    intro τ
    induction τ with
    | nil => intro t d h; simp [get] at h
    | cons p r ih =>
      obtain ⟨i, x⟩ := p
      intro t d h
      simp only [get] at h
      split at h
      · rename_i e; subst e; cases h; exact List.mem_cons_self ..
      · exact List.mem_cons_of_mem _ (ih t d h)
  refine AWp.gc (List.range σ.length) (fun l hl => List.getElem?_range (Nat.lt_of_lt_of_le hl (Nat.le_of_ble_eq_true h0))) List.nodup_range (by simp) (σ' := σ) (τ' := τ') ?_ ?_ h
  · intro j l ob hj hob
    have hlt := lt_of_getElem? hob
    rw [List.getElem?_range hlt] at hj
    cases hj
    have hok := List.all_eq_true.1 h1 ob (List.mem_of_getElem? hob)
    rw [mvO_range hok, List.getElem?_append_left hlt, hob]
    exact ⟨rfl, by simpa using hok⟩
  · intro t d hg
    have hok := List.all_eq_true.1 h2 _ (mem _ _ _ hg)
    rw [mv_range hok]
    exact ⟨hs t d hg, by simpa using hok⟩

theorem awp_scopeN {i : Nat} {P : Program} {N : Nat} {c : Code} {τ : Env} {σ : Sto} {Q : AEx → Env → Sto → Prop} (h : AWp i P N c τ σ (noGotoQ Q)) : AWp i P N (.scope c) τ σ Q := awp_scope h

/-! ### a region that draws its order, step by step -/
section
variable {P : Program} {T : Tys} {N : Nat} {ops : Array Oper} {A : Res} {M : List Nat} {o : Oper} {r : List Oper} {i : Nat} {τ τ2 : Env} {S : List Sto} {C : List Nat} {tab : List Rc} {K : Env → Sto → Prop} {σ σ' : Sto} {d : D}
theorem dr_end (h1 : AllP (fun (x : Nat × Nat × List D) => ∃ r : Rc, tab[x.1]? = some r ∧ r.kd = .alloc x.2.1 x.2.2) A) (h2 : S.getLast? = some σ) (h : K τ σ) : ADr P N ops A M [] i τ S C tab K := ⟨h1, σ, h2, h⟩
theorem dr_no (h1 : wantD ops (rst ops o τ) o = some false) (h2 : putD N o.dst (.tuple []) τ = some τ2) (h : ADr P N ops A M r (i + 1) τ2 S C (tab ++ [⟨o, rst ops o τ, .tuple [], .skip⟩]) K) : ADr P N ops A M (o :: r) i τ S C tab K :=
  .inl ⟨h1, τ2, h2, h⟩
theorem dr_read (h1 : wantD ops (rst ops o τ) o = some true) (h2 : AllP (fun s => AOp P N o (rst ops o τ) s fun d' s' => d' = d ∧ s' = s) ((keepS (M.getD i 0) S C).flatMap fun σ => (subsA A (M.getD i 0)).map (hide · σ)))
    (h3 : putD N o.dst d τ = some τ2) (h : ADr P N ops A M r (i + 1) τ2 S C (tab ++ [⟨o, rst ops o τ, d, .read⟩]) K) : ADr P N ops A M (o :: r) i τ S C tab K :=
  .inr (.inl ⟨h1, d, τ2, h2, h3, h⟩)
theorem dr_alloc (tok : TOk T P) {e : TypeId} {l : Nat} {cs : List D} (h1 : wantD ops (rst ops o τ) o = some true) (h2 : o.op = .alloc e) (h3 : resOf? A i = some (l, cs)) (h4 : lk T.zero e = some cs) (h5 : putD N o.dst (.ptr l 0 0) τ = some τ2)
    (h : ADr P N ops A M r (i + 1) τ2 S C (tab ++ [⟨o, rst ops o τ, .ptr l 0 0, .alloc l cs⟩]) K) : ADr P N ops A M (o :: r) i τ S C tab K :=
  .inr (.inr (.inr ⟨h1, e, l, cs, τ2, h2, h3, lk_of tok.zero h4, h5, h⟩))
theorem dr_chain (h1 : wantD ops (rst ops o τ) o = some true) (h2 : chOk (M.getD i 0) C = true) (h3 : S.getLast? = some σ) (h4 : aop T (rst ops o τ) σ o.op = some (d, σ'))
    (h5 : AllP (fun ls => AOp P N o (rst ops o τ) (hide ls σ) fun d' s' => d' = d ∧ s' = hide ls σ') (subsA A (M.getD i 0)))
    (h6 : AllP (fun (x : Rc × Sto) => AOp P N x.1.o x.1.env x.2 fun d' s' => d' = x.1.v ∧ s' = x.2) (reS A M (C ++ [i]) σ' 0 tab))
    (h7 : AllP (fun (x : Nat × Nat × List D) => match Nat.testBit (M.getD i 0) x.1 with | true => True | false => σ'[x.2.1]? = some (.cells x.2.2 0 0)) A)
    (h8 : putD N o.dst d τ = some τ2) (h : ADr P N ops A M r (i + 1) τ2 (S ++ [σ']) (C ++ [i]) (tab ++ [⟨o, rst ops o τ, d, .chain C.length⟩]) K) : ADr P N ops A M (o :: r) i τ S C tab K :=
  .inr (.inr (.inl ⟨h1, h2, d, τ2, σ, σ', h3, h5, h6, h7, h8, h⟩))
/-- a call whose body is walked on the spot. -/
theorem goI {all : Array Oper} {τ : Env} {σ : Sto} {Kt : Env → Sto → Prop} (tok : TOk T P) {c : Call} {f : FuncId} {fn : Func} {code : Code} {ds : List D} (h1 : wantD all τ o = some true) (ho : o.op = .call c) (hc : callD T τ c = some (f, ds)) (hfn : P.funcs[f]? = some fn) (hf : FnOk P f)
    (hb : fn.body = some code) (hn : Nat.ble ds.length fn.ntmps = true)
    (h : AWp σ.length P fn.ntmps code (env0 0 ds) σ fun e τ' σ' => (e = .normal ∨ e = .ret) ∧ ∃ d, resD T fn.results.toList τ' σ' = some d ∧ ∃ τ2, putD N o.dst d τ = some τ2 ∧ AOps P N all r τ2 σ' Kt) : AOps P N all (o :: r) τ σ Kt := by
  refine .inl ⟨h1, fun B G w a hR hT next Q hn' => ?_⟩
  obtain ⟨vals, hall, hinv⟩ := callD_run tok (w := w) (ty := o.type) hT hc
  rw [callFunc_run hf] at hinv
  have hrun : (execOp a.eval o).run P w = .ok (.enter f vals.toArray) w := by
    unfold execOp
    rw [ho]
    exact hinv
  unfold Oper.wp
  rw [hrun, Oper.upon_enter]
  have hcall := acall_body (i := σ.length) tok hfn hb (Nat.le_of_ble_eq_true hn) (R := fun d σ' => ∃ τ2, putD N o.dst d τ = some τ2 ∧ AOps P N all r τ2 σ' Kt) h
  refine (hcall B G w vals hR hall).mono ?_
  rintro e w' ⟨v, G', d, σ', rfl, k1, k2, k3, k4⟩
  exact hn' v w' G' d σ' (k1.le hR) k2 k3 k4
def inlQ (T : Tys) (P : Program) (N : Nat) (all : Array Oper) (o : Oper) (r : List Oper) (τ : Env) (Kt : Env → Sto → Prop) (rs : List ResultVar) : AEx → Env → Sto → Prop := fun e τ' σ' =>
  (e = .normal ∨ e = .ret) ∧ ∃ d, resD T rs τ' σ' = some d ∧ ∃ τ2, putD N o.dst d τ = some τ2 ∧ AOps P N all r τ2 σ' Kt
theorem aop_C (tok : TOk T P) {c : Call} {f : FuncId} {ds ds' : List D} (ho : o.op = .call c) (hc : callD T τ c = some (f, ds)) (hz : frzCs σ ds = some (ds', σ')) (hf : FnOk P f) (h : PureOK P f ds' d) : AOp P N o τ σ fun d' s => d' = d ∧ s = σ' :=
  aop_call tok ho hc hz hf (h.acall _)
end
end Go.Fw
namespace Go.Fw
open Go.RowKit

theorem set_same {α : Type} {l : List α} {i : Nat} {x : α} (h : l[i]? = some x) : l.set i x = l := by
  apply List.ext_getElem?
  intro j
  by_cases e : i = j
  · subst e
    rw [List.getElem?_set_self (lt_of_getElem? h), h]
  · rw [List.getElem?_set_ne e]

section
variable {P : Program} {B : Base P} {G : Gh} {σ : Sto} {w : World} {N : Nat} {i : Nat} {c : Code} {τ τ' : Env} {σ' : Sto} {Q : AEx → Env → Sto → Prop}

/-- a new object that is nowhere yet. -/
theorem Rel.newObj (hR : Rel B G σ w) : Rel B G (σ ++ [.cells [] 0 0]) w := by
  have old : ∀ {l u b : Nat} {ob : AObj}, G.blk l u = some b → (σ ++ [AObj.cells [] 0 0])[l]? = some ob → σ[l]? = some ob := by
    intro l u b ob hb ho
    rwa [List.getElem?_append_left (hR.blk _ _ _ hb).1] at ho
  have look : ∀ {l : Nat} {ob : AObj}, (σ ++ [AObj.cells [] 0 0])[l]? = some ob → σ[l]? = some ob ∨ (l = σ.length ∧ ob = .cells [] 0 0) := by
    intro l ob ho
    rcases Nat.lt_or_ge l σ.length with h | h
    · rw [List.getElem?_append_left h] at ho; exact .inl ho
    · rw [List.getElem?_append_right h] at ho
      cases hk : l - σ.length with
      | zero => rw [hk] at ho; simp at ho; exact .inr ⟨by omega, ho.symm⟩
      | succ k => rw [hk] at ho; simp at ho
  refine ⟨hR.below, hR.imm, hR.mimm, hR.siz, fun l u b hb => ?_, hR.inj, fun l ob b ho hb => hR.obj l ob b (old hb ho) hb, fun l cs frz u b ho hb => hR.own l cs frz u b (old hb ho) hb, fun l ks vs b ho hb => hR.ownm l ks vs b (old hb ho) hb, fun l ob ho => ?_, fun l ob ho => ?_, hR.bimm, hR.bmimm⟩
  · obtain ⟨h1, h2⟩ := hR.blk l u b hb
    exact ⟨by simp; omega, h2⟩
  · rcases look ho with h | ⟨rfl, rfl⟩
    · exact hR.ver l ob h
    · exact ⟨Nat.le_refl _, fun u b hb => absurd (hR.blk _ _ _ hb).1 (Nat.lt_irrefl _)⟩
  · rcases look ho with h | ⟨rfl, rfl⟩
    · exact hR.frzle l ob h
    · exact Nat.le_refl _

/-- the cells of an object, said in weaker words. -/
theorem Rel.weakObj (hR : Rel B G σ w) {l f v : Nat} {cs cs' : List D} (hl : σ[l]? = some (.cells cs f v)) (hlen : cs'.length = cs.length) (hw : ∀ vs, Reps G cs vs → Reps G cs' vs) : Rel B G (σ.set l (.cells cs' f v)) w := by
  have hlt := lt_of_getElem? hl
  have look : ∀ {l' : Nat} {ob : AObj}, (σ.set l (.cells cs' f v))[l']? = some ob → (l' = l ∧ ob = .cells cs' f v) ∨ (l' ≠ l ∧ σ[l']? = some ob) := by
    intro l' ob h
    by_cases e : l' = l
    · subst e
      rw [List.getElem?_set_self hlt] at h
      exact .inl ⟨rfl, (Option.some.inj h).symm⟩
    · rw [List.getElem?_set_ne (Ne.symm e)] at h
      exact .inr ⟨e, h⟩
  refine ⟨hR.below, hR.imm, hR.mimm, hR.siz, fun l' u' b hb => ?_, hR.inj, fun l' ob b ho hb => ?_, fun l' cs2 frz' u' b ho hb o x hi => ?_, fun l' ks vs b ho hb => ?_, fun l' ob ho => ?_, fun l' ob ho => ?_, hR.bimm, hR.bmimm⟩
  · rw [List.length_set]; exact hR.blk l' u' b hb
  · rcases look ho with ⟨rfl, rfl⟩ | ⟨_, h⟩
    · obtain ⟨vs, et, h1, h2, tl, hd, h3, h4⟩ := hR.obj l' (.cells cs f v) b hl hb
      exact ⟨vs, et, h1, h2, tl, hd, h3, hw _ h4⟩
    · exact hR.obj l' ob b h hb
  · rcases look ho with ⟨rfl, h⟩ | ⟨_, h⟩
    · cases h
      exact hR.own l' _ _ _ b hl hb o x hi
    · exact hR.own l' _ _ _ b h hb o x hi
  · rcases look ho with ⟨_, h⟩ | ⟨_, h⟩
    · cases h
    · exact hR.ownm l' ks vs b h hb
  · rcases look ho with ⟨rfl, rfl⟩ | ⟨_, h⟩
    · have := hR.ver l' _ hl
      exact ⟨by simp only [AObj.ver, AObj.len] at this ⊢; omega, this.2⟩
    · exact hR.ver l' ob h
  · rcases look ho with ⟨rfl, rfl⟩ | ⟨_, h⟩
    · have := hR.frzle l' _ hl
      simp only [AObj.frz, AObj.len] at this ⊢; omega
    · exact hR.frzle l' ob h

theorem AWp.ghost2 (h : AWp i P N c τ' σ' Q) (hg : ∀ (B : Base P) (G : Gh) (w : World) (a : Act), Rel B G σ w → TRel G N τ a → Rel B G σ' w ∧ TRel G N τ' a) : AWp i P N c τ σ Q := by
  intro B G w a hR hT
  obtain ⟨h1, h2⟩ := hg B G w a hR hT
  exact h B G w a h1 h2

theorem nil_own {l sz : Nat} {v : Value} (h : Rep G (.list [] 0 true) v) : Rep G (.sl l 0 0 0 sz false) v := by
  simp only [Rep] at h ⊢
  obtain ⟨a, cap, rfl, _, _, h3, _⟩ := h
  have := h3 trivial
  subst this
  exact .inr ⟨trivial, a, rfl⟩

/-- a slot that holds nil becomes a slice of one's own. -/
theorem AWp.own_slot {t : Nat} (sz : Nat) (ht : get τ t = some (.list [] 0 true)) (h : AWp i P N c ((t, .sl σ.length 0 0 0 sz false) :: τ) (σ ++ [.cells [] 0 0]) Q) : AWp i P N c τ σ Q := by
  refine h.ghost2 fun B G w a hR hT => ⟨hR.newObj, hT.size, hT.defers, fun t' d hg => ?_⟩
  simp only [get] at hg
  split at hg
  · rename_i e
    subst e
    cases hg
    exact nil_own (hT.slot _ _ ht)
  · exact hT.slot _ _ hg

theorem Reps.set_weak {d d' : D} (hw : ∀ v, Rep G d v → Rep G d' v) : ∀ {cs : List D} {o : Nat} {vs : List Value}, cs[o]? = some d → Reps G cs vs → Reps G (cs.set o d') vs
  | [], _, _, h, _ => by simp at h
  | x :: cs, 0, vs, h, hv => by
    simp at h
    subst h
    simp only [List.set_cons_zero, Reps] at hv ⊢
    obtain ⟨v, r, e, h1, h2⟩ := hv
    exact ⟨v, r, e, hw v h1, h2⟩
  | x :: cs, o + 1, vs, h, hv => by
    simp only [List.getElem?_cons_succ] at h
    simp only [List.set_cons_succ, Reps] at hv ⊢
    obtain ⟨v, r, e, h1, h2⟩ := hv
    exact ⟨v, r, e, h1, Reps.set_weak hw h h2⟩

/-- a cell of an object that holds nil becomes a slice of one's own. -/
theorem AWp.own_cell {l o f v : Nat} {cs : List D} (sz : Nat) (hl : σ[l]? = some (.cells cs f v)) (hc : cs[o]? = some (.list [] 0 true))
    (h : AWp i P N c τ (σ.set l (.cells (cs.set o (.sl σ.length 0 0 0 sz false)) f v) ++ [.cells [] 0 0]) Q) : AWp i P N c τ σ Q := by
  refine h.ghost2 fun B G w a hR hT => ⟨?_, hT⟩
  exact (hR.weakObj hl (by simp) fun vs hv => Reps.set_weak (fun v hv => nil_own hv) hc hv).newObj
end

/-! ### append to a slice of one's own -/
def app {α : Type} (by' : Nat) (xs ys : List α) : Option (List α) := if (xs.length + ys.length) * by' ≤ limit ∧ xs.length + ys.length ≤ limit then some (xs ++ ys) else none

section
variable {α : Type} {P : Program} {T : Tys} {τ τ' : Env} {σ σ' : Sto} {E : Enc α} {xs ys zs : List α}
theorem op_app {t tx : TypeId} {s x : Operand} {l fz by' : Nat} {f : Bool} (h1 : lk2 T.app t tx = some (E.sz, by')) (h2 : ev τ s = some (.sl l (flatE E xs).length 0 xs.length E.sz false)) (h3 : ev τ x = some (.list (flatE E ys) ys.length f))
    (hl : σ[l]? = some (.cells (flatE E xs) fz (flatE E xs).length)) (h : app by' xs ys = some zs) :
    aop T τ σ (.call { callee := .builtin .append, args := #[s, x], argTypes := #[t, tx] }) = some (.sl l (flatE E zs).length 0 zs.length E.sz false, σ.set l (.cells (flatE E zs) fz (flatE E zs).length)) := by
  show oAppend T τ σ [s, x] [t, tx] = _
  unfold app at h
  split at h <;> try (cases h; done)
  rename_i hb
  cases h
  simp only [oAppend, h1, h2, h3, appD, srcD, flatE_len, flat_cell, if_true, hl]
  rw [if_pos ⟨trivial, trivial, by omega⟩]
  by_cases hm : ys.length = 0
  · have hy : ys = [] := List.eq_nil_of_length_eq_zero hm
    subst hy
    simp only [List.length_nil, if_true, List.append_nil]
    rw [set_same (by rw [hl, flatE_len])]
  · rw [if_neg hm, if_pos hb]
    simp only [Bool.false_eq_true, if_false, flatE_append]
    rw [if_pos ⟨trivial, trivial⟩]
    simp only [List.length_append, flatE_len, Nat.add_mul]

/-- what is appended is a string. -/
theorem op_appS {t tx : TypeId} {s x : Operand} {l fz by' : Nat} {us vs ws : List UInt8} (h1 : lk2 T.app t tx = some (1, by')) (h2 : ev τ s = some (.sl l (flatE byteE us).length 0 us.length 1 false)) (h3 : ev τ x = some (.str vs))
    (hl : σ[l]? = some (.cells (flatE byteE us) fz (flatE byteE us).length)) (h : app by' us vs = some ws) :
    aop T τ σ (.call { callee := .builtin .append, args := #[s, x], argTypes := #[t, tx] }) = some (.sl l (flatE byteE ws).length 0 ws.length 1 false, σ.set l (.cells (flatE byteE ws) fz (flatE byteE ws).length)) := by
  have := op_app (E := byteE) (xs := us) (ys := vs) (zs := ws) (T := T) (τ := (0, .list (flatE byteE vs) vs.length false) :: (1, .sl l (flatE byteE us).length 0 us.length 1 false) :: []) (σ := σ) (t := t) (tx := tx) (s := .tmp 1) (x := .tmp 0) h1 rfl rfl hl h
  have e : aop T ((0, .list (flatE byteE vs) vs.length false) :: (1, .sl l (flatE byteE us).length 0 us.length 1 false) :: []) σ (.call { callee := .builtin .append, args := #[.tmp 1, .tmp 0], argTypes := #[t, tx] }) = oAppend T ((0, .list (flatE byteE vs) vs.length false) :: (1, .sl l (flatE byteE us).length 0 us.length 1 false) :: []) σ [.tmp 1, .tmp 0] [t, tx] := rfl
  rw [e] at this
  have hs1 : byteE.sz = 1 := rfl
  rw [hs1] at this
  have hl1 : (flatE byteE vs).length = vs.length * 1 := flatE_len byteE vs
  have k1 : srcD σ 1 (.list (flatE byteE vs) vs.length false) = some (flatE byteE vs, vs.length) := by simp only [srcD, hl1, if_true]
  have k2 : srcD σ 1 (.str vs) = some (flatE byteE vs, vs.length) := by
    rw [flat_bytes]; rfl
  have k3 : ∀ d, appD σ 1 by' d (.str vs) = appD σ 1 by' d (.list (flatE byteE vs) vs.length false) := by
    intro d; unfold appD; rw [k1, k2]
  have e3 : oAppend T τ σ [s, x] [t, tx] = appD σ 1 by' (.sl l (flatE byteE us).length 0 us.length 1 false) (.str vs) := by
    simp only [oAppend, h1, h2, h3]
  have e4 : oAppend T ((0, .list (flatE byteE vs) vs.length false) :: (1, .sl l (flatE byteE us).length 0 us.length 1 false) :: []) σ [.tmp 1, .tmp 0] [t, tx] = appD σ 1 by' (.sl l (flatE byteE us).length 0 us.length 1 false) (.list (flatE byteE vs) vs.length false) := by
    simp only [oAppend, h1]
    rfl
  show oAppend T τ σ [s, x] [t, tx] = _
  rw [e3, k3, ← e4, this]

theorem frzC_own {l fz u : Nat} {f : Bool} (hl : σ[l]? = some (.cells (flatE E xs) fz u)) : frzC σ (.sl l u 0 xs.length E.sz f) = some (.list (flatE E xs) xs.length f, σ.set l (.cells (flatE E xs) (flatE E xs).length u)) := by
  simp [frzC, hl, flatE_len, List.take_of_length_le]

theorem AOp.frz {N : Nat} {o : Oper} {d e : D} {σ1 : Sto} (h : AOp P N o τ σ fun d' s => d' = d ∧ s = σ1) (hz : frzC σ1 d = some (e, σ')) : AOp P N o τ σ fun d' s => d' = e ∧ s = σ' := by
  intro B G w a hR hT next Q hn
  refine h B G w a hR hT next Q ?_
  rintro v w' G' d' s h1 h2 h3 ⟨rfl, rfl⟩
  obtain ⟨G2, k1, k2, k3⟩ := frzC_ok h2 hz h3
  exact hn v w' G2 e _ (h1.trans k1) k2 k3 ⟨rfl, rfl⟩

theorem goZ {N : Nat} {all : Array Oper} {o : Oper} {r : List Oper} {d e : D} {σ1 : Sto} {Kt : Env → Sto → Prop} (tok : TOk T P) (h1 : wantD all τ o = some true) (h2 : aop T τ σ o.op = some (d, σ1)) (hz : frzC σ1 d = some (e, σ')) (h3 : putD N o.dst e τ = some τ') (h : AOps P N all r τ' σ' Kt) : AOps P N all (o :: r) τ σ Kt :=
  goP h1 ((aop_aop tok h2).frz hz) h3 h

theorem okv_pure (n : Nat) : ∀ {d : D}, d.pure = true → okv n d = true := by
  intro d h
  cases d <;> simp only [D.pure] at h <;> first | (cases h; done) | (simp only [okv, D.pure]; first | done | exact h)
theorem pureL_all (n : Nat) : ∀ {ds : List D}, pureL ds = true → ds.all (okv n) = true
  | [], _ => rfl
  | d :: ds, h => by
    simp only [pureL, Bool.and_eq_true] at h
    simp only [List.all_cons, okv_pure n h.1, pureL_all n h.2, Bool.and_self]
theorem flat_okv (n : Nat) (E : Enc α) (xs : List α) : (flatE E xs).all (okv n) = true := pureL_all n (flat_pure E xs)
end
end Go.Fw
namespace Go.Fw
section
variable {P : Program} {T : Tys} {N : Nat} {all : Array Oper} {o : Oper} {r : List Oper} {τ τ' : Env} {σ σ1 σ' : Sto} {Kt : Env → Sto → Prop}
/-- nil, or an empty slice, becomes a slice of one's own. -/
theorem AOp.toOwn (sz : Nat) (h : AOp P N o τ σ fun d' s => d' = .list [] 0 true ∧ s = σ1) : AOp P N o τ σ fun d' s => d' = .sl σ1.length 0 0 0 sz false ∧ s = σ1 ++ [.cells [] 0 0] := by
  intro B G w a hR hT next Q hn
  refine h B G w a hR hT next Q ?_
  rintro v w' G' d' s h1 h2 h3 ⟨rfl, rfl⟩
  exact hn v w' G' _ _ h1 h2.newObj (nil_own h3) ⟨rfl, rfl⟩
theorem goN (sz : Nat) (tok : TOk T P) (h1 : wantD all τ o = some true) (h2 : aop T τ σ o.op = some (.list [] 0 true, σ1)) (h3 : putD N o.dst (.sl σ1.length 0 0 0 sz false) τ = some τ') (h : AOps P N all r τ' (σ1 ++ [.cells [] 0 0]) Kt) : AOps P N all (o :: r) τ σ Kt :=
  goP h1 ((aop_aop tok h2).toOwn sz) h3 h
end
end Go.Fw
namespace Go.Fw

theorem flat_nil {α : Type} {E : Enc α} (h : 0 < E.sz) {xs : List α} (e : flatE E xs = []) : xs = [] := by
  have hl := flatE_len E xs
  rw [e] at hl
  cases xs with
  | nil => rfl
  | cons x xs =>
    exfalso
    have : 0 < (x :: xs).length * E.sz := Nat.mul_pos (Nat.succ_pos _) h
    simp only [List.length_nil] at hl
    omega

theorem app_nil {α : Type} {by' : Nat} {zs : List α} (h : app by' [] [] = some zs) : zs = [] := by
  unfold app at h
  split at h <;> try (cases h; done)
  cases h
  rfl
open Go.RowKit
/-! ### where ways meet again -/
def Ext (τ τ' : Env) : Prop := ∀ t d, get τ t = some d → get τ' t = some d
theorem Ext.refl (τ : Env) : Ext τ τ := fun _ _ h => h
theorem Ext.skip {τ τ' : Env} {t : Nat} {d : D} (hn : get τ t = none) (h : Ext τ τ') : Ext τ ((t, d) :: τ') := by
  intro t' d' hg
  simp only [get]
  by_cases e : t = t'
  · subst e; rw [hn] at hg; cases hg
  · rw [if_neg e]; exact h t' d' hg
theorem Ext.push {τ τ' : Env} {t : Nat} {d : D} (h : Ext τ τ') (hg : get τ' t = some d) : Ext ((t, d) :: τ) τ' := by
  intro t' d' h'
  simp only [get] at h'
  split at h'
  · rename_i e; subst e; cases h'; exact hg
  · exact h t' d' h'
theorem Ext.cons {τ τ' : Env} (t : Nat) (d : D) (h : Ext τ τ') : Ext ((t, d) :: τ) ((t, d) :: τ') := by
  intro t' d' h'
  simp only [get] at h' ⊢
  split at h'
  · rename_i e; rw [if_pos e]; exact h'
  · rename_i e; rw [if_neg e]; exact h t' d' h'

section
variable {P : Program} {N : Nat} {all : Array Oper} {Kt : Env → Sto → Prop}
theorem wantD_ext {o : Oper} {τ τ' : Env} {b : Bool} (he : Ext τ τ') (h : wantD all τ o = some b) : wantD all τ' o = some b := by
  unfold wantD at h ⊢
  split at h
  · exact h
  · split at h <;> try (cases h; done)
    rename_i t ht
    try simp only [ht]
    split at h <;> try (cases h; done)
    · rename_i b' hb; rw [he _ _ hb]; exact h
    · rename_i vs hb; rw [he _ _ hb]; exact h

theorem AOp.sub {o : Oper} {τ τ' : Env} {σ : Sto} {K : D → Sto → Prop} (he : Ext τ τ') (h : AOp P N o τ σ K) : AOp P N o τ' σ K :=
  fun B G w a hR hT => h B G w a hR (hT.sub he)

theorem putD_ext {dst : Option Tmp} {d : D} {τ τ' τ1 : Env} (he : Ext τ τ') (h : putD N dst d τ = some τ1) : ∃ τ1', putD N dst d τ' = some τ1' ∧ Ext τ1 τ1' := by
  unfold putD at h ⊢
  split at h
  · cases h; exact ⟨_, rfl, he⟩
  · split at h <;> try (cases h; done)
    rename_i t ht
    cases h
    exact ⟨_, by simp only [ht, if_true], he.cons _ _⟩

theorem AOps.sub (hK : ∀ τ τ' σ, Ext τ τ' → Kt τ σ → Kt τ' σ) : ∀ (l : List Oper) (τ τ' : Env) (σ : Sto), Ext τ τ' → AOps P N all l τ σ Kt → AOps P N all l τ' σ Kt
  | [], τ, τ', σ, he, h => hK τ τ' σ he h
  | o :: r, τ, τ', σ, he, h => by
    rcases h with ⟨h1, h2⟩ | ⟨h1, τ1, h2, h3⟩
    · refine .inl ⟨wantD_ext he h1, (h2.sub he).mono ?_⟩
      rintro d s ⟨τ1, h3, h4⟩
      obtain ⟨τ1', h5, h6⟩ := putD_ext he h3
      exact ⟨τ1', h5, AOps.sub hK r τ1 τ1' s h6 h4⟩
    · obtain ⟨τ1', h5, h6⟩ := putD_ext he h2
      exact .inr ⟨wantD_ext he h1, τ1', h5, AOps.sub hK r τ1 τ1' σ h6 h3⟩

theorem AOps.append : ∀ (a b : List Oper) (τ : Env) (σ : Sto), AOps P N all a τ σ (fun τ' σ' => AOps P N all b τ' σ' Kt) → AOps P N all (a ++ b) τ σ Kt
  | [], _, _, _, h => h
  | o :: r, b, τ, σ, h => by
    rcases h with ⟨h1, h2⟩ | ⟨h1, τ1, h2, h3⟩
    · refine .inl ⟨h1, h2.mono ?_⟩
      rintro d s ⟨τ1, h3, h4⟩
      exact ⟨τ1, h3, AOps.append r b τ1 s h4⟩
    · exact .inr ⟨h1, τ1, h2, AOps.append r b τ1 σ h3⟩

theorem AOps.monoK {K K' : Env → Sto → Prop} (hk : ∀ τ σ, K τ σ → K' τ σ) : ∀ (l : List Oper) (τ : Env) (σ : Sto), AOps P N all l τ σ K → AOps P N all l τ σ K'
  | [], τ, σ, h => hk τ σ h
  | o :: r, τ, σ, h => by
    rcases h with ⟨h1, h2⟩ | ⟨h1, τ1, h2, h3⟩
    · refine .inl ⟨h1, h2.mono ?_⟩
      rintro d s ⟨τ1, h3, h4⟩
      exact ⟨τ1, h3, AOps.monoK hk r τ1 s h4⟩
    · exact .inr ⟨h1, τ1, h2, AOps.monoK hk r τ1 σ h3⟩

/-- so many operations, of which only a bool remains. -/
theorem sc_join {l : List Oper} {τ : Env} {σ : Sto} (k t : Nat) (v : Bool) (hK : ∀ τ τ' σ, Ext τ τ' → Kt τ σ → Kt τ' σ)
    (h1 : AOps P N all (l.take k) τ σ (fun τ' σ' => Ext τ τ' ∧ get τ' t = some (.bool v) ∧ σ' = σ)) (h2 : AOps P N all (l.drop k) ((t, .bool v) :: τ) σ Kt) : AOps P N all l τ σ Kt := by
  have : l = l.take k ++ l.drop k := (List.take_append_drop k l).symm
  rw [this]
  refine AOps.append _ _ τ σ (AOps.monoK ?_ _ τ σ h1)
  rintro τ' σ' ⟨e1, e2, rfl⟩
  exact AOps.sub hK _ _ _ _ (e1.push e2) h2
end

def joinQ (τ1 : Env) (σ1 : Sto) : AEx → Env → Sto → Prop := fun e τ' σ' => e = .normal ∧ AllP (fun p : Nat × D => get τ' p.1 = some p.2) τ1 ∧ ∃ g, σ' = σ1 ++ g
theorem awp_joinC {i : Nat} {P : Program} {N : Nat} {c1 c2 : Code} {τ τ1 : Env} {σ σ1 : Sto} {Q Q' : AEx → Env → Sto → Prop} (h1 : AWp i P N c1 τ σ (joinQ τ1 σ1)) (k0 : Nat.ble i σ1.length = true) (k1 : σ1.all (okO σ1.length) = true) (k2 : τ1.all (fun p => okv σ1.length p.2) = true)
    (h2 : AWp i P N c2 τ1 σ1 Q') : AWp i P N c1 τ σ (thenQ (fun τ' σ' => AWp i P N c2 τ' σ' Q') Q) := by
  refine h1.mono ?_
  rintro e τ' σ' ⟨rfl, h3, g, rfl⟩
  exact AWp.cut k0 k1 k2 (get_all h3) h2
end Go.Fw
namespace Go.Fw
section
variable {i : Nat} {P : Program} {N : Nat} {c c1 c2 : Code} {τ : Env} {σ : Sto} {Q : AEx → Env → Sto → Prop}
theorem sq (h : AWp i P N c1 τ σ (thenQ (fun τ' σ' => AWp i P N c2 τ' σ' Q) Q)) : AWp i P N (.seq c1 c2) τ σ Q := awp_seq h
theorem rg {id : Nat} {ops : Array Oper} (h : AOps P N ops ops.toList τ σ (fun τ' σ' => Q .normal τ' σ')) : AWp i P N (.region id ops false) τ σ Q := awp_region h
theorem bk {id : Nat} (h : AWp i P N c τ σ (blockQ id Q)) : AWp i P N (.block id c) τ σ Q := awp_block h
theorem sk (h : Q .normal τ σ) : AWp i P N .skip τ σ Q := awp_skip h
theorem lb {l : Nat} (h : Q .normal τ σ) : AWp i P N (.label l) τ σ Q := awp_label h
theorem sp (h : AWp i P N c τ σ (noGotoQ Q)) : AWp i P N (.scope c) τ σ Q := awp_scope h
end
end Go.Fw
namespace Go.Fw
open Go.RowKit
section
variable {P : Program} {T : Tys} {N : Nat} {o : Oper} {τ : Env} {σ σ' : Sto}
theorem aop_bool {c b : Bool} (h : AOp P N o τ σ fun d' s => d' = .bool c ∧ s = σ') (hc : c = b) : AOp P N o τ σ fun d' s => d' = .bool b ∧ s = σ' := by subst hc; exact h

theorem op_bs {t : TypeId} {n : Nat} {vs : Array (Nat × Operand)} {xs : List D} {bs : List UInt8} (h : aop T τ σ (.buildSlice t n vs) = some (.list xs bs.length true, σ)) (e : xs = flatE byteE bs) :
    aop T τ σ (.buildSlice t n vs) = some (.list (flatE byteE bs) (List.length bs) true, σ) := by rw [h, e]

theorem op_bs2 {t : TypeId} {x y : Operand} {n m : Int} {b c : UInt8} {z : List D} (h1 : lk T.bs t = some (z, 1)) (h2 : ev τ x = some (.int .u8 n)) (h3 : ev τ y = some (.int .u8 m)) (h : n = (b.toNat : Int)) (h' : m = (c.toNat : Int)) (hz : z = [.int .u8 0]) :
    aop T τ σ (.buildSlice t 2 #[(0, x), (1, y)]) = some (.list (flatE byteE [b, c]) (List.length [b, c]) true, σ) := by
  subst h h' hz
  simp only [aop, oBuildSlice, h1, evp, h2, h3]
  rfl

theorem Rel.oneMore {P : Program} {B : Base P} {G : Gh} {w : World} {ob : AObj} (hv : ob.ver = 0) (hR : Rel B G (σ ++ [ob]) w) : Rel B G (σ ++ [.gone]) w := by
  have look : ∀ {l : Nat} {x : AObj}, (σ ++ [AObj.gone])[l]? = some x → (l < σ.length ∧ (σ ++ [ob])[l]? = some x) ∨ (l = σ.length ∧ x = .gone) := by
    intro l x h
    rcases Nat.lt_or_ge l σ.length with hl | hl
    · rw [List.getElem?_append_left hl] at h
      exact .inl ⟨hl, by rw [List.getElem?_append_left hl]; exact h⟩
    · rw [List.getElem?_append_right hl] at h
      cases hk : l - σ.length with
      | zero => rw [hk] at h; simp at h; exact .inr ⟨by omega, h.symm⟩
      | succ k => rw [hk] at h; simp at h
  have top : (σ ++ [ob])[σ.length]? = some ob := by simp
  refine ⟨hR.below, hR.imm, hR.mimm, hR.siz, fun l u b hb => ?_, hR.inj, fun l x b ho hb => ?_, fun l cs frz u b ho hb => ?_, fun l ks vs b ho hb => ?_, fun l x ho => ?_, fun l x ho => ?_, hR.bimm, hR.bmimm⟩
  · have := hR.blk l u b hb
    exact ⟨by simpa using this.1, this.2⟩
  · rcases look ho with ⟨_, h⟩ | ⟨rfl, rfl⟩
    · exact hR.obj l x b h hb
    · exact (hR.blk _ _ _ hb).2.2
  · rcases look ho with ⟨_, h⟩ | ⟨_, h⟩
    · exact hR.own l cs frz u b h hb
    · cases h
  · rcases look ho with ⟨_, h⟩ | ⟨_, h⟩
    · exact hR.ownm l ks vs b h hb
    · cases h
  · rcases look ho with ⟨_, h⟩ | ⟨rfl, rfl⟩
    · exact hR.ver l x h
    · refine ⟨Nat.le_refl _, fun u b hb => ?_⟩
      have := (hR.ver _ _ top).2 u b hb
      rw [hv] at this
      exact this
  · rcases look ho with ⟨_, h⟩ | ⟨_, rfl⟩
    · exact hR.frzle l x h
    · exact Nat.le_refl _

variable {α : Type} {E : Enc α} {xs ys zs : List α}
/-- append to a list that has no room: what comes of it is handed on for good. -/
theorem aop_full (tok : TOk T P) {t tx : TypeId} {s x : Operand} {by' : Nat} {f : Bool} (ho : o.op = .call { callee := .builtin .append, args := #[s, x], argTypes := #[t, tx] }) (h1 : lk2 T.app t tx = some (E.sz, by'))
    (h2 : ev τ s = some (.list (flatE E xs) xs.length true)) (h3 : ev τ x = some (.list (flatE E ys) ys.length f)) (h : app by' xs ys = some zs) : AOp P N o τ σ fun d' s' => d' = .list (flatE E zs) zs.length false ∧ s' = σ ++ [.gone] := by
  unfold app at h
  split at h <;> try (cases h; done)
  rename_i hb
  cases h
  by_cases hm : ys.length = 0
  · have hy : ys = [] := List.eq_nil_of_length_eq_zero hm
    subst hy
    have ha : aop T τ σ o.op = some (.list (flatE E xs) xs.length true, σ) := by
      rw [ho]
      show oAppend T τ σ [s, x] [t, tx] = _
      simp [oAppend, h1, h2, h3, appD, srcD, flatE_len, flatE_nil]
    intro B G w a hR hT next Q hn
    refine aop_aop tok ha B G w a hR hT next Q ?_
    rintro v w' G' d s' k1 k2 k3 ⟨rfl, rfl⟩
    exact hn v w' G' _ _ k1 (Rel.oneMore (ob := .cells [] 0 0) rfl k2.newObj) (by rw [List.append_nil]; exact Weak.list _ _ k3) ⟨rfl, rfl⟩
  · have ha : aop T τ σ o.op = some (.sl σ.length 0 0 (xs.length + ys.length) E.sz false, σ ++ [.cells (flatE E xs ++ flatE E ys) 0 0]) := by
      rw [ho]
      show oAppend T τ σ [s, x] [t, tx] = _
      simp only [oAppend, h1, h2, h3, appD, srcD, flatE_len, flat_cell, if_true]
      rw [if_neg hm, if_pos ⟨trivial, hb⟩]
    have hz : frzC (σ ++ [.cells (flatE E xs ++ flatE E ys) 0 0]) (.sl σ.length 0 0 (xs.length + ys.length) E.sz false) = some (.list (flatE E (xs ++ ys)) (xs ++ ys).length false, σ ++ [.cells (flatE E (xs ++ ys)) (flatE E (xs ++ ys)).length 0]) := by
      have e1 : (σ ++ [AObj.cells (flatE E xs ++ flatE E ys) 0 0])[σ.length]? = some (.cells (flatE E xs ++ flatE E ys) 0 0) := by simp
      simp only [frzC, e1]
      rw [if_pos ⟨trivial, by simp [flatE_len, Nat.add_mul]⟩]
      have e2 : ((flatE E xs ++ flatE E ys).drop 0).take ((xs.length + ys.length) * E.sz) = flatE E (xs ++ ys) := by
        rw [flatE_append, List.drop_zero, List.take_of_length_le (by simp [flatE_len, Nat.add_mul])]
      rw [e2]
      simp [flatE_append, List.set_append]
    intro B G w a hR hT next Q hn
    refine (aop_aop tok ha).frz hz B G w a hR hT next Q ?_
    rintro v w' G' d s' k1 k2 k3 ⟨rfl, rfl⟩
    exact hn v w' G' _ _ k1 (Rel.oneMore rfl k2) k3 ⟨rfl, rfl⟩

/-- 'a[i]', a an array that is a value. -/
theorem op_idxA {t : TypeId} {x i : Operand} {k : IntKind} {n : Int} {a : α} {len : Nat} {d : D} (h1 : lk T.idxV t = some (.array len E.sz false)) (h2 : ev τ x = some (.agg (flatE E xs))) (h3 : ev τ i = some (.int k n)) (hl : xs.length = len) (h : ix xs n = some a) (he : E.cells a = [d]) :
    aop T τ σ (.index t x i) = some (d, σ) := by
  obtain ⟨h4, h5, h6⟩ := ix_inv h
  have hg := flatE_get (E := E) h6
  have hsz : E.sz = 1 := by rw [← E.len a, he]; rfl
  rw [he] at hg
  have hc : 0 ≤ n ∧ n < (len : Int) := ⟨h4, by omega⟩
  have hlen : n.toNat * E.sz + E.sz ≤ (flatE E xs).length := by
    rw [flatE_len, ← Nat.succ_mul]
    exact Nat.mul_le_mul_right _ (by omega)
  have hget : (flatE E xs)[n.toNat * E.sz]? = some d := by
    have h8 := congrArg (fun l => l[0]?) hg
    simp only [List.getElem?_take, List.getElem?_drop, hsz] at h8
    simpa [hsz] using h8
  simp only [aop, oIndex, h1, h2, h3, idxInt, if_pos hc, partD, hg]
  simp [hlen, hget]

/-- an element of an array that lies in an object. -/
theorem op_idxP {t : TypeId} {x i : Operand} {k : IntKind} {n : Int} {a : α} {len l u : Nat} (h1 : lk T.idx t = some (.array len E.sz)) (h2 : ev τ x = some (.ptr l u 0)) (h3 : ev τ i = some (.int k n)) (hl : xs.length = len) (h : ix xs n = some a) :
    aop T τ σ (.indexAddr t x i) = some (.ptr l u (0 + n.toNat * E.sz), σ) := by
  obtain ⟨h4, h5, h6⟩ := ix_inv h
  have hc : 0 ≤ n ∧ n < (len : Int) := ⟨h4, by omega⟩
  simp only [aop, oIndexAddr, h1, h2, h3, idxInt, if_pos hc, ptrAdd]
  rfl
theorem op_ldP {t : TypeId} {x : Operand} {n : Int} {a : α} {b : Bool} {d : D} {l u fz : Nat} (h1 : lk T.ld t = some (E.sz, b)) (h2 : ev τ x = some (.ptr l u (0 + n.toNat * E.sz))) (hb : b = true ∨ E.sz = 1) (hl : σ[l]? = some (.cells (flatE E xs) fz u)) (h : ix xs n = some a)
    (h3 : ldFin b (E.cells a) = some d) : aop T τ σ (.load t x) = some (d, σ) := by
  obtain ⟨h4, h5, h6⟩ := ix_inv h
  have hlen : n.toNat * E.sz + E.sz ≤ (flatE E xs).length := by
    rw [flatE_len, ← Nat.succ_mul]
    exact Nat.mul_le_mul_right _ (by omega)
  simp only [aop, oLoad, h1, h2, if_pos hb, readAt, hl, Nat.zero_add]
  rw [if_pos ⟨trivial, hlen⟩]
  simp only [flatE_get h6, h3]
  rfl
end
end Go.Fw
namespace Go.Fw
open Go.RowKit

/-! ### what is one's own is lent to a call that hands back no data but numbers: all that lies there is data as long as the call lasts -/
mutual
def lent (σ : Sto) : Nat → D → Option D
  | 0, _ => none
  | n + 1, d => match d.pure with
    | true => some d
    | false => match d with
      | .sl l u o len sz f => match σ[l]? with
        | some (.cells cs _ v) => match Nat.beq v u && Nat.ble (o + len * sz) cs.length with
          | true => match lents σ n ((cs.drop o).take (len * sz)) with
            | some xs => some (.list xs len f)
            | none => none
          | false => none
        | _ => none
      | .agg cs => match lents σ n cs with
        | some xs => some (.agg xs)
        | none => none
      | _ => none
def lents (σ : Sto) : Nat → List D → Option (List D)
  | 0, _ => none
  | n + 1, l => match l with
    | [] => some []
    | d :: ds => match lent σ n d with
      | some x => match lents σ n ds with
        | some xs => some (x :: xs)
        | none => none
      | none => none
end
mutual
def D.scal : D → Bool
  | .bool _ => true
  | .int _ _ => true
  | .str _ => true
  | .agg cs => D.scals cs
  | .tuple cs => D.scals cs
  | _ => false
def D.scals : List D → Bool
  | [] => true
  | d :: ds => d.scal && D.scals ds
end
mutual
theorem scal_rep {G G' : Gh} : ∀ (d : D) (v : Value), d.scal = true → Rep G d v → Rep G' d v
  | .bool _, _, _, x => by simpa only [Rep] using x
  | .int _ _, _, _, x => by simpa only [Rep] using x
  | .str _, _, _, x => by simpa only [Rep] using x
  | .agg cs, _, h, x => by
    simp only [Rep] at x ⊢
    obtain ⟨a, e, r⟩ := x
    exact ⟨a, e, scals_rep cs _ (by simpa only [D.scal] using h) r⟩
  | .tuple cs, _, h, x => by
    simp only [Rep] at x ⊢
    obtain ⟨a, e, r⟩ := x
    exact ⟨a, e, scals_rep cs _ (by simpa only [D.scal] using h) r⟩
  | .nilp, _, h, _ => by cases h
  | .ptr _ _ _, _, h, _ => by cases h
  | .rptr _ _, _, h, _ => by cases h
  | .list _ _ _, _, h, _ => by cases h
  | .sl _ _ _ _ _ _, _, h, _ => by cases h
  | .map _, _, h, _ => by cases h
  | .nilmap, _, h, _ => by cases h
  | .cmap _ _, _, h, _ => by cases h
  | .func _ _ _, _, h, _ => by cases h
  | .nilf, _, h, _ => by cases h
  | .iface _ _, _, h, _ => by cases h
  | .nili, _, h, _ => by cases h
  | .anyi, _, h, _ => by cases h
  | .junk, _, h, _ => by cases h
theorem scals_rep {G G' : Gh} : ∀ (ds : List D) (vs : List Value), D.scals ds = true → Reps G ds vs → Reps G' ds vs
  | [], _, _, x => by simpa only [Reps] using x
  | d :: ds, _, h, x => by
    simp only [Reps] at x ⊢
    simp only [D.scals, Bool.and_eq_true] at h
    obtain ⟨v, r, e, h1, h2⟩ := x
    exact ⟨v, r, e, scal_rep d v h.1 h1, scals_rep ds r h.2 h2⟩
end
/-- all cells as they are now. -/
def snap (G : Gh) (w : World) : Gh := ⟨fun b o => w.cell? ⟨b, o, none⟩, G.mimm, fun _ _ => none, G.siz⟩
section
variable {P : Program} {B : Base P} {G : Gh} {σ : Sto} {w : World}
theorem cells_snap {b : Nat} {vs : Array Value} {et : TypeId} (hb : w.heap[b]? = some (.cells vs et (0, 0))) : ∀ (cs : List D) (o : Nat) (l : List Value), (∀ (i : Nat) v, l[i]? = some v → vs[o + i]? = some v) → Reps (snap G w) cs l → Cells (snap G w) b o cs
  | [], _, _, _, _ => trivial
  | d :: ds, o, l, h, hr => by
    simp only [Reps] at hr
    obtain ⟨v, r, rfl, h1, h2⟩ := hr
    refine ⟨⟨v, ?_, h1⟩, cells_snap hb ds (o + 1) r (fun i x hx => ?_) h2⟩
    · have := h 0 v rfl
      show w.cell? ⟨b, o, none⟩ = some v
      unfold World.cell?
      rw [hb]
      simpa using this
    · have := h (i + 1) x (by simpa using hx)
      rw [show o + 1 + i = o + (i + 1) from by omega]; exact this
theorem Reps.len {G : Gh} : ∀ {ds : List D} {vs : List Value}, Reps G ds vs → vs.length = ds.length
  | [], _, h => by simp only [Reps] at h; subst h; rfl
  | d :: ds, _, h => by
    simp only [Reps] at h
    obtain ⟨v, r, rfl, _, h2⟩ := h
    simp [Reps.len h2]
theorem Reps.part {G : Gh} : ∀ {ds : List D} {vs : List Value}, Reps G ds vs → ∀ o n, Reps G ((ds.drop o).take n) ((vs.drop o).take n)
  | [], _, h, o, n => by simp only [Reps] at h; subst h; simp [Reps]
  | d :: ds, _, h, o, n => by
    have h0 := h
    simp only [Reps] at h
    obtain ⟨v, r, rfl, h1, h2⟩ := h
    match o, n with
    | o + 1, n => simpa using Reps.part h2 o n
    | 0, 0 => simp [Reps]
    | 0, n + 1 =>
      have := Reps.part h2 0 n
      simp only [List.drop_zero] at this
      simp only [List.drop_zero, List.take_succ_cons, Reps]
      exact ⟨v, _, rfl, h1, this⟩
mutual
theorem lent_ok (hR : Rel B G σ w) : ∀ (n : Nat) (d d1 : D) (v : Value), lent σ n d = some d1 → Rep G d v → Rep (snap G w) d1 v
  | 0, _, _, _, h, _ => by simp [lent] at h
  | n + 1, d, d1, v, h, x => by
    simp only [lent] at h
    split at h
    · rename_i hp
      cases h
      exact Rep.pure (G' := snap G w) (fun b o v hv => hR.imm b o v hv) (fun _ _ h => h) _ v hp x
    · split at h <;> try (cases h; done)
      · rename_i l u o len sz f hnp
        split at h <;> try (cases h; done)
        rename_i cs fz ver ho
        split at h <;> try (cases h; done)
        rename_i hc
        simp only [Bool.and_eq_true] at hc
        obtain ⟨hc1, hc2⟩ := hc
        have hc1 := nbeq hc1
        subst hc1
        split at h <;> try (cases h; done)
        rename_i xs hxs
        cases h
        simp only [Rep] at x ⊢
        rcases x with ⟨b, cap, tot, h1, rfl, h3, h4, h5, h6, h7⟩ | ⟨rfl, a, rfl⟩
        · refine ⟨some ⟨b, o, none⟩, cap, rfl, h3, h4, h5, .inl ⟨b, o, rfl, ?_⟩⟩
          obtain ⟨vs, et, k1, k2, tl, hd, k3, k4⟩ := hR.obj l _ b ho h1
          have hp := k4.part o (len * sz)
          refine cells_snap (vs := vs) k1 _ _ _ (fun i v hv => ?_) (lents_ok hR n _ _ _ hxs hp)
          rw [List.getElem?_take] at hv
          split at hv <;> try (cases hv; done)
          rw [List.getElem?_drop] at hv
          rw [← Array.getElem?_toList, k3, List.getElem?_append_left (lt_of_getElem? hv)]
          exact hv
        · refine ⟨a, 0, rfl, Nat.le_refl _, by omega, fun _ => rfl, .inr ?_⟩
          have : lents σ n ((cs.drop o).take (0 * sz)) = some xs := hxs
          rw [Nat.zero_mul, List.take_zero] at this
          cases n with
          | zero => simp [lents] at this
          | succ n => simp only [lents, Option.some.injEq] at this; exact this.symm
      · split at h <;> try (cases h; done)
        rename_i xs hxs
        cases h
        simp only [Rep] at x ⊢
        obtain ⟨a, e, r⟩ := x
        exact ⟨a, e, lents_ok hR n _ _ _ hxs r⟩
theorem lents_ok (hR : Rel B G σ w) : ∀ (n : Nat) (ds ds1 : List D) (vs : List Value), lents σ n ds = some ds1 → Reps G ds vs → Reps (snap G w) ds1 vs
  | 0, _, _, _, h, _ => by simp [lents] at h
  | n + 1, [], _, _, h, x => by
    simp only [lents, Option.some.injEq] at h
    subst h
    simpa only [Reps] using x
  | n + 1, d :: ds, _, _, h, x => by
    simp only [lents] at h
    split at h <;> try (cases h; done)
    rename_i y hy
    split at h <;> try (cases h; done)
    rename_i ys hys
    cases h
    simp only [Reps] at x ⊢
    obtain ⟨v, r, e, h1, h2⟩ := x
    exact ⟨v, r, e, lent_ok hR n _ _ _ hy h1, lents_ok hR n _ _ _ hys h2⟩
end
theorem acall_lend {f : FuncId} {ds ds1 : List D} {d : D} {n : Nat} (hl : lents σ n ds = some ds1) (h : PureOK P f ds1 d) (hs : d.scal = true) : ACall P f ds σ (fun d' s => d' = d ∧ s = σ) := by
  intro B G w vals hR hv
  have hi : ∀ b o v, G.imm b o = some v → (snap G w).imm b o = some v := fun b o v x => hR.imm b o v x
  refine (h (snap G w) w vals ⟨fun _ _ _ x => x, hR.mimm, hR.siz⟩ (fun g cs hg => ?_) (lents_ok hR n _ _ _ hl hv)).mono ?_
  · obtain ⟨h1, h2⟩ := hR.glob g cs hg
    exact ⟨h1, Rep.pure hi (fun _ _ x => x) _ _ (by simpa only [D.pure] using globOf_pure hg) h2⟩
  · rintro e w' ⟨v, G', rfl, g, r⟩
    exact ⟨v, G, d, σ, rfl, .refl G, hR.of_below g.below, scal_rep d v hs r, rfl, rfl⟩
theorem aop_lend {T : Tys} (hTy : TOk T P) {N : Nat} {o : Oper} {τ : Env} {c : Call} {f : FuncId} {ds ds1 : List D} {d : D} {n : Nat} (ho : o.op = .call c) (hc : callD T τ c = some (f, ds)) (hl : lents σ n ds = some ds1) (hf : FnOk P f) (h : PureOK P f ds1 d) (hs : d.scal = true) :
    AOp P N o τ σ (fun d' s => d' = d ∧ s = σ) := aop_callL hTy ho hc hf (acall_lend hl h hs)
end
end Go.Fw
