/- A framework for proofs about Go programs in this model: part E. Everything is proved; no condition is added. -/
import Derived.IntWalk
import Derived.Test.YtgliijeioigckaaGreatDoorFwD
set_option linter.unusedVariables false
set_option linter.unusedSimpArgs false
namespace Go.Fw
open Go.RowKit

def mv (ks : List Nat) : D → D
  | .ptr j u o => .ptr (ks.getD j 0) u o
  | .sl j u o n sz f => .sl (ks.getD j 0) u o n sz f
  | .map j => .map (ks.getD j 0)
  | d => d

def okv (n : Nat) : D → Bool
  | .ptr j _ _ => Nat.blt j n
  | .sl j _ _ _ _ _ => Nat.blt j n
  | .map j => Nat.blt j n
  | d => d.pure

def mvO (ks : List Nat) : AObj → AObj
  | .cells cs f v => .cells (cs.map (mv ks)) f v
  | ob => ob

def okO (n : Nat) : AObj → Bool
  | .cells cs _ _ => cs.all (okv n)
  | .map a b => pureL a && pureL b
  | .miter a b _ _ => pureL a && pureL b
  | _ => true

def Gh.sel (G : Gh) (ks : List Nat) : Gh := { G with blk := fun j u => match ks[j]? with
  | some l => G.blk l u
  | none => none }

theorem sel_blk {G : Gh} {ks : List Nat} {j u b : Nat} (hj : j < ks.length) (h : G.blk (ks.getD j 0) u = some b) : (G.sel ks).blk j u = some b := by
  have e : ks[j]? = some (ks.getD j 0) := by rw [List.getD_eq_getElem?_getD, List.getElem?_eq_getElem hj]; rfl
  simp only [Gh.sel, e]; exact h

theorem mv_rep {G : Gh} {ks : List Nat} {d : D} {v : Value} (hk : okv ks.length d = true) (h : Rep G (mv ks d) v) : Rep (G.sel ks) d v := by
  have pure : d.pure = true → mv ks d = d → Rep (G.sel ks) d v := fun hp e => by
    rw [e] at h
    exact Rep.pure (G := G) (G' := G.sel ks) (fun _ _ _ x => x) (fun _ _ x => x) d v hp h
  cases d
  case ptr j u o =>
    have hk : j < ks.length := Nat.le_of_ble_eq_true hk
    simp only [mv, Rep] at h ⊢
    obtain ⟨b, hb, e⟩ := h
    exact ⟨b, sel_blk hk hb, e⟩
  case sl j u o n sz f =>
    have hk : j < ks.length := Nat.le_of_ble_eq_true hk
    simp only [mv, Rep] at h ⊢
    rcases h with ⟨b, cap, tot, hb, e⟩ | h
    · exact .inl ⟨b, cap, tot, sel_blk hk hb, e⟩
    · exact .inr h
  case map j =>
    have hk : j < ks.length := Nat.le_of_ble_eq_true hk
    simp only [mv, Rep] at h ⊢
    obtain ⟨b, hb, e⟩ := h
    exact ⟨b, sel_blk hk hb, e⟩
  all_goals exact pure hk rfl

theorem mv_reps {G : Gh} {ks : List Nat} : ∀ {ds : List D} {vs : List Value}, ds.all (okv ks.length) = true → Reps G (ds.map (mv ks)) vs → Reps (G.sel ks) ds vs
  | [], _, _, h => by simpa only [List.map_nil, Reps] using h
  | d :: ds, _, hk, h => by
    simp only [List.all_cons, Bool.and_eq_true] at hk
    simp only [List.map_cons, Reps] at h ⊢
    obtain ⟨v, r, e, h1, h2⟩ := h
    exact ⟨v, r, e, mv_rep hk.1 h1, mv_reps hk.2 h2⟩

theorem mvO_obj {G : Gh} {ks : List Nat} {w : World} {b : Nat} {ob : AObj} (hk : okO ks.length ob = true) (h : ObjAt G w b (mvO ks ob)) : ObjAt (G.sel ks) w b ob := by
  cases ob with
  | cells cs f v =>
    obtain ⟨vs, et, h1, h2, tl, hd, h3, h4⟩ := h
    exact ⟨vs, et, h1, h2, tl, hd, h3, mv_reps hk h4⟩
  | map a c =>
    simp only [okO, Bool.and_eq_true] at hk
    obtain ⟨es, h1, h2, h3⟩ := h
    exact ⟨es, h1, Reps.pure (G := G) (G' := G.sel ks) (fun _ _ _ x => x) (fun _ _ x => x) _ _ hk.1 h2, Reps.pure (G := G) (G' := G.sel ks) (fun _ _ _ x => x) (fun _ _ x => x) _ _ hk.2 h3⟩
  | siter s p => exact h
  | miter a c r cur =>
    simp only [okO, Bool.and_eq_true] at hk
    obtain ⟨m, es, seen, h1, h2, h3, h4, h5, h6⟩ := h
    exact ⟨m, es, seen, h1, h2, Reps.pure (G := G) (G' := G.sel ks) (fun _ _ _ x => x) (fun _ _ x => x) _ _ hk.1 h3, Reps.pure (G := G) (G' := G.sel ks) (fun _ _ _ x => x) (fun _ _ x => x) _ _ hk.2 h4, h5, h6⟩
  | dead => exact h
  | gone => exact h

theorem mvO_ver {ks : List Nat} (ob : AObj) : (mvO ks ob).ver = ob.ver ∧ (mvO ks ob).frz = ob.frz ∧ (mvO ks ob).len = ob.len := by
  cases ob <;> simp [mvO, AObj.ver, AObj.frz, AObj.len]

theorem Rel.sel {P : Program} {B : Base P} {G : Gh} {σ σ' : Sto} {w : World} (hR : Rel B G σ w) {ks : List Nat} (hnd : ks.Nodup) (hlen : σ'.length = ks.length)
    (hob : ∀ (j l : Nat) (ob : AObj), ks[j]? = some l → σ'[j]? = some ob → σ[l]? = some (mvO ks ob) ∧ okO ks.length ob = true) : Rel B (G.sel ks) σ' w := by
  have hb : ∀ {j u b : Nat}, (G.sel ks).blk j u = some b → ∃ l, ks[j]? = some l ∧ G.blk l u = some b := by
    intro j u b h
    simp only [Gh.sel] at h
    split at h
    · rename_i l hl; exact ⟨l, hl, h⟩
    · cases h
  have hin : ∀ {j : Nat} {ob : AObj}, σ'[j]? = some ob → ∃ l, ks[j]? = some l := by
    intro j ob h
    have := lt_of_getElem? h
    exact ⟨ks[j]'(by omega), List.getElem?_eq_getElem (by omega)⟩
  refine ⟨hR.below, hR.imm, hR.mimm, hR.siz, fun j u b h => ?_, fun j u j' u' b h h' => ?_, fun j ob b ho h => ?_, fun j cs f u b ho h => ?_, fun j a c b ho h => ?_, fun j ob ho => ?_, fun j ob ho => ?_, hR.bimm, hR.bmimm⟩
  · obtain ⟨l, hl, h⟩ := hb h
    exact ⟨by rw [hlen]; exact lt_of_getElem? hl, (hR.blk _ _ _ h).2⟩
  · obtain ⟨l, hl, h⟩ := hb h
    obtain ⟨l', hl', h'⟩ := hb h'
    have e := hR.inj _ _ _ _ _ h h'
    subst e
    have h1 := lt_of_getElem? hl
    have h2 := lt_of_getElem? hl'
    rw [List.getElem?_eq_getElem h1] at hl
    rw [List.getElem?_eq_getElem h2] at hl'
    have e := (Option.some.inj hl).trans (Option.some.inj hl').symm
    rcases Nat.lt_trichotomy j j' with h3 | h3 | h3
    · exact absurd e (List.pairwise_iff_getElem.1 hnd j j' h1 h2 h3)
    · exact h3
    · exact absurd e.symm (List.pairwise_iff_getElem.1 hnd j' j h2 h1 h3)
  · obtain ⟨l, hl, h⟩ := hb h
    obtain ⟨h1, h2⟩ := hob j l ob hl ho
    exact mvO_obj h2 (hR.obj l _ b h1 (by rw [(mvO_ver ob).1]; exact h))
  · obtain ⟨l, hl, h⟩ := hb h
    obtain ⟨h1, h2⟩ := hob j l _ hl ho
    exact hR.own l _ f u b h1 h
  · obtain ⟨l, hl, h⟩ := hb h
    obtain ⟨h1, h2⟩ := hob j l _ hl ho
    exact hR.ownm l _ _ b h1 h
  · obtain ⟨l, hl⟩ := hin ho
    obtain ⟨h1, h2⟩ := hob j l ob hl ho
    have h3 := hR.ver l _ h1
    rw [(mvO_ver ob).1, (mvO_ver ob).2.2] at h3
    refine ⟨h3.1, fun u b h => ?_⟩
    obtain ⟨l', hl', h⟩ := hb h
    rw [hl] at hl'; cases hl'
    exact h3.2 u b h
  · obtain ⟨l, hl⟩ := hin ho
    obtain ⟨h1, h2⟩ := hob j l ob hl ho
    have h3 := hR.frzle l _ h1
    rw [(mvO_ver ob).2.1, (mvO_ver ob).2.2] at h3
    exact h3

theorem TRel.sel {G : Gh} {N : Nat} {τ τ' : Env} {a : Act} (hT : TRel G N τ a) {ks : List Nat} (h : ∀ t d, get τ' t = some d → get τ t = some (mv ks d) ∧ okv ks.length d = true) : TRel (G.sel ks) N τ' a :=
  ⟨hT.size, hT.defers, fun t d hg => mv_rep (h t d hg).2 (hT.slot t _ (h t d hg).1)⟩

theorem AWp.gc {i : Nat} {P : Program} {N : Nat} {c : Code} {τ τ' : Env} {σ σ' : Sto} {Q : AEx → Env → Sto → Prop} (ks : List Nat) (hi : ∀ l, l < i → ks[l]? = some l) (hnd : ks.Nodup) (hlen : σ'.length = ks.length)
    (hob : ∀ (j l : Nat) (ob : AObj), ks[j]? = some l → σ'[j]? = some ob → σ[l]? = some (mvO ks ob) ∧ okO ks.length ob = true)
    (hτ : ∀ t d, get τ' t = some d → get τ t = some (mv ks d) ∧ okv ks.length d = true) (h : AWp i P N c τ' σ' Q) : AWp i P N c τ σ Q := by
  intro B G w a hR hT
  refine wp_mono (h B (G.sel ks) w a (hR.sel hnd hlen hob) (hT.sel hτ)) fun e a w x => liftQ_le ?_ (fun _ _ _ y => y) e a w x
  exact ⟨fun _ _ _ x => x, fun _ _ x => x, fun _ _ x => x, fun l u b hl x => by simp only [Gh.sel, hi l hl]; exact x⟩
end Go.Fw
namespace Go.Fw
open Go.RowKit

structure Enc (α : Type) where
  sz : Nat
  cells : α → List D
  flat : List α → List D
  fnil : flat [] = []
  fcons : ∀ a r, flat (a :: r) = cells a ++ flat r
  len : ∀ a, (cells a).length = sz
  pure : ∀ a, pureL (cells a) = true
  cell : ∀ a, (cells a).all D.isCell = true

def flatOf {α : Type} (cells : α → List D) : List α → List D
  | [] => []
  | a :: r => cells a ++ flatOf cells r

def mkE {α : Type} (sz : Nat) (cells : α → List D) (len : ∀ a, (cells a).length = sz) (pure : ∀ a, pureL (cells a) = true) (cell : ∀ a, (cells a).all D.isCell = true) : Enc α :=
  ⟨sz, cells, flatOf cells, rfl, fun _ _ => rfl, len, pure, cell⟩

def flatE {α : Type} (E : Enc α) (xs : List α) : List D := E.flat xs

section
variable {α : Type}

theorem flatE_nil (E : Enc α) : flatE E [] = [] := E.fnil
theorem flatE_cons (E : Enc α) (a : α) (r : List α) : flatE E (a :: r) = E.cells a ++ flatE E r := E.fcons a r

theorem flatE_len (E : Enc α) : ∀ xs : List α, (flatE E xs).length = xs.length * E.sz
  | [] => by simp [flatE_nil]
  | a :: r => by simp [flatE_cons, E.len, flatE_len E r, Nat.add_mul, Nat.add_comm]

theorem pureL_append : ∀ a b : List D, pureL (a ++ b) = (pureL a && pureL b)
  | [], b => by simp [pureL]
  | d :: a, b => by simp [pureL, pureL_append a b, Bool.and_assoc]

theorem flat_pure (E : Enc α) : ∀ xs : List α, pureL (flatE E xs) = true
  | [] => by rw [flatE_nil]; rfl
  | a :: r => by simp [flatE_cons, pureL_append, E.pure, flat_pure E r]

theorem flat_cell (E : Enc α) : ∀ xs : List α, (flatE E xs).all D.isCell = true
  | [] => by rw [flatE_nil]; rfl
  | a :: r => by simp only [flatE_cons, List.all_append, E.cell, flat_cell E r, Bool.and_self]

theorem flatE_append (E : Enc α) : ∀ xs ys : List α, flatE E (xs ++ ys) = flatE E xs ++ flatE E ys
  | [], ys => by simp [flatE_nil]
  | a :: r, ys => by simp [flatE_cons, flatE_append E r ys]

theorem flatE_take (E : Enc α) : ∀ (n : Nat) (xs : List α), (flatE E xs).take (n * E.sz) = flatE E (xs.take n)
  | 0, xs => by simp [flatE_nil]
  | n + 1, [] => by simp [flatE_nil]
  | n + 1, a :: r => by
    have e : (n + 1) * E.sz = (E.cells a).length + n * E.sz := by rw [E.len, Nat.add_mul, Nat.one_mul, Nat.add_comm]
    simp only [flatE_cons, List.take_succ_cons]
    rw [e, List.take_length_add_append, flatE_take E n r]

theorem flatE_drop (E : Enc α) : ∀ (n : Nat) (xs : List α), (flatE E xs).drop (n * E.sz) = flatE E (xs.drop n)
  | 0, xs => by simp
  | n + 1, [] => by simp [flatE_nil]
  | n + 1, a :: r => by
    have e : (n + 1) * E.sz = (E.cells a).length + n * E.sz := by rw [E.len, Nat.add_mul, Nat.one_mul, Nat.add_comm]
    simp only [flatE_cons, List.drop_succ_cons]
    rw [e, List.drop_length_add_append, flatE_drop E n r]

theorem flatE_get {E : Enc α} {xs : List α} {i : Nat} {a : α} (h : xs[i]? = some a) : ((flatE E xs).drop (i * E.sz)).take E.sz = E.cells a := by
  have hlt := lt_of_getElem? h
  rw [flatE_drop, List.drop_eq_getElem_cons hlt]
  rw [List.getElem?_eq_getElem hlt] at h
  cases h
  rw [flatE_cons]
  have e : E.sz = (E.cells xs[i]).length := (E.len _).symm
  rw [e, List.take_left]

def ix (xs : List α) (i : Int) : Option α := if 0 ≤ i then xs[i.toNat]? else none

theorem ix_inv {xs : List α} {i : Int} {a : α} (h : ix xs i = some a) : 0 ≤ i ∧ i < xs.length ∧ xs[i.toNat]? = some a := by
  unfold ix at h
  split at h <;> try (cases h; done)
  rename_i h0
  have := lt_of_getElem? h
  exact ⟨h0, by omega, h⟩

variable {T : Tys} {τ : Env} {σ : Sto} {E : Enc α} {xs : List α}

theorem op_idx {t : TypeId} {x i : Operand} {k : IntKind} {n : Int} {a : α} {f : Bool} (h1 : lk T.idx t = some (.slice E.sz)) (h2 : ev τ x = some (.list (flatE E xs) xs.length f)) (h3 : ev τ i = some (.int k n))
    (hp : 0 < E.sz) (h : ix xs n = some a) : aop T τ σ (.indexAddr t x i) = some (.rptr (flatE E xs) (n.toNat * E.sz), σ) := by
  obtain ⟨h4, h5, _⟩ := ix_inv h
  simp [aop, oIndexAddr, h1, h2, h3, idxInt, idxSl, h4, h5, hp, flatE_len]

theorem op_ld {t : TypeId} {x : Operand} {n : Int} {a : α} {b : Bool} {d : D} (h1 : lk T.ld t = some (E.sz, b)) (h2 : ev τ x = some (.rptr (flatE E xs) (n.toNat * E.sz))) (hb : b = true ∨ E.sz = 1) (h : ix xs n = some a)
    (h3 : ldFin b (E.cells a) = some d) : aop T τ σ (.load t x) = some (d, σ) := by
  obtain ⟨h4, h5, h6⟩ := ix_inv h
  have hl : n.toNat * E.sz + E.sz ≤ (flatE E xs).length := by
    rw [flatE_len, ← Nat.succ_mul]
    exact Nat.mul_le_mul_right _ (by omega)
  simp only [aop, oLoad, h1, h2, if_pos hb, readAt, if_pos hl, flatE_get h6, h3]
  rfl
end

section
variable {P : Program} {T : Tys} {N : Nat} {all : Array Oper} {o : Oper} {r : List Oper} {τ τ' : Env} {σ σ' : Sto} {d : D} {Kt : Env → Sto → Prop}
theorem goA (tok : TOk T P) (h1 : wantD all τ o = some true) (h2 : aop T τ σ o.op = some (d, σ')) (h3 : putD N o.dst d τ = some τ') (h : AOps P N all r τ' σ' Kt) : AOps P N all (o :: r) τ σ Kt :=
  .inl ⟨h1, (aop_aop tok h2).mono (by rintro d' s ⟨rfl, rfl⟩; exact ⟨τ', h3, h⟩)⟩
end

def fits (k : IntKind) (n : Int) : Bool := decide (k.wrap n = n)
def ck (k : IntKind) (n : Int) : Option Int := match fits k n with | true => some n | false => none
theorem ck_inv {k : IntKind} {n m : Int} (h : ck k n = some m) : k.wrap n = n ∧ m = n := by
  unfold ck at h
  split at h <;> try (cases h; done)
  rename_i hf
  cases h
  exact ⟨by simpa [fits] using hf, rfl⟩

theorem bind_inv {α β : Type} {x : Option α} {f : α → Option β} {b : β} (h : x.bind f = some b) : ∃ a, x = some a ∧ f a = some b := by
  cases x with
  | none => cases h
  | some a => exact ⟨a, rfl, h⟩

theorem get_all {τ : Env} : ∀ {τ' : Env}, AllP (fun p : Nat × D => get τ p.1 = some p.2) τ' → ∀ t d, get τ' t = some d → get τ t = some d
  | [], _, _, _, h => by simp [get] at h
  | (i, x) :: r, ha, t, d, h => by
    simp only [get] at h
    split at h
    · rename_i e; subst e; cases h; exact ha.1
    · exact get_all ha.2 t d h
end Go.Fw
namespace Go.Fw
abbrev Bs := List UInt8
open Go.RowKit

def intE (k : IntKind) : Enc Int := mkE 1 (fun n => [.int k n]) (fun _ => rfl) (fun _ => rfl) (fun _ => rfl)
def strE : Enc (List UInt8) := mkE 1 (fun s => [.str s]) (fun _ => rfl) (fun _ => rfl) (fun _ => rfl)

section
variable {P : Program} {T : Tys} {N : Nat} {all : Array Oper} {o : Oper} {r : List Oper} {τ τ' : Env} {σ σ' : Sto} {Kt : Env → Sto → Prop}

theorem aop_nilEq {t ty : TypeId} {x : Operand} {cs : List D} {n : Nat} {f : Bool} {e : TypeId} (ho : o.op = .binOp .eql t x (.const (.slice none 0 0)) ty) (ht : P.underlying t = some (.slice e)) (hx : ev τ x = some (.list cs n f)) :
    AOp P N o τ σ (fun d s => s = σ ∧ ∃ b : Bool, d = .bool b ∧ (b = true → cs = [])) := by
  intro B G w a hR hT next Q hn
  have hxr := ev_ok hT hx
  simp only [Rep] at hxr
  obtain ⟨ad, cap, hv, h1, h2, h3, h4⟩ := hxr
  have key : ∃ b : Bool, (Op.equal t (.slice ad n cap) (.slice none 0 0)).run P w = .ok b w ∧ (b = true → cs = []) := by
    have e2 : ∀ x y, Op.equal t x y = Op.equalIn (9999 + 1) t x y := fun _ _ => rfl
    simp only [e2]
    clear e2
    generalize (9999 : Nat) = dep
    cases ad with
    | none =>
      refine ⟨true, by simp [Op.equalIn, run_underlying ht], fun _ => ?_⟩
      rcases h4 with ⟨b, o', h, _⟩ | h
      · cases h
      · exact h
    | some ad => exact ⟨false, by simp [Op.equalIn, run_underlying ht], fun h => by cases h⟩
  obtain ⟨b, hb, hc⟩ := key
  have hrun : (execOp a.eval o).run P w = .ok (.value (.bool b)) w := by
    obtain ⟨dst, op, ty', pos, after, guard⟩ := o
    simp only at ho
    subst ho
    unfold execOp
    have e1 : a.eval (.const (.slice none 0 0)) = .slice none 0 0 := rfl
    have hg : (eqGuard .eql t x (.const (.slice none 0 0)) (.slice ad n cap) (.slice none 0 0)).run P w = .ok () w := eqGuard_prim (fun _ _ => .inl (by simp)) (.inl (by simp))
    have hbin : (binOp .eql t (.slice ad n cap) (.slice none 0 0)).run P w = .ok (.bool b) w := by
      rw [bin_eql (by simp [notNum]), hb]; rfl
    simp only [hv, e1, Sem.run_bind, hg, Result.andThen_ok, hbin, Sem.run_pure]
  unfold Oper.wp
  rw [hrun]
  exact hn _ w G _ σ (.refl G) hR (by simp only [Rep]) ⟨rfl, b, rfl, hc⟩

theorem go_nilEq {t ty : TypeId} {x : Operand} {cs : List D} {n : Nat} {f : Bool} {e : TypeId} {tt : Nat} (h1 : wantD all τ o = some true) (ho : o.op = .binOp .eql t x (.const (.slice none 0 0)) ty) (ht : P.underlying t = some (.slice e))
    (hx : ev τ x = some (.list cs n f)) (hd : o.dst = some tt) (hN : Nat.blt tt N = true) (h : ∀ b : Bool, (b = true → cs = []) → AOps P N all r ((tt, .bool b) :: τ) σ Kt) : AOps P N all (o :: r) τ σ Kt := by
  refine .inl ⟨h1, (aop_nilEq ho ht hx).mono ?_⟩
  rintro d s ⟨rfl, b, rfl, hb⟩
  refine ⟨(tt, .bool b) :: τ, ?_, h b hb⟩
  unfold putD; rw [hd]; simp only; exact if_pos (Nat.le_of_ble_eq_true hN)
end

theorem app_new {T : Tys} {τ : Env} {σ : Sto} {t tx : TypeId} {s x : Operand} {sz by' n : Nat} {cs : List D} {f : Bool} (h1 : lk2 T.app t tx = some (sz, by')) (h2 : ev τ s = some (.list [] 0 true)) (h3 : ev τ x = some (.list cs n f))
    (hn : 0 < n) (hl : cs.length = n * sz) (hc : cs.all D.isCell = true) (hb : n * by' ≤ limit) (hb' : n ≤ limit) : aop T τ σ (.call { callee := .builtin .append, args := #[s, x], argTypes := #[t, tx] }) = some (.sl σ.length 0 0 n sz false, σ ++ [.cells cs 0 0]) := by
  show oAppend T τ σ [s, x] [t, tx] = _
  have hn' : ¬ n = 0 := by omega
  simp [oAppend, h1, h2, h3, appD, srcD, hl, hc, hn', hb, hb']

theorem frz_own {σ : Sto} {l u n sz fz : Nat} {cs : List D} {f : Bool} (hl : σ[l]? = some (.cells cs fz u)) (hn : cs.length = n * sz) : frzR σ (.sl l u 0 n sz f) = some (.list cs n f, σ.set l (.cells cs cs.length u)) := by
  have h1 : ¬ (n * sz) > cs.length := by omega
  simp [frzR, frz1, frzC, hl, hn, List.take_of_length_le (Nat.le_of_eq hn)]
end Go.Fw
namespace Go.Fw
open Go.RowKit

def Weak (d e : D) : Prop := ∀ (G : Gh) (v : Value), Rep G d v → Rep G e v
theorem Weak.refl (d : D) : Weak d d := fun _ _ h => h
theorem Weak.list {cs : List D} {n : Nat} {f : Bool} : Weak (.list cs n f) (.list cs n false) := by
  intro G v h
  simp only [Rep] at h ⊢
  obtain ⟨a, cap, e, h1, h2, _, h4⟩ := h
  refine ⟨a, cap, e, h1, h2, ?_, h4⟩
  intro h
  cases h
def Weaks : List D → List D → Prop
  | [], l => l = []
  | d :: ds, l => match l with
    | e :: es => Weak d e ∧ Weaks ds es
    | [] => False
theorem Weaks.reps {G : Gh} : ∀ {ds es : List D} {vs : List Value}, Weaks ds es → Reps G ds vs → Reps G es vs
  | [], es, _, h, hv => by
    have h : es = [] := h
    subst h; exact hv
  | d :: ds, [], _, h, _ => h.elim
  | d :: ds, e :: es, _, h, hv => by
    simp only [Reps] at hv ⊢
    obtain ⟨v, r, rfl, h1, h2⟩ := hv
    exact ⟨v, r, rfl, h.1 G v h1, Weaks.reps h.2 h2⟩
theorem Weak.agg {ds es : List D} (h : Weaks ds es) : Weak (.agg ds) (.agg es) := by
  intro G v hv
  simp only [Rep] at hv ⊢
  obtain ⟨a, e, h1⟩ := hv
  exact ⟨a, e, h.reps h1⟩
theorem Weak.tuple {ds es : List D} (h : Weaks ds es) : Weak (.tuple ds) (.tuple es) := by
  intro G v hv
  simp only [Rep] at hv ⊢
  obtain ⟨a, e, h1⟩ := hv
  exact ⟨a, e, h.reps h1⟩

theorem PureOK.weak {P : Program} {f : FuncId} {ds : List D} {d e : D} (h : PureOK P f ds d) (hw : Weak d e) : PureOK P f ds e :=
  fun G w vals h1 h2 h3 => (h G w vals h1 h2 h3).mono fun _ _ ⟨v, G', e1, e2, e3⟩ => ⟨v, G', e1, e2, hw _ _ e3⟩

section
variable {P : Program} {T : Tys} {N : Nat} {all : Array Oper} {o : Oper} {r : List Oper} {τ τ' : Env} {σ σ' : Sto} {d e : D} {Kt : Env → Sto → Prop}

theorem AOp.weak (h : AOp P N o τ σ fun d' s => d' = d ∧ s = σ') (hw : Weak d e) : AOp P N o τ σ fun d' s => d' = e ∧ s = σ' := by
  intro B G w a hR hT next Q hn
  refine h B G w a hR hT next Q ?_
  rintro v w' G' d' s h1 h2 h3 ⟨rfl, rfl⟩
  exact hn v w' G' e _ h1 h2 (hw _ _ h3) ⟨rfl, rfl⟩

theorem goP (h1 : wantD all τ o = some true) (h2 : AOp P N o τ σ fun d' s => d' = d ∧ s = σ') (h3 : putD N o.dst d τ = some τ') (h : AOps P N all r τ' σ' Kt) : AOps P N all (o :: r) τ σ Kt :=
  .inl ⟨h1, h2.mono (by rintro d' s ⟨rfl, rfl⟩; exact ⟨τ', h3, h⟩)⟩

theorem goW (tok : TOk T P) (h1 : wantD all τ o = some true) (h2 : aop T τ σ o.op = some (d, σ')) (hw : Weak d e) (h3 : putD N o.dst e τ = some τ') (h : AOps P N all r τ' σ' Kt) : AOps P N all (o :: r) τ σ Kt :=
  goP h1 ((aop_aop tok h2).weak hw) h3 h

theorem aop_frz {x : Operand} (ho : o.op = .move x) (hx : ev τ x = some d) (hz : frzC σ d = some (e, σ')) : AOp P N o τ σ fun d' s => d' = e ∧ s = σ' := by
  intro B G w a hR hT next Q hn
  obtain ⟨G', h1, h2, h3⟩ := frzC_ok hR hz (ev_ok hT hx)
  have hrun : (execOp a.eval o).run P w = .ok (.value (a.eval x)) w := by
    obtain ⟨dst, op, ty', pos, after, guard⟩ := o
    simp only at ho
    subst ho
    rfl
  unfold Oper.wp
  rw [hrun]
  exact hn _ w G' _ _ h1 h2 h3 ⟨rfl, rfl⟩
end

def endW (T : Tys) (rs : List ResultVar) (d : D) : AEx → Env → Sto → Prop := fun e τ' σ' =>
  (e = .normal ∨ e = .ret) ∧ ∃ d' d'', resD T rs τ' σ' = some d' ∧ (∃ σ'', frzR σ' d' = some (d'', σ'')) ∧ Weak d'' d ∧ d''.pure = true

theorem bodyW {P : Program} {T : Tys} {i : Nat} (tok : TOk T P) {f : FuncId} {fn : Func} {c : Code} {ds : List D} {d : D} (hf : P.funcs[f]? = some fn) (hb : fn.body = some c) (hn : Nat.ble ds.length fn.ntmps = true) (hp : pureL ds = true)
    (h : AWp i P fn.ntmps c (env0 0 ds) [] (endW T fn.results.toList d)) : PureOK P f ds d := by
  intro G w vals hI hg hv
  have key : ACallB i P f ds [] fun d' σ' => ∃ d'', (∃ σ'', frzR σ' d' = some (d'', σ'')) ∧ Weak d'' d ∧ d''.pure = true := by
    refine acall_body tok hf hb (Nat.le_of_ble_eq_true hn) (h.mono ?_)
    rintro e τ σ ⟨h1, d', d'', h2, h3, h4, h5⟩
    exact ⟨h1, d', h2, d'', h3, h4, h5⟩
  let B0 : Base P := ⟨w, G, hg, fun b o v h => lt_of_cell (hI.imm b o v h), fun b es h => lt_of_some (hI.mimm b es h).1⟩
  have hR : Rel B0 G.strip [] w := by
    refine ⟨Below.refl _ _, hI.imm, hI.mimm, hI.siz, ?_, ?_, ?_, ?_, ?_, ?_, ?_, fun _ _ _ => rfl, fun _ _ => rfl⟩
    · intro l u b hb; cases hb
    · intro l u l' u' b hb; cases hb
    · intro l ob b ho; simp at ho
    · intro l cs frz u b ho; simp at ho
    · intro l ks vs b ho; simp at ho
    · intro l ob ho; simp at ho
    · intro l ob ho; simp at ho
  refine (key B0 G.strip w vals hR (Reps.pure (G := G) (G' := G.strip) (fun _ _ _ x => x) (fun _ _ x => x) ds vals hp hv)).mono ?_
  rintro e w' ⟨v, G', d', σ', rfl, hle, hR', hd, d'', ⟨σ'', hz⟩, hw, hpd⟩
  obtain ⟨G2, l2, R2, r2⟩ := frzR_ok hR' hz hd
  let G3 : Gh := { G2 with blk := G.blk }
  refine ⟨v, G3, rfl, ?_, hw _ _ (Rep.pure (G := G2) (G' := G3) (fun _ _ _ x => x) (fun _ _ x => x) d'' v hpd r2)⟩
  have hle2 := hle.trans (l2.b (i := i))
  exact {
    le := ⟨hle2.imm, hle2.mimm, fun _ _ _ x => x, hle2.siz⟩
    below := R2.below
    blk := rfl
    imm := R2.imm
    mimm := R2.mimm
    siz := R2.siz
    imm_new := R2.bimm
    mimm_new := R2.bmimm }

theorem endW_ret {T : Tys} {rs : List ResultVar} {d d' d'' : D} {τ : Env} {σ σ'' : Sto} (h1 : resD T rs τ σ = some d') (h2 : frzR σ d' = some (d'', σ'')) (h3 : Weak d'' d) (h4 : d''.pure = true) : endW T rs d .ret τ σ :=
  ⟨.inr rfl, d', d'', h1, ⟨σ'', h2⟩, h3, h4⟩

def slc {α : Type} (xs : List α) (lo hi : Int) : Option (List α) := if 0 ≤ lo ∧ lo ≤ hi ∧ hi ≤ xs.length then some ((xs.take hi.toNat).drop lo.toNat) else none

theorem slc_inv {α : Type} {xs ys : List α} {lo hi : Int} (h : slc xs lo hi = some ys) : 0 ≤ lo ∧ lo ≤ hi ∧ hi ≤ xs.length ∧ ys = (xs.take hi.toNat).drop lo.toNat ∧ ys.length = hi.toNat - lo.toNat := by
  unfold slc at h
  split at h <;> try (cases h; done)
  rename_i hc
  cases h
  refine ⟨hc.1, hc.2.1, hc.2.2, rfl, ?_⟩
  simp only [List.length_drop, List.length_take]
  omega

theorem flatE_part {α : Type} (E : Enc α) (xs : List α) (l h : Nat) (hlh : l ≤ h) : ((flatE E xs).drop (l * E.sz)).take ((h - l) * E.sz) = flatE E ((xs.take h).drop l) := by
  rw [flatE_drop, flatE_take, List.drop_take]

section
variable {α : Type} {T : Tys} {τ : Env} {σ : Sto} {E : Enc α} {xs ys : List α}

theorem op_slc {t : TypeId} {x : Operand} {lo hi : Option Operand} {f : Bool} {l h : Option D} {li hi' : Option Int} (h1 : lk T.sli t = some (.slice E.sz)) (h2 : ev τ x = some (.list (flatE E xs) xs.length f))
    (h3 : evo τ lo = some l) (h4 : evo τ hi = some h) (h5 : optInt l = some li) (h6 : optInt h = some hi') (hs : slc xs (oget 0 li) (oget xs.length hi') = some ys) :
    aop T τ σ (.slice t x lo hi none) = some (.list (flatE E ys) ys.length (f && decide (oget (xs.length : Int) hi' = xs.length)), σ) := by
  obtain ⟨a1, a2, a3, rfl, a5⟩ := slc_inv hs
  have hb : bnds xs.length f li hi' none = some ((oget 0 li).toNat, (oget (xs.length : Int) hi').toNat, f && decide (oget (xs.length : Int) hi' = xs.length)) := by
    simp only [bnds]
    rw [if_pos ⟨a1, a2, a3⟩]
  have hm : evo τ none = some none := rfl
  simp only [aop, oSlice, h1, h2, h3, h4, hm, h5, h6, show optInt none = some none from rfl, sliceD, hb, flatE_len, if_true]
  rw [flatE_part E xs _ _ (by omega), ← a5]
  rfl

theorem op_slc3 {t : TypeId} {x lo hi mx : Operand} {f : Bool} {k1 k2 k3 : IntKind} {l h m : Int} (h1 : lk T.sli t = some (.slice E.sz)) (h2 : ev τ x = some (.list (flatE E xs) xs.length f))
    (h3 : ev τ lo = some (.int k1 l)) (h4 : ev τ hi = some (.int k2 h)) (h5 : ev τ mx = some (.int k3 m)) (hm : h ≤ m ∧ m ≤ xs.length) (hs : slc xs l h = some ys) :
    aop T τ σ (.slice t x (some lo) (some hi) (some mx)) = some (.list (flatE E ys) ys.length (decide (m = h)), σ) := by
  obtain ⟨a1, a2, a3, rfl, a5⟩ := slc_inv hs
  have hb : bnds xs.length f (some l) (some h) (some m) = some (l.toNat, h.toNat, decide (m = h)) := by
    simp only [bnds, oget, Option.isSome]
    rw [if_pos ⟨trivial, a1, a2, hm⟩]
    first | rfl | (congr 3)
  have e3 : evo τ (some lo) = some (some (.int k1 l)) := by simp only [evo, h3]
  have e4 : evo τ (some hi) = some (some (.int k2 h)) := by simp only [evo, h4]
  have e5 : evo τ (some mx) = some (some (.int k3 m)) := by simp only [evo, h5]
  simp only [aop, oSlice, h1, h2, e3, e4, e5, optInt, idxInt, sliceD, hb, flatE_len, if_true]
  rw [flatE_part E xs _ _ (by omega), ← a5]
  rfl

theorem op_slcS {t : TypeId} {x : Operand} {lo hi : Option Operand} {s u : List UInt8} {l h : Option D} {li hi' : Option Int} (h1 : lk T.sli t = some .string) (h2 : ev τ x = some (.str s))
    (h3 : evo τ lo = some l) (h4 : evo τ hi = some h) (h5 : optInt l = some li) (h6 : optInt h = some hi') (hs : slc s (oget 0 li) (oget s.length hi') = some u) :
    aop T τ σ (.slice t x lo hi none) = some (.str u, σ) := by
  obtain ⟨a1, a2, a3, rfl, a5⟩ := slc_inv hs
  have hb : bnds s.length true li hi' none = some ((oget 0 li).toNat, (oget (s.length : Int) hi').toNat, true && decide (oget (s.length : Int) hi' = s.length)) := by
    simp only [bnds]
    rw [if_pos ⟨a1, a2, a3⟩]
  have hm : evo τ none = some none := rfl
  simp only [aop, oSlice, h1, h2, h3, h4, hm, h5, h6, show optInt none = some none from rfl, slStr, hb]
  rfl

theorem op_idxS {t : TypeId} {x i : Operand} {k : IntKind} {n : Int} {s : List UInt8} {b : UInt8} (h1 : lk T.idxV t = some .string) (h2 : ev τ x = some (.str s)) (h3 : ev τ i = some (.int k n)) (h : ix s n = some b) :
    aop T τ σ (.index t x i) = some (.int .u8 b.toNat, σ) := by
  obtain ⟨h4, h5, h6⟩ := ix_inv h
  simp [aop, oIndex, h1, h2, h3, idxInt, strAt, h4, h6]

theorem op_add {t ty : TypeId} {x y : Operand} {k : IntKind} {a b c : Int} (h1 : ev τ x = some (.int k a)) (h2 : ev τ y = some (.int k b)) (h : ck k (a + b) = some c) : aop T τ σ (.binOp .add t x y ty) = some (.int k c, σ) := by
  obtain ⟨e, rfl⟩ := ck_inv h
  simp [aop, oBin, h1, h2, binD, intD, e]
theorem op_sub {t ty : TypeId} {x y : Operand} {k : IntKind} {a b c : Int} (h1 : ev τ x = some (.int k a)) (h2 : ev τ y = some (.int k b)) (h : ck k (a - b) = some c) : aop T τ σ (.binOp .sub t x y ty) = some (.int k c, σ) := by
  obtain ⟨e, rfl⟩ := ck_inv h
  simp [aop, oBin, h1, h2, binD, intD, e]
theorem op_mul {t ty : TypeId} {x y : Operand} {k : IntKind} {a b c : Int} (h1 : ev τ x = some (.int k a)) (h2 : ev τ y = some (.int k b)) (h : ck k (a * b) = some c) : aop T τ σ (.binOp .mul t x y ty) = some (.int k c, σ) := by
  obtain ⟨e, rfl⟩ := ck_inv h
  simp [aop, oBin, h1, h2, binD, intD, e]

def dv (k : IntKind) (a b : Int) : Option Int := if b = 0 then none else ck k (a.tdiv b)
def md (a b : Int) : Option Int := if b = 0 then none else some (a.tmod b)
theorem op_quo {t ty : TypeId} {x y : Operand} {k : IntKind} {a b c : Int} (h1 : ev τ x = some (.int k a)) (h2 : ev τ y = some (.int k b)) (h : dv k a b = some c) : aop T τ σ (.binOp .quo t x y ty) = some (.int k c, σ) := by
  unfold dv at h
  split at h <;> try (cases h; done)
  rename_i hb
  obtain ⟨e, rfl⟩ := ck_inv h
  simp [aop, oBin, h1, h2, binD, intD, e, hb]
theorem op_rem {t ty : TypeId} {x y : Operand} {k : IntKind} {a b c : Int} (h1 : ev τ x = some (.int k a)) (h2 : ev τ y = some (.int k b)) (h : md a b = some c) : aop T τ σ (.binOp .rem t x y ty) = some (.int k c, σ) := by
  unfold md at h
  split at h <;> try (cases h; done)
  rename_i hb
  cases h
  simp [aop, oBin, h1, h2, binD, intD, hb]

def cat (a b : List UInt8) : Option (List UInt8) := if a.length + b.length ≤ 9223372036854775807 then some (a ++ b) else none
theorem op_cat {t ty : TypeId} {x y : Operand} {a b c : List UInt8} (h1 : ev τ x = some (.str a)) (h2 : ev τ y = some (.str b)) (h : cat a b = some c) : aop T τ σ (.binOp .add t x y ty) = some (.str c, σ) := by
  unfold cat at h
  split at h <;> try (cases h; done)
  rename_i hb
  cases h
  simp [aop, oBin, h1, h2, binD, strD, hb]

def byteE : Enc UInt8 := mkE 1 (fun b => [.int .u8 b.toNat]) (fun _ => rfl) (fun _ => rfl) (fun _ => rfl)
def boolE : Enc Bool := mkE 1 (fun b => [.bool b]) (fun _ => rfl) (fun _ => rfl) (fun _ => rfl)
def listE {β : Type} (F : Enc β) : Enc (List β) := mkE 1 (fun xs => [.list (flatE F xs) xs.length false]) (fun _ => rfl) (fun _ => by simp [pureL, D.pure, flat_pure]) (fun _ => rfl)

theorem flat_bytes : ∀ s : List UInt8, flatE byteE s = s.map fun b => .int .u8 b.toNat
  | [] => rfl
  | b :: s => by rw [flatE_cons, flat_bytes s]; rfl
theorem bytes_flat : ∀ s : List UInt8, bytesOfD (flatE byteE s) = some s
  | [] => rfl
  | b :: s => by
    have : byteOfD (.int .u8 b.toNat) = some b := by simp [byteOfD]
    show (match byteOfD (.int .u8 b.toNat), bytesOfD (flatE byteE s) with
      | some b, some bs => some (b :: bs)
      | _, _ => none) = _
    rw [this, bytes_flat s]
theorem op_toStr {s' t : TypeId} {x : Operand} {b : List UInt8} {f : Bool} (h1 : lk2 T.conv s' t = some .toStr) (h2 : ev τ x = some (.list (flatE byteE b) b.length f)) : aop T τ σ (.convert s' t x) = some (.str b, σ) := by
  have hl : (flatE byteE b).length = b.length * 1 := flatE_len byteE b
  simp [aop, oConv, h1, h2, convD, srcD, hl, bytes_flat]
def small (s : List UInt8) : Option (List UInt8) := if s.length ≤ limit then some s else none
theorem op_toBytes {s' t : TypeId} {x : Operand} {b c : List UInt8} (h1 : lk2 T.conv s' t = some .toBytes) (h2 : ev τ x = some (.str b)) (h : small b = some c) : aop T τ σ (.convert s' t x) = some (.list (flatE byteE c) c.length false, σ) := by
  unfold small at h
  split at h <;> try (cases h; done)
  rename_i hb
  cases h
  simp [aop, oConv, h1, h2, convD, hb, flat_bytes]

def toB (n : Int) : Option UInt8 := if 0 ≤ n ∧ n < 256 then some (UInt8.ofNat n.toNat) else none
theorem toB_inv {n : Int} {b : UInt8} (h : toB n = some b) : n = (b.toNat : Int) := by
  unfold toB at h
  split at h <;> try (cases h; done)
  rename_i hc
  cases h
  simp only [UInt8.toNat_ofNat']
  omega
end

theorem ev_b {τ : Env} {x : Operand} {c b : Bool} (h : ev τ x = some (.bool c)) (hc : c = b) : ev τ x = some (.bool b) := by rw [h, hc]
theorem go_b {P : Program} {T : Tys} {N : Nat} {all : Array Oper} {o : Oper} {r : List Oper} {τ τ' : Env} {σ σ' : Sto} {c b : Bool} {Kt : Env → Sto → Prop} (tok : TOk T P) (h1 : wantD all τ o = some true) (h2 : aop T τ σ o.op = some (.bool c, σ')) (hc : c = b)
    (h3 : putD N o.dst (.bool b) τ = some τ') (h : AOps P N all r τ' σ' Kt) : AOps P N all (o :: r) τ σ Kt := by
  subst hc
  exact goA tok h1 h2 h3 h
theorem bif_t {α : Type} {c : Bool} {a b : α} {r : α} (h : (bif c then a else b) = r) (hc : c = true) : a = r := by subst hc; exact h
theorem bif_f {α : Type} {c : Bool} {a b : α} {r : α} (h : (bif c then a else b) = r) (hc : c = false) : b = r := by subst hc; exact h

theorem bool_or (c : Bool) : c = false ∨ c = true := by cases c <;> simp

section
variable {α : Type} {T : Tys} {τ : Env} {σ : Sto} {E : Enc α} {xs : List α}
theorem op_ldf {t : TypeId} {x : Operand} {n : Int} {a : α} {b : Bool} {d : D} {off m : Nat} (h1 : lk T.ld t = some (m, b)) (h2 : ev τ x = some (.rptr (flatE E xs) (n.toNat * E.sz + off))) (hb : b = true ∨ m = 1) (hm : off + m ≤ E.sz) (h : ix xs n = some a)
    (h3 : ldFin b (((E.cells a).drop off).take m) = some d) : aop T τ σ (.load t x) = some (d, σ) := by
  obtain ⟨h4, h5, h6⟩ := ix_inv h
  have hl : n.toNat * E.sz + E.sz ≤ (flatE E xs).length := by
    rw [flatE_len, ← Nat.succ_mul]
    exact Nat.mul_le_mul_right _ (by omega)
  have hg := flatE_get (E := E) h6
  have e : ((flatE E xs).drop (n.toNat * E.sz + off)).take m = ((E.cells a).drop off).take m := by
    rw [← hg, ← List.drop_drop, List.drop_take, List.take_take]
    congr 1
    omega
  have hl' : n.toNat * E.sz + off + m ≤ (flatE E xs).length := by omega
  simp only [aop, oLoad, h1, h2, if_pos hb, readAt, if_pos hl', e, h3]
  rfl

theorem op_bs1 {t : TypeId} {x : Operand} {n : Int} {b : UInt8} {z : List D} (h1 : lk T.bs t = some (z, 1)) (h2 : ev τ x = some (.int .u8 n)) (h : n = (b.toNat : Int)) (hz : z = [.int .u8 0]) :
    aop T τ σ (.buildSlice t 1 #[(0, x)]) = some (.list (flatE byteE [b]) (List.length [b]) true, σ) := by
  subst h hz
  simp only [aop, oBuildSlice, h1, evp, h2]
  rfl
end

def allEq : List LK → List D → List D → Option Bool
  | [], [], [] => some true
  | k :: ks, a :: as, b :: bs => match cellEq k a b, allEq ks as bs with
    | some r, some s => some (r && s)
    | _, _ => none
  | _, _, _ => none
theorem allEq_cells : ∀ (ks : List LK) (a b : List D) (r : Bool), allEq ks a b = some r → cellsEq ks a b = some r
  | [], [], [], r, h => h
  | [], [], _ :: _, r, h => by cases h
  | [], _ :: _, _, r, h => by cases h
  | k :: ks, [], _, r, h => by cases h
  | k :: ks, a :: as, [], r, h => by cases h
  | k :: ks, a :: as, b :: bs, r, h => by
    simp only [allEq] at h
    split at h <;> try (cases h; done)
    rename_i x y h1 h2
    cases h
    have := allEq_cells ks as bs y h2
    simp only [cellsEq, h1]
    cases x
    · rfl
    · simpa using this

section
variable {T : Tys} {τ : Env} {σ : Sto}
theorem op_seq {t ty : TypeId} {x y : Operand} {ks : List LK} {a b : List D} {r : Bool} (h0 : lk T.eq t = some (.flat ks)) (h1 : ev τ x = some (.agg a)) (h2 : ev τ y = some (.agg b)) (hl : (Nat.beq a.length ks.length && Nat.beq b.length ks.length) = true) (h : allEq ks a b = some r) :
    aop T τ σ (.binOp .eql t x y ty) = some (.bool r, σ) := by
  simp only [Bool.and_eq_true] at hl
  simp [aop, oBin, h1, h2, h0, binD, eqD, nbeq hl.1, nbeq hl.2, allEq_cells _ _ _ _ h]
theorem op_seqN {t ty : TypeId} {x y : Operand} {ks : List LK} {a b : List D} {r : Bool} (h0 : lk T.eq t = some (.flat ks)) (h1 : ev τ x = some (.agg a)) (h2 : ev τ y = some (.agg b)) (hl : (Nat.beq a.length ks.length && Nat.beq b.length ks.length) = true) (h : allEq ks a b = some r) :
    aop T τ σ (.binOp .neq t x y ty) = some (.bool (!r), σ) := by
  simp only [Bool.and_eq_true] at hl
  simp [aop, oBin, h1, h2, h0, binD, eqD, nbeq hl.1, nbeq hl.2, allEq_cells _ _ _ _ h]
end

theorem mv_range {n : Nat} {d : D} (h : okv n d = true) : mv (List.range n) d = d := by
  have key : ∀ j, Nat.blt j n = true → (List.range n).getD j 0 = j := fun j hj => by
    have hj : j < n := Nat.le_of_ble_eq_true hj
    simp [List.getD_eq_getElem?_getD, List.getElem?_range hj]
  cases d <;> simp only [mv] <;> first | rfl | (rw [key _ h])

theorem mvO_range {n : Nat} {ob : AObj} (h : okO n ob = true) : mvO (List.range n) ob = ob := by
  cases ob with
  | cells cs f v =>
    simp only [okO] at h
    have : cs.map (mv (List.range n)) = cs := by
      conv => rhs; rw [← List.map_id cs]
      exact List.map_congr_left fun d hd => mv_range (List.all_eq_true.1 h d hd)
    simp only [mvO, this]
  | _ => rfl

theorem AWp.cut {i : Nat} {P : Program} {N : Nat} {c : Code} {τ τ' : Env} {σ g : Sto} {Q : AEx → Env → Sto → Prop} (h0 : Nat.ble i σ.length = true) (h1 : σ.all (okO σ.length) = true) (h2 : τ'.all (fun p => okv σ.length p.2) = true)
    (hs : ∀ t d, get τ' t = some d → get τ t = some d) (h : AWp i P N c τ' σ Q) : AWp i P N c τ (σ ++ g) Q := by
  have mem : ∀ (τ : Env) (t : Nat) (d : D), get τ t = some d → (t, d) ∈ τ := by
    intro τ
    induction τ with
    | nil => intro t d h; simp [get] at h
    | cons p r ih =>
      obtain ⟨i, x⟩ := p
      intro t d h
      simp only [get] at h
      split at h
      · rename_i e; subst e; cases h; exact List.mem_cons_self ..
      · exact List.mem_cons_of_mem _ (ih t d h)
  refine AWp.gc (List.range σ.length) (fun l hl => List.getElem?_range (Nat.lt_of_lt_of_le hl (Nat.le_of_ble_eq_true h0))) List.nodup_range (by simp) (σ' := σ) (τ' := τ') ?_ ?_ h
  · intro j l ob hj hob
    have hlt := lt_of_getElem? hob
    rw [List.getElem?_range hlt] at hj
    cases hj
    have hok := List.all_eq_true.1 h1 ob (List.mem_of_getElem? hob)
    rw [mvO_range hok, List.getElem?_append_left hlt, hob]
    exact ⟨rfl, by simpa using hok⟩
  · intro t d hg
    have hok := List.all_eq_true.1 h2 _ (mem _ _ _ hg)
    rw [mv_range hok]
    exact ⟨hs t d hg, by simpa using hok⟩

theorem awp_scopeN {i : Nat} {P : Program} {N : Nat} {c : Code} {τ : Env} {σ : Sto} {Q : AEx → Env → Sto → Prop} (h : AWp i P N c τ σ (noGotoQ Q)) : AWp i P N (.scope c) τ σ Q := awp_scope h

section
variable {P : Program} {T : Tys} {N : Nat} {ops : Array Oper} {A : Res} {M : List Nat} {o : Oper} {r : List Oper} {i : Nat} {τ τ2 : Env} {S : List Sto} {C : List Nat} {tab : List Rc} {K : Env → Sto → Prop} {σ σ' : Sto} {d : D}
theorem dr_end (h1 : AllP (fun (x : Nat × Nat × List D) => ∃ r : Rc, tab[x.1]? = some r ∧ r.kd = .alloc x.2.1 x.2.2) A) (h2 : S.getLast? = some σ) (h : K τ σ) : ADr P N ops A M [] i τ S C tab K := ⟨h1, σ, h2, h⟩
theorem dr_no (h1 : wantD ops (rst ops o τ) o = some false) (h2 : putD N o.dst (.tuple []) τ = some τ2) (h : ADr P N ops A M r (i + 1) τ2 S C (tab ++ [⟨o, rst ops o τ, .tuple [], .skip⟩]) K) : ADr P N ops A M (o :: r) i τ S C tab K :=
  .inl ⟨h1, τ2, h2, h⟩
theorem dr_read (h1 : wantD ops (rst ops o τ) o = some true) (h2 : AllP (fun s => AOp P N o (rst ops o τ) s fun d' s' => d' = d ∧ s' = s) ((keepS (M.getD i 0) S C).flatMap fun σ => (subsA A (M.getD i 0)).map (hide · σ)))
    (h3 : putD N o.dst d τ = some τ2) (h : ADr P N ops A M r (i + 1) τ2 S C (tab ++ [⟨o, rst ops o τ, d, .read⟩]) K) : ADr P N ops A M (o :: r) i τ S C tab K :=
  .inr (.inl ⟨h1, d, τ2, h2, h3, h⟩)
theorem dr_alloc (tok : TOk T P) {e : TypeId} {l : Nat} {cs : List D} (h1 : wantD ops (rst ops o τ) o = some true) (h2 : o.op = .alloc e) (h3 : resOf? A i = some (l, cs)) (h4 : lk T.zero e = some cs) (h5 : putD N o.dst (.ptr l 0 0) τ = some τ2)
    (h : ADr P N ops A M r (i + 1) τ2 S C (tab ++ [⟨o, rst ops o τ, .ptr l 0 0, .alloc l cs⟩]) K) : ADr P N ops A M (o :: r) i τ S C tab K :=
  .inr (.inr (.inr ⟨h1, e, l, cs, τ2, h2, h3, lk_of tok.zero h4, h5, h⟩))
theorem dr_chain (h1 : wantD ops (rst ops o τ) o = some true) (h2 : chOk (M.getD i 0) C = true) (h3 : S.getLast? = some σ) (h4 : aop T (rst ops o τ) σ o.op = some (d, σ'))
    (h5 : AllP (fun ls => AOp P N o (rst ops o τ) (hide ls σ) fun d' s' => d' = d ∧ s' = hide ls σ') (subsA A (M.getD i 0)))
    (h6 : AllP (fun (x : Rc × Sto) => AOp P N x.1.o x.1.env x.2 fun d' s' => d' = x.1.v ∧ s' = x.2) (reS A M (C ++ [i]) σ' 0 tab))
    (h7 : AllP (fun (x : Nat × Nat × List D) => match Nat.testBit (M.getD i 0) x.1 with | true => True | false => σ'[x.2.1]? = some (.cells x.2.2 0 0)) A)
    (h8 : putD N o.dst d τ = some τ2) (h : ADr P N ops A M r (i + 1) τ2 (S ++ [σ']) (C ++ [i]) (tab ++ [⟨o, rst ops o τ, d, .chain C.length⟩]) K) : ADr P N ops A M (o :: r) i τ S C tab K :=
  .inr (.inr (.inl ⟨h1, h2, d, τ2, σ, σ', h3, h5, h6, h7, h8, h⟩))
theorem goI {all : Array Oper} {τ : Env} {σ : Sto} {Kt : Env → Sto → Prop} (tok : TOk T P) {c : Call} {f : FuncId} {fn : Func} {code : Code} {ds : List D} (h1 : wantD all τ o = some true) (ho : o.op = .call c) (hc : callD T τ c = some (f, ds)) (hfn : P.funcs[f]? = some fn) (hf : FnOk P f)
    (hb : fn.body = some code) (hn : Nat.ble ds.length fn.ntmps = true)
    (h : AWp σ.length P fn.ntmps code (env0 0 ds) σ fun e τ' σ' => (e = .normal ∨ e = .ret) ∧ ∃ d, resD T fn.results.toList τ' σ' = some d ∧ ∃ τ2, putD N o.dst d τ = some τ2 ∧ AOps P N all r τ2 σ' Kt) : AOps P N all (o :: r) τ σ Kt := by
  refine .inl ⟨h1, fun B G w a hR hT next Q hn' => ?_⟩
  obtain ⟨vals, hall, hinv⟩ := callD_run tok (w := w) (ty := o.type) hT hc
  rw [callFunc_run hf] at hinv
  have hrun : (execOp a.eval o).run P w = .ok (.enter f vals.toArray) w := by
    unfold execOp
    rw [ho]
    exact hinv
  unfold Oper.wp
  rw [hrun, Oper.upon_enter]
  have hcall := acall_body (i := σ.length) tok hfn hb (Nat.le_of_ble_eq_true hn) (R := fun d σ' => ∃ τ2, putD N o.dst d τ = some τ2 ∧ AOps P N all r τ2 σ' Kt) h
  refine (hcall B G w vals hR hall).mono ?_
  rintro e w' ⟨v, G', d, σ', rfl, k1, k2, k3, k4⟩
  exact hn' v w' G' d σ' (k1.le hR) k2 k3 k4
def inlQ (T : Tys) (P : Program) (N : Nat) (all : Array Oper) (o : Oper) (r : List Oper) (τ : Env) (Kt : Env → Sto → Prop) (rs : List ResultVar) : AEx → Env → Sto → Prop := fun e τ' σ' =>
  (e = .normal ∨ e = .ret) ∧ ∃ d, resD T rs τ' σ' = some d ∧ ∃ τ2, putD N o.dst d τ = some τ2 ∧ AOps P N all r τ2 σ' Kt
theorem aop_C (tok : TOk T P) {c : Call} {f : FuncId} {ds ds' : List D} (ho : o.op = .call c) (hc : callD T τ c = some (f, ds)) (hz : frzCs σ ds = some (ds', σ')) (hf : FnOk P f) (h : PureOK P f ds' d) : AOp P N o τ σ fun d' s => d' = d ∧ s = σ' :=
  aop_call tok ho hc hz hf (h.acall _)
end
end Go.Fw
namespace Go.Fw
open Go.RowKit

theorem set_same {α : Type} {l : List α} {i : Nat} {x : α} (h : l[i]? = some x) : l.set i x = l := by
  apply List.ext_getElem?
  intro j
  by_cases e : i = j
  · subst e
    rw [List.getElem?_set_self (lt_of_getElem? h), h]
  · rw [List.getElem?_set_ne e]

section
variable {P : Program} {B : Base P} {G : Gh} {σ : Sto} {w : World} {N : Nat} {i : Nat} {c : Code} {τ τ' : Env} {σ' : Sto} {Q : AEx → Env → Sto → Prop}

theorem Rel.newObj (hR : Rel B G σ w) : Rel B G (σ ++ [.cells [] 0 0]) w := by
  have old : ∀ {l u b : Nat} {ob : AObj}, G.blk l u = some b → (σ ++ [AObj.cells [] 0 0])[l]? = some ob → σ[l]? = some ob := by
    intro l u b ob hb ho
    rwa [List.getElem?_append_left (hR.blk _ _ _ hb).1] at ho
  have look : ∀ {l : Nat} {ob : AObj}, (σ ++ [AObj.cells [] 0 0])[l]? = some ob → σ[l]? = some ob ∨ (l = σ.length ∧ ob = .cells [] 0 0) := by
    intro l ob ho
    rcases Nat.lt_or_ge l σ.length with h | h
    · rw [List.getElem?_append_left h] at ho; exact .inl ho
    · rw [List.getElem?_append_right h] at ho
      cases hk : l - σ.length with
      | zero => rw [hk] at ho; simp at ho; exact .inr ⟨by omega, ho.symm⟩
      | succ k => rw [hk] at ho; simp at ho
  refine ⟨hR.below, hR.imm, hR.mimm, hR.siz, fun l u b hb => ?_, hR.inj, fun l ob b ho hb => hR.obj l ob b (old hb ho) hb, fun l cs frz u b ho hb => hR.own l cs frz u b (old hb ho) hb, fun l ks vs b ho hb => hR.ownm l ks vs b (old hb ho) hb, fun l ob ho => ?_, fun l ob ho => ?_, hR.bimm, hR.bmimm⟩
  · obtain ⟨h1, h2⟩ := hR.blk l u b hb
    exact ⟨by simp; omega, h2⟩
  · rcases look ho with h | ⟨rfl, rfl⟩
    · exact hR.ver l ob h
    · exact ⟨Nat.le_refl _, fun u b hb => absurd (hR.blk _ _ _ hb).1 (Nat.lt_irrefl _)⟩
  · rcases look ho with h | ⟨rfl, rfl⟩
    · exact hR.frzle l ob h
    · exact Nat.le_refl _

theorem Rel.weakObj (hR : Rel B G σ w) {l f v : Nat} {cs cs' : List D} (hl : σ[l]? = some (.cells cs f v)) (hlen : cs'.length = cs.length) (hw : ∀ vs, Reps G cs vs → Reps G cs' vs) : Rel B G (σ.set l (.cells cs' f v)) w := by
  have hlt := lt_of_getElem? hl
  have look : ∀ {l' : Nat} {ob : AObj}, (σ.set l (.cells cs' f v))[l']? = some ob → (l' = l ∧ ob = .cells cs' f v) ∨ (l' ≠ l ∧ σ[l']? = some ob) := by
    intro l' ob h
    by_cases e : l' = l
    · subst e
      rw [List.getElem?_set_self hlt] at h
      exact .inl ⟨rfl, (Option.some.inj h).symm⟩
    · rw [List.getElem?_set_ne (Ne.symm e)] at h
      exact .inr ⟨e, h⟩
  refine ⟨hR.below, hR.imm, hR.mimm, hR.siz, fun l' u' b hb => ?_, hR.inj, fun l' ob b ho hb => ?_, fun l' cs2 frz' u' b ho hb o x hi => ?_, fun l' ks vs b ho hb => ?_, fun l' ob ho => ?_, fun l' ob ho => ?_, hR.bimm, hR.bmimm⟩
  · rw [List.length_set]; exact hR.blk l' u' b hb
  · rcases look ho with ⟨rfl, rfl⟩ | ⟨_, h⟩
    · obtain ⟨vs, et, h1, h2, tl, hd, h3, h4⟩ := hR.obj l' (.cells cs f v) b hl hb
      exact ⟨vs, et, h1, h2, tl, hd, h3, hw _ h4⟩
    · exact hR.obj l' ob b h hb
  · rcases look ho with ⟨rfl, h⟩ | ⟨_, h⟩
    · cases h
      exact hR.own l' _ _ _ b hl hb o x hi
    · exact hR.own l' _ _ _ b h hb o x hi
  · rcases look ho with ⟨_, h⟩ | ⟨_, h⟩
    · cases h
    · exact hR.ownm l' ks vs b h hb
  · rcases look ho with ⟨rfl, rfl⟩ | ⟨_, h⟩
    · have := hR.ver l' _ hl
      exact ⟨by simp only [AObj.ver, AObj.len] at this ⊢; omega, this.2⟩
    · exact hR.ver l' ob h
  · rcases look ho with ⟨rfl, rfl⟩ | ⟨_, h⟩
    · have := hR.frzle l' _ hl
      simp only [AObj.frz, AObj.len] at this ⊢; omega
    · exact hR.frzle l' ob h

theorem AWp.ghost2 (h : AWp i P N c τ' σ' Q) (hg : ∀ (B : Base P) (G : Gh) (w : World) (a : Act), Rel B G σ w → TRel G N τ a → Rel B G σ' w ∧ TRel G N τ' a) : AWp i P N c τ σ Q := by
  intro B G w a hR hT
  obtain ⟨h1, h2⟩ := hg B G w a hR hT
  exact h B G w a h1 h2

theorem nil_own {l sz : Nat} {v : Value} (h : Rep G (.list [] 0 true) v) : Rep G (.sl l 0 0 0 sz false) v := by
  simp only [Rep] at h ⊢
  obtain ⟨a, cap, rfl, _, _, h3, _⟩ := h
  have := h3 trivial
  subst this
  exact .inr ⟨trivial, a, rfl⟩

theorem AWp.own_slot {t : Nat} (sz : Nat) (ht : get τ t = some (.list [] 0 true)) (h : AWp i P N c ((t, .sl σ.length 0 0 0 sz false) :: τ) (σ ++ [.cells [] 0 0]) Q) : AWp i P N c τ σ Q := by
  refine h.ghost2 fun B G w a hR hT => ⟨hR.newObj, hT.size, hT.defers, fun t' d hg => ?_⟩
  simp only [get] at hg
  split at hg
  · rename_i e
    subst e
    cases hg
    exact nil_own (hT.slot _ _ ht)
  · exact hT.slot _ _ hg

theorem Reps.set_weak {d d' : D} (hw : ∀ v, Rep G d v → Rep G d' v) : ∀ {cs : List D} {o : Nat} {vs : List Value}, cs[o]? = some d → Reps G cs vs → Reps G (cs.set o d') vs
  | [], _, _, h, _ => by simp at h
  | x :: cs, 0, vs, h, hv => by
    simp at h
    subst h
    simp only [List.set_cons_zero, Reps] at hv ⊢
    obtain ⟨v, r, e, h1, h2⟩ := hv
    exact ⟨v, r, e, hw v h1, h2⟩
  | x :: cs, o + 1, vs, h, hv => by
    simp only [List.getElem?_cons_succ] at h
    simp only [List.set_cons_succ, Reps] at hv ⊢
    obtain ⟨v, r, e, h1, h2⟩ := hv
    exact ⟨v, r, e, h1, Reps.set_weak hw h h2⟩

theorem AWp.own_cell {l o f v : Nat} {cs : List D} (sz : Nat) (hl : σ[l]? = some (.cells cs f v)) (hc : cs[o]? = some (.list [] 0 true))
    (h : AWp i P N c τ (σ.set l (.cells (cs.set o (.sl σ.length 0 0 0 sz false)) f v) ++ [.cells [] 0 0]) Q) : AWp i P N c τ σ Q := by
  refine h.ghost2 fun B G w a hR hT => ⟨?_, hT⟩
  exact (hR.weakObj hl (by simp) fun vs hv => Reps.set_weak (fun v hv => nil_own hv) hc hv).newObj
end

def app {α : Type} (by' : Nat) (xs ys : List α) : Option (List α) := if (xs.length + ys.length) * by' ≤ limit ∧ xs.length + ys.length ≤ limit then some (xs ++ ys) else none

section
variable {α : Type} {P : Program} {T : Tys} {τ τ' : Env} {σ σ' : Sto} {E : Enc α} {xs ys zs : List α}
theorem op_app {t tx : TypeId} {s x : Operand} {l fz by' : Nat} {f : Bool} (h1 : lk2 T.app t tx = some (E.sz, by')) (h2 : ev τ s = some (.sl l (flatE E xs).length 0 xs.length E.sz false)) (h3 : ev τ x = some (.list (flatE E ys) ys.length f))
    (hl : σ[l]? = some (.cells (flatE E xs) fz (flatE E xs).length)) (h : app by' xs ys = some zs) :
    aop T τ σ (.call { callee := .builtin .append, args := #[s, x], argTypes := #[t, tx] }) = some (.sl l (flatE E zs).length 0 zs.length E.sz false, σ.set l (.cells (flatE E zs) fz (flatE E zs).length)) := by
  show oAppend T τ σ [s, x] [t, tx] = _
  unfold app at h
  split at h <;> try (cases h; done)
  rename_i hb
  cases h
  simp only [oAppend, h1, h2, h3, appD, srcD, flatE_len, flat_cell, if_true, hl]
  rw [if_pos ⟨trivial, trivial, by omega⟩]
  by_cases hm : ys.length = 0
  · have hy : ys = [] := List.eq_nil_of_length_eq_zero hm
    subst hy
    simp only [List.length_nil, if_true, List.append_nil]
    rw [set_same (by rw [hl, flatE_len])]
  · rw [if_neg hm, if_pos hb]
    simp only [Bool.false_eq_true, if_false, flatE_append]
    rw [if_pos ⟨trivial, trivial⟩]
    simp only [List.length_append, flatE_len, Nat.add_mul]

theorem op_appS {t tx : TypeId} {s x : Operand} {l fz by' : Nat} {us vs ws : List UInt8} (h1 : lk2 T.app t tx = some (1, by')) (h2 : ev τ s = some (.sl l (flatE byteE us).length 0 us.length 1 false)) (h3 : ev τ x = some (.str vs))
    (hl : σ[l]? = some (.cells (flatE byteE us) fz (flatE byteE us).length)) (h : app by' us vs = some ws) :
    aop T τ σ (.call { callee := .builtin .append, args := #[s, x], argTypes := #[t, tx] }) = some (.sl l (flatE byteE ws).length 0 ws.length 1 false, σ.set l (.cells (flatE byteE ws) fz (flatE byteE ws).length)) := by
  have := op_app (E := byteE) (xs := us) (ys := vs) (zs := ws) (T := T) (τ := (0, .list (flatE byteE vs) vs.length false) :: (1, .sl l (flatE byteE us).length 0 us.length 1 false) :: []) (σ := σ) (t := t) (tx := tx) (s := .tmp 1) (x := .tmp 0) h1 rfl rfl hl h
  have e : aop T ((0, .list (flatE byteE vs) vs.length false) :: (1, .sl l (flatE byteE us).length 0 us.length 1 false) :: []) σ (.call { callee := .builtin .append, args := #[.tmp 1, .tmp 0], argTypes := #[t, tx] }) = oAppend T ((0, .list (flatE byteE vs) vs.length false) :: (1, .sl l (flatE byteE us).length 0 us.length 1 false) :: []) σ [.tmp 1, .tmp 0] [t, tx] := rfl
  rw [e] at this
  have hs1 : byteE.sz = 1 := rfl
  rw [hs1] at this
  have hl1 : (flatE byteE vs).length = vs.length * 1 := flatE_len byteE vs
  have k1 : srcD σ 1 (.list (flatE byteE vs) vs.length false) = some (flatE byteE vs, vs.length) := by simp only [srcD, hl1, if_true]
  have k2 : srcD σ 1 (.str vs) = some (flatE byteE vs, vs.length) := by
    rw [flat_bytes]; rfl
  have k3 : ∀ d, appD σ 1 by' d (.str vs) = appD σ 1 by' d (.list (flatE byteE vs) vs.length false) := by
    intro d; unfold appD; rw [k1, k2]
  have e3 : oAppend T τ σ [s, x] [t, tx] = appD σ 1 by' (.sl l (flatE byteE us).length 0 us.length 1 false) (.str vs) := by
    simp only [oAppend, h1, h2, h3]
  have e4 : oAppend T ((0, .list (flatE byteE vs) vs.length false) :: (1, .sl l (flatE byteE us).length 0 us.length 1 false) :: []) σ [.tmp 1, .tmp 0] [t, tx] = appD σ 1 by' (.sl l (flatE byteE us).length 0 us.length 1 false) (.list (flatE byteE vs) vs.length false) := by
    simp only [oAppend, h1]
    rfl
  show oAppend T τ σ [s, x] [t, tx] = _
  rw [e3, k3, ← e4, this]

theorem frzC_own {l fz u : Nat} {f : Bool} (hl : σ[l]? = some (.cells (flatE E xs) fz u)) : frzC σ (.sl l u 0 xs.length E.sz f) = some (.list (flatE E xs) xs.length f, σ.set l (.cells (flatE E xs) (flatE E xs).length u)) := by
  simp [frzC, hl, flatE_len, List.take_of_length_le]

theorem AOp.frz {N : Nat} {o : Oper} {d e : D} {σ1 : Sto} (h : AOp P N o τ σ fun d' s => d' = d ∧ s = σ1) (hz : frzC σ1 d = some (e, σ')) : AOp P N o τ σ fun d' s => d' = e ∧ s = σ' := by
  intro B G w a hR hT next Q hn
  refine h B G w a hR hT next Q ?_
  rintro v w' G' d' s h1 h2 h3 ⟨rfl, rfl⟩
  obtain ⟨G2, k1, k2, k3⟩ := frzC_ok h2 hz h3
  exact hn v w' G2 e _ (h1.trans k1) k2 k3 ⟨rfl, rfl⟩

theorem goZ {N : Nat} {all : Array Oper} {o : Oper} {r : List Oper} {d e : D} {σ1 : Sto} {Kt : Env → Sto → Prop} (tok : TOk T P) (h1 : wantD all τ o = some true) (h2 : aop T τ σ o.op = some (d, σ1)) (hz : frzC σ1 d = some (e, σ')) (h3 : putD N o.dst e τ = some τ') (h : AOps P N all r τ' σ' Kt) : AOps P N all (o :: r) τ σ Kt :=
  goP h1 ((aop_aop tok h2).frz hz) h3 h

theorem okv_pure (n : Nat) : ∀ {d : D}, d.pure = true → okv n d = true := by
  intro d h
  cases d <;> simp only [D.pure] at h <;> first | (cases h; done) | (simp only [okv, D.pure]; first | done | exact h)
theorem pureL_all (n : Nat) : ∀ {ds : List D}, pureL ds = true → ds.all (okv n) = true
  | [], _ => rfl
  | d :: ds, h => by
    simp only [pureL, Bool.and_eq_true] at h
    simp only [List.all_cons, okv_pure n h.1, pureL_all n h.2, Bool.and_self]
theorem flat_okv (n : Nat) (E : Enc α) (xs : List α) : (flatE E xs).all (okv n) = true := pureL_all n (flat_pure E xs)
end
end Go.Fw
namespace Go.Fw
section
variable {P : Program} {T : Tys} {N : Nat} {all : Array Oper} {o : Oper} {r : List Oper} {τ τ' : Env} {σ σ1 σ' : Sto} {Kt : Env → Sto → Prop}
theorem AOp.toOwn (sz : Nat) (h : AOp P N o τ σ fun d' s => d' = .list [] 0 true ∧ s = σ1) : AOp P N o τ σ fun d' s => d' = .sl σ1.length 0 0 0 sz false ∧ s = σ1 ++ [.cells [] 0 0] := by
  intro B G w a hR hT next Q hn
  refine h B G w a hR hT next Q ?_
  rintro v w' G' d' s h1 h2 h3 ⟨rfl, rfl⟩
  exact hn v w' G' _ _ h1 h2.newObj (nil_own h3) ⟨rfl, rfl⟩
theorem goN (sz : Nat) (tok : TOk T P) (h1 : wantD all τ o = some true) (h2 : aop T τ σ o.op = some (.list [] 0 true, σ1)) (h3 : putD N o.dst (.sl σ1.length 0 0 0 sz false) τ = some τ') (h : AOps P N all r τ' (σ1 ++ [.cells [] 0 0]) Kt) : AOps P N all (o :: r) τ σ Kt :=
  goP h1 ((aop_aop tok h2).toOwn sz) h3 h
end
end Go.Fw
namespace Go.Fw

theorem flat_nil {α : Type} {E : Enc α} (h : 0 < E.sz) {xs : List α} (e : flatE E xs = []) : xs = [] := by
  have hl := flatE_len E xs
  rw [e] at hl
  cases xs with
  | nil => rfl
  | cons x xs =>
    exfalso
    have : 0 < (x :: xs).length * E.sz := Nat.mul_pos (Nat.succ_pos _) h
    simp only [List.length_nil] at hl
    omega

theorem app_nil {α : Type} {by' : Nat} {zs : List α} (h : app by' [] [] = some zs) : zs = [] := by
  unfold app at h
  split at h <;> try (cases h; done)
  cases h
  rfl
open Go.RowKit
def Ext (τ τ' : Env) : Prop := ∀ t d, get τ t = some d → get τ' t = some d
theorem Ext.refl (τ : Env) : Ext τ τ := fun _ _ h => h
theorem Ext.skip {τ τ' : Env} {t : Nat} {d : D} (hn : get τ t = none) (h : Ext τ τ') : Ext τ ((t, d) :: τ') := by
  intro t' d' hg
  simp only [get]
  by_cases e : t = t'
  · subst e; rw [hn] at hg; cases hg
  · rw [if_neg e]; exact h t' d' hg
theorem Ext.push {τ τ' : Env} {t : Nat} {d : D} (h : Ext τ τ') (hg : get τ' t = some d) : Ext ((t, d) :: τ) τ' := by
  intro t' d' h'
  simp only [get] at h'
  split at h'
  · rename_i e; subst e; cases h'; exact hg
  · exact h t' d' h'
theorem Ext.cons {τ τ' : Env} (t : Nat) (d : D) (h : Ext τ τ') : Ext ((t, d) :: τ) ((t, d) :: τ') := by
  intro t' d' h'
  simp only [get] at h' ⊢
  split at h'
  · rename_i e; rw [if_pos e]; exact h'
  · rename_i e; rw [if_neg e]; exact h t' d' h'

section
variable {P : Program} {N : Nat} {all : Array Oper} {Kt : Env → Sto → Prop}
theorem wantD_ext {o : Oper} {τ τ' : Env} {b : Bool} (he : Ext τ τ') (h : wantD all τ o = some b) : wantD all τ' o = some b := by
  unfold wantD at h ⊢
  split at h
  · exact h
  · split at h <;> try (cases h; done)
    rename_i t ht
    try simp only [ht]
    split at h <;> try (cases h; done)
    · rename_i b' hb; rw [he _ _ hb]; exact h
    · rename_i vs hb; rw [he _ _ hb]; exact h

theorem AOp.sub {o : Oper} {τ τ' : Env} {σ : Sto} {K : D → Sto → Prop} (he : Ext τ τ') (h : AOp P N o τ σ K) : AOp P N o τ' σ K :=
  fun B G w a hR hT => h B G w a hR (hT.sub he)

theorem putD_ext {dst : Option Tmp} {d : D} {τ τ' τ1 : Env} (he : Ext τ τ') (h : putD N dst d τ = some τ1) : ∃ τ1', putD N dst d τ' = some τ1' ∧ Ext τ1 τ1' := by
  unfold putD at h ⊢
  split at h
  · cases h; exact ⟨_, rfl, he⟩
  · split at h <;> try (cases h; done)
    rename_i t ht
    cases h
    exact ⟨_, by simp only [ht, if_true], he.cons _ _⟩

theorem AOps.sub (hK : ∀ τ τ' σ, Ext τ τ' → Kt τ σ → Kt τ' σ) : ∀ (l : List Oper) (τ τ' : Env) (σ : Sto), Ext τ τ' → AOps P N all l τ σ Kt → AOps P N all l τ' σ Kt
  | [], τ, τ', σ, he, h => hK τ τ' σ he h
  | o :: r, τ, τ', σ, he, h => by
    rcases h with ⟨h1, h2⟩ | ⟨h1, τ1, h2, h3⟩
    · refine .inl ⟨wantD_ext he h1, (h2.sub he).mono ?_⟩
      rintro d s ⟨τ1, h3, h4⟩
      obtain ⟨τ1', h5, h6⟩ := putD_ext he h3
      exact ⟨τ1', h5, AOps.sub hK r τ1 τ1' s h6 h4⟩
    · obtain ⟨τ1', h5, h6⟩ := putD_ext he h2
      exact .inr ⟨wantD_ext he h1, τ1', h5, AOps.sub hK r τ1 τ1' σ h6 h3⟩

theorem AOps.append : ∀ (a b : List Oper) (τ : Env) (σ : Sto), AOps P N all a τ σ (fun τ' σ' => AOps P N all b τ' σ' Kt) → AOps P N all (a ++ b) τ σ Kt
  | [], _, _, _, h => h
  | o :: r, b, τ, σ, h => by
    rcases h with ⟨h1, h2⟩ | ⟨h1, τ1, h2, h3⟩
    · refine .inl ⟨h1, h2.mono ?_⟩
      rintro d s ⟨τ1, h3, h4⟩
      exact ⟨τ1, h3, AOps.append r b τ1 s h4⟩
    · exact .inr ⟨h1, τ1, h2, AOps.append r b τ1 σ h3⟩

theorem AOps.monoK {K K' : Env → Sto → Prop} (hk : ∀ τ σ, K τ σ → K' τ σ) : ∀ (l : List Oper) (τ : Env) (σ : Sto), AOps P N all l τ σ K → AOps P N all l τ σ K'
  | [], τ, σ, h => hk τ σ h
  | o :: r, τ, σ, h => by
    rcases h with ⟨h1, h2⟩ | ⟨h1, τ1, h2, h3⟩
    · refine .inl ⟨h1, h2.mono ?_⟩
      rintro d s ⟨τ1, h3, h4⟩
      exact ⟨τ1, h3, AOps.monoK hk r τ1 s h4⟩
    · exact .inr ⟨h1, τ1, h2, AOps.monoK hk r τ1 σ h3⟩

theorem sc_join {l : List Oper} {τ : Env} {σ : Sto} (k t : Nat) (v : Bool) (hK : ∀ τ τ' σ, Ext τ τ' → Kt τ σ → Kt τ' σ)
    (h1 : AOps P N all (l.take k) τ σ (fun τ' σ' => Ext τ τ' ∧ get τ' t = some (.bool v) ∧ σ' = σ)) (h2 : AOps P N all (l.drop k) ((t, .bool v) :: τ) σ Kt) : AOps P N all l τ σ Kt := by
  have : l = l.take k ++ l.drop k := (List.take_append_drop k l).symm
  rw [this]
  refine AOps.append _ _ τ σ (AOps.monoK ?_ _ τ σ h1)
  rintro τ' σ' ⟨e1, e2, rfl⟩
  exact AOps.sub hK _ _ _ _ (e1.push e2) h2
end

def joinQ (τ1 : Env) (σ1 : Sto) : AEx → Env → Sto → Prop := fun e τ' σ' => e = .normal ∧ AllP (fun p : Nat × D => get τ' p.1 = some p.2) τ1 ∧ ∃ g, σ' = σ1 ++ g
theorem awp_joinC {i : Nat} {P : Program} {N : Nat} {c1 c2 : Code} {τ τ1 : Env} {σ σ1 : Sto} {Q Q' : AEx → Env → Sto → Prop} (h1 : AWp i P N c1 τ σ (joinQ τ1 σ1)) (k0 : Nat.ble i σ1.length = true) (k1 : σ1.all (okO σ1.length) = true) (k2 : τ1.all (fun p => okv σ1.length p.2) = true)
    (h2 : AWp i P N c2 τ1 σ1 Q') : AWp i P N c1 τ σ (thenQ (fun τ' σ' => AWp i P N c2 τ' σ' Q') Q) := by
  refine h1.mono ?_
  rintro e τ' σ' ⟨rfl, h3, g, rfl⟩
  exact AWp.cut k0 k1 k2 (get_all h3) h2
end Go.Fw
namespace Go.Fw
section
variable {i : Nat} {P : Program} {N : Nat} {c c1 c2 : Code} {τ : Env} {σ : Sto} {Q : AEx → Env → Sto → Prop}
theorem sq (h : AWp i P N c1 τ σ (thenQ (fun τ' σ' => AWp i P N c2 τ' σ' Q) Q)) : AWp i P N (.seq c1 c2) τ σ Q := awp_seq h
theorem rg {id : Nat} {ops : Array Oper} (h : AOps P N ops ops.toList τ σ (fun τ' σ' => Q .normal τ' σ')) : AWp i P N (.region id ops false) τ σ Q := awp_region h
theorem bk {id : Nat} (h : AWp i P N c τ σ (blockQ id Q)) : AWp i P N (.block id c) τ σ Q := awp_block h
theorem sk (h : Q .normal τ σ) : AWp i P N .skip τ σ Q := awp_skip h
theorem lb {l : Nat} (h : Q .normal τ σ) : AWp i P N (.label l) τ σ Q := awp_label h
theorem sp (h : AWp i P N c τ σ (noGotoQ Q)) : AWp i P N (.scope c) τ σ Q := awp_scope h
end
end Go.Fw
namespace Go.Fw
open Go.RowKit
section
variable {P : Program} {T : Tys} {N : Nat} {o : Oper} {τ : Env} {σ σ' : Sto}
theorem aop_bool {c b : Bool} (h : AOp P N o τ σ fun d' s => d' = .bool c ∧ s = σ') (hc : c = b) : AOp P N o τ σ fun d' s => d' = .bool b ∧ s = σ' := by subst hc; exact h

theorem op_bs {t : TypeId} {n : Nat} {vs : Array (Nat × Operand)} {xs : List D} {bs : List UInt8} (h : aop T τ σ (.buildSlice t n vs) = some (.list xs bs.length true, σ)) (e : xs = flatE byteE bs) :
    aop T τ σ (.buildSlice t n vs) = some (.list (flatE byteE bs) (List.length bs) true, σ) := by rw [h, e]

theorem op_bs2 {t : TypeId} {x y : Operand} {n m : Int} {b c : UInt8} {z : List D} (h1 : lk T.bs t = some (z, 1)) (h2 : ev τ x = some (.int .u8 n)) (h3 : ev τ y = some (.int .u8 m)) (h : n = (b.toNat : Int)) (h' : m = (c.toNat : Int)) (hz : z = [.int .u8 0]) :
    aop T τ σ (.buildSlice t 2 #[(0, x), (1, y)]) = some (.list (flatE byteE [b, c]) (List.length [b, c]) true, σ) := by
  subst h h' hz
  simp only [aop, oBuildSlice, h1, evp, h2, h3]
  rfl

theorem Rel.oneMore {P : Program} {B : Base P} {G : Gh} {w : World} {ob : AObj} (hv : ob.ver = 0) (hR : Rel B G (σ ++ [ob]) w) : Rel B G (σ ++ [.gone]) w := by
  have look : ∀ {l : Nat} {x : AObj}, (σ ++ [AObj.gone])[l]? = some x → (l < σ.length ∧ (σ ++ [ob])[l]? = some x) ∨ (l = σ.length ∧ x = .gone) := by
    intro l x h
    rcases Nat.lt_or_ge l σ.length with hl | hl
    · rw [List.getElem?_append_left hl] at h
      exact .inl ⟨hl, by rw [List.getElem?_append_left hl]; exact h⟩
    · rw [List.getElem?_append_right hl] at h
      cases hk : l - σ.length with
      | zero => rw [hk] at h; simp at h; exact .inr ⟨by omega, h.symm⟩
      | succ k => rw [hk] at h; simp at h
  have top : (σ ++ [ob])[σ.length]? = some ob := by simp
  refine ⟨hR.below, hR.imm, hR.mimm, hR.siz, fun l u b hb => ?_, hR.inj, fun l x b ho hb => ?_, fun l cs frz u b ho hb => ?_, fun l ks vs b ho hb => ?_, fun l x ho => ?_, fun l x ho => ?_, hR.bimm, hR.bmimm⟩
  · have := hR.blk l u b hb
    exact ⟨by simpa using this.1, this.2⟩
  · rcases look ho with ⟨_, h⟩ | ⟨rfl, rfl⟩
    · exact hR.obj l x b h hb
    · exact (hR.blk _ _ _ hb).2.2
  · rcases look ho with ⟨_, h⟩ | ⟨_, h⟩
    · exact hR.own l cs frz u b h hb
    · cases h
  · rcases look ho with ⟨_, h⟩ | ⟨_, h⟩
    · exact hR.ownm l ks vs b h hb
    · cases h
  · rcases look ho with ⟨_, h⟩ | ⟨rfl, rfl⟩
    · exact hR.ver l x h
    · refine ⟨Nat.le_refl _, fun u b hb => ?_⟩
      have := (hR.ver _ _ top).2 u b hb
      rw [hv] at this
      exact this
  · rcases look ho with ⟨_, h⟩ | ⟨_, rfl⟩
    · exact hR.frzle l x h
    · exact Nat.le_refl _

variable {α : Type} {E : Enc α} {xs ys zs : List α}
theorem aop_full (tok : TOk T P) {t tx : TypeId} {s x : Operand} {by' : Nat} {f : Bool} (ho : o.op = .call { callee := .builtin .append, args := #[s, x], argTypes := #[t, tx] }) (h1 : lk2 T.app t tx = some (E.sz, by'))
    (h2 : ev τ s = some (.list (flatE E xs) xs.length true)) (h3 : ev τ x = some (.list (flatE E ys) ys.length f)) (h : app by' xs ys = some zs) : AOp P N o τ σ fun d' s' => d' = .list (flatE E zs) zs.length false ∧ s' = σ ++ [.gone] := by
  unfold app at h
  split at h <;> try (cases h; done)
  rename_i hb
  cases h
  by_cases hm : ys.length = 0
  · have hy : ys = [] := List.eq_nil_of_length_eq_zero hm
    subst hy
    have ha : aop T τ σ o.op = some (.list (flatE E xs) xs.length true, σ) := by
      rw [ho]
      show oAppend T τ σ [s, x] [t, tx] = _
      simp [oAppend, h1, h2, h3, appD, srcD, flatE_len, flatE_nil]
    intro B G w a hR hT next Q hn
    refine aop_aop tok ha B G w a hR hT next Q ?_
    rintro v w' G' d s' k1 k2 k3 ⟨rfl, rfl⟩
    exact hn v w' G' _ _ k1 (Rel.oneMore (ob := .cells [] 0 0) rfl k2.newObj) (by rw [List.append_nil]; exact Weak.list _ _ k3) ⟨rfl, rfl⟩
  · have ha : aop T τ σ o.op = some (.sl σ.length 0 0 (xs.length + ys.length) E.sz false, σ ++ [.cells (flatE E xs ++ flatE E ys) 0 0]) := by
      rw [ho]
      show oAppend T τ σ [s, x] [t, tx] = _
      simp only [oAppend, h1, h2, h3, appD, srcD, flatE_len, flat_cell, if_true]
      rw [if_neg hm, if_pos ⟨trivial, hb⟩]
    have hz : frzC (σ ++ [.cells (flatE E xs ++ flatE E ys) 0 0]) (.sl σ.length 0 0 (xs.length + ys.length) E.sz false) = some (.list (flatE E (xs ++ ys)) (xs ++ ys).length false, σ ++ [.cells (flatE E (xs ++ ys)) (flatE E (xs ++ ys)).length 0]) := by
      have e1 : (σ ++ [AObj.cells (flatE E xs ++ flatE E ys) 0 0])[σ.length]? = some (.cells (flatE E xs ++ flatE E ys) 0 0) := by simp
      simp only [frzC, e1]
      rw [if_pos ⟨trivial, by simp [flatE_len, Nat.add_mul]⟩]
      have e2 : ((flatE E xs ++ flatE E ys).drop 0).take ((xs.length + ys.length) * E.sz) = flatE E (xs ++ ys) := by
        rw [flatE_append, List.drop_zero, List.take_of_length_le (by simp [flatE_len, Nat.add_mul])]
      rw [e2]
      simp [flatE_append, List.set_append]
    intro B G w a hR hT next Q hn
    refine (aop_aop tok ha).frz hz B G w a hR hT next Q ?_
    rintro v w' G' d s' k1 k2 k3 ⟨rfl, rfl⟩
    exact hn v w' G' _ _ k1 (Rel.oneMore rfl k2) k3 ⟨rfl, rfl⟩

theorem op_idxA {t : TypeId} {x i : Operand} {k : IntKind} {n : Int} {a : α} {len : Nat} {d : D} (h1 : lk T.idxV t = some (.array len E.sz false)) (h2 : ev τ x = some (.agg (flatE E xs))) (h3 : ev τ i = some (.int k n)) (hl : xs.length = len) (h : ix xs n = some a) (he : E.cells a = [d]) :
    aop T τ σ (.index t x i) = some (d, σ) := by
  obtain ⟨h4, h5, h6⟩ := ix_inv h
  have hg := flatE_get (E := E) h6
  have hsz : E.sz = 1 := by rw [← E.len a, he]; rfl
  rw [he] at hg
  have hc : 0 ≤ n ∧ n < (len : Int) := ⟨h4, by omega⟩
  have hlen : n.toNat * E.sz + E.sz ≤ (flatE E xs).length := by
    rw [flatE_len, ← Nat.succ_mul]
    exact Nat.mul_le_mul_right _ (by omega)
  have hget : (flatE E xs)[n.toNat * E.sz]? = some d := by
    have h8 := congrArg (fun l => l[0]?) hg
    simp only [List.getElem?_take, List.getElem?_drop, hsz] at h8
    simpa [hsz] using h8
  simp only [aop, oIndex, h1, h2, h3, idxInt, if_pos hc, partD, hg]
  simp [hlen, hget]

theorem op_idxP {t : TypeId} {x i : Operand} {k : IntKind} {n : Int} {a : α} {len l u : Nat} (h1 : lk T.idx t = some (.array len E.sz)) (h2 : ev τ x = some (.ptr l u 0)) (h3 : ev τ i = some (.int k n)) (hl : xs.length = len) (h : ix xs n = some a) :
    aop T τ σ (.indexAddr t x i) = some (.ptr l u (0 + n.toNat * E.sz), σ) := by
  obtain ⟨h4, h5, h6⟩ := ix_inv h
  have hc : 0 ≤ n ∧ n < (len : Int) := ⟨h4, by omega⟩
  simp only [aop, oIndexAddr, h1, h2, h3, idxInt, if_pos hc, ptrAdd]
  rfl
theorem op_ldP {t : TypeId} {x : Operand} {n : Int} {a : α} {b : Bool} {d : D} {l u fz : Nat} (h1 : lk T.ld t = some (E.sz, b)) (h2 : ev τ x = some (.ptr l u (0 + n.toNat * E.sz))) (hb : b = true ∨ E.sz = 1) (hl : σ[l]? = some (.cells (flatE E xs) fz u)) (h : ix xs n = some a)
    (h3 : ldFin b (E.cells a) = some d) : aop T τ σ (.load t x) = some (d, σ) := by
  obtain ⟨h4, h5, h6⟩ := ix_inv h
  have hlen : n.toNat * E.sz + E.sz ≤ (flatE E xs).length := by
    rw [flatE_len, ← Nat.succ_mul]
    exact Nat.mul_le_mul_right _ (by omega)
  simp only [aop, oLoad, h1, h2, if_pos hb, readAt, hl, Nat.zero_add]
  rw [if_pos ⟨trivial, hlen⟩]
  simp only [flatE_get h6, h3]
  rfl
end
end Go.Fw
namespace Go.Fw
open Go.RowKit

mutual
def lent (σ : Sto) : Nat → D → Option D
  | 0, _ => none
  | n + 1, d => match d.pure with
    | true => some d
    | false => match d with
      | .sl l u o len sz f => match σ[l]? with
        | some (.cells cs _ v) => match Nat.beq v u && Nat.ble (o + len * sz) cs.length with
          | true => match lents σ n ((cs.drop o).take (len * sz)) with
            | some xs => some (.list xs len f)
            | none => none
          | false => none
        | _ => none
      | .agg cs => match lents σ n cs with
        | some xs => some (.agg xs)
        | none => none
      | _ => none
def lents (σ : Sto) : Nat → List D → Option (List D)
  | 0, _ => none
  | n + 1, l => match l with
    | [] => some []
    | d :: ds => match lent σ n d with
      | some x => match lents σ n ds with
        | some xs => some (x :: xs)
        | none => none
      | none => none
end
mutual
def D.scal : D → Bool
  | .bool _ => true
  | .int _ _ => true
  | .str _ => true
  | .agg cs => D.scals cs
  | .tuple cs => D.scals cs
  | _ => false
def D.scals : List D → Bool
  | [] => true
  | d :: ds => d.scal && D.scals ds
end
mutual
theorem scal_rep {G G' : Gh} : ∀ (d : D) (v : Value), d.scal = true → Rep G d v → Rep G' d v
  | .bool _, _, _, x => by simpa only [Rep] using x
  | .int _ _, _, _, x => by simpa only [Rep] using x
  | .str _, _, _, x => by simpa only [Rep] using x
  | .agg cs, _, h, x => by
    simp only [Rep] at x ⊢
    obtain ⟨a, e, r⟩ := x
    exact ⟨a, e, scals_rep cs _ (by simpa only [D.scal] using h) r⟩
  | .tuple cs, _, h, x => by
    simp only [Rep] at x ⊢
    obtain ⟨a, e, r⟩ := x
    exact ⟨a, e, scals_rep cs _ (by simpa only [D.scal] using h) r⟩
  | .nilp, _, h, _ => by cases h
  | .ptr _ _ _, _, h, _ => by cases h
  | .rptr _ _, _, h, _ => by cases h
  | .list _ _ _, _, h, _ => by cases h
  | .sl _ _ _ _ _ _, _, h, _ => by cases h
  | .map _, _, h, _ => by cases h
  | .nilmap, _, h, _ => by cases h
  | .cmap _ _, _, h, _ => by cases h
  | .pmap _ _, _, h, _ => by cases h
  | .func _ _ _, _, h, _ => by cases h
  | .nilf, _, h, _ => by cases h
  | .iface _ _, _, h, _ => by cases h
  | .nili, _, h, _ => by cases h
  | .anyi, _, h, _ => by cases h
  | .junk, _, h, _ => by cases h
theorem scals_rep {G G' : Gh} : ∀ (ds : List D) (vs : List Value), D.scals ds = true → Reps G ds vs → Reps G' ds vs
  | [], _, _, x => by simpa only [Reps] using x
  | d :: ds, _, h, x => by
    simp only [Reps] at x ⊢
    simp only [D.scals, Bool.and_eq_true] at h
    obtain ⟨v, r, e, h1, h2⟩ := x
    exact ⟨v, r, e, scal_rep d v h.1 h1, scals_rep ds r h.2 h2⟩
end
def snap (G : Gh) (w : World) : Gh := ⟨fun b o => w.cell? ⟨b, o, none⟩, G.mimm, fun _ _ => none, G.siz⟩
section
variable {P : Program} {B : Base P} {G : Gh} {σ : Sto} {w : World}
theorem cells_snap {b : Nat} {vs : Array Value} {et : TypeId} (hb : w.heap[b]? = some (.cells vs et (0, 0))) : ∀ (cs : List D) (o : Nat) (l : List Value), (∀ (i : Nat) v, l[i]? = some v → vs[o + i]? = some v) → Reps (snap G w) cs l → Cells (snap G w) b o cs
  | [], _, _, _, _ => trivial
  | d :: ds, o, l, h, hr => by
    simp only [Reps] at hr
    obtain ⟨v, r, rfl, h1, h2⟩ := hr
    refine ⟨⟨v, ?_, h1⟩, cells_snap hb ds (o + 1) r (fun i x hx => ?_) h2⟩
    · have := h 0 v rfl
      show w.cell? ⟨b, o, none⟩ = some v
      unfold World.cell?
      rw [hb]
      simpa using this
    · have := h (i + 1) x (by simpa using hx)
      rw [show o + 1 + i = o + (i + 1) from by omega]; exact this
theorem Reps.len {G : Gh} : ∀ {ds : List D} {vs : List Value}, Reps G ds vs → vs.length = ds.length
  | [], _, h => by simp only [Reps] at h; subst h; rfl
  | d :: ds, _, h => by
    simp only [Reps] at h
    obtain ⟨v, r, rfl, _, h2⟩ := h
    simp [Reps.len h2]
theorem Reps.part {G : Gh} : ∀ {ds : List D} {vs : List Value}, Reps G ds vs → ∀ o n, Reps G ((ds.drop o).take n) ((vs.drop o).take n)
  | [], _, h, o, n => by simp only [Reps] at h; subst h; simp [Reps]
  | d :: ds, _, h, o, n => by
    have h0 := h
    simp only [Reps] at h
    obtain ⟨v, r, rfl, h1, h2⟩ := h
    match o, n with
    | o + 1, n => simpa using Reps.part h2 o n
    | 0, 0 => simp [Reps]
    | 0, n + 1 =>
      have := Reps.part h2 0 n
      simp only [List.drop_zero] at this
      simp only [List.drop_zero, List.take_succ_cons, Reps]
      exact ⟨v, _, rfl, h1, this⟩
mutual
theorem lent_ok (hR : Rel B G σ w) : ∀ (n : Nat) (d d1 : D) (v : Value), lent σ n d = some d1 → Rep G d v → Rep (snap G w) d1 v
  | 0, _, _, _, h, _ => by simp [lent] at h
  | n + 1, d, d1, v, h, x => by
    simp only [lent] at h
    split at h
    · rename_i hp
      cases h
      exact Rep.pure (G' := snap G w) (fun b o v hv => hR.imm b o v hv) (fun _ _ h => h) _ v hp x
    · split at h <;> try (cases h; done)
      · rename_i l u o len sz f hnp
        split at h <;> try (cases h; done)
        rename_i cs fz ver ho
        split at h <;> try (cases h; done)
        rename_i hc
        simp only [Bool.and_eq_true] at hc
        obtain ⟨hc1, hc2⟩ := hc
        have hc1 := nbeq hc1
        subst hc1
        split at h <;> try (cases h; done)
        rename_i xs hxs
        cases h
        simp only [Rep] at x ⊢
        rcases x with ⟨b, cap, tot, h1, rfl, h3, h4, h5, h6, h7⟩ | ⟨rfl, a, rfl⟩
        · refine ⟨some ⟨b, o, none⟩, cap, rfl, h3, h4, h5, .inl ⟨b, o, rfl, ?_⟩⟩
          obtain ⟨vs, et, k1, k2, tl, hd, k3, k4⟩ := hR.obj l _ b ho h1
          have hp := k4.part o (len * sz)
          refine cells_snap (vs := vs) k1 _ _ _ (fun i v hv => ?_) (lents_ok hR n _ _ _ hxs hp)
          rw [List.getElem?_take] at hv
          split at hv <;> try (cases hv; done)
          rw [List.getElem?_drop] at hv
          rw [← Array.getElem?_toList, k3, List.getElem?_append_left (lt_of_getElem? hv)]
          exact hv
        · refine ⟨a, 0, rfl, Nat.le_refl _, by omega, fun _ => rfl, .inr ?_⟩
          have : lents σ n ((cs.drop o).take (0 * sz)) = some xs := hxs
          rw [Nat.zero_mul, List.take_zero] at this
          cases n with
          | zero => simp [lents] at this
          | succ n => simp only [lents, Option.some.injEq] at this; exact this.symm
      · split at h <;> try (cases h; done)
        rename_i xs hxs
        cases h
        simp only [Rep] at x ⊢
        obtain ⟨a, e, r⟩ := x
        exact ⟨a, e, lents_ok hR n _ _ _ hxs r⟩
theorem lents_ok (hR : Rel B G σ w) : ∀ (n : Nat) (ds ds1 : List D) (vs : List Value), lents σ n ds = some ds1 → Reps G ds vs → Reps (snap G w) ds1 vs
  | 0, _, _, _, h, _ => by simp [lents] at h
  | n + 1, [], _, _, h, x => by
    simp only [lents, Option.some.injEq] at h
    subst h
    simpa only [Reps] using x
  | n + 1, d :: ds, _, _, h, x => by
    simp only [lents] at h
    split at h <;> try (cases h; done)
    rename_i y hy
    split at h <;> try (cases h; done)
    rename_i ys hys
    cases h
    simp only [Reps] at x ⊢
    obtain ⟨v, r, e, h1, h2⟩ := x
    exact ⟨v, r, e, lent_ok hR n _ _ _ hy h1, lents_ok hR n _ _ _ hys h2⟩
end
theorem acall_lend {f : FuncId} {ds ds1 : List D} {d : D} {n : Nat} (hl : lents σ n ds = some ds1) (h : PureOK P f ds1 d) (hs : d.scal = true) : ACall P f ds σ (fun d' s => d' = d ∧ s = σ) := by
  intro B G w vals hR hv
  have hi : ∀ b o v, G.imm b o = some v → (snap G w).imm b o = some v := fun b o v x => hR.imm b o v x
  refine (h (snap G w) w vals ⟨fun _ _ _ x => x, hR.mimm, hR.siz⟩ ⟨fun g cs hg => ?_, hR.glob.2⟩ (lents_ok hR n _ _ _ hl hv)).mono ?_
  · obtain ⟨h1, h2⟩ := hR.glob.1 g cs hg
    exact ⟨h1, Rep.pure hi (fun _ _ x => x) _ _ (by simpa only [D.pure] using globOf_pure hg) h2⟩
  · rintro e w' ⟨v, G', rfl, g, r⟩
    exact ⟨v, G, d, σ, rfl, .refl G, hR.of_below g.below, scal_rep d v hs r, rfl, rfl⟩
theorem aop_lend {T : Tys} (hTy : TOk T P) {N : Nat} {o : Oper} {τ : Env} {c : Call} {f : FuncId} {ds ds1 : List D} {d : D} {n : Nat} (ho : o.op = .call c) (hc : callD T τ c = some (f, ds)) (hl : lents σ n ds = some ds1) (hf : FnOk P f) (h : PureOK P f ds1 d) (hs : d.scal = true) :
    AOp P N o τ σ (fun d' s => d' = d ∧ s = σ) := aop_callL hTy ho hc hf (acall_lend hl h hs)
end
end Go.Fw
namespace Go.Fw
open Go.RowKit
section
variable {fl : Nat} {P : Program} {N : Nat} {ops : Array Oper} {A : Res} {M : List Nat} {τ0 : Env} {s0 : Sto} {tab : List Rc} {S : List Sto} {C : List Nat} {τ : Env}
theorem drawn_stepL (hT : TabOk P N ops A M τ0 s0 tab S C τ) (hM : masks ops.toList [] = M) (hp : planOk ops M = true) 
    (hal : ∀ x ∈ A, ∃ r : Rc, tab[x.1]? = some r ∧ r.kd = .alloc x.2.1 x.2.2) (hinj : ∀ x ∈ A, ∀ y ∈ A, x.2.1 = y.2.1 → x.1 = y.1)
    {B : Base P} {G0 : Gh} {L : Array Bool} {a : Act} {w : World} (hI : Inv fl ops A τ0 tab S C N B G0 L a w) {i : Nat} (hir : i < tab.length) (hi : i ∈ Region.ready .any ops L) {Q : Exit → Act → World → Prop}
    {K : Act → World → Prop} (hK : ∀ a' w', Inv fl ops A τ0 tab S C N B G0 (L.setIfInBounds i true) a' w' → K a' w') : wpOp P ops Q i K a w := by
  obtain ⟨hun, o, ho, hall⟩ := mem_ready.1 hi
  obtain ⟨hilt, hif⟩ := getD_false_of hun
  obtain ⟨r, hr⟩ : ∃ r, tab[i]? = some r := ⟨_, List.getElem?_eq_getElem hir⟩
  obtain ⟨hor, hkd⟩ := hT.rc i r hr
  rw [ho] at hor; cases hor
  have hPM := masks_ok (ops := ops) (L := L) hI.down ops.toList [] [] (by simp) rfl (fun j m oj h => by simp at h)
  rw [hM] at hPM
  have hn : NeedsL L (M.getD i 0) := by
    intro j hj
    cases hm : M[i]? with
    | none => rw [List.getD_eq_getElem?_getD, hm] at hj; simp at hj
    | some m =>
      rw [List.getD_eq_getElem?_getD, hm] at hj
      exact hPM i m _ hm ho hall j hj
  obtain ⟨G, k, σ, h0, hS, hC, hR, hsz, hdf, hnew, hold⟩ := hI.st
  have htr := hI.trel hT hM hp hnew hold hr hun hn
  have hwin : Win M C i k := by
    intro k' c hc
    constructor
    · intro hlt
      have hL := (hC k' c hc).2 hlt
      cases hb : Nat.testBit (M.getD c 0) i with
      | false => rfl
      | true =>
        obtain ⟨rc, hrc, _⟩ := hT.ch k' c hc
        have hoc := (hT.rc c rc hrc).1
        cases hm : M[c]? with
        | none => rw [List.getD_eq_getElem?_getD, hm] at hb; simp at hb
        | some m =>
          rw [List.getD_eq_getElem?_getD, hm] at hb
          have := hPM c m _ hm hoc (fun e he hbb => hI.down c _ hoc hL e he hbb) i hb
          rw [hif] at this; cases this
    · intro hle
      cases hb : Nat.testBit (M.getD i 0) c with
      | false => rfl
      | true =>
        have := (hC k' c hc).1 (hn c hb)
        omega
  have hw0 : ∀ {b : Bool}, wantD ops r.env r.o = some b → Region.wanted r.o (yielded ops a.tmps) = b := fun h => wantD_ok htr h
  have nochain : (∀ k, r.kd ≠ .chain k) → ∀ (k1 c : Nat), C[k1]? = some c → ((L.setIfInBounds i true).getD c false = true ↔ k1 < k) := by
    intro hno k1 c hc
    have : c ≠ i := by
      rintro rfl
      obtain ⟨rc, hrc, hkk⟩ := hT.ch k1 c hc
      rw [hr] at hrc; cases hrc
      exact hno _ hkk
    rw [getD_set_ne false (Ne.symm this)]
    exact hC k1 c hc
  have noalloc : (∀ l cs, r.kd ≠ .alloc l cs) → ∀ x ∈ A, x.1 ≠ i := by
    rintro hno x hx rfl
    obtain ⟨r', hr', hkk⟩ := hal x hx
    rw [hr] at hr'; cases hr'
    exact hno _ _ hkk
  have hmem := hidden_mem hn A
  unfold KdOk at hkd
  unfold wpOp
  rw [ho]
  simp only
  cases hk : r.kd with
  | skip =>
    simp only [hk] at hkd
    rw [if_neg (by rw [hw0 hkd.1]; simp)]
    refine hK _ _ (hI.next hT hp hr hun hall ⟨G, h0, .refl G, hnew, hold⟩ hS (nochain (by rw [hk]; simp)) ?_ ?_)
    · rw [hide_congr (hidden_same (noalloc (by rw [hk]; simp)))]; exact hR
    · rw [hkd.2]; simp only [Rep, undef]; exact ⟨#[], rfl, by simp [Reps]⟩
  | read =>
    simp only [hk] at hkd
    rw [if_pos (hw0 hkd.1)]
    refine .inl (hkd.2 k σ hS hwin _ hmem B G w a hR htr _ _ ?_)
    rintro v w' G' d s' hle hR' hd ⟨rfl, rfl⟩
    refine hK _ _ (hI.next hT hp hr hun hall ⟨G, h0, hle, hnew, hold⟩ hS (nochain (by rw [hk]; simp)) ?_ hd)
    rw [hide_congr (hidden_same (noalloc (by rw [hk]; simp)))]; exact hR'
  | chain k0 =>
    simp only [hk] at hkd
    obtain ⟨hw, hci, hprev, σ1, σ2, hs1, hs2, hop⟩ := hkd
    rw [if_pos (hw0 hw)]
    have hk0 : k0 = k := by
      have h1 : ¬ k0 < k := fun h => by
        have := (hC k0 i hci).2 h
        rw [hif] at this; cases this
      rcases Nat.lt_or_ge k k0 with h2 | h2
      · exfalso
        obtain ⟨k1, rfl⟩ : ∃ k1, k0 = k1 + 1 := ⟨k0 - 1, by omega⟩
        have hlt := lt_of_getElem? hci
        obtain ⟨c, hc⟩ : ∃ c, C[k1]? = some c := ⟨C[k1], List.getElem?_eq_getElem (by omega)⟩
        have := (hC k1 c hc).1 (hn c (hprev k1 c rfl hc))
        omega
      · omega
    subst hk0
    rw [hS] at hs1; cases hs1
    refine .inl (hop _ hmem B G w a hR htr _ _ ?_)
    rintro v w' G' d s' hle hR' hd ⟨rfl, rfl⟩
    refine hK _ _ (hI.next hT hp hr hun hall ⟨G, h0, hle, hnew, hold⟩ hs2 ?_ ?_ hd)
    · intro k1 c hc
      rw [getD_set_iff hilt, hC k1 c hc]
      constructor
      · rintro (rfl | h)
        · obtain ⟨rc, hrc, hkk⟩ := hT.ch k1 c hc
          rw [hr] at hrc; cases hrc
          rw [hk] at hkk; cases hkk; omega
        · omega
      · intro h
        rcases Nat.lt_or_ge k1 k0 with h' | h'
        · exact .inr h'
        · have : k1 = k0 := by omega
          subst this
          rw [hci] at hc; cases hc; exact .inl rfl
    · rw [hide_congr (hidden_same (noalloc (by rw [hk]; simp)))]; exact hR'
  | alloc l cs =>
    simp only [hk] at hkd
    obtain ⟨hw, hAm, hv, e, hop, hz⟩ := hkd
    rw [if_pos (hw0 hw)]
    obtain ⟨x, hx, rfl, hx2⟩ : ∃ x ∈ A, x.1 = i ∧ x.2 = (l, cs) := ⟨_, hAm, rfl, rfl⟩
    have hσl : σ[l]? = some (.cells cs 0 0) := by
      have := hT.res x hx k σ hS fun k' c hc hlt => (hwin k' c hc).1 hlt
      rw [hx2] at this; exact this
    have hin : l ∈ hidden L A := mem_hidden.2 ⟨x, hx, hif, by rw [hx2]⟩
    have hdead : (hide (hidden L A) σ)[l]? = some .dead := by
      rw [hide_get, if_pos ⟨hin, lt_of_getElem? hσl⟩]
    refine .inl (aop_alloc_at (N := N) (τ := r.env) hop hz hdead B G w a hR htr _ _ ?_)
    rintro v w' G' d s' hle hR' hd ⟨rfl, rfl⟩
    refine hK _ _ (hI.next hT hp hr hun hall ⟨G, h0, hle, hnew, hold⟩ hS (nochain (by rw [hk]; simp)) ?_ (by rw [hv]; exact hd))
    rw [← hide_set (ls := hidden L A) (l := l) ?_ hσl]
    · exact hR'
    · intro y
      simp only [mem_hidden]
      constructor
      · rintro ⟨z, h1, h2, h3⟩
        have hne : z.1 ≠ x.1 := by
          intro e'
          rw [e', (getD_set_iff hilt).2 (.inl rfl)] at h2; cases h2
        rw [getD_set_ne false (Ne.symm hne)] at h2
        refine ⟨⟨z, h1, h2, h3⟩, ?_⟩
        rintro rfl
        exact hne (hinj z h1 x hx (by rw [h3, hx2]))
      · rintro ⟨⟨z, h1, h2, h3⟩, hne⟩
        refine ⟨z, h1, ?_, h3⟩
        have : z.1 ≠ x.1 := by
          intro e'
          obtain ⟨rz, hrz, hkz⟩ := hal z h1
          rw [e', hr] at hrz; cases hrz
          rw [hk] at hkz; cases hkz
          exact hne h3.symm
        rw [getD_set_ne false (Ne.symm this)]; exact h2

theorem adr_tabL {suf : List Oper} {K : Env → Sto → Prop} : ∀ (r : List Oper) (τ : Env) (S : List Sto) (C : List Nat) (tab : List Rc) (pre : List Oper), ops.toList = pre ++ r ++ suf → tab.length = pre.length →
    TabOk P N ops A M τ0 s0 tab S C τ → ADr P N ops A M r tab.length τ S C tab K →
    ∃ (tab' : List Rc) (S' : List Sto) (C' : List Nat) (τ' : Env) (σ' : Sto), tab'.length + suf.length = ops.size ∧ TabOk P N ops A M τ0 s0 tab' S' C' τ' ∧ S'.getLast? = some σ' ∧ K τ' σ' ∧ (∀ x ∈ A, ∃ r : Rc, tab'[x.1]? = some r ∧ r.kd = .alloc x.2.1 x.2.2)
  | [], τ, S, C, tab, pre, hops, hlen, hT, h => by
    obtain ⟨hal, σ, h1, h2⟩ := h
    have : ops.size = pre.length + suf.length := by have := congrArg List.length hops; simpa using this
    exact ⟨tab, S, C, τ, σ, by omega, hT, h1, h2, hal.mem⟩
  | o :: r, τ, S, C, tab, pre, hops, hlen, hT, h => by
    have ho : ops[tab.length]? = some o := by rw [← Array.getElem?_toList, hops, hlen, List.append_assoc]; simp
    have next : ∀ (r' : Rc) (τ2 : Env) (S' : List Sto) (C' : List Nat), r'.o = o → TabOk P N ops A M τ0 s0 (tab ++ [r']) S' C' τ2 → ADr P N ops A M r (tab.length + 1) τ2 S' C' (tab ++ [r']) K →
        ∃ (tab' : List Rc) (S' : List Sto) (C' : List Nat) (τ' : Env) (σ' : Sto), tab'.length + suf.length = ops.size ∧ TabOk P N ops A M τ0 s0 tab' S' C' τ' ∧ S'.getLast? = some σ' ∧ K τ' σ' ∧ (∀ x ∈ A, ∃ r : Rc, tab'[x.1]? = some r ∧ r.kd = .alloc x.2.1 x.2.2) := by
      intro r' τ2 S' C' hr hT' h'
      exact adr_tabL r τ2 S' C' (tab ++ [r']) (pre ++ [o]) (by simp [hops]) (by simp [hlen]) hT' (by simpa using h')
    rcases h with ⟨hw, τ2, hp, h⟩ | ⟨hw, d, τ2, hall, hp, h⟩ | ⟨hw, hch, d, τ2, σ, σ', hlast, hall, hre, hres, hp, h⟩ | ⟨hw, e, l, cs, τ2, hop, hA, hz, hp, h⟩
    · exact next ⟨o, rst ops o τ, .tuple [], .skip⟩ τ2 S C rfl (hT.push ho ⟨hw, rfl⟩ hp rfl) h
    · refine next ⟨o, rst ops o τ, d, .read⟩ τ2 S C rfl (hT.push ho ⟨hw, fun k σ hk hwin ls hls => ?_⟩ hp rfl) h
      refine hall.mem _ (List.mem_flatMap.2 ⟨σ, keepS_mem hk fun k' c hc hle => (hwin k' c hc).2 hle, List.mem_map.2 ⟨ls, hls, rfl⟩⟩)
    · refine next ⟨o, rst ops o τ, d, .chain C.length⟩ τ2 (S ++ [σ']) (C ++ [tab.length]) rfl (hT.pushC ho rfl ⟨hw, by simp, fun k1 c hk1 hc => ?_, σ, σ', ?_, ?_, fun ls hls => hall.mem ls hls⟩ hre.mem hres.mem hp rfl) h
      · have hc' : C.getLast? = some c := by
          rw [List.getElem?_append_left (by omega)] at hc
          rw [List.getLast?_eq_getElem?, hk1]; exact hc
        unfold chOk at hch
        rw [hc'] at hch
        exact hch
      · have : S[C.length]? = some σ := by
          rw [List.getLast?_eq_getElem?, hT.slen] at hlast; exact hlast
        exact push_old this
      · rw [← hT.slen]; simp
    · refine next ⟨o, rst ops o τ, .ptr l 0 0, .alloc l cs⟩ τ2 S C rfl (hT.push ho ⟨hw, resOf_mem hA, rfl, e, hop, hz⟩ hp rfl) h

def fullM (n m : Nat) : Bool := (List.range n).all fun j => Nat.testBit m j
theorem fullM_ok {n m : Nat} (h : fullM n m = true) : ∀ j, j < n → Nat.testBit m j = true := fun j hj => List.all_eq_true.1 h j (List.mem_range.2 hj)
theorem wpAny_done {Q : Exit → Act → World → Prop} {fuel : Nat} {L : Array Bool} {a : Act} {w : World} (hr : Region.ready .any ops L = []) (h : Q .normal a w) : wpAny P .any ops Q fuel L a w := by
  cases fuel with
  | zero => exact ⟨hr, h⟩
  | succ n => exact ⟨fun _ => h, fun i hi => by rw [hr] at hi; cases hi⟩
theorem drawn_wpL (hT : TabOk P N ops A M τ0 s0 tab S C τ) (hM : masks ops.toList [] = M) (hp : planOk ops M = true) {o : Oper} (hlen : tab.length + 1 = ops.size) (hlo : ops[tab.length]? = some o) (hfull : fullM tab.length (M.getD tab.length 0) = true)
    (hal : ∀ x ∈ A, ∃ r : Rc, tab[x.1]? = some r ∧ r.kd = .alloc x.2.1 x.2.2) (hinj : ∀ x ∈ A, ∀ y ∈ A, x.2.1 = y.2.1 → x.1 = y.1)
    {B : Base P} {G0 : Gh} {Q : AEx → Env → Sto → Prop} {σ : Sto} (hlast : S.getLast? = some σ) (hQ : AOps P N ops [o] τ σ fun τ' σ' => Q .normal τ' σ') :
    ∀ (fuel : Nat) (L : Array Bool) (a : Act) (w : World), L.toList.count false ≤ fuel → L.getD tab.length true = false → Inv fl ops A τ0 tab S C N B G0 L a w → wpAny P .any ops (liftQ fl B G0 N Q) fuel L a w := by
  have fin : ∀ (L : Array Bool) (a : Act) (w : World), Inv fl ops A τ0 tab S C N B G0 L a w → (∀ i, i < tab.length → L.getD i false = true) → ∃ G, G0.LeB fl G ∧ Rel B G σ w ∧ TRel G N τ a := by
    intro L a w hI hL
    obtain ⟨G, k, σ', h0, hS, hC, hR, hsz, hdf, hnew, hold⟩ := hI.st
    have hk : k = C.length := by
      have h1 : k < S.length := lt_of_getElem? hS
      rw [hT.slen] at h1
      rcases Nat.lt_or_ge k C.length with h2 | h2
      · exfalso
        obtain ⟨c, hc⟩ : ∃ c, C[k]? = some c := ⟨C[k], List.getElem?_eq_getElem h2⟩
        obtain ⟨rc, hrc, _⟩ := hT.ch k c hc
        have hlt := lt_of_getElem? hrc
        have := (hC k c hc).1 (hL c hlt)
        omega
      · omega
    have hσ : σ' = σ := by
      rw [List.getLast?_eq_getElem?, hT.slen] at hlast
      subst hk
      have hlast' : S[C.length]? = some σ := hlast
      rw [hS] at hlast'; exact Option.some.inj hlast'
    subst hσ
    have hh : hide (hidden L A) σ' = σ' := by
      rw [hide_congr (ls' := []) ?_]
      · rfl
      · intro x
        simp only [mem_hidden, List.not_mem_nil, iff_false]
        rintro ⟨y, hy, hf, _⟩
        obtain ⟨r, hr', _⟩ := hal y hy
        have hlt := lt_of_getElem? hr'
        rw [hL y.1 hlt] at hf; cases hf
    rw [hh] at hR
    refine ⟨G, h0, hR, ⟨hsz, hdf, fun t d hg => ?_⟩⟩
    rcases hT.fin t d hg with ⟨j, rj, hj, hrj, hdj, rfl⟩ | ⟨hno, hg0⟩
    · exact hnew j rj t hrj (hL j hj) hdj
    · exact hold t d hg0 fun j rj hrj _ => hno j rj (lt_of_getElem? hrj) hrj
  intro fuel
  induction fuel with
  | zero =>
    intro L a w hc hlf hI
    obtain ⟨hlt, hf⟩ := getD_false_of hlf
    have := count_false_zero (Nat.le_zero.1 hc) tab.length (by simpa using hlt)
    simp [Array.getD_eq_getD_getElem?, hlt] at hf
    simp [hlt, hf] at this
  | succ fuel ih =>
    intro L a w hc hlf hI
    refine ⟨fun hr => ?_, fun i hi => ?_⟩
    · obtain ⟨j, hj⟩ := ready_some hp hI.size tab.length tab.length (Nat.le_refl _) hlf
      rw [hr] at hj; cases hj
    obtain ⟨hun, oi, ho, hall⟩ := mem_ready.1 hi
    obtain ⟨hlt, hf⟩ := getD_false_of hun
    rcases Nat.lt_or_ge i tab.length with hir | hir
    · refine drawn_stepL hT hM hp hal hinj hI hir hi fun a' w' hI' => ih _ a' w' ?_ ?_ hI'
      · have h1 : L.toList[i]? = some false := by
          simp [Array.getD_eq_getD_getElem?, hlt] at hf
          simp [hlt, hf]
        have := count_false_set h1
        rw [Array.toList_setIfInBounds]
        omega
      · rw [getD_set_ne true (by omega)]; exact hlf
    · have hin : i = tab.length := by
        have := (Array.getElem?_eq_some_iff.1 ho).1
        omega
      subst hin
      rw [ho] at hlo
      cases hlo
      have hPM := masks_ok (ops := ops) (L := L) hI.down ops.toList [] [] (by simp) rfl (fun j m oj h => by simp at h)
      rw [hM] at hPM
      have hn : NeedsL L (M.getD tab.length 0) := by
        intro j hj
        cases hm : M[tab.length]? with
        | none => rw [List.getD_eq_getElem?_getD, hm] at hj; simp at hj
        | some m =>
          rw [List.getD_eq_getElem?_getD, hm] at hj
          exact hPM _ m _ hm ho hall j hj
      have hL : ∀ j, j < tab.length → L.getD j false = true := fun j hj => hn j (fullM_ok hfull j hj)
      obtain ⟨G, h0, hR, hTR⟩ := fin L a w hI hL
      have hdone : Region.ready .any ops (L.setIfInBounds tab.length true) = [] := by
        rw [List.eq_nil_iff_forall_not_mem]
        intro x hx
        obtain ⟨hxu, ox, hox, _⟩ := mem_ready.1 hx
        obtain ⟨hxl, hxf⟩ := getD_false_of hxu
        have hxs := (Array.getElem?_eq_some_iff.1 hox).1
        have : (L.setIfInBounds tab.length true).getD x false = true := (getD_set_iff hlt).2 (by
          rcases Nat.lt_or_ge x tab.length with h | h
          · exact .inr (hL x h)
          · exact .inl (by omega))
        rw [this] at hxf; cases hxf
      unfold wpOp
      rw [ho]
      simp only
      rcases hQ with ⟨hw, hop⟩ | ⟨hw, τ', hpd, hr⟩
      · rw [if_pos (wantD_ok hTR hw)]
        refine .inl (hop B G w a hR hTR _ _ ?_)
        rintro v w' G' d σ' hle hR' hd ⟨τ', hpd, hr⟩
        exact wpAny_done hdone ⟨G', τ', σ', h0.trans hle.b, hR', putD_ok (hTR.mono hle) hpd hd, hr⟩
      · rw [if_neg (by rw [wantD_ok hTR hw]; simp)]
        exact wpAny_done hdone ⟨G, τ', σ, h0, hR, putD_ok hTR hpd (by simp only [Rep, undef]; exact ⟨#[], rfl, by simp [Reps]⟩), hr⟩
end
theorem awp_drawnL {fl : Nat} {P : Program} {N : Nat} {τ : Env} {σ : Sto} {id : Nat} {ops : Array Oper} {Q : AEx → Env → Sto → Prop} (hm : P.follows .mixedOrders = true) (A : Res) {M : List Nat} {pre : List Oper} {o : Oper} (hops : ops.toList = pre ++ [o]) (hfull : fullM pre.length (M.getD pre.length 0) = true)
    (hM : masks ops.toList [] = M) (hp : planOk ops M = true) (hA : A.map (·.2.1) = List.range' σ.length A.length)
    (h : ADr P N ops A M pre 0 τ [σ ++ A.map fun x => AObj.cells x.2.2 0 0] [] [] (fun τ' σ' => AOps P N ops [o] τ' σ' fun τ2 σ2 => Q .normal τ2 σ2)) : AWp fl P N (.region id ops true) τ σ Q := by
  intro B G w a hR hT
  have hget : ∀ x ∈ A, (σ ++ A.map fun x => AObj.cells x.2.2 0 0)[x.2.1]? = some (.cells x.2.2 0 0) ∧ ∃ n, A[n]? = some x ∧ x.2.1 = σ.length + n := by
    intro x hx
    obtain ⟨n, hn⟩ := List.getElem?_of_mem hx
    have h1 : (A.map (·.2.1))[n]? = some x.2.1 := by simp [hn]
    rw [hA] at h1
    have hlt := lt_of_getElem? hn
    rw [List.getElem?_range' hlt] at h1
    simp at h1
    refine ⟨?_, n, hn, h1.symm⟩
    rw [← h1, List.getElem?_append_right (by omega)]
    simp [hn]
  have hinj : ∀ x ∈ A, ∀ y ∈ A, x.2.1 = y.2.1 → x.1 = y.1 := by
    intro x hx y hy e
    obtain ⟨_, n, hn, h1⟩ := hget x hx
    obtain ⟨_, m, hm', h2⟩ := hget y hy
    have : n = m := by omega
    subst this
    rw [hn] at hm'; cases hm'; rfl
  obtain ⟨tab', S', C', τ', σ', hlen, hTab, hlast, hK, hal⟩ := adr_tabL (suf := [o]) (τ0 := τ) (s0 := σ ++ A.map fun x => AObj.cells x.2.2 0 0) pre τ _ [] [] [] (by simp [hops]) rfl ⟨fun i r h => by simp at h, rfl, rfl, fun k c h => by simp at h,
    fun x hx k s hs _ => by
      have : s = σ ++ A.map fun x => AObj.cells x.2.2 0 0 := by
        cases k with
        | zero => simp at hs; exact hs.symm
        | succ k => simp at hs
      subst this
      exact (hget x hx).1, fun i r h => by simp at h, fun t d hg => .inr ⟨fun j rj hj _ => absurd hj (Nat.not_lt_zero _), hg⟩, fun i r t h => by simp at h⟩ h
  have hsz : ops.size = pre.length + 1 := by have := congrArg List.length hops; simpa using this
  have hpl : tab'.length = pre.length := by simp at hlen; omega
  refine wp_region_any hm (drawn_wpL hTab hM hp (by simpa using hlen) (o := o) (by rw [hpl, ← Array.getElem?_toList, hops]; simp) (by rw [hpl]; exact hfull) hal hinj hlast hK ops.size _ a _ (by simp) (by simp [Array.getD_eq_getD_getElem?, hpl, hsz]) ⟨by simp, fun j oj hoj hL => ?_, ?_⟩)
  · exfalso
    rcases Nat.lt_or_ge j ops.size with h' | h'
    · simp [Array.getD_eq_getD_getElem?, h'] at hL
    · simp [Array.getD_eq_getD_getElem?, h'] at hL
  · have hrep : ∀ j, (Array.replicate ops.size false).getD j false = false := by
      intro j
      rcases Nat.lt_or_ge j ops.size with h' | h'
      · simp [Array.getD_eq_getD_getElem?, h']
      · simp [Array.getD_eq_getD_getElem?, h']
    refine ⟨G, 0, _, .refl G, hTab.hd, fun k' c hc => ?_, ?_, hT.size, hT.defers, fun i r t _ hL _ => ?_, fun t d hg _ => hT.slot t d hg⟩
    · rw [hrep c]; simp
    · have : hide (hidden (Array.replicate ops.size false) A) (σ ++ A.map fun x => AObj.cells x.2.2 0 0) = σ ++ List.replicate A.length .dead := by
        refine sto_ext fun x => ?_
        rw [hide_get]
        have hin : x ∈ hidden (Array.replicate ops.size false) A ↔ (σ.length ≤ x ∧ x < σ.length + A.length) := by
          rw [mem_hidden]
          constructor
          · rintro ⟨y, hy, _, rfl⟩
            obtain ⟨_, n, hn, h1⟩ := hget y hy
            have := lt_of_getElem? hn
            omega
          · rintro ⟨h1, h2⟩
            have hlt : x - σ.length < A.length := by omega
            refine ⟨A[x - σ.length], List.getElem_mem _, hrep _, ?_⟩
            obtain ⟨_, n, hn, h3⟩ := hget _ (List.getElem_mem hlt)
            have h4 : (A.map (·.2.1))[x - σ.length]? = some (A[x - σ.length]).2.1 := by simp [hlt]
            rw [hA, List.getElem?_range' hlt] at h4
            simp at h4
            omega
        by_cases hx : σ.length ≤ x ∧ x < σ.length + A.length
        · rw [if_pos ⟨hin.2 hx, by simp; exact hx.2⟩, List.getElem?_append_right hx.1, List.getElem?_replicate, if_pos (by omega)]
        · rw [if_neg (fun h => hx (hin.1 h.1))]
          rcases Nat.lt_or_ge x σ.length with h' | h'
          · rw [List.getElem?_append_left h', List.getElem?_append_left h']
          · rw [List.getElem?_eq_none (by simp; omega), List.getElem?_eq_none (by simp; omega)]
      rw [this]
      exact (hR.dead _).drawn
    · rw [hrep i] at hL; cases hL
end Go.Fw
namespace Go.Fw
open Go.RowKit
def posN : List Nat → Nat → Nat → Option Nat
  | [], _, _ => none
  | j :: r, i, k => match Nat.beq j i with
    | true => some k
    | false => posN r i (k + 1)
theorem nbeq' {a b : Nat} (h : Nat.beq a b = true) : a = b := Nat.eq_of_beq_eq_true h
theorem posN_some : ∀ {ids : List Nat} {i k m : Nat}, posN ids i k = some m → ∃ j, m = k + j ∧ ids[j]? = some i
  | [], _, _, _, h => by simp [posN] at h
  | x :: r, i, k, m, h => by
    simp only [posN] at h
    split at h
    · rename_i e
      cases h
      exact ⟨0, rfl, by simp [nbeq' e]⟩
    · obtain ⟨j, h1, h2⟩ := posN_some h
      exact ⟨j + 1, by omega, by simpa using h2⟩
theorem posN_none : ∀ {ids : List Nat} {i k : Nat}, posN ids i k = none → i ∉ ids
  | [], _, _, _ => by simp
  | x :: r, i, k, h => by
    simp only [posN] at h
    split at h
    · cases h
    · rename_i e
      have := posN_none h
      simp only [List.mem_cons, not_or]
      exact ⟨fun e' => (by subst e'; rw [Nat.beq_refl] at e; cases e), this⟩
theorem posN_at {ids : List Nat} (hn : ids.Nodup) {k i : Nat} (h : ids[k]? = some i) : posN ids i 0 = some k := by
  cases hp : posN ids i 0 with
  | none => exact absurd (List.mem_of_getElem? h) (posN_none hp)
  | some m =>
    obtain ⟨j, h1, h2⟩ := posN_some hp
    have hk := (List.getElem?_eq_some_iff.1 h)
    obtain ⟨hk1, hk2⟩ := hk
    obtain ⟨hj1, hj2⟩ := List.getElem?_eq_some_iff.1 h2
    have := (List.getElem_inj hn).1 (hj2.trans hk2.symm)
    congr 1; omega
def subE (ids : List Nat) : List Edge → List Edge
  | [] => []
  | e :: es => match Region.binds .any e with
    | true => match posN ids e.on 0 with
      | some k => { e with on := k } :: subE ids es
      | none => subE ids es
    | false => subE ids es
theorem subE_mem {ids : List Nat} {e' : Edge} : ∀ {es : List Edge}, e' ∈ subE ids es → ∃ e ∈ es, Region.binds .any e = true ∧ posN ids e.on 0 = some e'.on
  | [], h => by simp [subE] at h
  | e :: es, h => by
    have rest : e' ∈ subE ids es → ∃ x ∈ e :: es, Region.binds .any x = true ∧ posN ids x.on 0 = some e'.on := fun h => by
      obtain ⟨x, h1, h2⟩ := subE_mem h
      exact ⟨x, List.mem_cons_of_mem _ h1, h2⟩
    simp only [subE] at h
    split at h
    · rename_i hb
      split at h
      · rename_i k hk
        rcases List.mem_cons.1 h with rfl | h
        · exact ⟨e, List.mem_cons_self .., hb, hk⟩
        · exact rest h
      · exact rest h
    · exact rest h
theorem mem_subE {ids : List Nat} {e : Edge} {k : Nat} (hb : Region.binds .any e = true) (hk : posN ids e.on 0 = some k) : ∀ {es : List Edge}, e ∈ es → ({ e with on := k } : Edge) ∈ subE ids es
  | [], h => by simp at h
  | x :: es, h => by
    simp only [subE]
    rcases List.mem_cons.1 h with rfl | h
    · rw [hb]; simp only [hk]; exact List.mem_cons_self ..
    · have ih := mem_subE hb hk h
      split
      · split
        · exact List.mem_cons_of_mem _ ih
        · exact ih
      · exact ih
def subO (ids : List Nat) (o : Oper) : Oper := { o with after := (subE ids o.after.toList).toArray }
def subL (ops : Array Oper) (all : List Nat) : List Nat → List Oper
  | [] => []
  | i :: r => match ops[i]? with
    | some o => subO all o :: subL ops all r
    | none => subL ops all r
def subOps (ops : Array Oper) (ids : List Nat) : Array Oper := (subL ops ids ids).toArray
theorem subL_get {ops : Array Oper} {all : List Nat} : ∀ {ids : List Nat}, (∀ i ∈ ids, i < ops.size) → (subL ops all ids).length = ids.length ∧ ∀ k : Nat, (subL ops all ids)[k]? = (ids[k]?).bind fun i => (ops[i]?).map (subO all)
  | [], _ => by simp [subL]
  | i :: r, h => by
    obtain ⟨h1, h2⟩ := subL_get (ops := ops) (all := all) (ids := r) (fun i hi => h i (List.mem_cons_of_mem _ hi))
    have hi : ops[i]? = some (ops[i]'(h i (List.mem_cons_self ..))) := Array.getElem?_eq_getElem _
    simp only [subL, hi]
    refine ⟨by simp [h1], fun k => ?_⟩
    cases k with
    | zero => simp [hi]
    | succ k => simpa using h2 k
section
variable {P : Program} {ops : Array Oper} {ids : List Nat}
theorem subOps_size (hlt : ∀ i ∈ ids, i < ops.size) : (subOps ops ids).size = ids.length := by
  unfold subOps; simpa using (subL_get (ops := ops) (all := ids) hlt).1
theorem subOps_get (hlt : ∀ i ∈ ids, i < ops.size) {k i : Nat} (h : ids[k]? = some i) : ∃ o, ops[i]? = some o ∧ (subOps ops ids)[k]? = some (subO ids o) := by
  have hi : ops[i]? = some (ops[i]'(hlt i (List.mem_of_getElem? h))) := Array.getElem?_eq_getElem _
  refine ⟨_, hi, ?_⟩
  unfold subOps
  rw [List.getElem?_toArray, (subL_get (ops := ops) (all := ids) hlt).2 k, h]
  simp [hi]
theorem subOps_inv (hlt : ∀ i ∈ ids, i < ops.size) {k : Nat} {o' : Oper} (h : (subOps ops ids)[k]? = some o') : ∃ i o, ids[k]? = some i ∧ ops[i]? = some o ∧ o' = subO ids o := by
  have hk : k < ids.length := by rw [← subOps_size hlt]; exact (Array.getElem?_eq_some_iff.1 h).1
  obtain ⟨o, h1, h2⟩ := subOps_get hlt (List.getElem?_eq_getElem hk)
  rw [h] at h2; cases h2
  exact ⟨_, o, List.getElem?_eq_getElem hk, h1, rfl⟩
def noGuard (ops : Array Oper) : Bool := ops.toList.all fun o => o.guard.isNone
theorem noGuard_ok (h : noGuard ops = true) {i : Nat} {o : Oper} (ho : ops[i]? = some o) : o.guard = none := by
  have := List.all_eq_true.1 h o (List.mem_of_getElem? (by rw [Array.getElem?_toList]; exact ho))
  simpa using this
theorem wpOp_sub {Q : Exit → Act → World → Prop} {K : Act → World → Prop} {a : Act} {w : World} (hg : noGuard ops = true) {k i : Nat} {o : Oper} (h1 : ops[i]? = some o) (h2 : (subOps ops ids)[k]? = some (subO ids o)) (h : wpOp P (subOps ops ids) Q k K a w) : wpOp P ops Q i K a w := by
  have hn := noGuard_ok hg h1
  unfold wpOp at h ⊢
  rw [h2] at h
  rw [h1]
  simp only at h ⊢
  have e1 : ∀ y, Region.wanted o y = true := fun y => by unfold Region.wanted; rw [hn]
  have e2 : ∀ y, Region.wanted (subO ids o) y = true := fun y => by unfold Region.wanted subO; simp only [hn]
  rw [if_pos (e2 _)] at h
  rw [if_pos (e1 _)]
  exact h
theorem wpOp_sub' {Q : Exit → Act → World → Prop} {K : Act → World → Prop} {a : Act} {w : World} (hg : noGuard ops = true) {i : Nat} {o : Oper} (h1 : ops[i]? = some o) (h : o.wp P a w K Q) : wpOp P ops Q i K a w := by
  have hn := noGuard_ok hg h1
  unfold wpOp
  rw [h1]
  simp only
  have e1 : ∀ y, Region.wanted o y = true := fun y => by unfold Region.wanted; rw [hn]
  rw [if_pos (e1 _)]
  exact .inl h
structure Sb (ids : List Nat) (n : Nat) (L L' : Array Bool) : Prop where
  s1 : L.size = n
  s2 : L'.size = ids.length
  at' : ∀ (k i : Nat), ids[k]? = some i → L.getD i false = L'.getD k false
theorem getD_tf {L : Array Bool} {i : Nat} (h : i < L.size) : L.getD i true = L.getD i false := by
  simp [Array.getD_eq_getD_getElem?, h]
theorem getD_ff {L : Array Bool} {i : Nat} (h : L.getD i true = false) : L.getD i false = false := (getD_false_of h).2
theorem Sb.tr {n : Nat} {L L' : Array Bool} (h : Sb ids n L L') (hlt : ∀ i ∈ ids, i < n) {k i : Nat} (hk : ids[k]? = some i) : L.getD i true = L'.getD k true := by
  rw [getD_tf (by rw [h.s1]; exact hlt i (List.mem_of_getElem? hk)), getD_tf (by rw [h.s2]; exact (List.getElem?_eq_some_iff.1 hk).1)]
  exact h.at' k i hk
theorem Sb.set {n : Nat} {L L' : Array Bool} (h : Sb ids n L L') (hn : ids.Nodup) (hlt : ∀ i ∈ ids, i < n) {k i : Nat} (hk : ids[k]? = some i) : Sb ids n (L.setIfInBounds i true) (L'.setIfInBounds k true) := by
  refine ⟨by simp [h.s1], by simp [h.s2], fun m j hj => ?_⟩
  have hil : i < L.size := by rw [h.s1]; exact hlt i (List.mem_of_getElem? hk)
  have hkl : k < L'.size := by rw [h.s2]; exact (List.getElem?_eq_some_iff.1 hk).1
  by_cases e : m = k
  · subst e
    rw [hk] at hj; cases hj
    rw [(getD_set_iff hil).2 (.inl rfl), (getD_set_iff hkl).2 (.inl rfl)]
  · have e' : j ≠ i := fun e' => by
      subst e'
      obtain ⟨a1, a2⟩ := List.getElem?_eq_some_iff.1 hj
      obtain ⟨b1, b2⟩ := List.getElem?_eq_some_iff.1 hk
      exact e ((List.getElem_inj hn).1 (a2.trans b2.symm))
    rw [getD_set_ne false (Ne.symm e'), getD_set_ne false (Ne.symm e)]
    exact h.at' m j hj
theorem Sb.out {n : Nat} {L L' : Array Bool} (h : Sb ids n L L') {c : Nat} (hc : c ∉ ids) : Sb ids n (L.setIfInBounds c true) L' := by
  refine ⟨by simp [h.s1], h.s2, fun m j hj => ?_⟩
  have : c ≠ j := fun e => hc (e ▸ List.mem_of_getElem? hj)
  rw [getD_set_ne false this]
  exact h.at' m j hj
theorem ready_up {L L' : Array Bool} (h : Sb ids ops.size L L') (hlt : ∀ i ∈ ids, i < ops.size) (hn : ids.Nodup) {k i : Nat} (hk : ids[k]? = some i) (hr : k ∈ Region.ready .any (subOps ops ids) L') 
    (ho : ∀ o, ops[i]? = some o → ∀ e ∈ o.after, Region.binds .any e = true → e.on ∉ ids → L.getD e.on false = true) : i ∈ Region.ready .any ops L := by
  obtain ⟨h1, o', h2, h3⟩ := mem_ready.1 hr
  obtain ⟨o, h4, h5⟩ := subOps_get hlt hk
  rw [h2] at h5; cases h5
  refine mem_ready.2 ⟨by rw [h.tr hlt hk]; exact h1, o, h4, fun e he hb => ?_⟩
  cases hp : posN ids e.on 0 with
  | none => exact ho o h4 e he hb (posN_none hp)
  | some m =>
    obtain ⟨j, e1, e2⟩ := posN_some hp
    rw [Nat.zero_add] at e1; subst e1
    rw [h.at' m e.on e2]
    have := mem_subE hb hp (es := o.after.toList) (by simpa using he)
    exact h3 { e with on := m } (by unfold subO; simpa using this) (by simpa [Region.binds] using hb)
theorem ready_dn {L L' : Array Bool} (h : Sb ids ops.size L L') (hlt : ∀ i ∈ ids, i < ops.size) {k i : Nat} (hk : ids[k]? = some i) (hr : i ∈ Region.ready .any ops L) : k ∈ Region.ready .any (subOps ops ids) L' := by
  obtain ⟨h1, o, h2, h3⟩ := mem_ready.1 hr
  obtain ⟨o', h4, h5⟩ := subOps_get hlt hk
  rw [h2] at h4; cases h4
  refine mem_ready.2 ⟨by rw [← h.tr hlt hk]; exact h1, _, h5, fun e' he' _ => ?_⟩
  have he' : e' ∈ subE ids o.after.toList := by unfold subO at he'; simpa using he'
  obtain ⟨e, g1, g2, g3⟩ := subE_mem he'
  obtain ⟨j, e1, e2⟩ := posN_some g3
  rw [Nat.zero_add] at e1; subst e1
  rw [← h.at' e'.on e.on e2]
  exact h3 e (by simpa using g1) g2
theorem wpAny_sub {Q : Exit → Act → World → Prop} (hg : noGuard ops = true) (hlt : ∀ i ∈ ids, i < ops.size) (hn : ids.Nodup) (hord : ordOk ops.toList 0 = true) : ∀ (fuel : Nat) (L L' : Array Bool) (a : Act) (w : World), Sb ids ops.size L L' →
    (∀ i, i < ops.size → i ∉ ids → L.getD i false = true) → wpAny P .any (subOps ops ids) Q fuel L' a w → wpAny P .any ops Q fuel L a w := by
  have side : ∀ {L : Array Bool}, (∀ i, i < ops.size → i ∉ ids → L.getD i false = true) → ∀ {i : Nat} o, ops[i]? = some o → ∀ e ∈ o.after, Region.binds .any e = true → e.on ∉ ids → L.getD e.on false = true := by
    intro L hL i o ho e he hb hni
    have h1 := ordOk_ok hord (i := i) (o := o) (by rw [Array.getElem?_toList]; exact ho) e he hb
    have h2 := (Array.getElem?_eq_some_iff.1 ho).1
    exact hL _ (by omega) hni
  have emp : ∀ {L L' : Array Bool}, Sb ids ops.size L L' → (∀ i, i < ops.size → i ∉ ids → L.getD i false = true) → Region.ready .any ops L = [] → Region.ready .any (subOps ops ids) L' = [] := by
    intro L L' h hL hr
    rw [List.eq_nil_iff_forall_not_mem] at hr ⊢
    intro k hk
    obtain ⟨_, o', h2, _⟩ := mem_ready.1 hk
    obtain ⟨i, o, h3, h4, _⟩ := subOps_inv hlt h2
    exact hr i (ready_up h hlt hn h3 hk fun o ho => side hL o ho)
  have isin : ∀ {L : Array Bool}, (∀ i, i < ops.size → i ∉ ids → L.getD i false = true) → ∀ {i : Nat}, i ∈ Region.ready .any ops L → ∃ k : Nat, ids[k]? = some i := by
    intro L hL i hi
    obtain ⟨h1, o, h2, _⟩ := mem_ready.1 hi
    have hlt2 := (Array.getElem?_eq_some_iff.1 h2).1
    by_cases hm : i ∈ ids
    · exact List.getElem?_of_mem hm
    · have := hL i hlt2 hm
      rw [getD_ff h1] at this; cases this
  intro fuel
  induction fuel with
  | zero =>
    intro L L' a w h hL hw
    refine ⟨?_, hw.2⟩
    rw [List.eq_nil_iff_forall_not_mem]
    intro i hi
    obtain ⟨k, hk⟩ := isin hL hi
    have := ready_dn h hlt hk hi
    rw [hw.1] at this; cases this
  | succ fuel ih =>
    intro L L' a w h hL hw
    refine ⟨fun hr => hw.1 (emp h hL hr), fun i hi => ?_⟩
    obtain ⟨k, hk⟩ := isin hL hi
    have hkr := ready_dn h hlt hk hi
    obtain ⟨o, h1, h2⟩ := subOps_get hlt hk
    refine wpOp_mono (fun a w x => ih _ _ a w (h.set hn hlt hk) (fun j hj hnj => ?_) x) (wpOp_sub hg h1 h2 (hw.2 k hkr))
    have hm := List.mem_of_getElem? hk
    rw [getD_set_ne false (fun e => hnj (by rw [← e]; exact hm))]
    exact hL j hj hnj
theorem DownCl.step {L : Array Bool} (h : DownCl ops L) (hs : L.size = ops.size) {i : Nat} (hi : i ∈ Region.ready .any ops L) : DownCl ops (L.setIfInBounds i true) := by
  obtain ⟨h1, o, h2, h3⟩ := mem_ready.1 hi
  have hil := (getD_false_of h1).1
  intro j oj hoj hL e he hb
  have hnow : L.getD e.on false = true := by
    rcases (getD_set_iff hil).1 hL with rfl | hL
    · rw [h2] at hoj; cases hoj; exact h3 e he hb
    · exact h j oj hoj hL e he hb
  exact (getD_set_iff hil).2 (.inr hnow)
theorem wpAny_split {Q : Exit → Act → World → Prop} {M : List Nat} {c : Nat} {J : Array Bool → Act → World → Prop} (hg : noGuard ops = true) (hlt : ∀ i ∈ ids, i < ops.size) (hn : ids.Nodup) (hM : masks ops.toList [] = M) (hp : planOk ops M = true) (hc : c < ops.size) (hci : c ∉ ids) {m : Nat} (hm1 : 1 ≤ m)
    (hpost : ∀ i, i < ops.size → i ∉ ids → i ≠ c → Nat.testBit (M.getD i 0) c = true)
    (hstep : ∀ (L' : Array Bool) (a : Act) (w : World) (k : Nat), J L' a w → k ∈ Region.ready .any (subOps ops ids) L' → ∀ K : Act → World → Prop, (∀ a' w', J (L'.setIfInBounds k true) a' w' → K a' w') → wpOp P (subOps ops ids) Q k K a w)
    (hgreat : ∀ (fuel : Nat) (L L' : Array Bool) (a : Act) (w : World), J L' a w → Sb ids ops.size L L' → (∀ i, i < ops.size → i ∉ ids → L.getD i false = false) → DownCl ops L → NeedsL L (M.getD c 0) → L'.toList.count false + m ≤ fuel + 1 → wpOp P ops Q c (wpAny P .any ops Q fuel (L.setIfInBounds c true)) a w) :
    ∀ (fuel : Nat) (L L' : Array Bool) (a : Act) (w : World), J L' a w → Sb ids ops.size L L' → (∀ i, i < ops.size → i ∉ ids → L.getD i false = false) → DownCl ops L → L'.toList.count false + m ≤ fuel → wpAny P .any ops Q fuel L a w := by
  have some' : ∀ {L L' : Array Bool}, Sb ids ops.size L L' → (∀ i, i < ops.size → i ∉ ids → L.getD i false = false) → ∃ j, j ∈ Region.ready .any ops L := by
    intro L L' h hL
    exact ready_some hp h.s1 c c (Nat.le_refl _) (by rw [getD_tf (by rw [h.s1]; exact hc)]; exact hL c hc hci)
  have needs : ∀ {L : Array Bool}, DownCl ops L → ∀ {i : Nat}, i ∈ Region.ready .any ops L → NeedsL L (M.getD i 0) := by
    intro L hd i hi
    obtain ⟨h1, o, h2, h3⟩ := mem_ready.1 hi
    have hPM := masks_ok (ops := ops) (L := L) hd ops.toList [] [] (by simp) rfl (fun j m oj h => by simp at h)
    rw [hM] at hPM
    intro j hj
    cases hm : M[i]? with
    | none => rw [List.getD_eq_getElem?_getD, hm] at hj; simp at hj
    | some m =>
      rw [List.getD_eq_getElem?_getD, hm] at hj
      exact hPM i m o hm h2 h3 j hj
  intro fuel
  induction fuel with
  | zero =>
    intro L L' a w hJ h hL hd hcnt
    exfalso
    omega
  | succ fuel ih =>
    intro L L' a w hJ h hL hd hcnt
    refine ⟨fun hr => ?_, fun i hi => ?_⟩
    · obtain ⟨j, hj⟩ := some' h hL
      rw [hr] at hj; cases hj
    obtain ⟨h1, o, h2, h3⟩ := mem_ready.1 hi
    have hil := (Array.getElem?_eq_some_iff.1 h2).1
    by_cases hic : i = c
    · subst hic
      exact hgreat fuel L L' a w hJ h hL hd (needs hd hi) hcnt
    by_cases hm : i ∈ ids
    · obtain ⟨k, hk⟩ := List.getElem?_of_mem hm
      have hkr := ready_dn h hlt hk hi
      obtain ⟨o', h4, h5⟩ := subOps_get hlt hk
      refine wpOp_sub hg h4 h5 (hstep L' a w k hJ hkr _ fun a' w' hJ' => ih _ _ a' w' hJ' (h.set hn hlt hk) (fun j hj hnj => ?_) (hd.step h.s1 hi) ?_)
      · rw [getD_set_ne false (fun e => hnj (by rw [← e]; exact hm))]
        exact hL j hj hnj
      · have hf : L'.getD k false = false := by rw [← h.at' k i hk]; exact getD_ff h1
        have h6 : L'.toList[k]? = some false := by
          have hl2 : k < L'.size := by rw [h.s2]; exact (List.getElem?_eq_some_iff.1 hk).1
          simp [Array.getD_eq_getD_getElem?, hl2] at hf
          simp [hl2, hf]
        have := count_false_set h6
        rw [Array.toList_setIfInBounds]
        omega
    · have := needs hd hi c (hpost i hil hm hic)
      rw [hL c hc hci] at this; cases this
end
end Go.Fw
namespace Go.Fw
open Go.RowKit
def ADg (P : Program) (N : Nat) (ops : Array Oper) (A : Res) (M : List Nat) (fr : Nat → Bool) : List Oper → Nat → Env → List Sto → List Nat → List Rc → (Env → Sto → Prop) → Prop
  | [], _, τ, S, _, tab, K => AllP (fun (x : Nat × Nat × List D) => ∃ r, tab[x.1]? = some r ∧ r.kd = .alloc x.2.1 x.2.2) A ∧ ∃ σ, S.getLast? = some σ ∧ K τ σ
  | o :: r, i, τ, S, C, tab, K =>
    (wantD ops (rst ops o τ) o = some false ∧ ∃ τ2, putD N o.dst (.tuple []) τ = some τ2 ∧ ADg P N ops A M fr r (i + 1) τ2 S C (tab ++ [⟨o, rst ops o τ, .tuple [], .skip⟩]) K) ∨
    (wantD ops (rst ops o τ) o = some true ∧ ∃ d τ2,
      AllP (fun s => AOp P N o (rst ops o τ) s fun d' s' => d' = d ∧ s' = s) ((keepS (M.getD i 0) S C).flatMap fun σ => (subsA A (M.getD i 0)).map (hide · σ)) ∧
      putD N o.dst d τ = some τ2 ∧ ADg P N ops A M fr r (i + 1) τ2 S C (tab ++ [⟨o, rst ops o τ, d, .read⟩]) K) ∨
    (wantD ops (rst ops o τ) o = some true ∧ chOk (M.getD i 0) C = true ∧ fr i = false ∧ ∃ d τ2 σ σ', S.getLast? = some σ ∧
      AllP (fun ls => AOp P N o (rst ops o τ) (hide ls σ) fun d' s' => d' = d ∧ s' = hide ls σ') (subsA A (M.getD i 0)) ∧
      AllP (fun (x : Rc × Sto) => AOp P N x.1.o x.1.env x.2 fun d' s' => d' = x.1.v ∧ s' = x.2) (reS A M (C ++ [i]) σ' 0 tab) ∧
      AllP (fun (x : Nat × Nat × List D) => match Nat.testBit (M.getD i 0) x.1 with | true => True | false => σ'[x.2.1]? = some (.cells x.2.2 0 0)) A ∧
      putD N o.dst d τ = some τ2 ∧ ADg P N ops A M fr r (i + 1) τ2 (S ++ [σ']) (C ++ [i]) (tab ++ [⟨o, rst ops o τ, d, .chain C.length⟩]) K) ∨
    (wantD ops (rst ops o τ) o = some true ∧ ∃ e l cs τ2, o.op = .alloc e ∧ resOf? A i = some (l, cs) ∧ tyZero P e = some cs ∧
      putD N o.dst (.ptr l 0 0) τ = some τ2 ∧ ADg P N ops A M fr r (i + 1) τ2 S C (tab ++ [⟨o, rst ops o τ, .ptr l 0 0, .alloc l cs⟩]) K)

section
variable {P : Program} {N : Nat} {ops : Array Oper} {A : Res} {M : List Nat} {τ0 : Env} {s0 : Sto} {tab : List Rc} {S : List Sto} {C : List Nat} {τ τ2 : Env}
theorem adg_tab {fr : Nat → Bool} {K : Env → Sto → Prop} : ∀ (r : List Oper) (τ : Env) (S : List Sto) (C : List Nat) (tab : List Rc) (pre : List Oper), ops.toList = pre ++ r → tab.length = pre.length →
    (∀ c ∈ C, fr c = false) → TabOk P N ops A M τ0 s0 tab S C τ → ADg P N ops A M fr r tab.length τ S C tab K →
    ∃ (tab' : List Rc) (S' : List Sto) (C' : List Nat) (τ' : Env) (σ' : Sto), tab'.length = ops.size ∧ TabOk P N ops A M τ0 s0 tab' S' C' τ' ∧ S'.getLast? = some σ' ∧ K τ' σ' ∧ (∀ c ∈ C', fr c = false) ∧ (∀ x ∈ A, ∃ r : Rc, tab'[x.1]? = some r ∧ r.kd = .alloc x.2.1 x.2.2)
  | [], τ, S, C, tab, pre, hops, hlen, hF, hT, h => by
    obtain ⟨hal, σ, h1, h2⟩ := h
    have : ops.size = pre.length := by have := congrArg List.length hops; simpa using this
    exact ⟨tab, S, C, τ, σ, by omega, hT, h1, h2, hF, hal.mem⟩
  | o :: r, τ, S, C, tab, pre, hops, hlen, hF, hT, h => by
    have ho : ops[tab.length]? = some o := by rw [← Array.getElem?_toList, hops, hlen]; simp
    have next : ∀ (r' : Rc) (τ2 : Env) (S' : List Sto) (C' : List Nat), r'.o = o → (∀ c ∈ C', fr c = false) → TabOk P N ops A M τ0 s0 (tab ++ [r']) S' C' τ2 → ADg P N ops A M fr r (tab.length + 1) τ2 S' C' (tab ++ [r']) K →
        ∃ (tab' : List Rc) (S' : List Sto) (C' : List Nat) (τ' : Env) (σ' : Sto), tab'.length = ops.size ∧ TabOk P N ops A M τ0 s0 tab' S' C' τ' ∧ S'.getLast? = some σ' ∧ K τ' σ' ∧ (∀ c ∈ C', fr c = false) ∧ (∀ x ∈ A, ∃ r : Rc, tab'[x.1]? = some r ∧ r.kd = .alloc x.2.1 x.2.2) := by
      intro r' τ2 S' C' hr hF' hT' h'
      exact adg_tab r τ2 S' C' (tab ++ [r']) (pre ++ [o]) (by simp [hops]) (by simp [hlen]) hF' hT' (by simpa using h')
    rcases h with ⟨hw, τ2, hp, h⟩ | ⟨hw, d, τ2, hall, hp, h⟩ | ⟨hw, hch, hfi, d, τ2, σ, σ', hlast, hall, hre, hres, hp, h⟩ | ⟨hw, e, l, cs, τ2, hop, hA, hz, hp, h⟩
    · exact next ⟨o, rst ops o τ, .tuple [], .skip⟩ τ2 S C rfl hF (hT.push ho ⟨hw, rfl⟩ hp rfl) h
    · refine next ⟨o, rst ops o τ, d, .read⟩ τ2 S C rfl hF (hT.push ho ⟨hw, fun k σ hk hwin ls hls => ?_⟩ hp rfl) h
      refine hall.mem _ (List.mem_flatMap.2 ⟨σ, keepS_mem hk fun k' c hc hle => (hwin k' c hc).2 hle, List.mem_map.2 ⟨ls, hls, rfl⟩⟩)
    · refine next ⟨o, rst ops o τ, d, .chain C.length⟩ τ2 (S ++ [σ']) (C ++ [tab.length]) rfl (fun c hc => by rcases List.mem_append.1 hc with hc | hc; exact hF c hc; (simp at hc; subst hc; exact hfi)) (hT.pushC ho rfl ⟨hw, by simp, fun k1 c hk1 hc => ?_, σ, σ', ?_, ?_, fun ls hls => hall.mem ls hls⟩ hre.mem hres.mem hp rfl) h
      · have hc' : C.getLast? = some c := by
          rw [List.getElem?_append_left (by omega)] at hc
          rw [List.getLast?_eq_getElem?, hk1]; exact hc
        unfold chOk at hch
        rw [hc'] at hch
        exact hch
      · have : S[C.length]? = some σ := by
          rw [List.getLast?_eq_getElem?, hT.slen] at hlast; exact hlast
        exact push_old this
      · rw [← hT.slen]; simp
    · refine next ⟨o, rst ops o τ, .ptr l 0 0, .alloc l cs⟩ τ2 S C rfl hF (hT.push ho ⟨hw, resOf_mem hA, rfl, e, hop, hz⟩ hp rfl) h
end
section
variable {fl : Nat} {P : Program} {N : Nat} {ops : Array Oper} {A : Res} {M : List Nat} {τ τ1 : Env} {σ : Sto} {tab : List Rc} {S : List Sto} {C : List Nat}
def setAll : Res → Sto → Sto
  | [], s => s
  | (_, l, cs) :: A, s => (setAll A s).set l (.cells cs 0 0)
theorem setAll_len : ∀ (A : Res) (s : Sto), (setAll A s).length = s.length
  | [], _ => rfl
  | (_, l, cs) :: A, s => by simp [setAll, setAll_len A s]
theorem setAll_other : ∀ (A : Res) (s : Sto) (y : Nat), y ∉ A.map (·.2.1) → (setAll A s)[y]? = s[y]?
  | [], _, _, _ => rfl
  | (_, l, cs) :: A, s, y, h => by
    simp only [List.map_cons, List.mem_cons, not_or] at h
    simp only [setAll]
    rw [List.getElem?_set_ne (Ne.symm h.1)]
    exact setAll_other A s y h.2
theorem setAll_get : ∀ (A : Res) (s : Sto), (A.map (·.2.1)).Nodup → (∀ x ∈ A, x.2.1 < s.length) → ∀ x ∈ A, (setAll A s)[x.2.1]? = some (.cells x.2.2 0 0)
  | [], _, _, _, x, hx => by simp at hx
  | (j, l, cs) :: A, s, hn, hl, x, hx => by
    simp only [List.map_cons, List.nodup_cons] at hn
    simp only [setAll]
    rcases List.mem_cons.1 hx with rfl | hx
    · rw [List.getElem?_set_self (by rw [setAll_len]; exact hl _ (List.mem_cons_self ..))]
    · have hne : l ≠ x.2.1 := fun e => hn.1 (e ▸ List.mem_map.2 ⟨x, hx, rfl⟩)
      rw [List.getElem?_set_ne hne]
      exact setAll_get A s hn.2 (fun y hy => hl y (List.mem_cons_of_mem _ hy)) x hx
theorem hide_setAll {A : Res} {s : Sto} (h : ∀ x ∈ A, s[x.2.1]? = some .dead) : hide (A.map (·.2.1)) (setAll A s) = s := by
  refine sto_ext fun y => ?_
  rw [hide_get, setAll_len]
  by_cases hy : y ∈ A.map (·.2.1)
  · obtain ⟨x, hx, rfl⟩ := List.mem_map.1 hy
    have h1 := h x hx
    rw [if_pos ⟨hy, lt_of_getElem? h1⟩, h1]
  · rw [if_neg (fun h => hy h.1), setAll_other A s y hy]
theorem inj_of_nodup : ∀ {A : Res}, (A.map (·.2.1)).Nodup → ∀ x ∈ A, ∀ y ∈ A, x.2.1 = y.2.1 → x.1 = y.1
  | [], _, x, hx, _, _, _ => by simp at hx
  | z :: A, hn, x, hx, y, hy, e => by
    simp only [List.map_cons, List.nodup_cons] at hn
    rcases List.mem_cons.1 hx with h1 | h1 <;> rcases List.mem_cons.1 hy with h2 | h2
    · rw [h1, h2]
    · exact absurd (List.mem_map.2 ⟨y, h2, by rw [← e, h1]⟩) hn.1
    · exact absurd (List.mem_map.2 ⟨x, h1, by rw [e, h2]⟩) hn.1
    · exact inj_of_nodup hn.2 x h1 y h2 e
structure Ini (A : Res) (s σ : Sto) : Prop where
  nd : (A.map (·.2.1)).Nodup
  dead : ∀ x ∈ A, s[x.2.1]? = some .dead
  ext : ∃ n, s = σ ++ List.replicate n .dead
theorem Ini.get {s : Sto} (h : Ini A s σ) : ∀ x ∈ A, (setAll A s)[x.2.1]? = some (.cells x.2.2 0 0) := setAll_get A s h.nd fun x hx => lt_of_getElem? (h.dead x hx)
theorem tab0 {s : Sto} (h : Ini A s σ) : TabOk P N ops A M τ (setAll A s) [] [setAll A s] [] τ :=
  ⟨fun i r h => by simp at h, rfl, rfl, fun k c h => by simp at h,
    fun x hx k s' hs _ => by
      have : s' = setAll A s := by
        cases k with
        | zero => simp at hs; exact hs.symm
        | succ k => simp at hs
      subst this
      exact h.get x hx, fun i r h => by simp at h, fun t d hg => .inr ⟨fun j rj hj _ => absurd hj (Nat.not_lt_zero _), hg⟩, fun i r t h => by simp at h⟩
theorem inv0 {s : Sto} (h : Ini A s σ) (hTab : TabOk P N ops A M τ (setAll A s) tab S C τ1) {B : Base P} {G0 G : Gh} (h0 : G0.LeB fl G) {w : World} {a : Act} (hR : Rel B G σ w) (hT : TRel G N τ a) :
    Inv fl ops A τ tab S C N B G0 (Array.replicate ops.size false) a w := by
  refine ⟨by simp, fun j oj hoj hL => ?_, ?_⟩
  · exfalso
    rcases Nat.lt_or_ge j ops.size with h' | h'
    · simp [Array.getD_eq_getD_getElem?, h'] at hL
    · simp [Array.getD_eq_getD_getElem?, h'] at hL
  · have hrep : ∀ j, (Array.replicate ops.size false).getD j false = false := by
      intro j
      rcases Nat.lt_or_ge j ops.size with h' | h'
      · simp [Array.getD_eq_getD_getElem?, h']
      · simp [Array.getD_eq_getD_getElem?, h']
    refine ⟨G, 0, _, h0, hTab.hd, fun k' c hc => ?_, ?_, hT.size, hT.defers, fun i r t _ hL _ => ?_, fun t d hg _ => hT.slot t d hg⟩
    · rw [hrep c]; simp
    · have : hide (hidden (Array.replicate ops.size false) A) (setAll A s) = s := by
        rw [hide_congr (ls' := A.map (·.2.1)) ?_]
        · exact hide_setAll h.dead
        · intro y
          rw [mem_hidden, List.mem_map]
          exact ⟨fun ⟨x, h1, _, h3⟩ => ⟨x, h1, h3⟩, fun ⟨x, h1, h3⟩ => ⟨x, h1, hrep _, h3⟩⟩
      rw [this]
      obtain ⟨n, hn⟩ := h.ext
      rw [hn]
      exact hR.dead _
    · rw [hrep i] at hL; cases hL
def Drn (P : Program) (N : Nat) (ops : Array Oper) (τ : Env) (σ : Sto) (K : Env → Sto → Prop) : Prop := ∃ (A : Res) (s : Sto), planOk ops (masks ops.toList []) = true ∧ Ini A s σ ∧
  ADr P N ops A (masks ops.toList []) ops.toList 0 τ [setAll A s] [] [] K
theorem drawn_any {Q : AEx → Env → Sto → Prop} (h : Drn P N ops τ σ fun τ' σ' => Q .normal τ' σ') {B : Base P} {G0 G : Gh} (h0 : G0.LeB fl G) {w : World} {a : Act} (hR : Rel B G σ w) (hT : TRel G N τ a) {fuel : Nat} (hf : ops.size ≤ fuel) :
    wpAny P .any ops (liftQ fl B G0 N Q) fuel (Array.replicate ops.size false) a w := by
  obtain ⟨A, s, hp, hA, h⟩ := h
  obtain ⟨tab', S', C', τ', σ', hlen, hTab, hlast, hK, hal⟩ := adr_tab (τ0 := τ) (s0 := setAll A s) ops.toList τ _ [] [] [] (by simp) rfl (tab0 hA) h
  exact drawn_wp hTab rfl hp hlen hal (inj_of_nodup hA.nd) hlast hK fuel _ a w (by simp; exact hf) (inv0 hA hTab h0 hR hT)

def AnyR (fl : Nat) (P : Program) (N : Nat) (ops : Array Oper) (τ : Env) (σ : Sto) (Q : AEx → Env → Sto → Prop) : Prop :=
  ∀ (B : Base P) (G0 G : Gh) (w : World) (a : Act) (fuel : Nat), G0.LeB fl G → Rel B G σ w → TRel G N τ a → ops.size ≤ fuel → wpAny P .any ops (liftQ fl B G0 N Q) fuel (Array.replicate ops.size false) a w
theorem AnyR.awp {id : Nat} {Q : AEx → Env → Sto → Prop} (hm : P.follows .mixedOrders = true) (h : AnyR fl P N ops τ σ Q) : AWp fl P N (.region id ops true) τ σ Q :=
  fun B G w a hR hT => wp_region_any hm (h B G G _ a ops.size (.refl G) hR.drawn hT (Nat.le_refl _))
theorem Drn.any {Q : AEx → Env → Sto → Prop} (h : Drn P N ops τ σ fun τ' σ' => Q .normal τ' σ') : AnyR fl P N ops τ σ Q :=
  fun _ _ _ _ _ _ h0 hR hT hf => drawn_any h h0 hR hT hf

def preIds (M : List Nat) (c n : Nat) : List Nat := (List.range n).filter fun j => !(Nat.beq j c) && !(Nat.testBit (M.getD j 0) c)
def postIds (M : List Nat) (c n : Nat) : List Nat := (List.range n).filter fun j => !(Nat.beq j c) && Nat.testBit (M.getD j 0) c
theorem nb_false {a b : Nat} : Nat.beq a b = false ↔ a ≠ b := by
  constructor
  · intro h e; subst e; rw [Nat.beq_refl] at h; cases h
  · intro h
    cases hb : Nat.beq a b with
    | false => rfl
    | true => exact absurd (nbeq' hb) h
theorem mem_pre {c n j : Nat} : j ∈ preIds M c n ↔ j < n ∧ j ≠ c ∧ Nat.testBit (M.getD j 0) c = false := by
  unfold preIds; simp [List.mem_filter, nb_false]
theorem mem_post {c n j : Nat} : j ∈ postIds M c n ↔ j < n ∧ j ≠ c ∧ Nat.testBit (M.getD j 0) c = true := by
  unfold postIds; simp [List.mem_filter, nb_false]
theorem part_len (p q : Nat → Bool) : ∀ l : List Nat, (l.filter fun j => !p j && !q j).length + (l.filter fun j => !p j && q j).length + (l.filter p).length = l.length
  | [] => rfl
  | x :: l => by
    have ih := part_len p q l
    simp only [List.filter_cons]
    cases p x <;> cases q x <;> simp <;> omega
theorem filt_len {c : Nat} : ∀ n, c < n → ((List.range n).filter fun j => Nat.beq j c).length = 1
  | 0, h => by omega
  | n + 1, h => by
    rw [List.range_succ, List.filter_append, List.length_append]
    by_cases e : c = n
    · subst e
      have : (List.range c).filter (fun j => Nat.beq j c) = [] := by
        rw [List.filter_eq_nil_iff]
        intro x hx
        have := List.mem_range.1 hx
        have h2 : Nat.beq x c = false := nb_false.2 (by omega)
        rw [h2]; simp
      rw [this]; simp
    · rw [filt_len n (by omega)]
      have : Nat.beq n c = false := nb_false.2 (by omega)
      simp [this]
theorem pre_post_len {c n : Nat} (hc : c < n) : (preIds M c n).length + (postIds M c n).length + 1 = n := by
  have := part_len (fun j => Nat.beq j c) (fun j => Nat.testBit (M.getD j 0) c) (List.range n)
  rw [filt_len n hc, List.length_range] at this
  exact this
def pick : List Nat → List Bool → List Nat
  | i :: r, b :: D => match b with
    | true => pick r D
    | false => i :: pick r D
  | _, _ => []
theorem pick_sub : ∀ (l : List Nat) (D : List Bool), (pick l D).Sublist l
  | [], D => by cases D <;> exact List.Sublist.refl _
  | i :: r, [] => by simp [pick]
  | i :: r, b :: D => by
    simp only [pick]
    cases b
    · exact (pick_sub r D).cons_cons i
    · exact (pick_sub r D).cons i
theorem pick_len : ∀ (l : List Nat) (D : List Bool), D.length = l.length → (pick l D).length = D.count false
  | [], D, h => by
    have : D = [] := List.eq_nil_of_length_eq_zero (by simpa using h)
    subst this; rfl
  | i :: r, [], h => by simp at h
  | i :: r, b :: D, h => by
    have ih := pick_len r D (by simpa using h)
    simp only [pick]
    cases b <;> simp [ih]
theorem mem_pick {i : Nat} : ∀ (l : List Nat) (D : List Bool), D.length = l.length → (i ∈ pick l D ↔ ∃ k : Nat, l[k]? = some i ∧ D[k]? = some false)
  | [], D, h => by simp [pick]
  | j :: r, [], h => by simp at h
  | j :: r, b :: D, h => by
    have ih := mem_pick (i := i) r D (by simpa using h)
    simp only [pick]
    cases b
    · simp only [List.mem_cons, ih]
      constructor
      · rintro (rfl | ⟨k, h1, h2⟩)
        · exact ⟨0, rfl, rfl⟩
        · exact ⟨k + 1, by simpa using h1, by simpa using h2⟩
      · rintro ⟨k, h1, h2⟩
        cases k with
        | zero => simp at h1; exact .inl h1.symm
        | succ k => exact .inr ⟨k, by simpa using h1, by simpa using h2⟩
    · simp only [ih]
      constructor
      · rintro ⟨k, h1, h2⟩
        exact ⟨k + 1, by simpa using h1, by simpa using h2⟩
      · rintro ⟨k, h1, h2⟩
        cases k with
        | zero => simp at h2
        | succ k => exact ⟨k, by simpa using h1, by simpa using h2⟩
def restIds (M : List Nat) (c n : Nat) (D : List Bool) : List Nat := pick (preIds M c n) D ++ postIds M c n
def genD (mc : Nat) : List Nat → List (List Bool)
  | [] => [[]]
  | i :: r => match Nat.testBit mc i with
    | true => (genD mc r).map (true :: ·)
    | false => (genD mc r).flatMap fun l => [true :: l, false :: l]
theorem mem_genD {mc : Nat} : ∀ (l : List Nat) (D : List Bool), D.length = l.length → (∀ (k i : Nat), l[k]? = some i → Nat.testBit mc i = true → D.getD k false = true) → D ∈ genD mc l
  | [], D, h, _ => by
    have : D = [] := List.eq_nil_of_length_eq_zero (by simpa using h)
    subst this; simp [genD]
  | i :: r, [], h, _ => by simp at h
  | i :: r, b :: D, h, hk => by
    have ih := mem_genD r D (by simpa using h) fun k j h1 h2 => by
      have := hk (k + 1) j (by simpa using h1) h2
      simpa using this
    simp only [genD]
    cases hb : Nat.testBit mc i with
    | true =>
      have := hk 0 i rfl hb
      simp at this
      subst this
      exact List.mem_map.2 ⟨D, ih, rfl⟩
    | false => exact List.mem_flatMap.2 ⟨D, ih, by cases b <;> simp⟩
def downD (M1 : List Nat) (D : List Bool) : Bool := (List.range D.length).all fun k => !(D.getD k false) || (List.range D.length).all fun m => !(Nat.testBit (M1.getD k 0) m) || D.getD m false
def theDs (mc : Nat) (M1 ids : List Nat) : List (List Bool) := (genD mc ids).filter (downD M1)
def hiddenL (D : List Bool) : Res → List Nat
  | [] => []
  | (j, l, _) :: A => match D.getD j false with
    | true => hiddenL D A
    | false => l :: hiddenL D A
theorem getD_toList {L : Array Bool} {j : Nat} : L.toList.getD j false = L.getD j false := by
  simp [Array.getD_eq_getD_getElem?]
theorem hiddenL_eq {L : Array Bool} : ∀ A : Res, hiddenL L.toList A = hidden L A
  | [] => rfl
  | (j, l, cs) :: A => by
    simp only [hiddenL, hidden, getD_toList, hiddenL_eq A]
    cases L.getD j false <;> rfl
def unexT : List Oper → List Bool → List Nat
  | o :: r, b :: D => match b with
    | true => unexT r D
    | false => match o.dst with
      | some t => t :: unexT r D
      | none => unexT r D
  | _, _ => []
theorem unexT_mem {t : Nat} : ∀ {l : List Oper} {D : List Bool} {k : Nat} {o : Oper}, l[k]? = some o → D[k]? = some false → o.dst = some t → t ∈ unexT l D
  | [], _, _, _, h, _, _ => by simp at h
  | _ :: _, [], _, _, _, h, _ => by simp at h
  | x :: l, b :: D, 0, o, h1, h2, h3 => by
    simp at h1 h2
    subst h1 h2
    simp only [unexT, h3]
    exact List.mem_cons_self ..
  | x :: l, b :: D, k + 1, o, h1, h2, h3 => by
    have ih := unexT_mem (l := l) (D := D) (k := k) (by simpa using h1) (by simpa using h2) h3
    simp only [unexT]
    split
    · exact ih
    · split
      · exact List.mem_cons_of_mem _ ih
      · exact ih
def hasN (x : Nat) (l : List Nat) : Bool := l.any (Nat.beq x)
theorem hasN_iff {x : Nat} {l : List Nat} : hasN x l = true ↔ x ∈ l := by
  unfold hasN
  rw [List.any_eq_true]
  exact ⟨fun ⟨y, h1, h2⟩ => (nbeq' h2) ▸ h1, fun h => ⟨x, h, Nat.beq_refl x⟩⟩
def dropE (ts : List Nat) (τ : Env) : Env := τ.filter fun q => !(hasN q.1 ts)
theorem split_any {fl : Nat} {Q : AEx → Env → Sto → Prop} (A : Res) {c : Nat} {oc : Oper} (hoc : ops[c]? = some oc) (hg : noGuard ops = true) (hM : masks ops.toList [] = M) (hp : planOk ops M = true) {opsP : Array Oper} (hP : subOps ops (preIds M c ops.size) = opsP) {M1 : List Nat} (hM1 : masks opsP.toList [] = M1) (hp1 : planOk opsP M1 = true)
    {s0 : Sto} (hA : Ini A s0 σ) (fr : Nat → Bool) (hfr : ∀ (k i : Nat), (preIds M c ops.size)[k]? = some i → fr k = false → Nat.testBit (M.getD c 0) i = true) {K : Env → Sto → Prop}
    (h : ADg P N opsP A M1 fr opsP.toList 0 τ [setAll A s0] [] [] K)
    (hK : ∀ τ1 σ1, K τ1 σ1 → ∀ D ∈ theDs (M.getD c 0) M1 (preIds M c ops.size), AOps P N ops [oc] (dropE (unexT opsP.toList D) τ1) (hide (hiddenL D A) σ1) fun τ2 σ2 => AnyR fl P N (subOps ops (restIds M c ops.size D)) τ2 σ2 Q) :
    AnyR fl P N ops τ σ Q := by
  intro B G00 G0 w a fuel0 h00 hR hT hfuel0
  have hcs : c < ops.size := (Array.getElem?_eq_some_iff.1 hoc).1
  have hlt : ∀ i ∈ preIds M c ops.size, i < ops.size := fun i hi => (mem_pre.1 hi).1
  have hnd : (preIds M c ops.size).Nodup := List.nodup_range.filter _
  have hndp : (postIds M c ops.size).Nodup := List.nodup_range.filter _
  have hsz : opsP.size = (preIds M c ops.size).length := by rw [← hP]; exact subOps_size hlt
  obtain ⟨tab', S', C', τ1, σ1, hlen, hTab, hlast, hKK, hF, hal⟩ := adg_tab (τ0 := τ) (s0 := setAll A s0) opsP.toList τ _ [] [] [] (by simp) rfl (by simp) (tab0 hA) h
  have hK := hK τ1 σ1 hKK
  have hci : c ∉ preIds M c ops.size := fun h => (mem_pre.1 h).2.1 rfl
  have hord : ordOk ops.toList 0 = true := by
    unfold planOk at hp
    simp only [Bool.and_eq_true] at hp
    exact hp.1.2
  refine (wpAny_split (ids := preIds M c ops.size) (M := M) (c := c) (m := (postIds M c ops.size).length + 1) (J := Inv fl opsP A τ tab' S' C' N B G00) hg hlt hnd hM hp hcs hci (by omega) ?_ ?_ ?_ fuel0 _ (Array.replicate opsP.size false) a _ (inv0 hA hTab h00 hR hT) ⟨by simp, by simp [hsz], ?_⟩ ?_ ?_ ?_)
  · intro i hi hni hic
    cases hb : Nat.testBit (M.getD i 0) c with
    | true => rfl
    | false => exact absurd (mem_pre.2 ⟨hi, hic, hb⟩) hni
  · intro L' a w k hI hk K2 hK2
    rw [hP] at hk ⊢
    exact drawn_step hTab hM1 hp1 hlen hal (inj_of_nodup hA.nd) hI hk hK2
  · intro fuel L L' a w hI hSb hoth hd hneed hcnt
    have hL's : L'.size = (preIds M c ops.size).length := hSb.s2
    have hpos : ∀ (k i : Nat), (preIds M c ops.size)[k]? = some i → Nat.testBit (M.getD c 0) i = true → L'.getD k false = true := fun k i hk hb => by rw [← hSb.at' k i hk]; exact hneed i hb
    have hDm : L'.toList ∈ theDs (M.getD c 0) M1 (preIds M c ops.size) := by
      refine List.mem_filter.2 ⟨mem_genD _ _ (by simp [hL's]) fun k i hk hb => by rw [getD_toList]; exact hpos k i hk hb, ?_⟩
      unfold downD
      rw [List.all_eq_true]
      intro k hk
      rw [getD_toList]
      cases hLk : L'.getD k false with
      | false => rfl
      | true =>
        rw [Bool.not_true, Bool.false_or, List.all_eq_true]
        intro m hm'
        rw [getD_toList]
        cases hb : Nat.testBit (M1.getD k 0) m with
        | false => rfl
        | true =>
          have hkl : k < opsP.size := by rw [hsz, ← hL's]; simpa using hk
          have hPM := masks_ok (ops := opsP) (L := L') hI.down opsP.toList [] [] (by simp) rfl (fun j m oj h => by simp at h)
          rw [hM1] at hPM
          cases hmm : M1[k]? with
          | none => rw [List.getD_eq_getElem?_getD, hmm] at hb; simp at hb
          | some mm =>
            rw [List.getD_eq_getElem?_getD, hmm] at hb
            rw [hPM k mm (opsP[k]'hkl) hmm (Array.getElem?_eq_getElem hkl) (hI.down k _ (Array.getElem?_eq_getElem hkl) hLk) m hb]
            rfl
    have hD := hK _ hDm
    obtain ⟨G, k, σ', h0, hS, hC, hR', hsz', hdf, hnew, hold⟩ := hI.st
    have hk : k = C'.length := by
      have h1 : k < S'.length := lt_of_getElem? hS
      rw [hTab.slen] at h1
      rcases Nat.lt_or_ge k C'.length with h2 | h2
      · exfalso
        obtain ⟨c', hc'⟩ : ∃ c', C'[k]? = some c' := ⟨C'[k], List.getElem?_eq_getElem h2⟩
        have hfr' := hF c' (List.mem_of_getElem? hc')
        obtain ⟨rc, hrc, _⟩ := hTab.ch k c' hc'
        have hcl : c' < (preIds M c ops.size).length := by rw [← hsz, ← hlen]; exact lt_of_getElem? hrc
        have hg1 : (preIds M c ops.size)[c']? = some (preIds M c ops.size)[c'] := List.getElem?_eq_getElem hcl
        have := (hC k c' hc').1 (hpos c' _ hg1 (hfr c' _ hg1 hfr'))
        omega
      · omega
    have hσ : σ' = σ1 := by
      rw [List.getLast?_eq_getElem?, hTab.slen] at hlast
      subst hk
      have hlast' : S'[C'.length]? = some σ1 := hlast
      rw [hS] at hlast'; exact Option.some.inj hlast'
    subst hσ
    rw [← hiddenL_eq] at hR'
    have hTR : TRel G N (dropE (unexT opsP.toList L'.toList) τ1) a := by
      refine ⟨hsz', hdf, fun t d hg2 => ?_⟩
      obtain ⟨hnot, hg2⟩ := get_filter (p := fun t => !(hasN t (unexT opsP.toList L'.toList))) hg2
      have hnot : t ∉ unexT opsP.toList L'.toList := fun hm' => by rw [hasN_iff.2 hm'] at hnot; cases hnot
      have hdone : ∀ (j : Nat) (rj : Rc), tab'[j]? = some rj → rj.o.dst = some t → L'.getD j false = true := by
        intro j rj hj hdt
        cases hb : L'.getD j false with
        | true => rfl
        | false =>
          exfalso
          have hjo := (hTab.rc j rj hj).1
          have hjl : j < L'.size := by rw [hL's, ← hsz]; exact (Array.getElem?_eq_some_iff.1 hjo).1
          refine hnot (unexT_mem (k := j) (o := rj.o) (by rw [Array.getElem?_toList]; exact hjo) ?_ hdt)
          simp [Array.getD_eq_getD_getElem?, hjl] at hb
          simp [hjl, hb]
      rcases hTab.fin t d hg2 with ⟨j, rj, hj, hrj, hdj, rfl⟩ | ⟨hno, hg0⟩
      · exact hnew j rj t hrj (hdone j rj hrj hdj) hdj
      · exact hold t d hg0 fun j rj hrj _ => hno j rj (lt_of_getElem? hrj) hrj
    rcases hD with ⟨_, hop⟩ | ⟨hw, _⟩
    · refine wpOp_sub' hg hoc (hop B G w a hR' hTR _ _ ?_)
      rintro v w' G' d σ' hle hR2 hd2 ⟨τ2, hpd, hdrn⟩
      have hDlen : L'.toList.length = (preIds M c ops.size).length := by simp [hL's]
      have hlt2 : ∀ i ∈ restIds M c ops.size L'.toList, i < ops.size := by
        intro i hi
        rcases List.mem_append.1 hi with hi | hi
        · exact hlt i ((pick_sub _ _).subset hi)
        · exact (mem_post.1 hi).1
      have hnd2 : (restIds M c ops.size L'.toList).Nodup := by
        refine List.nodup_append.2 ⟨hnd.sublist (pick_sub _ _), hndp, fun x hx y hy e => ?_⟩
        subst e
        have h1 := (mem_pre.1 ((pick_sub _ _).subset hx)).2.2
        rw [(mem_post.1 hy).2.2] at h1; cases h1
      have hr2 : (restIds M c ops.size L'.toList).length ≤ fuel := by
        unfold restIds
        rw [List.length_append, pick_len _ _ hDlen]
        omega
      have hlow : ∀ j, (Array.replicate (restIds M c ops.size L'.toList).length false).getD j false = false := by
        intro j
        rcases Nat.lt_or_ge j (restIds M c ops.size L'.toList).length with h' | h'
        · simp [Array.getD_eq_getD_getElem?, h']
        · simp [Array.getD_eq_getD_getElem?, h']
      have hDat : ∀ k : Nat, L'.toList[k]? = some false → L'.getD k false = false := by
        intro k hk'
        rw [← getD_toList, List.getD_eq_getElem?_getD, hk']; rfl
      have hcL : c < L.size := by rw [hSb.s1]; exact hcs
      have hss := subOps_size (ops := ops) hlt2
      refine wpAny_sub (L' := Array.replicate (restIds M c ops.size L'.toList).length false) hg hlt2 hnd2 hord fuel _ _ _ ⟨by simp [hSb.s1], by simp, fun k i hk' => ?_⟩ (fun i hi hni => ?_) ?_
      · rw [hlow k]
        have hi := List.mem_of_getElem? hk'
        have hic : c ≠ i := by
          intro e; subst e
          rcases List.mem_append.1 hi with hi | hi
          · exact hci ((pick_sub _ _).subset hi)
          · exact (mem_post.1 hi).2.1 rfl
        rw [getD_set_ne false hic]
        rcases List.mem_append.1 hi with hi | hi
        · obtain ⟨k2, h1, h2⟩ := (mem_pick _ _ hDlen).1 hi
          rw [hSb.at' k2 i h1]; exact hDat k2 h2
        · have h3 := mem_post.1 hi
          exact hoth i h3.1 fun hx => by rw [(mem_pre.1 hx).2.2] at h3; cases h3.2.2
      · by_cases hic : i = c
        · exact (getD_set_iff hcL).2 (.inl hic)
        · rw [getD_set_ne false (Ne.symm hic)]
          have hni1 : i ∉ pick (preIds M c ops.size) L'.toList := fun h => hni (List.mem_append_left _ h)
          have hni2 : i ∉ postIds M c ops.size := fun h => hni (List.mem_append_right _ h)
          have hip : i ∈ preIds M c ops.size := by
            refine mem_pre.2 ⟨hi, hic, ?_⟩
            cases hb : Nat.testBit (M.getD i 0) c with
            | false => rfl
            | true => exact absurd (mem_post.2 ⟨hi, hic, hb⟩) hni2
          obtain ⟨k2, hk2⟩ := List.getElem?_of_mem hip
          rw [hSb.at' k2 i hk2]
          cases hb : L'.getD k2 false with
          | true => rfl
          | false =>
            exfalso
            have hkl : k2 < L'.size := by rw [hL's]; exact (List.getElem?_eq_some_iff.1 hk2).1
            refine hni1 ((mem_pick _ _ hDlen).2 ⟨k2, hk2, ?_⟩)
            simp [Array.getD_eq_getD_getElem?, hkl] at hb
            simp [hkl, hb]
      · have := hdrn B G00 _ _ _ fuel (h0.trans hle.b) hR2 (putD_ok (hTR.mono hle) hpd hd2) (by rw [hss]; exact hr2)
        rw [hss] at this
        exact this
    · exfalso
      unfold wantD at hw
      rw [noGuard_ok hg hoc] at hw
      cases hw
  · intro k i hk
    have h1 : ∀ n j, (Array.replicate n false).getD j false = false := by
      intro n j
      rcases Nat.lt_or_ge j n with h' | h'
      · simp [Array.getD_eq_getD_getElem?, h']
      · simp [Array.getD_eq_getD_getElem?, h']
    rw [h1, h1]
  · intro i hi _
    simp [Array.getD_eq_getD_getElem?, hi]
  · intro j oj hoj hL
    exfalso
    rcases Nat.lt_or_ge j ops.size with h' | h'
    · simp [Array.getD_eq_getD_getElem?, h'] at hL
    · simp [Array.getD_eq_getD_getElem?, h'] at hL
  · have := pre_post_len (M := M) hcs
    simp [hsz]
    omega
end
end Go.Fw
