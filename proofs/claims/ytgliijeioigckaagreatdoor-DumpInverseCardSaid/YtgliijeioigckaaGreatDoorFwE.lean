/- A framework for proofs about Go programs in this model: part E. Everything is proved; no condition is added. -/
import Derived.IntWalk
import Derived.Test.YtgliijeioigckaaGreatDoorFwD
set_option linter.unusedVariables false
set_option linter.unusedSimpArgs false
namespace Go.Fw
open Go.RowKit
def mv (ks : List Nat) : D → D
 | .ptr j u o => .ptr (ks.getD j 0) u o
 | .sl j u o n sz f => .sl (ks.getD j 0) u o n sz f
 | .map j => .map (ks.getD j 0)
 | d => d
def okv (n : Nat) : D → Bool
 | .ptr j _ _ => Nat.blt j n
 | .sl j _ _ _ _ _ => Nat.blt j n
 | .map j => Nat.blt j n
 | d => d.pure
def mvO (ks : List Nat) : AObj → AObj
 | .cells cs f v => .cells (cs.map (mv ks)) f v
 | ob => ob
def okO (n : Nat) : AObj → Bool
 | .cells cs _ _ => cs.all (okv n)
 | .map a b => pureL a && pureL b
 | .miter a b _ _ => pureL a && pureL b
 | _ => true
def Gh.sel (G : Gh) (ks : List Nat) : Gh := { G with blk := fun j u => match ks[j]? with
 | some l => G.blk l u
 | none => none }
theorem sel_blk {G : Gh} {ks : List Nat} {j u b : Nat} (hj : j < ks.length) (h : G.blk (ks.getD j 0) u = some b) : (G.sel ks).blk j u = some b := by
 have e : ks[j]? = some (ks.getD j 0) := by rw [List.getD_eq_getElem?_getD, List.getElem?_eq_getElem hj]; rfl
 simp only [Gh.sel, e]; exact h
theorem mv_rep {G : Gh} {ks : List Nat} {d : D} {v : Value} (hk : okv ks.length d = true) (h : Rep G (mv ks d) v) : Rep (G.sel ks) d v := by
 have pure : d.pure = true → mv ks d = d → Rep (G.sel ks) d v := fun hp e => by
  rw [e] at h
  exact Rep.pure (G := G) (G' := G.sel ks) (fun _ _ _ x => x) (fun _ _ x => x) d v hp h
 cases d
 case ptr j u o =>
  have hk : j < ks.length := Nat.le_of_ble_eq_true hk
  simp only [mv, Rep] at h ⊢
  obtain ⟨b, hb, e⟩ := h
  exact ⟨b, sel_blk hk hb, e⟩
 case sl j u o n sz f =>
  have hk : j < ks.length := Nat.le_of_ble_eq_true hk
  simp only [mv, Rep] at h ⊢
  rcases h with ⟨b, cap, tot, hb, e⟩ | h
  · exact .inl ⟨b, cap, tot, sel_blk hk hb, e⟩
  · exact .inr h
 case map j =>
  have hk : j < ks.length := Nat.le_of_ble_eq_true hk
  simp only [mv, Rep] at h ⊢
  obtain ⟨b, hb, e⟩ := h
  exact ⟨b, sel_blk hk hb, e⟩
 all_goals exact pure hk rfl
theorem mv_reps {G : Gh} {ks : List Nat} : ∀ {ds : List D} {vs : List Value}, ds.all (okv ks.length) = true → Reps G (ds.map (mv ks)) vs → Reps (G.sel ks) ds vs
 | [], _, _, h => by simpa only [List.map_nil, Reps] using h
 | d :: ds, _, hk, h => by
   simp only [List.all_cons, Bool.and_eq_true] at hk
   simp only [List.map_cons, Reps] at h ⊢
   obtain ⟨v, r, e, h1, h2⟩ := h
   exact ⟨v, r, e, mv_rep hk.1 h1, mv_reps hk.2 h2⟩
theorem mvO_obj {G : Gh} {ks : List Nat} {w : World} {b : Nat} {ob : AObj} (hk : okO ks.length ob = true) (h : ObjAt G w b (mvO ks ob)) : ObjAt (G.sel ks) w b ob := by
 cases ob with
 | cells cs f v =>
   obtain ⟨vs, et, h1, h2, tl, hd, h3, h4⟩ := h
   exact ⟨vs, et, h1, h2, tl, hd, h3, mv_reps hk h4⟩
 | map a c =>
   simp only [okO, Bool.and_eq_true] at hk
   obtain ⟨es, h1, h2, h3⟩ := h
   exact ⟨es, h1, Reps.pure (G := G) (G' := G.sel ks) (fun _ _ _ x => x) (fun _ _ x => x) _ _ hk.1 h2, Reps.pure (G := G) (G' := G.sel ks) (fun _ _ _ x => x) (fun _ _ x => x) _ _ hk.2 h3⟩
 | siter s p => exact h
 | miter a c r cur =>
   simp only [okO, Bool.and_eq_true] at hk
   obtain ⟨m, es, seen, h1, h2, h3, h4, h5, h6⟩ := h
   exact ⟨m, es, seen, h1, h2, Reps.pure (G := G) (G' := G.sel ks) (fun _ _ _ x => x) (fun _ _ x => x) _ _ hk.1 h3, Reps.pure (G := G) (G' := G.sel ks) (fun _ _ _ x => x) (fun _ _ x => x) _ _ hk.2 h4, h5, h6⟩
 | dead => exact h
 | gone => exact h
theorem mvO_ver {ks : List Nat} (ob : AObj) : (mvO ks ob).ver = ob.ver ∧ (mvO ks ob).frz = ob.frz ∧ (mvO ks ob).len = ob.len := by
 cases ob <;> simp [mvO, AObj.ver, AObj.frz, AObj.len]
theorem Rel.sel {P : Program} {B : Base P} {G : Gh} {σ σ' : Sto} {w : World} (hR : Rel B G σ w) {ks : List Nat} (hnd : ks.Nodup) (hlen : σ'.length = ks.length)
 (hob : ∀ (j l : Nat) (ob : AObj), ks[j]? = some l → σ'[j]? = some ob → σ[l]? = some (mvO ks ob) ∧ okO ks.length ob = true) : Rel B (G.sel ks) σ' w := by
 have hb : ∀ {j u b : Nat}, (G.sel ks).blk j u = some b → ∃ l, ks[j]? = some l ∧ G.blk l u = some b := by
  intro j u b h
  simp only [Gh.sel] at h
  split at h
  · rename_i l hl; exact ⟨l, hl, h⟩
  · cases h
 have hin : ∀ {j : Nat} {ob : AObj}, σ'[j]? = some ob → ∃ l, ks[j]? = some l := by
  intro j ob h
  have := lt_of_getElem? h
  exact ⟨ks[j]'(by omega), List.getElem?_eq_getElem (by omega)⟩
 refine ⟨hR.below, hR.imm, hR.mimm, hR.siz, fun j u b h => ?_, fun j u j' u' b h h' => ?_, fun j ob b ho h => ?_, fun j cs f u b ho h => ?_, fun j a c b ho h => ?_, fun j ob ho => ?_, fun j ob ho => ?_, hR.bimm, hR.bmimm⟩
 · obtain ⟨l, hl, h⟩ := hb h
   exact ⟨by rw [hlen]; exact lt_of_getElem? hl, (hR.blk _ _ _ h).2⟩
 · obtain ⟨l, hl, h⟩ := hb h
   obtain ⟨l', hl', h'⟩ := hb h'
   have e := hR.inj _ _ _ _ _ h h'
   subst e
   have h1 := lt_of_getElem? hl
   have h2 := lt_of_getElem? hl'
   rw [List.getElem?_eq_getElem h1] at hl
   rw [List.getElem?_eq_getElem h2] at hl'
   have e := (Option.some.inj hl).trans (Option.some.inj hl').symm
   rcases Nat.lt_trichotomy j j' with h3 | h3 | h3
   · exact absurd e (List.pairwise_iff_getElem.1 hnd j j' h1 h2 h3)
   · exact h3
   · exact absurd e.symm (List.pairwise_iff_getElem.1 hnd j' j h2 h1 h3)
 · obtain ⟨l, hl, h⟩ := hb h
   obtain ⟨h1, h2⟩ := hob j l ob hl ho
   exact mvO_obj h2 (hR.obj l _ b h1 (by rw [(mvO_ver ob).1]; exact h))
 · obtain ⟨l, hl, h⟩ := hb h
   obtain ⟨h1, h2⟩ := hob j l _ hl ho
   exact hR.own l _ f u b h1 h
 · obtain ⟨l, hl, h⟩ := hb h
   obtain ⟨h1, h2⟩ := hob j l _ hl ho
   exact hR.ownm l _ _ b h1 h
 · obtain ⟨l, hl⟩ := hin ho
   obtain ⟨h1, h2⟩ := hob j l ob hl ho
   have h3 := hR.ver l _ h1
   rw [(mvO_ver ob).1, (mvO_ver ob).2.2] at h3
   refine ⟨h3.1, fun u b h => ?_⟩
   obtain ⟨l', hl', h⟩ := hb h
   rw [hl] at hl'; cases hl'
   exact h3.2 u b h
 · obtain ⟨l, hl⟩ := hin ho
   obtain ⟨h1, h2⟩ := hob j l ob hl ho
   have h3 := hR.frzle l _ h1
   rw [(mvO_ver ob).2.1, (mvO_ver ob).2.2] at h3
   exact h3
theorem TRel.sel {G : Gh} {N : Nat} {τ τ' : Env} {a : Act} (hT : TRel G N τ a) {ks : List Nat} (h : ∀ t d, get τ' t = some d → get τ t = some (mv ks d) ∧ okv ks.length d = true) : TRel (G.sel ks) N τ' a :=
 ⟨hT.size, hT.defers, fun t d hg => mv_rep (h t d hg).2 (hT.slot t _ (h t d hg).1)⟩
theorem AWp.gc {i : Nat} {P : Program} {N : Nat} {c : Code} {τ τ' : Env} {σ σ' : Sto} {Q : AEx → Env → Sto → Prop} (ks : List Nat) (hi : ∀ l, l < i → ks[l]? = some l) (hnd : ks.Nodup) (hlen : σ'.length = ks.length)
 (hob : ∀ (j l : Nat) (ob : AObj), ks[j]? = some l → σ'[j]? = some ob → σ[l]? = some (mvO ks ob) ∧ okO ks.length ob = true)
 (hτ : ∀ t d, get τ' t = some d → get τ t = some (mv ks d) ∧ okv ks.length d = true) (h : AWp i P N c τ' σ' Q) : AWp i P N c τ σ Q := by
 intro B G w a hR hT
 refine wp_mono (h B (G.sel ks) w a (hR.sel hnd hlen hob) (hT.sel hτ)) fun e a w x => liftQ_le ?_ (fun _ _ _ y => y) e a w x
 exact ⟨fun _ _ _ x => x, fun _ _ x => x, fun _ _ x => x, fun l u b hl x => by simp only [Gh.sel, hi l hl]; exact x⟩
end Go.Fw
namespace Go.Fw
open Go.RowKit
structure Enc (α : Type) where
 sz : Nat
 cells : α → List D
 flat : List α → List D
 fnil : flat [] = []
 fcons : ∀ a r, flat (a :: r) = cells a ++ flat r
 len : ∀ a, (cells a).length = sz
 pure : ∀ a, pureL (cells a) = true
 cell : ∀ a, (cells a).all D.isCell = true
def flatOf {α : Type} (cells : α → List D) : List α → List D
 | [] => []
 | a :: r => cells a ++ flatOf cells r
def mkE {α : Type} (sz : Nat) (cells : α → List D) (len : ∀ a, (cells a).length = sz) (pure : ∀ a, pureL (cells a) = true) (cell : ∀ a, (cells a).all D.isCell = true) : Enc α :=
 ⟨sz, cells, flatOf cells, rfl, fun _ _ => rfl, len, pure, cell⟩
def flatE {α : Type} (E : Enc α) (xs : List α) : List D := E.flat xs
section
variable {α : Type}
theorem flatE_nil (E : Enc α) : flatE E [] = [] := E.fnil
theorem flatE_cons (E : Enc α) (a : α) (r : List α) : flatE E (a :: r) = E.cells a ++ flatE E r := E.fcons a r
theorem flatE_len (E : Enc α) : ∀ xs : List α, (flatE E xs).length = xs.length * E.sz
 | [] => by simp [flatE_nil]
 | a :: r => by simp [flatE_cons, E.len, flatE_len E r, Nat.add_mul, Nat.add_comm]
theorem pureL_append : ∀ a b : List D, pureL (a ++ b) = (pureL a && pureL b)
 | [], b => by simp [pureL]
 | d :: a, b => by simp [pureL, pureL_append a b, Bool.and_assoc]
theorem flat_pure (E : Enc α) : ∀ xs : List α, pureL (flatE E xs) = true
 | [] => by rw [flatE_nil]; rfl
 | a :: r => by simp [flatE_cons, pureL_append, E.pure, flat_pure E r]
theorem flat_cell (E : Enc α) : ∀ xs : List α, (flatE E xs).all D.isCell = true
 | [] => by rw [flatE_nil]; rfl
 | a :: r => by simp only [flatE_cons, List.all_append, E.cell, flat_cell E r, Bool.and_self]
theorem flatE_append (E : Enc α) : ∀ xs ys : List α, flatE E (xs ++ ys) = flatE E xs ++ flatE E ys
 | [], ys => by simp [flatE_nil]
 | a :: r, ys => by simp [flatE_cons, flatE_append E r ys]
theorem flatE_take (E : Enc α) : ∀ (n : Nat) (xs : List α), (flatE E xs).take (n * E.sz) = flatE E (xs.take n)
 | 0, xs => by simp [flatE_nil]
 | n + 1, [] => by simp [flatE_nil]
 | n + 1, a :: r => by
   have e : (n + 1) * E.sz = (E.cells a).length + n * E.sz := by rw [E.len, Nat.add_mul, Nat.one_mul, Nat.add_comm]
   simp only [flatE_cons, List.take_succ_cons]
   rw [e, List.take_length_add_append, flatE_take E n r]
theorem flatE_drop (E : Enc α) : ∀ (n : Nat) (xs : List α), (flatE E xs).drop (n * E.sz) = flatE E (xs.drop n)
 | 0, xs => by simp
 | n + 1, [] => by simp [flatE_nil]
 | n + 1, a :: r => by
   have e : (n + 1) * E.sz = (E.cells a).length + n * E.sz := by rw [E.len, Nat.add_mul, Nat.one_mul, Nat.add_comm]
   simp only [flatE_cons, List.drop_succ_cons]
   rw [e, List.drop_length_add_append, flatE_drop E n r]
theorem flatE_get {E : Enc α} {xs : List α} {i : Nat} {a : α} (h : xs[i]? = some a) : ((flatE E xs).drop (i * E.sz)).take E.sz = E.cells a := by
 have hlt := lt_of_getElem? h
 rw [flatE_drop, List.drop_eq_getElem_cons hlt]
 rw [List.getElem?_eq_getElem hlt] at h
 cases h
 rw [flatE_cons]
 have e : E.sz = (E.cells xs[i]).length := (E.len _).symm
 rw [e, List.take_left]
def ix (xs : List α) (i : Int) : Option α := if 0 ≤ i then xs[i.toNat]? else none
theorem ix_inv {xs : List α} {i : Int} {a : α} (h : ix xs i = some a) : 0 ≤ i ∧ i < xs.length ∧ xs[i.toNat]? = some a := by
 unfold ix at h
 split at h <;> try (cases h; done)
 rename_i h0
 have := lt_of_getElem? h
 exact ⟨h0, by omega, h⟩
variable {T : Tys} {τ : Env} {σ : Sto} {E : Enc α} {xs : List α}
end
section
variable {P : Program} {T : Tys} {N : Nat} {all : Array Oper} {o : Oper} {r : List Oper} {τ τ' : Env} {σ σ' : Sto} {d : D} {Kt : Env → Sto → Prop}
theorem goA (tok : TOk T P) (h1 : wantD all τ o = some true) (h2 : aop T τ σ o.op = some (d, σ')) (h3 : putD N o.dst d τ = some τ') (h : AOps P N all r τ' σ' Kt) : AOps P N all (o :: r) τ σ Kt :=
 .inl ⟨h1, (aop_aop tok h2).mono (by rintro d' s ⟨rfl, rfl⟩; exact ⟨τ', h3, h⟩)⟩
end
def fits (k : IntKind) (n : Int) : Bool := decide (k.wrap n = n)
theorem bind_inv {α β : Type} {x : Option α} {f : α → Option β} {b : β} (h : x.bind f = some b) : ∃ a, x = some a ∧ f a = some b := by
 cases x with
 | none => cases h
 | some a => exact ⟨a, rfl, h⟩
end Go.Fw
namespace Go.Fw
abbrev Bs := List UInt8
open Go.RowKit
section
variable {P : Program} {T : Tys} {N : Nat} {all : Array Oper} {o : Oper} {r : List Oper} {τ τ' : Env} {σ σ' : Sto} {Kt : Env → Sto → Prop}
theorem aop_nilEq {t ty : TypeId} {x : Operand} {cs : List D} {n : Nat} {f : Bool} {e : TypeId} (ho : o.op = .binOp .eql t x (.const (.slice none 0 0)) ty) (ht : P.underlying t = some (.slice e)) (hx : ev τ x = some (.list cs n f)) :
 AOp P N o τ σ (fun d s => s = σ ∧ ∃ b : Bool, d = .bool b ∧ (b = true → cs = [])) := by
 intro B G w a hR hT next Q hn
 have hxr := ev_ok hT hx
 simp only [Rep] at hxr
 obtain ⟨ad, cap, hv, h1, h2, h3, h4⟩ := hxr
 have key : ∃ b : Bool, (Op.equal t (.slice ad n cap) (.slice none 0 0)).run P w = .ok b w ∧ (b = true → cs = []) := by
  have e2 : ∀ x y, Op.equal t x y = Op.equalIn (9999 + 1) t x y := fun _ _ => rfl
  simp only [e2]
  clear e2
  generalize (9999 : Nat) = dep
  cases ad with
  | none =>
    refine ⟨true, by simp [Op.equalIn, run_underlying ht], fun _ => ?_⟩
    rcases h4 with ⟨b, o', h, _⟩ | h
    · cases h
    · exact h
  | some ad => exact ⟨false, by simp [Op.equalIn, run_underlying ht], fun h => by cases h⟩
 obtain ⟨b, hb, hc⟩ := key
 have hrun : (execOp a.eval o).run P w = .ok (.value (.bool b)) w := by
  obtain ⟨dst, op, ty', pos, after, guard⟩ := o
  simp only at ho
  subst ho
  unfold execOp
  have e1 : a.eval (.const (.slice none 0 0)) = .slice none 0 0 := rfl
  have hg : (eqGuard .eql t x (.const (.slice none 0 0)) (.slice ad n cap) (.slice none 0 0)).run P w = .ok () w := eqGuard_prim (fun _ _ => .inl (by simp)) (.inl (by simp))
  have hbin : (binOp .eql t (.slice ad n cap) (.slice none 0 0)).run P w = .ok (.bool b) w := by
   rw [bin_eql (by simp [notNum]), hb]; rfl
  simp only [hv, e1, Sem.run_bind, hg, Result.andThen_ok, hbin, Sem.run_pure]
 unfold Oper.wp
 rw [hrun]
 exact hn _ w G _ σ (.refl G) hR (by simp only [Rep]) ⟨rfl, b, rfl, hc⟩
theorem go_nilEq {t ty : TypeId} {x : Operand} {cs : List D} {n : Nat} {f : Bool} {e : TypeId} {tt : Nat} (h1 : wantD all τ o = some true) (ho : o.op = .binOp .eql t x (.const (.slice none 0 0)) ty) (ht : P.underlying t = some (.slice e))
 (hx : ev τ x = some (.list cs n f)) (hd : o.dst = some tt) (hN : Nat.blt tt N = true) (h : ∀ b : Bool, (b = true → cs = []) → AOps P N all r ((tt, .bool b) :: τ) σ Kt) : AOps P N all (o :: r) τ σ Kt := by
 refine .inl ⟨h1, (aop_nilEq ho ht hx).mono ?_⟩
 rintro d s ⟨rfl, b, rfl, hb⟩
 refine ⟨(tt, .bool b) :: τ, ?_, h b hb⟩
 unfold putD; rw [hd]; simp only; exact if_pos (Nat.le_of_ble_eq_true hN)
end
theorem app_new {T : Tys} {τ : Env} {σ : Sto} {t tx : TypeId} {s x : Operand} {sz by' n : Nat} {cs : List D} {f : Bool} (h1 : lk2 T.app t tx = some (sz, by')) (h2 : ev τ s = some (.list [] 0 true)) (h3 : ev τ x = some (.list cs n f))
 (hn : 0 < n) (hl : cs.length = n * sz) (hc : cs.all D.isCell = true) (hb : n * by' ≤ limit) (hb' : n ≤ limit) : aop T τ σ (.call { callee := .builtin .append, args := #[s, x], argTypes := #[t, tx] }) = some (.sl σ.length 0 0 n sz false, σ ++ [.cells cs 0 0]) := by
 show oAppend T τ σ [s, x] [t, tx] = _
 have hn' : ¬ n = 0 := by omega
 simp [oAppend, h1, h2, h3, appD, srcD, hl, hc, hn', hb, hb']
theorem frz_own {σ : Sto} {l u n sz fz : Nat} {cs : List D} {f : Bool} (hl : σ[l]? = some (.cells cs fz u)) (hn : cs.length = n * sz) : frzR σ (.sl l u 0 n sz f) = some (.list cs n f, σ.set l (.cells cs cs.length u)) := by
 have h1 : ¬ (n * sz) > cs.length := by omega
 simp [frzR, frz1, frzC, hl, hn, List.take_of_length_le (Nat.le_of_eq hn)]
end Go.Fw
namespace Go.Fw
open Go.RowKit
def Weak (d e : D) : Prop := ∀ (G : Gh) (v : Value), Rep G d v → Rep G e v
theorem Weak.refl (d : D) : Weak d d := fun _ _ h => h
theorem Weak.list {cs : List D} {n : Nat} {f : Bool} : Weak (.list cs n f) (.list cs n false) := by
 intro G v h
 simp only [Rep] at h ⊢
 obtain ⟨a, cap, e, h1, h2, _, h4⟩ := h
 refine ⟨a, cap, e, h1, h2, ?_, h4⟩
 intro h
 cases h
def Weaks : List D → List D → Prop
 | [], l => l = []
 | d :: ds, l => match l with
   | e :: es => Weak d e ∧ Weaks ds es
   | [] => False
theorem Weaks.reps {G : Gh} : ∀ {ds es : List D} {vs : List Value}, Weaks ds es → Reps G ds vs → Reps G es vs
 | [], es, _, h, hv => by
   have h : es = [] := h
   subst h; exact hv
 | d :: ds, [], _, h, _ => h.elim
 | d :: ds, e :: es, _, h, hv => by
   simp only [Reps] at hv ⊢
   obtain ⟨v, r, rfl, h1, h2⟩ := hv
   exact ⟨v, r, rfl, h.1 G v h1, Weaks.reps h.2 h2⟩
theorem Weak.agg {ds es : List D} (h : Weaks ds es) : Weak (.agg ds) (.agg es) := by
 intro G v hv
 simp only [Rep] at hv ⊢
 obtain ⟨a, e, h1⟩ := hv
 exact ⟨a, e, h.reps h1⟩
theorem Weak.tuple {ds es : List D} (h : Weaks ds es) : Weak (.tuple ds) (.tuple es) := by
 intro G v hv
 simp only [Rep] at hv ⊢
 obtain ⟨a, e, h1⟩ := hv
 exact ⟨a, e, h.reps h1⟩
theorem PureOK.weak {P : Program} {f : FuncId} {ds : List D} {d e : D} (h : PureOK P f ds d) (hw : Weak d e) : PureOK P f ds e :=
 fun G w vals h1 h2 h3 => (h G w vals h1 h2 h3).mono fun _ _ ⟨v, G', e1, e2, e3⟩ => ⟨v, G', e1, e2, hw _ _ e3⟩
section
variable {P : Program} {T : Tys} {N : Nat} {all : Array Oper} {o : Oper} {r : List Oper} {τ τ' : Env} {σ σ' : Sto} {d e : D} {Kt : Env → Sto → Prop}
theorem AOp.weak (h : AOp P N o τ σ fun d' s => d' = d ∧ s = σ') (hw : Weak d e) : AOp P N o τ σ fun d' s => d' = e ∧ s = σ' := by
 intro B G w a hR hT next Q hn
 refine h B G w a hR hT next Q ?_
 rintro v w' G' d' s h1 h2 h3 ⟨rfl, rfl⟩
 exact hn v w' G' e _ h1 h2 (hw _ _ h3) ⟨rfl, rfl⟩
theorem goP (h1 : wantD all τ o = some true) (h2 : AOp P N o τ σ fun d' s => d' = d ∧ s = σ') (h3 : putD N o.dst d τ = some τ') (h : AOps P N all r τ' σ' Kt) : AOps P N all (o :: r) τ σ Kt :=
 .inl ⟨h1, h2.mono (by rintro d' s ⟨rfl, rfl⟩; exact ⟨τ', h3, h⟩)⟩
end
def slc {α : Type} (xs : List α) (lo hi : Int) : Option (List α) := if 0 ≤ lo ∧ lo ≤ hi ∧ hi ≤ xs.length then some ((xs.take hi.toNat).drop lo.toNat) else none
theorem slc_inv {α : Type} {xs ys : List α} {lo hi : Int} (h : slc xs lo hi = some ys) : 0 ≤ lo ∧ lo ≤ hi ∧ hi ≤ xs.length ∧ ys = (xs.take hi.toNat).drop lo.toNat ∧ ys.length = hi.toNat - lo.toNat := by
 unfold slc at h
 split at h <;> try (cases h; done)
 rename_i hc
 cases h
 refine ⟨hc.1, hc.2.1, hc.2.2, rfl, ?_⟩
 simp only [List.length_drop, List.length_take]
 omega
theorem flatE_part {α : Type} (E : Enc α) (xs : List α) (l h : Nat) (hlh : l ≤ h) : ((flatE E xs).drop (l * E.sz)).take ((h - l) * E.sz) = flatE E ((xs.take h).drop l) := by
 rw [flatE_drop, flatE_take, List.drop_take]
section
variable {α : Type} {T : Tys} {τ : Env} {σ : Sto} {E : Enc α} {xs ys : List α}
def cat (a b : List UInt8) : Option (List UInt8) := if a.length + b.length ≤ 9223372036854775807 then some (a ++ b) else none
def byteE : Enc UInt8 := mkE 1 (fun b => [.int .u8 b.toNat]) (fun _ => rfl) (fun _ => rfl) (fun _ => rfl)
def boolE : Enc Bool := mkE 1 (fun b => [.bool b]) (fun _ => rfl) (fun _ => rfl) (fun _ => rfl)
def listE {β : Type} (F : Enc β) : Enc (List β) := mkE 1 (fun xs => [.list (flatE F xs) xs.length false]) (fun _ => rfl) (fun _ => by simp [pureL, D.pure, flat_pure]) (fun _ => rfl)
theorem flat_bytes : ∀ s : List UInt8, flatE byteE s = s.map fun b => .int .u8 b.toNat
 | [] => rfl
 | b :: s => by rw [flatE_cons, flat_bytes s]; rfl
theorem bytes_flat : ∀ s : List UInt8, bytesOfD (flatE byteE s) = some s
 | [] => rfl
 | b :: s => by
   have : byteOfD (.int .u8 b.toNat) = some b := by simp [byteOfD]
   show (match byteOfD (.int .u8 b.toNat), bytesOfD (flatE byteE s) with
    | some b, some bs => some (b :: bs)
    | _, _ => none) = _
   rw [this, bytes_flat s]
def small (s : List UInt8) : Option (List UInt8) := if s.length ≤ limit then some s else none
def toB (n : Int) : Option UInt8 := if 0 ≤ n ∧ n < 256 then some (UInt8.ofNat n.toNat) else none
theorem toB_inv {n : Int} {b : UInt8} (h : toB n = some b) : n = (b.toNat : Int) := by
 unfold toB at h
 split at h <;> try (cases h; done)
 rename_i hc
 cases h
 simp only [UInt8.toNat_ofNat']
 omega
end
section
variable {α : Type} {T : Tys} {τ : Env} {σ : Sto} {E : Enc α} {xs : List α}
end
def allEq : List LK → List D → List D → Option Bool
 | [], [], [] => some true
 | k :: ks, a :: as, b :: bs => match cellEq k a b, allEq ks as bs with
   | some r, some s => some (r && s)
   | _, _ => none
 | _, _, _ => none
theorem allEq_cells : ∀ (ks : List LK) (a b : List D) (r : Bool), allEq ks a b = some r → cellsEq ks a b = some r
 | [], [], [], r, h => h
 | [], [], _ :: _, r, h => by cases h
 | [], _ :: _, _, r, h => by cases h
 | k :: ks, [], _, r, h => by cases h
 | k :: ks, a :: as, [], r, h => by cases h
 | k :: ks, a :: as, b :: bs, r, h => by
   simp only [allEq] at h
   split at h <;> try (cases h; done)
   rename_i x y h1 h2
   cases h
   have := allEq_cells ks as bs y h2
   simp only [cellsEq, h1]
   cases x
   · rfl
   · simpa using this
section
variable {T : Tys} {τ : Env} {σ : Sto}
end
section
variable {P : Program} {T : Tys} {N : Nat} {ops : Array Oper} {A : Res} {M : List Nat} {o : Oper} {r : List Oper} {i : Nat} {τ τ2 : Env} {S : List Sto} {C : List Nat} {tab : List Rc} {K : Env → Sto → Prop} {σ σ' : Sto} {d : D}
theorem dr_end (h1 : AllP (fun (x : Nat × Nat × List D) => ∃ r : Rc, tab[x.1]? = some r ∧ r.kd = .alloc x.2.1 x.2.2) A) (h2 : S.getLast? = some σ) (h : K τ σ) : ADr P N ops A M [] i τ S C tab K := ⟨h1, σ, h2, h⟩
theorem dr_no (h1 : wantD ops (rst ops o τ) o = some false) (h2 : putD N o.dst (.tuple []) τ = some τ2) (h : ADr P N ops A M r (i + 1) τ2 S C (tab ++ [⟨o, rst ops o τ, .tuple [], .skip⟩]) K) : ADr P N ops A M (o :: r) i τ S C tab K :=
 .inl ⟨h1, τ2, h2, h⟩
theorem dr_read (h1 : wantD ops (rst ops o τ) o = some true) (h2 : AllP (fun s => AOp P N o (rst ops o τ) s fun d' s' => d' = d ∧ s' = s) ((keepS (M.getD i 0) S C).flatMap fun σ => (subsA A (M.getD i 0)).map (hide · σ)))
 (h3 : putD N o.dst d τ = some τ2) (h : ADr P N ops A M r (i + 1) τ2 S C (tab ++ [⟨o, rst ops o τ, d, .read⟩]) K) : ADr P N ops A M (o :: r) i τ S C tab K :=
 .inr (.inl ⟨h1, d, τ2, h2, h3, h⟩)
theorem dr_alloc (tok : TOk T P) {e : TypeId} {l : Nat} {cs : List D} (h1 : wantD ops (rst ops o τ) o = some true) (h2 : o.op = .alloc e) (h3 : resOf? A i = some (l, cs)) (h4 : lk T.zero e = some cs) (h5 : putD N o.dst (.ptr l 0 0) τ = some τ2)
 (h : ADr P N ops A M r (i + 1) τ2 S C (tab ++ [⟨o, rst ops o τ, .ptr l 0 0, .alloc l cs⟩]) K) : ADr P N ops A M (o :: r) i τ S C tab K :=
 .inr (.inr (.inr ⟨h1, e, l, cs, τ2, h2, h3, lk_of tok.zero h4, h5, h⟩))
end
end Go.Fw
namespace Go.Fw
open Go.RowKit
theorem set_same {α : Type} {l : List α} {i : Nat} {x : α} (h : l[i]? = some x) : l.set i x = l := by
 apply List.ext_getElem?
 intro j
 by_cases e : i = j
 · subst e
   rw [List.getElem?_set_self (lt_of_getElem? h), h]
 · rw [List.getElem?_set_ne e]
section
variable {P : Program} {B : Base P} {G : Gh} {σ : Sto} {w : World} {N : Nat} {i : Nat} {c : Code} {τ τ' : Env} {σ' : Sto} {Q : AEx → Env → Sto → Prop}
theorem Rel.newObj (hR : Rel B G σ w) : Rel B G (σ ++ [.cells [] 0 0]) w := by
 have old : ∀ {l u b : Nat} {ob : AObj}, G.blk l u = some b → (σ ++ [AObj.cells [] 0 0])[l]? = some ob → σ[l]? = some ob := by
  intro l u b ob hb ho
  rwa [List.getElem?_append_left (hR.blk _ _ _ hb).1] at ho
 have look : ∀ {l : Nat} {ob : AObj}, (σ ++ [AObj.cells [] 0 0])[l]? = some ob → σ[l]? = some ob ∨ (l = σ.length ∧ ob = .cells [] 0 0) := by
  intro l ob ho
  rcases Nat.lt_or_ge l σ.length with h | h
  · rw [List.getElem?_append_left h] at ho; exact .inl ho
  · rw [List.getElem?_append_right h] at ho
    cases hk : l - σ.length with
    | zero => rw [hk] at ho; simp at ho; exact .inr ⟨by omega, ho.symm⟩
    | succ k => rw [hk] at ho; simp at ho
 refine ⟨hR.below, hR.imm, hR.mimm, hR.siz, fun l u b hb => ?_, hR.inj, fun l ob b ho hb => hR.obj l ob b (old hb ho) hb, fun l cs frz u b ho hb => hR.own l cs frz u b (old hb ho) hb, fun l ks vs b ho hb => hR.ownm l ks vs b (old hb ho) hb, fun l ob ho => ?_, fun l ob ho => ?_, hR.bimm, hR.bmimm⟩
 · obtain ⟨h1, h2⟩ := hR.blk l u b hb
   exact ⟨by simp; omega, h2⟩
 · rcases look ho with h | ⟨rfl, rfl⟩
   · exact hR.ver l ob h
   · exact ⟨Nat.le_refl _, fun u b hb => absurd (hR.blk _ _ _ hb).1 (Nat.lt_irrefl _)⟩
 · rcases look ho with h | ⟨rfl, rfl⟩
   · exact hR.frzle l ob h
   · exact Nat.le_refl _
theorem Rel.weakObj (hR : Rel B G σ w) {l f v : Nat} {cs cs' : List D} (hl : σ[l]? = some (.cells cs f v)) (hlen : cs'.length = cs.length) (hw : ∀ vs, Reps G cs vs → Reps G cs' vs) : Rel B G (σ.set l (.cells cs' f v)) w := by
 have hlt := lt_of_getElem? hl
 have look : ∀ {l' : Nat} {ob : AObj}, (σ.set l (.cells cs' f v))[l']? = some ob → (l' = l ∧ ob = .cells cs' f v) ∨ (l' ≠ l ∧ σ[l']? = some ob) := by
  intro l' ob h
  by_cases e : l' = l
  · subst e
    rw [List.getElem?_set_self hlt] at h
    exact .inl ⟨rfl, (Option.some.inj h).symm⟩
  · rw [List.getElem?_set_ne (Ne.symm e)] at h
    exact .inr ⟨e, h⟩
 refine ⟨hR.below, hR.imm, hR.mimm, hR.siz, fun l' u' b hb => ?_, hR.inj, fun l' ob b ho hb => ?_, fun l' cs2 frz' u' b ho hb o x hi => ?_, fun l' ks vs b ho hb => ?_, fun l' ob ho => ?_, fun l' ob ho => ?_, hR.bimm, hR.bmimm⟩
 · rw [List.length_set]; exact hR.blk l' u' b hb
 · rcases look ho with ⟨rfl, rfl⟩ | ⟨_, h⟩
   · obtain ⟨vs, et, h1, h2, tl, hd, h3, h4⟩ := hR.obj l' (.cells cs f v) b hl hb
     exact ⟨vs, et, h1, h2, tl, hd, h3, hw _ h4⟩
   · exact hR.obj l' ob b h hb
 · rcases look ho with ⟨rfl, h⟩ | ⟨_, h⟩
   · cases h
     exact hR.own l' _ _ _ b hl hb o x hi
   · exact hR.own l' _ _ _ b h hb o x hi
 · rcases look ho with ⟨_, h⟩ | ⟨_, h⟩
   · cases h
   · exact hR.ownm l' ks vs b h hb
 · rcases look ho with ⟨rfl, rfl⟩ | ⟨_, h⟩
   · have := hR.ver l' _ hl
     exact ⟨by simp only [AObj.ver, AObj.len] at this ⊢; omega, this.2⟩
   · exact hR.ver l' ob h
 · rcases look ho with ⟨rfl, rfl⟩ | ⟨_, h⟩
   · have := hR.frzle l' _ hl
     simp only [AObj.frz, AObj.len] at this ⊢; omega
   · exact hR.frzle l' ob h
theorem nil_own {l sz : Nat} {v : Value} (h : Rep G (.list [] 0 true) v) : Rep G (.sl l 0 0 0 sz false) v := by
 simp only [Rep] at h ⊢
 obtain ⟨a, cap, rfl, _, _, h3, _⟩ := h
 have := h3 trivial
 subst this
 exact .inr ⟨trivial, a, rfl⟩
theorem Reps.set_weak {d d' : D} (hw : ∀ v, Rep G d v → Rep G d' v) : ∀ {cs : List D} {o : Nat} {vs : List Value}, cs[o]? = some d → Reps G cs vs → Reps G (cs.set o d') vs
 | [], _, _, h, _ => by simp at h
 | x :: cs, 0, vs, h, hv => by
   simp at h
   subst h
   simp only [List.set_cons_zero, Reps] at hv ⊢
   obtain ⟨v, r, e, h1, h2⟩ := hv
   exact ⟨v, r, e, hw v h1, h2⟩
 | x :: cs, o + 1, vs, h, hv => by
   simp only [List.getElem?_cons_succ] at h
   simp only [List.set_cons_succ, Reps] at hv ⊢
   obtain ⟨v, r, e, h1, h2⟩ := hv
   exact ⟨v, r, e, h1, Reps.set_weak hw h h2⟩
end
def app {α : Type} (by' : Nat) (xs ys : List α) : Option (List α) := if (xs.length + ys.length) * by' ≤ limit ∧ xs.length + ys.length ≤ limit then some (xs ++ ys) else none
section
variable {α : Type} {P : Program} {T : Tys} {τ τ' : Env} {σ σ' : Sto} {E : Enc α} {xs ys zs : List α}
theorem AOp.frz {N : Nat} {o : Oper} {d e : D} {σ1 : Sto} (h : AOp P N o τ σ fun d' s => d' = d ∧ s = σ1) (hz : frzC σ1 d = some (e, σ')) : AOp P N o τ σ fun d' s => d' = e ∧ s = σ' := by
 intro B G w a hR hT next Q hn
 refine h B G w a hR hT next Q ?_
 rintro v w' G' d' s h1 h2 h3 ⟨rfl, rfl⟩
 obtain ⟨G2, k1, k2, k3⟩ := frzC_ok h2 hz h3
 exact hn v w' G2 e _ (h1.trans k1) k2 k3 ⟨rfl, rfl⟩
end
end Go.Fw
namespace Go.Fw
section
variable {P : Program} {T : Tys} {N : Nat} {all : Array Oper} {o : Oper} {r : List Oper} {τ τ' : Env} {σ σ1 σ' : Sto} {Kt : Env → Sto → Prop}
end
end Go.Fw
namespace Go.Fw
open Go.RowKit
section
variable {P : Program} {N : Nat} {all : Array Oper} {Kt : Env → Sto → Prop}
theorem AOps.monoK {K K' : Env → Sto → Prop} (hk : ∀ τ σ, K τ σ → K' τ σ) : ∀ (l : List Oper) (τ : Env) (σ : Sto), AOps P N all l τ σ K → AOps P N all l τ σ K'
 | [], τ, σ, h => hk τ σ h
 | o :: r, τ, σ, h => by
   rcases h with ⟨h1, h2⟩ | ⟨h1, τ1, h2, h3⟩
   · refine .inl ⟨h1, h2.mono ?_⟩
     rintro d s ⟨τ1, h3, h4⟩
     exact ⟨τ1, h3, AOps.monoK hk r τ1 s h4⟩
   · exact .inr ⟨h1, τ1, h2, AOps.monoK hk r τ1 σ h3⟩
end
end Go.Fw
namespace Go.Fw
section
variable {i : Nat} {P : Program} {N : Nat} {c c1 c2 : Code} {τ : Env} {σ : Sto} {Q : AEx → Env → Sto → Prop}
end
end Go.Fw
namespace Go.Fw
open Go.RowKit
section
variable {P : Program} {T : Tys} {N : Nat} {o : Oper} {τ : Env} {σ σ' : Sto}
theorem Rel.oneMore {P : Program} {B : Base P} {G : Gh} {w : World} {ob : AObj} (hv : ob.ver = 0) (hR : Rel B G (σ ++ [ob]) w) : Rel B G (σ ++ [.gone]) w := by
 have look : ∀ {l : Nat} {x : AObj}, (σ ++ [AObj.gone])[l]? = some x → (l < σ.length ∧ (σ ++ [ob])[l]? = some x) ∨ (l = σ.length ∧ x = .gone) := by
  intro l x h
  rcases Nat.lt_or_ge l σ.length with hl | hl
  · rw [List.getElem?_append_left hl] at h
    exact .inl ⟨hl, by rw [List.getElem?_append_left hl]; exact h⟩
  · rw [List.getElem?_append_right hl] at h
    cases hk : l - σ.length with
    | zero => rw [hk] at h; simp at h; exact .inr ⟨by omega, h.symm⟩
    | succ k => rw [hk] at h; simp at h
 have top : (σ ++ [ob])[σ.length]? = some ob := by simp
 refine ⟨hR.below, hR.imm, hR.mimm, hR.siz, fun l u b hb => ?_, hR.inj, fun l x b ho hb => ?_, fun l cs frz u b ho hb => ?_, fun l ks vs b ho hb => ?_, fun l x ho => ?_, fun l x ho => ?_, hR.bimm, hR.bmimm⟩
 · have := hR.blk l u b hb
   exact ⟨by simpa using this.1, this.2⟩
 · rcases look ho with ⟨_, h⟩ | ⟨rfl, rfl⟩
   · exact hR.obj l x b h hb
   · exact (hR.blk _ _ _ hb).2.2
 · rcases look ho with ⟨_, h⟩ | ⟨_, h⟩
   · exact hR.own l cs frz u b h hb
   · cases h
 · rcases look ho with ⟨_, h⟩ | ⟨_, h⟩
   · exact hR.ownm l ks vs b h hb
   · cases h
 · rcases look ho with ⟨_, h⟩ | ⟨rfl, rfl⟩
   · exact hR.ver l x h
   · refine ⟨Nat.le_refl _, fun u b hb => ?_⟩
     have := (hR.ver _ _ top).2 u b hb
     rw [hv] at this
     exact this
 · rcases look ho with ⟨_, h⟩ | ⟨_, rfl⟩
   · exact hR.frzle l x h
   · exact Nat.le_refl _
variable {α : Type} {E : Enc α} {xs ys zs : List α}
end
end Go.Fw
namespace Go.Fw
open Go.RowKit
mutual
def lent (σ : Sto) : Nat → D → Option D
 | 0, _ => none
 | n + 1, d => match d.pure with
   | true => some d
   | false => match d with
     | .sl l u o len sz f => match σ[l]? with
       | some (.cells cs _ v) => match Nat.beq v u && Nat.ble (o + len * sz) cs.length with
         | true => match lents σ n ((cs.drop o).take (len * sz)) with
           | some xs => some (.list xs len f)
           | none => none
         | false => none
       | _ => none
     | .agg cs => match lents σ n cs with
       | some xs => some (.agg xs)
       | none => none
     | _ => none
def lents (σ : Sto) : Nat → List D → Option (List D)
 | 0, _ => none
 | n + 1, l => match l with
   | [] => some []
   | d :: ds => match lent σ n d with
     | some x => match lents σ n ds with
       | some xs => some (x :: xs)
       | none => none
     | none => none
end
def snap (G : Gh) (w : World) : Gh := ⟨fun b o => w.cell? ⟨b, o, none⟩, G.mimm, fun _ _ => none, G.siz⟩
section
variable {P : Program} {B : Base P} {G : Gh} {σ : Sto} {w : World}
end
end Go.Fw

namespace Go.Fw
open Go.RowKit
theorem nbeq' {a b : Nat} (h : Nat.beq a b = true) : a = b := Nat.eq_of_beq_eq_true h
section
variable {P : Program} {ops : Array Oper} {ids : List Nat}
def noGuard (ops : Array Oper) : Bool := ops.toList.all fun o => o.guard.isNone
theorem noGuard_ok (h : noGuard ops = true) {i : Nat} {o : Oper} (ho : ops[i]? = some o) : o.guard = none := by
 have := List.all_eq_true.1 h o (List.mem_of_getElem? (by rw [Array.getElem?_toList]; exact ho))
 simpa using this
theorem wpOp_sub' {Q : Exit → Act → World → Prop} {K : Act → World → Prop} {a : Act} {w : World} (hg : noGuard ops = true) {i : Nat} {o : Oper} (h1 : ops[i]? = some o) (h : o.wp P a w K Q) : wpOp P ops Q i K a w := by
 have hn := noGuard_ok hg h1
 unfold wpOp
 rw [h1]
 simp only
 have e1 : ∀ y, Region.wanted o y = true := fun y => by unfold Region.wanted; rw [hn]
 rw [if_pos (e1 _)]
 exact .inl h
theorem getD_tf {L : Array Bool} {i : Nat} (h : i < L.size) : L.getD i true = L.getD i false := by
 simp [Array.getD_eq_getD_getElem?, h]
theorem DownCl.step {L : Array Bool} (h : DownCl ops L) (hs : L.size = ops.size) {i : Nat} (hi : i ∈ Region.ready .any ops L) : DownCl ops (L.setIfInBounds i true) := by
 obtain ⟨h1, o, h2, h3⟩ := mem_ready.1 hi
 have hil := (getD_false_of h1).1
 intro j oj hoj hL e he hb
 have hnow : L.getD e.on false = true := by
  rcases (getD_set_iff hil).1 hL with rfl | hL
  · rw [h2] at hoj; cases hoj; exact h3 e he hb
  · exact h j oj hoj hL e he hb
 exact (getD_set_iff hil).2 (.inr hnow)
end
end Go.Fw
namespace Go.Fw
open Go.RowKit
section
variable {P : Program} {N : Nat} {ops : Array Oper} {A : Res} {M : List Nat} {τ0 : Env} {s0 : Sto} {tab : List Rc} {S : List Sto} {C : List Nat} {τ τ2 : Env}
end
section
variable {fl : Nat} {P : Program} {N : Nat} {ops : Array Oper} {A : Res} {M : List Nat} {τ τ1 : Env} {σ : Sto} {tab : List Rc} {S : List Sto} {C : List Nat}
def AnyR (fl : Nat) (P : Program) (N : Nat) (ops : Array Oper) (τ : Env) (σ : Sto) (Q : AEx → Env → Sto → Prop) : Prop :=
 ∀ (B : Base P) (G0 G : Gh) (w : World) (a : Act) (fuel : Nat), G0.LeB fl G → Rel B G σ w → TRel G N τ a → ops.size ≤ fuel → wpAny P .any ops (liftQ fl B G0 N Q) fuel (Array.replicate ops.size false) a w
theorem AnyR.awp {id : Nat} {Q : AEx → Env → Sto → Prop} (hm : P.follows .mixedOrders = true) (h : AnyR fl P N ops τ σ Q) : AWp fl P N (.region id ops true) τ σ Q :=
 fun B G w a hR hT => wp_region_any hm (h B G G _ a ops.size (.refl G) hR.drawn hT (Nat.le_refl _))
def pick : List Nat → List Bool → List Nat
 | i :: r, b :: D => match b with
   | true => pick r D
   | false => i :: pick r D
 | _, _ => []
def hasN (x : Nat) (l : List Nat) : Bool := l.any (Nat.beq x)
theorem hasN_iff {x : Nat} {l : List Nat} : hasN x l = true ↔ x ∈ l := by
 unfold hasN
 rw [List.any_eq_true]
 exact ⟨fun ⟨y, h1, h2⟩ => (nbeq' h2) ▸ h1, fun h => ⟨x, h, Nat.beq_refl x⟩⟩
end
end Go.Fw
