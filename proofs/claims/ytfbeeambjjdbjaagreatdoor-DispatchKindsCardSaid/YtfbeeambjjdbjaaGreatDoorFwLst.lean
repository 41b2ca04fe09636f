import Derived.Test.YtfbeeambjjdbjaaGreatDoorFwGc
import Derived.IntWalk
namespace Go.Fw
open Go.RowKit

/-- how a type's values lie in cells. -/
structure Enc (α : Type) where
  sz : Nat
  cells : α → List D
  len : ∀ a, (cells a).length = sz

def flatE {α : Type} (E : Enc α) : List α → List D
  | [] => []
  | a :: r => E.cells a ++ flatE E r

section
variable {α : Type}

theorem flatE_len (E : Enc α) : ∀ xs : List α, (flatE E xs).length = xs.length * E.sz
  | [] => by simp [flatE]
  | a :: r => by simp [flatE, E.len, flatE_len E r, Nat.add_mul, Nat.add_comm]

theorem flatE_append (E : Enc α) : ∀ xs ys : List α, flatE E (xs ++ ys) = flatE E xs ++ flatE E ys
  | [], _ => rfl
  | a :: r, ys => by simp [flatE, flatE_append E r ys]

theorem flatE_take (E : Enc α) : ∀ (n : Nat) (xs : List α), (flatE E xs).take (n * E.sz) = flatE E (xs.take n)
  | 0, xs => by simp [flatE]
  | n + 1, [] => by simp [flatE]
  | n + 1, a :: r => by
    have e : (n + 1) * E.sz = (E.cells a).length + n * E.sz := by rw [E.len, Nat.add_mul, Nat.one_mul, Nat.add_comm]
    simp only [flatE, List.take_succ_cons]
    rw [e, List.take_length_add_append, flatE_take E n r]

theorem flatE_drop (E : Enc α) : ∀ (n : Nat) (xs : List α), (flatE E xs).drop (n * E.sz) = flatE E (xs.drop n)
  | 0, xs => by simp
  | n + 1, [] => by simp [flatE]
  | n + 1, a :: r => by
    have e : (n + 1) * E.sz = (E.cells a).length + n * E.sz := by rw [E.len, Nat.add_mul, Nat.one_mul, Nat.add_comm]
    simp only [flatE, List.drop_succ_cons]
    rw [e, List.drop_length_add_append, flatE_drop E n r]

theorem flatE_get {E : Enc α} {xs : List α} {i : Nat} {a : α} (h : xs[i]? = some a) : ((flatE E xs).drop (i * E.sz)).take E.sz = E.cells a := by
  have hlt := lt_of_getElem? h
  rw [flatE_drop, List.drop_eq_getElem_cons hlt]
  rw [List.getElem?_eq_getElem hlt] at h
  cases h
  simp only [flatE]
  have e : E.sz = (E.cells xs[i]).length := (E.len _).symm
  rw [e, List.take_left]

/-- an element. -/
def ix (xs : List α) (i : Int) : Option α := if 0 ≤ i then xs[i.toNat]? else none

theorem ix_inv {xs : List α} {i : Int} {a : α} (h : ix xs i = some a) : 0 ≤ i ∧ i < xs.length ∧ xs[i.toNat]? = some a := by
  unfold ix at h
  split at h <;> try (cases h; done)
  rename_i h0
  have := lt_of_getElem? h
  exact ⟨h0, by omega, h⟩

variable {T : Tys} {τ : Env} {σ : Sto} {E : Enc α} {xs : List α}

theorem op_idx {t : TypeId} {x i : Operand} {k : IntKind} {n : Int} {a : α} {f : Bool} (h1 : lk T.idx t = some (.slice E.sz)) (h2 : ev τ x = some (.list (flatE E xs) xs.length f)) (h3 : ev τ i = some (.int k n))
    (hp : 0 < E.sz) (h : ix xs n = some a) : aop T τ σ (.indexAddr t x i) = some (.rptr (flatE E xs) (n.toNat * E.sz), σ) := by
  obtain ⟨h4, h5, _⟩ := ix_inv h
  simp [aop, oIndexAddr, h1, h2, h3, idxInt, idxSl, h4, h5, hp, flatE_len]

theorem op_ld {t : TypeId} {x : Operand} {n : Int} {a : α} {b : Bool} {d : D} (h1 : lk T.ld t = some (E.sz, b)) (h2 : ev τ x = some (.rptr (flatE E xs) (n.toNat * E.sz))) (hb : b = true ∨ E.sz = 1) (h : ix xs n = some a)
    (h3 : ldFin b (E.cells a) = some d) : aop T τ σ (.load t x) = some (d, σ) := by
  obtain ⟨h4, h5, h6⟩ := ix_inv h
  have hl : n.toNat * E.sz + E.sz ≤ (flatE E xs).length := by
    rw [flatE_len, ← Nat.succ_mul]
    exact Nat.mul_le_mul_right _ (by omega)
  simp only [aop, oLoad, h1, h2, if_pos hb, readAt, if_pos hl, flatE_get h6, h3]
  rfl
end

section
variable {P : Program} {T : Tys} {N : Nat} {all : Array Oper} {o : Oper} {r : List Oper} {τ τ' : Env} {σ σ' : Sto} {d : D} {Kt : Env → Sto → Prop}
theorem goA (tok : TOk T P) (h1 : wantD all τ o = some true) (h2 : aop T τ σ o.op = some (d, σ')) (h3 : putD N o.dst d τ = some τ') (h : AOps P N all r τ' σ' Kt) : AOps P N all (o :: r) τ σ Kt :=
  .inl ⟨h1, (aop_aop tok h2).mono (by rintro d' s ⟨rfl, rfl⟩; exact ⟨τ', h3, h⟩)⟩
end

/-! ### integers that fit -/
def fits (k : IntKind) (n : Int) : Bool := decide (k.wrap n = n)
def ck (k : IntKind) (n : Int) : Option Int := match fits k n with | true => some n | false => none
theorem ck_inv {k : IntKind} {n m : Int} (h : ck k n = some m) : k.wrap n = n ∧ m = n := by
  unfold ck at h
  split at h <;> try (cases h; done)
  rename_i hf
  cases h
  exact ⟨by simpa [fits] using hf, rfl⟩

theorem bind_inv {α β : Type} {x : Option α} {f : α → Option β} {b : β} (h : x.bind f = some b) : ∃ a, x = some a ∧ f a = some b := by
  cases x with
  | none => cases h
  | some a => exact ⟨a, rfl, h⟩

/-- forgetting slots: those that are kept, one by one. -/
theorem get_all {τ : Env} : ∀ {τ' : Env}, AllP (fun p : Nat × D => get τ p.1 = some p.2) τ' → ∀ t d, get τ' t = some d → get τ t = some d
  | [], _, _, _, h => by simp [get] at h
  | (i, x) :: r, ha, t, d, h => by
    simp only [get] at h
    split at h
    · rename_i e; subst e; cases h; exact ha.1
    · exact get_all ha.2 t d h
end Go.Fw
