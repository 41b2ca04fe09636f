import Derived.Test.YtfbeeambjjdbjaaGreatDoorFwLst
namespace Go.Fw
open Go.RowKit

section
variable {P : Program} {T : Tys} {N : Nat} {all : Array Oper} {o : Oper} {r : List Oper} {τ τ' : Env} {σ σ' : Sto} {Kt : Env → Sto → Prop}

/-- 's == nil': a list without elements may be nil or not. -/
theorem aop_nilEq {t ty : TypeId} {x : Operand} {cs : List D} {n : Nat} {f : Bool} {e : TypeId} (ho : o.op = .binOp .eql t x (.const (.slice none 0 0)) ty) (ht : P.underlying t = some (.slice e)) (hx : ev τ x = some (.list cs n f)) :
    AOp P N o τ σ (fun d s => s = σ ∧ ∃ b : Bool, d = .bool b ∧ (b = true → cs = [])) := by
  intro B G w a hR hT next Q hn
  have hxr := ev_ok hT hx
  simp only [Rep] at hxr
  obtain ⟨ad, cap, hv, h1, h2, h3, h4⟩ := hxr
  have key : ∃ b : Bool, (Op.equal t (.slice ad n cap) (.slice none 0 0)).run P w = .ok b w ∧ (b = true → cs = []) := by
    have e2 : ∀ x y, Op.equal t x y = Op.equalIn (9999 + 1) t x y := fun _ _ => rfl
    simp only [e2]
    clear e2
    generalize (9999 : Nat) = dep
    cases ad with
    | none =>
      refine ⟨true, by simp [Op.equalIn, run_underlying ht], fun _ => ?_⟩
      rcases h4 with ⟨b, o', h, _⟩ | h
      · cases h
      · exact h
    | some ad => exact ⟨false, by simp [Op.equalIn, run_underlying ht], fun h => by cases h⟩
  obtain ⟨b, hb, hc⟩ := key
  have hrun : (execOp a.eval o).run P w = .ok (.value (.bool b)) w := by
    obtain ⟨dst, op, ty', pos, after, guard⟩ := o
    simp only at ho
    subst ho
    unfold execOp
    have e1 : a.eval (.const (.slice none 0 0)) = .slice none 0 0 := rfl
    have hg : (eqGuard .eql t x (.const (.slice none 0 0)) (.slice ad n cap) (.slice none 0 0)).run P w = .ok () w := eqGuard_prim (fun _ _ => .inl (by simp)) (.inl (by simp))
    have hbin : (binOp .eql t (.slice ad n cap) (.slice none 0 0)).run P w = .ok (.bool b) w := by
      rw [bin_eql (by simp [notNum]), hb]; rfl
    simp only [hv, e1, Sem.run_bind, hg, Result.andThen_ok, hbin, Sem.run_pure]
  unfold Oper.wp
  rw [hrun]
  exact hn _ w G _ σ (.refl G) hR (by simp only [Rep]) ⟨rfl, b, rfl, hc⟩

theorem go_nilEq {t ty : TypeId} {x : Operand} {cs : List D} {n : Nat} {f : Bool} {e : TypeId} {tt : Nat} (h1 : wantD all τ o = some true) (ho : o.op = .binOp .eql t x (.const (.slice none 0 0)) ty) (ht : P.underlying t = some (.slice e))
    (hx : ev τ x = some (.list cs n f)) (hd : o.dst = some tt) (hN : Nat.blt tt N = true) (h : ∀ b : Bool, (b = true → cs = []) → AOps P N all r ((tt, .bool b) :: τ) σ Kt) : AOps P N all (o :: r) τ σ Kt := by
  refine .inl ⟨h1, (aop_nilEq ho ht hx).mono ?_⟩
  rintro d s ⟨rfl, b, rfl, hb⟩
  refine ⟨(tt, .bool b) :: τ, ?_, h b hb⟩
  unfold putD; rw [hd]; simp only; exact if_pos (Nat.le_of_ble_eq_true hN)
end

/-- what is appended to a new slice. -/
theorem app_new {T : Tys} {τ : Env} {σ : Sto} {t tx : TypeId} {s x : Operand} {sz by' n : Nat} {cs : List D} {f : Bool} (h1 : lk2 T.app t tx = some (sz, by')) (h2 : ev τ s = some (.list [] 0 true)) (h3 : ev τ x = some (.list cs n f))
    (hn : 0 < n) (hl : cs.length = n * sz) (hc : cs.all D.isCell = true) (hb : n * by' ≤ limit) (hb' : n ≤ limit) : aop T τ σ (.call { callee := .builtin .append, args := #[s, x], argTypes := #[t, tx] }) = some (.sl σ.length 0 0 n sz false, σ ++ [.cells cs 0 0]) := by
  show oAppend T τ σ [s, x] [t, tx] = _
  have hn' : ¬ n = 0 := by omega
  simp [oAppend, h1, h2, h3, appD, srcD, hl, hc, hn', hb, hb']

/-- a slice of one's own, handed back whole. -/
theorem frz_own {σ : Sto} {l u n sz fz : Nat} {cs : List D} {f : Bool} (hl : σ[l]? = some (.cells cs fz u)) (hn : cs.length = n * sz) : frzR σ (.sl l u 0 n sz f) = some (.list cs n f, σ.set l (.cells cs cs.length u)) := by
  have h1 : ¬ (n * sz) > cs.length := by omega
  simp [frzR, frz1, frzC, hl, hn, List.take_of_length_le (Nat.le_of_eq hn)]
end Go.Fw
