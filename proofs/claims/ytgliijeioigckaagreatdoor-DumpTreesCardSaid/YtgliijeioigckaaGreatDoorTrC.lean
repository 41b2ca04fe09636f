/- What a program's functions lead to, reckoned over a table. Everything is proved; no condition is added. -/
import GoSem.ClaimFollow
import Derived.KernelRfl
namespace Go.Fw
open Go
def clos (K : List (List Nat)) : Nat → List Nat → Nat → List Nat → List Nat
  | 0, _, _, seen => seen.reverse
  | n + 1, l, m, seen => match l with
    | [] => seen.reverse
    | f :: todo => match Nat.beq (Nat.land (Nat.shiftRight m f) 1) 1 with
      | true => clos K n todo m seen
      | false => clos K n ((K[f]?).getD [] ++ todo) (Nat.lor m (Nat.shiftLeft 1 f)) (f :: seen)
theorem clos_ok {P : Program} {K : List (List Nat)} (hK : P.funcs.toList.map P.leadsTo = K) : ∀ (n : Nat) (todo : List Nat) (m : Nat) (seen : List Nat), (∀ g, m.testBit g = seen.contains g) → P.closureVia n todo seen = clos K n todo m seen := by
  have hk : ∀ g : Nat, (P.funcs[g]?).elim [] P.leadsTo = (K[g]?).getD [] := by
    intro g
    subst hK
    rw [List.getElem?_map, Array.getElem?_toList]
    cases P.funcs[g]? <;> rfl
  have hb : ∀ m f : Nat, Nat.beq (Nat.land (Nat.shiftRight m f) 1) 1 = m.testBit f := by
    intro m f
    have : Nat.land (Nat.shiftRight m f) 1 = (m >>> f) &&& 1 := rfl
    rw [this, Nat.and_one_is_mod, Nat.testBit_eq_decide_div_mod_eq, Nat.shiftRight_eq_div_pow]
    rw [Bool.eq_iff_iff]
    simp [Nat.beq_eq]
  intro n
  induction n with
  | zero => intro todo m seen h; cases todo <;> rfl
  | succ n ih =>
    intro todo m seen h
    cases todo with
    | nil => rfl
    | cons f todo =>
      simp only [Program.closureVia, clos, hb, h f]
      cases hc : seen.contains f with
      | true => simp only [if_true]; exact ih _ _ _ h
      | false =>
        simp only [Bool.false_eq_true, if_false]
        rw [hk]
        refine ih _ _ _ fun g => ?_
        have e : Nat.lor m (Nat.shiftLeft 1 f) = m ||| (1 <<< f) := rfl
        rw [e, Nat.testBit_or, h g, Nat.testBit_shiftLeft, List.contains_cons]
        by_cases hgf : g = f
        · subst hgf
          simp
        · have h1 : (g == f) = false := by simpa using hgf
          rw [h1]
          have h2 : (decide (g ≥ f) && Nat.testBit 1 (g - f)) = false := by
            by_cases h3 : g ≥ f
            · obtain ⟨k, hk2⟩ : ∃ k, g - f = k + 1 := ⟨g - f - 1, by omega⟩
              rw [hk2, Nat.testBit_succ]
              simp
            · simp [h3]
          rw [h2]
          simp
theorem closure_of {P : Program} {K : List (List Nat)} {f : FuncId} {N : Nat} {L : List Nat} (hK : P.funcs.toList.map P.leadsTo = K) (hN : 1 + (K.map fun l => l.length + 1).sum = N) (hL : clos K N [f] 0 [] = L) : P.closure f = L := by
  unfold Program.closure
  have e : (P.funcs.toList.map fun g => (P.leadsTo g).length + 1).sum = (K.map fun l => l.length + 1).sum := by
    subst hK
    rw [List.map_map]
    rfl
  rw [e, hN, clos_ok hK N [f] 0 [] (fun g => by simp), hL]
theorem inPlace_of {P : Program} {f : FuncId} {L : List Nat} (h : P.closure f = L) : P.inPlace f = P.inPlaceOf L := by
  unfold Program.inPlace Program.inPlaceOf
  rw [h]
theorem varsNamed_of {P : Program} {f : FuncId} {L : List Nat} (h : P.closure f = L) : P.varsNamed f = P.varsOf L := by
  unfold Program.varsNamed Program.varsOf
  rw [h]
end Go.Fw
