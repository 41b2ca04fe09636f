import Derived.Test.YtfbeeambjjdbjaaGreatDoorFwStep
namespace Go.Fw
open Go.RowKit

/-! ### a region that draws its order -/
def mask1 (acc : List Nat) : List Edge → Nat
  | [] => 0
  | e :: es => match Region.binds .any e with
    | true => Nat.lor (Nat.lor (Nat.pow 2 e.on) (acc.getD e.on 0)) (mask1 acc es)
    | false => mask1 acc es

def masks : List Oper → List Nat → List Nat
  | [], acc => acc
  | o :: r, acc => masks r (acc ++ [mask1 acc o.after.toList])

def NeedsL (L : Array Bool) (m : Nat) : Prop := ∀ j, m.testBit j = true → L.getD j false = true

def DownCl (ops : Array Oper) (L : Array Bool) : Prop :=
  ∀ j oj, ops[j]? = some oj → L.getD j false = true → ∀ e ∈ oj.after, Region.binds .any e = true → L.getD e.on false = true

theorem mask1_ok {L : Array Bool} {acc : List Nat} (hacc : ∀ j m, acc[j]? = some m → L.getD j false = true → NeedsL L m) : ∀ (es : List Edge),
    (∀ e ∈ es, Region.binds .any e = true → L.getD e.on false = true) → NeedsL L (mask1 acc es)
  | [], _, j, hj => by simp [mask1] at hj
  | e :: es, h, j, hj => by
    have ih := mask1_ok hacc es (fun x hx => h x (List.mem_cons_of_mem _ hx))
    simp only [mask1] at hj
    split at hj
    · rename_i hb
      have he := h e (List.mem_cons_self ..) hb
      have e1 : Nat.lor (Nat.lor (Nat.pow 2 e.on) (acc.getD e.on 0)) (mask1 acc es) = ((2 ^ e.on ||| acc.getD e.on 0) ||| mask1 acc es) := rfl
      rw [e1, Nat.testBit_or, Nat.testBit_or, Nat.testBit_two_pow] at hj
      simp only [Bool.or_eq_true, decide_eq_true_eq] at hj
      rcases hj with (rfl | hj) | hj
      · exact he
      · cases hm : acc[e.on]? with
        | none => rw [List.getD_eq_getElem?_getD, hm] at hj; simp at hj
        | some m =>
          rw [List.getD_eq_getElem?_getD, hm] at hj
          exact hacc _ _ hm he j hj
      · exact ih j hj
    · exact ih j hj

theorem masks_ok {ops : Array Oper} {L : Array Bool} (hd : DownCl ops L) : ∀ (r pre : List Oper) (acc : List Nat), ops.toList = pre ++ r → acc.length = pre.length →
    (∀ (j m : Nat) (oj : Oper), acc[j]? = some m → ops[j]? = some oj → (∀ e ∈ oj.after, Region.binds .any e = true → L.getD e.on false = true) → NeedsL L m) →
    (∀ (j m : Nat) (oj : Oper), (masks r acc)[j]? = some m → ops[j]? = some oj → (∀ e ∈ oj.after, Region.binds .any e = true → L.getD e.on false = true) → NeedsL L m)
  | [], _, _, _, _, h => h
  | o :: r, pre, acc, hops, hlen, h => by
    refine masks_ok hd r (pre ++ [o]) (acc ++ [mask1 acc o.after.toList]) (by simp [hops]) (by simp [hlen]) ?_
    intro j m oj hj hoj hall
    rcases Nat.lt_or_ge j acc.length with hlt | hge
    · rw [List.getElem?_append_left hlt] at hj
      exact h j m oj hj hoj hall
    · rw [List.getElem?_append_right hge] at hj
      have hj0 : j = acc.length := by
        cases hx : j - acc.length with
        | zero => omega
        | succ k => rw [hx] at hj; simp at hj
      subst hj0
      simp at hj
      subst hj
      have ho : ops[acc.length]? = some o := by
        rw [← Array.getElem?_toList, hops, hlen]; simp
      rw [ho] at hoj; cases hoj
      refine mask1_ok (fun j' m' hm' hL => ?_) _ (fun e he hb => hall e (by simpa using he) hb)
      have hlt' : j' < acc.length := by
        rcases Nat.lt_or_ge j' acc.length with h' | h'
        · exact h'
        · rw [List.getElem?_eq_none h'] at hm'; cases hm'
      have : j' < ops.size := by
        have : ops.toList.length = pre.length + (o :: r).length := by rw [hops]; simp
        simp at this; omega
      exact h j' m' ops[j'] hm' (Array.getElem?_eq_getElem this) (fun e he hb => hd j' _ (Array.getElem?_eq_getElem this) hL e he hb)

/-- a row: a condition on every element. -/
def AllP {α : Type} (f : α → Prop) : List α → Prop
  | [] => True
  | x :: r => f x ∧ AllP f r

theorem AllP.mem {α : Type} {f : α → Prop} : ∀ {l : List α}, AllP f l → ∀ x ∈ l, f x
  | _ :: _, h, x, hx => by
    rcases List.mem_cons.1 hx with rfl | hx
    · exact h.1
    · exact h.2.mem x hx

/-- objects that are not yet there. -/
def hide : List Nat → Sto → Sto
  | [], σ => σ
  | l :: ls, σ => (hide ls σ).set l .dead

theorem hide_len : ∀ (ls : List Nat) (σ : Sto), (hide ls σ).length = σ.length
  | [], _ => rfl
  | l :: ls, σ => by simp [hide, hide_len ls σ]

theorem hide_get : ∀ (ls : List Nat) (σ : Sto) (x : Nat), (hide ls σ)[x]? = if x ∈ ls ∧ x < σ.length then some .dead else σ[x]?
  | [], _, _ => by simp [hide]
  | l :: ls, σ, x => by
    simp only [hide, List.getElem?_set, hide_len, hide_get ls σ x, List.mem_cons]
    by_cases e : l = x
    · subst e
      by_cases hx : l < σ.length
      · simp [hx]
      · simp only [hx, if_false]
        have h1 : ¬ (l < σ.length) := hx
        simp [List.getElem?_eq_none (Nat.le_of_not_lt hx)]
    · have e' : ¬ x = l := fun h => e h.symm
      simp [e, e']

abbrev Res := List (Nat × Nat × List D)

def subsA : Res → Nat → List (List Nat)
  | [], _ => [[]]
  | (j, l, _) :: A, m => match Nat.testBit m j with
    | true => subsA A m
    | false => subsA A m ++ (subsA A m).map (l :: ·)

def hidden (L : Array Bool) : Res → List Nat
  | [] => []
  | (j, l, _) :: A => match L.getD j false with
    | true => hidden L A
    | false => l :: hidden L A

theorem hidden_mem {L : Array Bool} {m : Nat} (h : NeedsL L m) : ∀ (A : Res), hidden L A ∈ subsA A m
  | [] => by simp [hidden, subsA]
  | (j, l, _) :: A => by
    have ih := hidden_mem h A
    simp only [hidden, subsA]
    cases hL : L.getD j false <;> cases hb : Nat.testBit m j <;> simp only
    · exact List.mem_append_right _ (List.mem_map.2 ⟨_, ih, rfl⟩)
    · rw [h j hb] at hL; cases hL
    · exact List.mem_append_left _ ih
    · exact ih

def keepS (m : Nat) : List Sto → List Nat → List Sto
  | [], _ => []
  | σ :: r, C => match C.all (fun c => !Nat.testBit m c) with
    | true => σ :: keepS m r C.tail
    | false => keepS m r C.tail

theorem keepS_mem {m : Nat} : ∀ {S : List Sto} {C : List Nat} {k : Nat} {σ : Sto}, S[k]? = some σ → (∀ k' c, C[k']? = some c → k ≤ k' → Nat.testBit m c = false) → σ ∈ keepS m S C
  | [], _, _, _, h, _ => by simp at h
  | s :: S, C, 0, σ, h, hc => by
    simp at h
    subst h
    simp only [keepS]
    have : C.all (fun c => !Nat.testBit m c) = true := by
      rw [List.all_eq_true]
      intro c hcm
      obtain ⟨k', hk'⟩ := List.getElem?_of_mem hcm
      simp [hc k' c hk' (Nat.zero_le _)]
    rw [this]
    exact List.mem_cons_self ..
  | s :: S, C, k + 1, σ, h, hc => by
    simp only [List.getElem?_cons_succ] at h
    have ih := keepS_mem (S := S) (C := C.tail) h (fun k' c hk' hle => hc (k' + 1) c (by rw [← hk', List.getElem?_tail]) (by omega))
    simp only [keepS]
    split
    · exact List.mem_cons_of_mem _ ih
    · exact ih

inductive Kd where
  | skip | read | chain (k : Nat) | alloc (l : Nat) (cs : List D)

structure Rc where
  o : Oper
  env : Env
  v : D
  kd : Kd

def rst (ops : Array Oper) (o : Oper) (τ : Env) : Env := τ.filter fun p => (o.looksAt ops).contains p.1

/-- the readers that a later step could meet. -/
def reS (A : Res) (M C : List Nat) (σ : Sto) : Nat → List Rc → List (Rc × Sto)
  | _, [] => []
  | j, r :: rs => match r.kd with
    | .read => match C.all (fun c => !Nat.testBit (M.getD c 0) j) with
      | true => ((subsA A (M.getD j 0)).map fun ls => (r, hide ls σ)) ++ reS A M C σ (j + 1) rs
      | false => reS A M C σ (j + 1) rs
    | _ => reS A M C σ (j + 1) rs

def chOk (m : Nat) (C : List Nat) : Bool := match C.getLast? with
  | none => true
  | some c => Nat.testBit m c

def resOf? (A : Res) (i : Nat) : Option (Nat × List D) := match A.find? (fun x => x.1 == i) with
  | some x => some x.2
  | none => none

def ADr (P : Program) (N : Nat) (ops : Array Oper) (A : Res) (M : List Nat) : List Oper → Nat → Env → List Sto → List Nat → List Rc → (Env → Sto → Prop) → Prop
  | [], _, τ, S, _, tab, K => AllP (fun (x : Nat × Nat × List D) => ∃ r, tab[x.1]? = some r ∧ r.kd = .alloc x.2.1 x.2.2) A ∧ ∃ σ, S.getLast? = some σ ∧ K τ σ
  | o :: r, i, τ, S, C, tab, K =>
    (wantD ops (rst ops o τ) o = some false ∧ ∃ τ2, putD N o.dst (.tuple []) τ = some τ2 ∧ ADr P N ops A M r (i + 1) τ2 S C (tab ++ [⟨o, rst ops o τ, .tuple [], .skip⟩]) K) ∨
    (wantD ops (rst ops o τ) o = some true ∧ ∃ d τ2,
      AllP (fun s => AOp P N o (rst ops o τ) s fun d' s' => d' = d ∧ s' = s) ((keepS (M.getD i 0) S C).flatMap fun σ => (subsA A (M.getD i 0)).map (hide · σ)) ∧
      putD N o.dst d τ = some τ2 ∧ ADr P N ops A M r (i + 1) τ2 S C (tab ++ [⟨o, rst ops o τ, d, .read⟩]) K) ∨
    (wantD ops (rst ops o τ) o = some true ∧ chOk (M.getD i 0) C = true ∧ ∃ d τ2 σ σ', S.getLast? = some σ ∧
      AllP (fun ls => AOp P N o (rst ops o τ) (hide ls σ) fun d' s' => d' = d ∧ s' = hide ls σ') (subsA A (M.getD i 0)) ∧
      AllP (fun (x : Rc × Sto) => AOp P N x.1.o x.1.env x.2 fun d' s' => d' = x.1.v ∧ s' = x.2) (reS A M (C ++ [i]) σ' 0 tab) ∧
      AllP (fun (x : Nat × Nat × List D) => match Nat.testBit (M.getD i 0) x.1 with | true => True | false => σ'[x.2.1]? = some (.cells x.2.2 0 0)) A ∧
      putD N o.dst d τ = some τ2 ∧ ADr P N ops A M r (i + 1) τ2 (S ++ [σ']) (C ++ [i]) (tab ++ [⟨o, rst ops o τ, d, .chain C.length⟩]) K) ∨
    (wantD ops (rst ops o τ) o = some true ∧ ∃ e l cs τ2, o.op = .alloc e ∧ resOf? A i = some (l, cs) ∧ tyZero P e = some cs ∧
      putD N o.dst (.ptr l 0 0) τ = some τ2 ∧ ADr P N ops A M r (i + 1) τ2 S C (tab ++ [⟨o, rst ops o τ, .ptr l 0 0, .alloc l cs⟩]) K)
end Go.Fw
