import Derived.Test.YtfbeeambjjdbjaaGreatDoorFwOps5
import Derived.Laws.Entries
namespace Go.Fw
open Go.RowKit

section
variable {P : Program} {B : Base} {G : Gh} {σ : List AObj} {w : World}

/-! ### operators -/
def intD (op : BinOp) (k k' : IntKind) (a b : Int) : Option D :=
  match op with
  | .shl => if 0 ≤ b then some (.int k (k.wrap (a * 2 ^ min b.toNat k.bits))) else none
  | .shr => if 0 ≤ b then some (.int k (a.fdiv (2 ^ min b.toNat k.bits))) else none
  | .add => if k = k' then some (.int k (k.wrap (a + b))) else none
  | .sub => if k = k' then some (.int k (k.wrap (a - b))) else none
  | .mul => if k = k' then some (.int k (k.wrap (a * b))) else none
  | .quo => if k = k' ∧ b ≠ 0 then some (.int k (k.wrap (a.tdiv b))) else none
  | .rem => if k = k' ∧ b ≠ 0 then some (.int k (a.tmod b)) else none
  | .and => if k = k' then some (.int k (bits .and k a b)) else none
  | .or => if k = k' then some (.int k (bits .or k a b)) else none
  | .xor => if k = k' then some (.int k (bits .xor k a b)) else none
  | .andNot => if k = k' then some (.int k (bits .andNot k a b)) else none
  | .eql => if k = k' then some (.bool (a == b)) else none
  | .neq => if k = k' then some (.bool (a != b)) else none
  | .lss => if k = k' then some (.bool (decide (a < b))) else none
  | .leq => if k = k' then some (.bool (decide (a ≤ b))) else none
  | .gtr => if k = k' then some (.bool (decide (a > b))) else none
  | .geq => if k = k' then some (.bool (decide (a ≥ b))) else none

def strD (op : BinOp) (a b : List UInt8) : Option D :=
  match op with
  | .add => if a.length + b.length ≤ 9223372036854775807 then some (.str (a ++ b)) else none
  | .eql => some (.bool (a == b))
  | .neq => some (.bool (!(a == b)))
  | .lss => some (.bool (Op.bytesLess a b))
  | .leq => some (.bool (Op.bytesLess a b || a == b))
  | .gtr => some (.bool (!(Op.bytesLess a b || a == b)))
  | .geq => some (.bool (!Op.bytesLess a b))
  | _ => none

inductive EK where
  | prim | bool | flat (ks : List LK) | iface | ptr | func | map
  deriving Inhabited

def tyEq (P : Program) (t : TypeId) : Option EK :=
  match P.underlying t with
  | some .bool => some .bool
  | some (.int _) => some .prim
  | some .string => some .prim
  | some (.struct _) => if P.eqGuardType P.depth t = false then (match ftOf P 20 t, tyLd P t with
      | some ks, some (n, true) => if ks.length = n then some (.flat ks) else none
      | _, _ => none) else none
  | some (.interface _) => some .iface
  | some (.pointer _) => some .ptr
  | some (.func _ _ _) => some .func
  | some (.map _ _) => some .map
  | _ => none

def eqD (cst : Bool) : EK → D → D → Option Bool
  | .bool, .bool a, .bool b => some (a == b)
  | .flat ks, .agg cs, .agg ds => if cs.length = ks.length ∧ ds.length = ks.length then cellsEq ks cs ds else none
  | .iface, .nili, .nili => if cst then some true else none
  | .iface, .nili, .iface _ _ => some false
  | .iface, .nili, .anyi => some false
  | .iface, .iface _ _, .nili => some false
  | .iface, .anyi, .nili => some false
  | .ptr, .nilp, .nilp => some true
  | .ptr, .nilp, .ptr _ _ _ => some false
  | .ptr, .nilp, .rptr _ _ => some false
  | .ptr, .ptr _ _ _, .nilp => some false
  | .ptr, .rptr _ _, .nilp => some false
  | .func, .nilf, .nilf => some true
  | .func, .nilf, .func _ _ _ => some false
  | .func, .func _ _ _, .nilf => some false
  | .map, .nilmap, .nilmap => some true
  | .map, .nilmap, .map _ => some false
  | .map, .map _, .nilmap => some false
  | .map, .nilmap, .cmap _ _ => some false
  | .map, .cmap _ _, .nilmap => some false
  | _, _, _ => none

theorem int_ok {op : BinOp} {k k' : IntKind} {a b : Int} {d : D} (t : TypeId) (h : intD op k k' a b = some d) : ∃ v, (binOp op t (.int k a) (.int k' b)).run P w = .ok v w ∧ Rep G d v := by
  cases op <;> simp only [intD] at h <;> split at h <;> try (cases h; done)
  all_goals (rename_i hc; cases h)
  case shl => exact ⟨_, by simp [binOp, Op.shift, Int.not_lt.2 hc]; rfl, by simp [Rep]⟩
  case shr => exact ⟨_, by simp [binOp, Op.shift, Int.not_lt.2 hc]; rfl, by simp [Rep]⟩
  case quo => obtain ⟨rfl, hb⟩ := hc; exact ⟨_, by simp [binOp, Op.intDiv, hb]; rfl, by simp [Rep]⟩
  case rem => obtain ⟨rfl, hb⟩ := hc; exact ⟨_, by simp [binOp, Op.intDiv, hb]; rfl, by simp [Rep]⟩
  all_goals (subst hc)
  case add => exact ⟨_, by simp [binOp, Op.intArith]; rfl, by simp [Rep]⟩
  case sub => exact ⟨_, by simp [binOp, Op.intArith]; rfl, by simp [Rep]⟩
  case mul => exact ⟨_, by simp [binOp, Op.intArith]; rfl, by simp [Rep]⟩
  case and => exact ⟨_, by simp [binOp, intBits_and]; rfl, by simp [Rep]⟩
  case or => exact ⟨_, by simp [binOp, intBits_or]; rfl, by simp [Rep]⟩
  case xor => exact ⟨_, by simp [binOp, intBits_xor]; rfl, by simp [Rep]⟩
  case andNot => exact ⟨_, by simp [binOp, intBits_andNot]; rfl, by simp [Rep]⟩
  case eql => exact ⟨_, by simp [binOp, Op.intCmp]; rfl, by simp [Rep]⟩
  case neq => exact ⟨_, by simp [binOp, Op.intCmp]; rfl, by simp [Rep]⟩
  case lss => exact ⟨_, by simp [binOp, Op.intCmp]; rfl, by simp [Rep]⟩
  case leq => exact ⟨_, by simp [binOp, Op.intCmp]; rfl, by simp [Rep]⟩
  case gtr => exact ⟨_, by simp [binOp, Op.intCmp]; rfl, by simp [Rep]⟩
  case geq => exact ⟨_, by simp [binOp, Op.intCmp]; rfl, by simp [Rep]⟩

theorem str_ok {op : BinOp} {a b : List UInt8} {d : D} (t : TypeId) (h : strD op a b = some d) : ∃ v, (binOp op t (.string ⟨a.toArray⟩) (.string ⟨b.toArray⟩)).run P w = .ok v w ∧ Rep G d v := by
  cases op <;> simp only [strD] at h <;> try (cases h; done)
  case add =>
    split at h <;> try (cases h; done)
    rename_i hc
    cases h
    refine ⟨.string ⟨(a ++ b).toArray⟩, ?_, by simp [Rep]⟩
    simp only [binOp, Op.stringOp, bytes_size, bytes_append]
    rw [if_neg (by simp [IntKind.max, IntKind.signed, IntKind.bits]; omega)]
    rfl
  all_goals (cases h; exact ⟨_, by simp only [binOp, Op.stringOp, bytes_toList]; rfl, by simp [Rep]⟩)

def isCstB : Operand → Bool
  | .const _ => true
  | _ => false

theorem eqGuard_prim {op : BinOp} {t : TypeId} {x y : Operand} {a b : Value} (h : ∀ xs ys, a ≠ .agg xs ∨ b ≠ .agg ys) (h' : a ≠ .nilIface ∨ b ≠ .nilIface) : (eqGuard op t x y a b).run P w = .ok () w := by
  have key : (match a, b with
    | Value.nilIface, Value.nilIface => if isCstB x || isCstB y then (pure () : Sem Unit) else do
      if ← Op.eqGuardIn Op.maxDepth t a b then unsupported (.noEntry "binop/eql: two nil values of an interface type with methods, neither of them the literal nil")
    | Value.agg _, Value.agg _ => do
      if !(← program).eqGuardType (← program).depth t then return
      if ← Op.eqGuardIn Op.maxDepth t a b then unsupported (.noEntry "binop/eql: two nil values of an interface type with methods, in a part of a struct or an array")
    | _, _ => pure ()).run P w = .ok () w := by
    split
    · rcases h' with h' | h' <;> exact absurd rfl h'
    · rename_i xs ys; rcases h xs ys with h' | h' <;> exact absurd rfl h'
    · rfl
  cases op <;> first | rfl | exact key

def isCst : Operand → Bool
  | .const _ => true
  | _ => false

def binD (ek? : Option EK) (op : BinOp) (cst : Bool) (x y : D) : Option D :=
  match x, y with
  | .int k a, .int k' b => intD op k k' a b
  | .str a, .str b => strD op a b
  | x, y => match op, ek? with
    | .eql, some ek => (eqD cst ek x y).map .bool
    | .neq, some ek => (eqD cst ek x y).map fun r => .bool (!r)
    | _, _ => none

set_option maxHeartbeats 1000000 in
theorem eq_run {cst : Bool} {ek : EK} {t : TypeId} (ht : tyEq P t = some ek) {x y : D} {u v : Value} {r : Bool} (h : eqD cst ek x y = some r) (hx : Rep G x u) (hy : Rep G y v) :
    (Op.equal t u v).run P w = .ok r w := by
  unfold tyEq at ht
  show (Op.equalIn (9999 + 1) t u v).run P w = .ok r w
  generalize hdep : (9999 : Nat) = dep
  split at ht <;> try (cases ht; done)
  · rename_i hu
    cases ht
    cases x <;> cases y <;> simp only [eqD] at h <;> try (cases h; done)
    simp only [Rep] at hx hy; subst hx hy; cases h
    exact run_equalIn_bool' w _ t _ _ hu
  · cases ht
    cases x <;> cases y <;> simp only [eqD] at h <;> cases h
  · cases ht
    cases x <;> cases y <;> simp only [eqD] at h <;> cases h
  · rename_i fs hu
    split at ht <;> try (cases ht; done)
    split at ht <;> try (cases ht; done)
    rename_i ks n hft hld
    split at ht <;> try (cases ht; done)
    rename_i hk
    cases ht
    cases x <;> cases y <;> simp only [eqD] at h <;> try (cases h; done)
    rename_i cs ds
    split at h <;> try (cases h; done)
    rename_i hc
    simp only [Rep] at hx hy
    obtain ⟨xa, rfl, hxr⟩ := hx
    obtain ⟨ya, rfl, hyr⟩ := hy
    have base : ∀ m, (Op.equalIn (20 + m) t (.agg xa) (.agg ya)).run P w = .ok r w := by
      intro m
      have mono : ∀ (d : Nat) (t' : TypeId) (ks' : List LK), ftOf P d t' = some ks' → ftOf P (d + 1) t' = some ks' := by
        intro d
        induction d with
        | zero => intro t' ks' h'; simp [ftOf] at h'
        | succ d ih =>
          intro t' ks' h'
          have hff : ∀ (l : List Field) (off : Nat) (r : List LK), ftFields P (ftOf P d) l off = some r → ftFields P (ftOf P (d + 1)) l off = some r := by
            intro l
            induction l with
            | nil => intro off r hr; simpa [ftFields] using hr
            | cons f l ihl =>
              intro off r hr
              simp only [ftFields] at hr ⊢
              split at hr <;> try (cases hr; done)
              rename_i hno
              rw [if_neg hno]
              split at hr <;> try (cases hr; done)
              rename_i kf nf bf hg hld'
              rw [ih _ _ hg, hld']
              split at hr <;> try (cases hr; done)
              rename_i hkn
              simp only [hkn, if_true]
              split at hr <;> try (cases hr; done)
              rename_i kr hkr
              rw [ihl _ _ hkr]; exact hr
          rw [ftOf] at h' ⊢
          split at h' <;> simp_all
      have mono' : ∀ m, ftOf P (20 + m) t = some ks := by
        intro m
        induction m with
        | zero => exact hft
        | succ m ih => exact mono _ _ _ ih
      exact flat_ok (20 + m) t ks n true (mono' m) hld hk cs ds xa.toList ya.toList _ _ r h (by omega) (by omega) hxr hyr (by simp [OfCells]) (by simp [OfCells])
    subst hdep
    exact base 9980
  · rename_i ms hu
    cases ht
    cases x <;> cases y <;> simp only [eqD] at h <;> try (cases h; done)
    all_goals (simp only [Rep] at hx hy)
    · obtain ⟨_, rfl, _⟩ := hx; subst hy; cases h
      simp [Op.equalIn, run_underlying hu]
    · obtain ⟨_, rfl, _⟩ := hy; subst hx; cases h
      simp [Op.equalIn, run_underlying hu]
    · subst hx hy
      split at h <;> try (cases h; done)
      cases h
      simp [Op.equalIn, run_underlying hu]
    · obtain ⟨_, _, rfl⟩ := hy; subst hx; cases h
      simp [Op.equalIn, run_underlying hu]
    · obtain ⟨_, _, rfl⟩ := hx; subst hy; cases h
      simp [Op.equalIn, run_underlying hu]
  · rename_i e hu
    cases ht
    cases x <;> cases y <;> simp only [eqD] at h <;> try (cases h; done)
    all_goals (simp only [Rep] at hx hy)
    · subst hx hy; cases h; simp [Op.equalIn, run_underlying hu]
    · obtain ⟨_, _, rfl⟩ := hy; subst hx; cases h
      simp [Op.equalIn, run_underlying hu]
    · obtain ⟨_, _, rfl, _⟩ := hy; subst hx; cases h
      simp [Op.equalIn, run_underlying hu]
    · obtain ⟨_, _, rfl⟩ := hx; subst hy; cases h
      simp [Op.equalIn, run_underlying hu]
    · obtain ⟨_, _, rfl, _⟩ := hx; subst hy; cases h
      simp [Op.equalIn, run_underlying hu]
  · rename_i hu
    cases ht
    cases x <;> cases y <;> simp only [eqD] at h <;> try (cases h; done)
    all_goals (simp only [Rep] at hx hy)
    · obtain ⟨_, _, rfl, _⟩ := hx; subst hy; cases h
      simp [Op.equalIn, run_underlying hu]
    · obtain ⟨_, _, rfl, _⟩ := hy; subst hx; cases h
      simp [Op.equalIn, run_underlying hu]
    · subst hx hy; cases h; simp [Op.equalIn, run_underlying hu]
  · rename_i hu
    cases ht
    cases x <;> cases y <;> simp only [eqD] at h <;> try (cases h; done)
    all_goals (simp only [Rep] at hx hy)
    · obtain ⟨_, _, rfl⟩ := hx; subst hy; cases h
      simp [Op.equalIn, run_underlying hu]
    · obtain ⟨_, _, rfl⟩ := hy; subst hx; cases h
      simp [Op.equalIn, run_underlying hu]
    · subst hx hy; cases h; simp [Op.equalIn, run_underlying hu]
    · obtain ⟨_, _, rfl, _⟩ := hy; subst hx; cases h
      simp [Op.equalIn, run_underlying hu]
    · obtain ⟨_, _, rfl, _⟩ := hx; subst hy; cases h
      simp [Op.equalIn, run_underlying hu]
end
end Go.Fw
