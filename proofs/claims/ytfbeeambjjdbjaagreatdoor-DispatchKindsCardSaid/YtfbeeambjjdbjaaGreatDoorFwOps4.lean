import Derived.Test.YtfbeeambjjdbjaaGreatDoorFwOps3
namespace Go.Fw
open Go.RowKit

section
variable {P : Program} {B : Base} {G : Gh} {σ : List AObj} {w : World}

/-! ### slices of slices, of strings, of arrays -/

/-- the bounds of a slice expression: low, high, max; what is known of the capacity: at least 'n', exactly 'n' if 'full'. -/
def oget (d : Int) : Option Int → Int
  | some h => h
  | none => d
def bnds (n : Nat) (full : Bool) (lo hi mx : Option Int) : Option (Nat × Nat × Bool) :=
  match mx with
  | none => if 0 ≤ oget 0 lo ∧ oget 0 lo ≤ oget n hi ∧ oget n hi ≤ n then some ((oget 0 lo).toNat, (oget n hi).toNat, full && decide (oget n hi = n)) else none
  | some m => if hi.isSome = true ∧ 0 ≤ oget 0 lo ∧ oget 0 lo ≤ oget n hi ∧ oget n hi ≤ m ∧ m ≤ n then some ((oget 0 lo).toNat, (oget n hi).toNat, decide (m = oget n hi)) else none

def optInt : Option D → Option (Option Int)
  | none => some none
  | some d => match idxInt d with
    | some i => some (some i)
    | none => none

/-- an optional operand and its abstract value. -/
def RepO (G : Gh) : Option D → Option Value → Prop
  | none, none => True
  | some d, some v => Rep G d v
  | _, _ => False

inductive OptV : Option Int → Option Value → Prop
  | none : OptV none none
  | some (k : IntKind) (n : Int) : OptV (some n) (some (.int k n))

theorem optInt_ok {d : Option D} {v : Option Value} {i : Option Int} (h : optInt d = some i) (hr : RepO G d v) : OptV i v := by
  cases d with
  | none =>
    cases v with
    | none => simp only [optInt, Option.some.injEq] at h; subst h; exact .none
    | some v => exact hr.elim
  | some d =>
    cases v with
    | none => exact hr.elim
    | some v =>
      simp only [optInt] at h
      split at h <;> try (cases h; done)
      rename_i n hn
      simp only [Option.some.injEq] at h
      obtain ⟨k, rfl⟩ := idxInt_ok hn hr
      subst h; exact .some k n

theorem sbound_run (k : IntKind) (i : Int) (y : Nat) (c : BoundsCode) (h0 : 0 ≤ i) (h1 : i ≤ y) : (Instr.sliceBound (.int k i) y c).run P w = .ok i.toNat w := by
  unfold Instr.sliceBound
  simp [asIntOf, h0, h1]

theorem bounds_run (isS : Bool) {n cap : Nat} {full : Bool} {lo hi mx : Option Int} {lv hv mv : Option Value} {l h : Nat} {f : Bool} (hb : bnds n full lo hi mx = some (l, h, f)) (hl : OptV lo lv) (hh : OptV hi hv) (hm : OptV mx mv)
    (hn : n ≤ cap) (hf : full = true → cap = n) :
    ∃ m, (Instr.sliceBounds isS n cap lv hv mv).run P w = .ok (l, h, m) w ∧ l ≤ h ∧ h ≤ n ∧ h ≤ m ∧ m ≤ cap ∧ (f = true → m = h) := by
  cases hm with
  | none =>
    simp only [bnds] at hb
    split at hb <;> try (cases hb; done)
    rename_i hc
    simp only [Option.some.injEq, Prod.mk.injEq] at hb
    obtain ⟨rfl, rfl, rfl⟩ := hb
    obtain ⟨c1, c2, c3⟩ := hc
    refine ⟨cap, ?_, by omega, by omega, by omega, Nat.le_refl _, ?_⟩
    · cases hh with
      | none =>
        cases hl with
        | none => simp [Instr.sliceBounds, oget]
        | some k x =>
          have := sbound_run (P := P) (w := w) k x n .sliceB c1 (by simpa [oget] using c2)
          simp [Instr.sliceBounds, this, oget]
      | some k' y =>
        have c1' : 0 ≤ y := by simp only [oget] at c1 c2; omega
        have e1 := sbound_run (P := P) (w := w) k' y cap (if isS then .sliceAcap else .sliceAlen) c1' (by simp only [oget] at c3; omega)
        cases hl with
        | none => simp [Instr.sliceBounds, e1, oget]
        | some k x =>
          have := sbound_run (P := P) (w := w) k x y.toNat .sliceB c1 (by simp only [oget] at c2; omega)
          simp [Instr.sliceBounds, e1, this, oget]
    · intro hfull
      simp only [Bool.and_eq_true, decide_eq_true_eq] at hfull
      have := hf hfull.1
      have := hfull.2
      omega
  | some km m =>
    simp only [bnds] at hb
    split at hb <;> try (cases hb; done)
    rename_i hc
    simp only [Option.some.injEq, Prod.mk.injEq] at hb
    obtain ⟨rfl, rfl, rfl⟩ := hb
    obtain ⟨c0, c1, c2, c3, c4⟩ := hc
    cases hh with
    | none => simp at c0
    | some k' y =>
      have c2' := c2
      have c3' := c3
      have c1' := c1
      simp only [oget] at c3 c1' c2'
      have e0 := sbound_run (P := P) (w := w) km m cap (if isS then .slice3Acap else .slice3Alen) (by omega) (by omega)
      have e1 := sbound_run (P := P) (w := w) k' y m.toNat .slice3B (by omega) (by omega)
      refine ⟨m.toNat, ?_, by simp only [oget]; omega, by simp only [oget]; omega, by simp only [oget]; omega, by omega, ?_⟩
      · cases hl with
        | none => simp [Instr.sliceBounds, e0, e1, oget]
        | some k x =>
          have := sbound_run (P := P) (w := w) k x y.toNat .slice3C c1 (by simp only [oget] at c1 c2; omega)
          simp [Instr.sliceBounds, e0, e1, this, oget]
      · intro hfull
        have hfull' : m = oget n (some y) := by simpa using hfull
        simp only [oget] at hfull' ⊢
        omega

def sliceD (sz : Nat) (x : D) (lo hi mx : Option Int) : Option D :=
  match x with
  | .list cs n full => match bnds n full lo hi mx with
    | some (l, h, f) => if cs.length = n * sz then some (.list ((cs.drop (l * sz)).take ((h - l) * sz)) (h - l) f) else none
    | none => none
  | .sl l' u o n sz' full => match bnds n full lo hi mx with
    | some (l, h, f) => if sz' = sz then (if l = h then some (.list [] 0 f) else some (.sl l' u (o + l * sz) (h - l) sz f)) else none
    | none => none
  | _ => none

theorem slice_ok {t : TypeId} {sz by' : Nat} (ht : tySl P t = some (sz, by')) {x x' : D} {lo hi mx : Option Int} {lv hv mv : Option Value} {v : Value} (hx : sliceD sz x lo hi mx = some x') (hl : OptV lo lv) (hh : OptV hi hv) (hm : OptV mx mv) (hv' : Rep G x v) :
    ∃ u, (Instr.sliceAt t v lv hv mv).run P w = .ok u w ∧ Rep G x' u := by
  obtain ⟨e, i, hu, hi', rfl, _⟩ := tySl_inv ht
  cases x <;> simp only [sliceD] at hx <;> try (cases hx; done)
  · rename_i cs n full
    split at hx <;> try (cases hx; done)
    rename_i l h f hb
    split at hx <;> try (cases hx; done)
    rename_i hlen
    cases hx
    simp only [Rep] at hv'
    obtain ⟨a, cap, rfl, h1, h2, h3, h4⟩ := hv'
    obtain ⟨m, hrun, b1, b2, b3, b4, b5⟩ := bounds_run (P := P) (w := w) true hb hl hh hm h1 h3
    refine ⟨.slice (if m = l then a else a.map (·.add (l * i.size))) (h - l) (m - l), ?_, ?_⟩
    · unfold Instr.sliceAt Instr.slice
      simp [run_underlying hu, hrun, sizeOf, typeInfo, hi']
    · simp only [Rep]
      refine ⟨_, m - l, rfl, by omega, by omega, fun hf => by have := b5 hf; omega, ?_⟩
      rcases h4 with ⟨b, o, rfl, hc⟩ | rfl
      · by_cases e : m = l
        · right
          have : h - l = 0 := by omega
          simp [this]
        · left
          simp only [e, if_false, Option.map_some]
          exact ⟨b, o + l * i.size, by rw [addr_add], (hc.drop _).take _⟩
      · right; simp
  · rename_i l' u' o n sz' full
    split at hx <;> try (cases hx; done)
    rename_i l h f hb
    split at hx <;> try (cases hx; done)
    rename_i hsz
    subst hsz
    simp only [Rep] at hv'
    obtain ⟨b, cap, tot, hbl, rfl, h1, h2, h3, h4, h5⟩ := hv'
    obtain ⟨m, hrun, b1, b2, b3, b4, b5⟩ := bounds_run (P := P) (w := w) true hb hl hh hm h1 h3
    refine ⟨.slice (if m = l then some ⟨b, o, none⟩ else some ⟨b, o + l * i.size, none⟩) (h - l) (m - l), ?_, ?_⟩
    · unfold Instr.sliceAt Instr.slice
      simp [run_underlying hu, hrun, sizeOf, typeInfo, hi', addr_add]
    · split at hx
      · cases hx
        rename_i e
        simp only [Rep]
        exact ⟨_, m - l, by congr 1; omega, by omega, by omega, fun hf => by have := b5 hf; omega, .inr trivial⟩
      · cases hx
        rename_i e
        have e' : m ≠ l := by omega
        simp only [Rep, e', if_false]
        refine ⟨b, m - l, tot, hbl, rfl, by omega, by omega, fun hf => by have := b5 hf; omega, h4, ?_⟩
        have : o + l * i.size + (m - l) * i.size = o + m * i.size := by
          rw [Nat.add_assoc, ← Nat.add_mul]; congr 2; omega
        rw [this]
        exact Nat.le_trans (Nat.add_le_add_left (Nat.mul_le_mul_right _ b4) _) h5

theorem sliceStr_ok {t : TypeId} (ht : P.underlying t = some .string) {s : List UInt8} {lo hi : Option Int} {lv hv : Option Value} {l h : Nat} {f : Bool} (hb : bnds s.length true lo hi none = some (l, h, f)) (hl : OptV lo lv) (hh : OptV hi hv) :
    (Instr.sliceAt t (.string ⟨s.toArray⟩) lv hv none).run P w = .ok (.string ⟨((s.take h).drop l).toArray⟩) w := by
  obtain ⟨m, hrun, b1, b2, b3, b4, b5⟩ := bounds_run (P := P) (w := w) false hb hl hh .none (Nat.le_refl _) (fun _ => rfl)
  unfold Instr.sliceAt Instr.slice
  simp [run_underlying ht, bytes_size, hrun, bytes_extract]

/-- 'a[lo:hi]', a an array variable. -/
def sliceArrD (n sz : Nat) (x : D) (lo hi mx : Option Int) : Option D :=
  match x with
  | .ptr l' u o => match bnds n true lo hi mx with
    | some (l, h, f) => if l = h then some (.list [] 0 f) else some (.sl l' u (o + l * sz) (h - l) sz f)
    | none => none
  | _ => none

theorem sliceArr_ok (hR : Rel B G σ w) {t : TypeId} {n sz : Nat} (ht : tyArr P t = some (n, sz)) (hn : n ≤ 9223372036854775807) {x x' : D} {lo hi mx : Option Int} {lv hv mv : Option Value} {v : Value} {cs : List D} (hrd : readAt σ x (n * sz) = some cs)
    (hx : sliceArrD n sz x lo hi mx = some x') (hl : OptV lo lv) (hh : OptV hi hv) (hm : OptV mx mv) (hv' : Rep G x v) :
    ∃ u, (Instr.sliceAt t v lv hv mv).run P w = .ok u w ∧ Rep G x' u := by
  obtain ⟨e, i, hu, hi', rfl⟩ := tyArr_inv ht
  cases x <;> simp only [sliceArrD] at hx <;> try (cases hx; done)
  rename_i l' u' o
  split at hx <;> try (cases hx; done)
  rename_i l h f hb
  simp only [readAt] at hrd
  split at hrd <;> try (cases hrd; done)
  rename_i cs' frz u'' hob
  split at hrd <;> try (cases hrd; done)
  rename_i hc
  obtain ⟨rfl, hlen⟩ := hc
  simp only [Rep] at hv'
  obtain ⟨b, hbl, rfl⟩ := hv'
  obtain ⟨vs, et, o1, o2, tl, hd, o3, o4⟩ := hR.obj _ _ b hob hbl
  have hl4 := o4.length
  have hsz : vs.size = hd.length + tl.length := by simpa using congrArg List.length o3
  obtain ⟨m, hrun, b1, b2, b3, b4, b5⟩ := bounds_run (P := P) (w := w) false hb hl hh hm (Nat.le_refl _) (fun _ => rfl)
  refine ⟨.slice (if m = l then some ⟨b, o, none⟩ else some ⟨b, o + l * i.size, none⟩) (h - l) (m - l), ?_, ?_⟩
  · unfold Instr.sliceAt Instr.sureAddr
    simp only [run_underlying hu, Sem.run_bind, Sem.run_pure, Result.andThen_ok, hrun, sizeOf, typeInfo, run_program, hi', addr_add]
    by_cases e : m = l <;> simp [e]
  · split at hx
    · cases hx
      simp only [Rep]
      exact ⟨_, m - l, by congr 1; omega, by omega, by omega, fun hf => by have := b5 hf; omega, .inr trivial⟩
    · cases hx
      rename_i e
      have e' : m ≠ l := by omega
      simp only [Rep, e', if_false]
      refine ⟨b, m - l, vs.size, hbl, rfl, by omega, by omega, fun hf => by have := b5 hf; omega, o2, ?_⟩
      have : o + l * i.size + (m - l) * i.size = o + m * i.size := by
        rw [Nat.add_assoc, ← Nat.add_mul]; congr 2; omega
      rw [this]
      have := Nat.mul_le_mul_right i.size b4
      omega

/-! ### len -/
def lenD (arr : Option Nat) : D → Option Nat
  | .list _ n _ => some n
  | .sl _ _ _ n _ _ => some n
  | .str s => some s.length
  | .agg _ => arr
  | .ptr _ _ _ => arr
  | .rptr _ _ => arr
  | _ => none

/-- what 'len' asks of the type. -/
inductive LKind where
  | slice | string | array (n : Nat)
  deriving DecidableEq

def tyLen (P : Program) (t : TypeId) : Option LKind :=
  match P.underlying t with
  | some (.slice _) => some .slice
  | some .string => some .string
  | some (.array n _) => some (.array n)
  | some (.pointer a) => match P.underlying a with
    | some (.array n _) => some (.array n)
    | _ => none
  | _ => none

def lenK : LKind → D → Option Nat
  | .slice, .list _ n _ => some n
  | .slice, .sl _ _ _ n _ _ => some n
  | .string, .str s => some s.length
  | .array n, _ => some n
  | _, _ => none

theorem len_ok {t ty : TypeId} {k : LKind} (ht : tyLen P t = some k) {x : D} {n : Nat} {v : Value} (hx : lenK k x = some n) (hv : Rep G x v) :
    (Builtin.len_ #[t] ty #[v]).run P w = .ok (.int .i64 n) w := by
  unfold tyLen at ht
  unfold Builtin.len_
  split at ht
  · rename_i e hu
    cases ht
    cases x <;> simp only [lenK, Option.some.injEq] at hx <;> try (cases hx; done)
    · subst hx
      simp only [Rep] at hv
      obtain ⟨a, cap, rfl, _⟩ := hv
      simp [run_underlying hu, goInt]
    · subst hx
      simp only [Rep] at hv
      obtain ⟨a, cap, tot, _, rfl, _⟩ := hv
      simp [run_underlying hu, goInt]
  · rename_i hu
    cases ht
    cases x <;> simp only [lenK, Option.some.injEq] at hx <;> try (cases hx; done)
    subst hx
    simp only [Rep] at hv
    subst hv
    simp [run_underlying hu, goInt, bytes_size]
  · rename_i m e hu
    cases ht
    simp only [lenK, Option.some.injEq] at hx
    subst hx
    simp [run_underlying hu, goInt]
  · rename_i a hu
    split at ht <;> try (cases ht; done)
    rename_i m e ha
    cases ht
    simp only [lenK, Option.some.injEq] at hx
    subst hx
    simp [run_underlying hu, run_underlying ha, goInt]
  · cases ht
end
end Go.Fw
