import Derived.Test.YtfbeeambjjdbjaaGreatDoorFwOps4
import Derived.Laws.StructEq
namespace Go.Fw
open Go.RowKit

section
variable {P : Program} {B : Base} {G : Gh} {σ : List AObj} {w : World}

/-! ### == of structs whose leaves are numbers, bools and strings -/
inductive LK where
  | b | i | s
  deriving DecidableEq, Inhabited

def cellEq : LK → D → D → Option Bool
  | .b, .bool a, .bool b => some (a == b)
  | .i, .int k a, .int k' b => if k = k' then some (a == b) else none
  | .s, .str a, .str b => some (a == b)
  | _, _, _ => none

def cellsEq : List LK → List D → List D → Option Bool
  | [], [], [] => some true
  | k :: ks, a :: as, b :: bs => match cellEq k a b with
    | some true => cellsEq ks as bs
    | some false => some false
    | none => none
  | _, _, _ => none

theorem cellsEq_append : ∀ (ks ls : List LK) (a b : List D) (c d : List D), ks.length = a.length → ks.length = c.length → cellsEq (ks ++ ls) (a ++ b) (c ++ d) = match cellsEq ks a c with | some true => cellsEq ls b d | x => x
  | [], ls, [], b, [], d, _, _ => rfl
  | k :: ks, ls, a :: as, b, c :: cs, d, h, h' => by
    simp only [List.cons_append, cellsEq]
    cases cellEq k a c with
    | none => rfl
    | some r => cases r with
      | false => rfl
      | true => exact cellsEq_append ks ls as b cs d (by simpa using h) (by simpa using h')

def ftFields (P : Program) (g : TypeId → Option (List LK)) : List Field → Nat → Option (List LK)
  | [], _ => some []
  | f :: fs, off =>
    if f.name = "_" ∨ f.offset ≠ off then none else
    match g f.type, tyLd P f.type with
    | some ks, some (n, _) => if ks.length = n then (match ftFields P g fs (off + n) with | some r => some (ks ++ r) | none => none) else none
    | _, _ => none

def ftOf (P : Program) : Nat → TypeId → Option (List LK)
  | 0, _ => none
  | d + 1, t => match P.underlying t with
    | some .bool => some [.b]
    | some (.int _) => some [.i]
    | some .string => some [.s]
    | some (.struct fs) => if P.stoodInHeld t then none else ftFields P (ftOf P d) fs.toList 0
    | _ => none

/-- a value made of cells, as 'part' hands it back. -/
def OfCells (agg : Bool) (vs : List Value) (v : Value) : Prop := if agg then v = .agg vs.toArray else vs = [v]

theorem one_eq {ks : LK} {a b : D} {r : Bool} (h : cellsEq [ks] [a] [b] = some r) : cellEq ks a b = some r := by
  simp only [cellsEq] at h
  split at h
  · rename_i h'; rw [h']; cases h; rfl
  · rename_i h'; rw [h']; cases h; rfl
  · cases h

theorem reps_one {a : D} {vs : List Value} (h : Reps G [a] vs) : ∃ v, vs = [v] ∧ Rep G a v := by
  simp only [Reps] at h
  obtain ⟨v, r, rfl, h1, rfl⟩ := h
  exact ⟨v, rfl, h1⟩

theorem list_one {α : Type} {l : List α} (h : 1 = l.length) : ∃ a, l = [a] := by
  match l, h with
  | [a], _ => exact ⟨a, rfl⟩

theorem part_of {t : TypeId} {n off : Nat} {b : Bool} (ht : tyLd P t = some (n, b)) (hb : b = true ∨ n = 1) {a : Array Value} (hlen : off + n ≤ a.size) :
    ∃ u, (part t a off).run P w = .ok u w ∧ OfCells b ((a.toList.drop off).take n) u := by
  obtain ⟨i, ds, hi, hd, rfl, hbb⟩ := tyLd_inv ht
  unfold part
  simp only [Sem.run_bind, run_isAgg hd, hbb, Result.andThen_ok]
  cases b with
  | true =>
    refine ⟨.agg (a.extract off (off + i.size)), by simp [sizeOf, typeInfo, hi], ?_⟩
    simp only [OfCells, if_true]
    congr 1
    apply Array.ext'
    simp
  | false =>
    have hn := hb.resolve_left (by simp)
    have hlt : off < a.size := by omega
    refine ⟨a[off], by rw [Array.getElem?_eq_getElem hlt]; rfl, ?_⟩
    simp only [OfCells, Bool.false_eq_true, if_false, hn]
    rw [List.drop_eq_getElem_cons (by simpa using hlt)]
    simp

theorem flat_ok : ∀ (d : Nat) (t : TypeId) (ks : List LK) (n : Nat) (b : Bool), ftOf P d t = some ks → tyLd P t = some (n, b) → ks.length = n → ∀ (cs ds : List D) (xs ys : List Value) (x y : Value) (r : Bool),
    cellsEq ks cs ds = some r → cs.length = n → ds.length = n → Reps G cs xs → Reps G ds ys → OfCells b xs x → OfCells b ys y → (Op.equalIn d t x y).run P w = .ok r w
  | 0, _, _, _, _, h, _, _ => by simp [ftOf] at h
  | d + 1, t, ks, n, b, h, ht, hk => by
    intro cs ds xs ys x y r hc hcl hdl hcx hdy hx hy
    obtain ⟨i, desc, hi, hd, rfl, hbb⟩ := tyLd_inv ht
    simp only [ftOf, hd] at h
    have leaf : ∀ (k : LK), ks = [k] → descAgg desc = false → ∃ a c u v, cs = [a] ∧ ds = [c] ∧ x = u ∧ y = v ∧ Rep G a u ∧ Rep G c v ∧ cellEq k a c = some r := by
      intro k hks hag
      subst hks
      rw [hag] at hbb
      subst hbb
      simp only [List.length_singleton] at hk
      obtain ⟨a, rfl⟩ := list_one (hk.trans hcl.symm)
      obtain ⟨c, rfl⟩ := list_one (hk.trans hdl.symm)
      obtain ⟨u, rfl, hu⟩ := reps_one hcx
      obtain ⟨v, rfl, hv⟩ := reps_one hdy
      simp only [OfCells, Bool.false_eq_true, if_false, List.cons.injEq, and_true] at hx hy
      exact ⟨a, c, u, v, rfl, rfl, hx.symm, hy.symm, hu, hv, one_eq hc⟩
    split at h
    · rename_i e
      cases e
      simp only [Option.some.injEq] at h
      obtain ⟨a, c, u, v, rfl, rfl, rfl, rfl, hu, hv, he⟩ := leaf .b h.symm rfl
      cases a <;> cases c <;> simp only [cellEq] at he <;> try (cases he; done)
      simp only [Rep] at hu hv
      subst hu hv
      rw [run_equalIn_bool' w d t _ _ hd]; cases he; rfl
    · rename_i e
      cases e
      simp only [Option.some.injEq] at h
      obtain ⟨a, c, u, v, rfl, rfl, rfl, rfl, hu, hv, he⟩ := leaf .i h.symm rfl
      cases a <;> cases c <;> simp only [cellEq] at he <;> try (cases he; done)
      simp only [Rep] at hu hv
      subst hu hv
      split at he <;> try (cases he; done)
      rename_i hkk
      subst hkk
      rw [run_equalIn_int w d t _ _ _ _ hd]; cases he; rfl
    · rename_i e
      cases e
      simp only [Option.some.injEq] at h
      obtain ⟨a, c, u, v, rfl, rfl, rfl, rfl, hu, hv, he⟩ := leaf .s h.symm rfl
      cases a <;> cases c <;> simp only [cellEq] at he <;> try (cases he; done)
      simp only [Rep] at hu hv
      subst hu hv
      rw [run_equalIn_string w d t _ _ hd, bytes_toList, bytes_toList]; cases he; rfl
    · rename_i fs e
      cases e
      split at h <;> try (cases h; done)
      rename_i hst
      have hag : b = true := hbb.symm
      subst hag
      simp only [OfCells, if_true] at hx hy
      subst hx hy
      have hfo : P.fieldsOf t = fs := by simp [Program.fieldsOf, hd]
      rw [run_equalIn_struct w d t _ _ (by rw [hfo]; exact hd) (by simpa using hst), hfo]
      have hxl := hcx.length
      have hyl := hdy.length
      have key : ∀ (l : List Field) (off : Nat) (ks' : List LK), ftFields P (ftOf P d) l off = some ks' → off + ks'.length = i.size → cellsEq ks' (cs.drop off) (ds.drop off) = some r →
          (Op.eqFields d xs.toArray ys.toArray l).run P w = .ok r w := by
        intro l
        induction l with
        | nil =>
          intro off ks' h1 h2 h3
          simp only [ftFields, Option.some.injEq] at h1
          subst h1
          have e1 : cs.drop off = [] := by apply List.drop_eq_nil_of_le; simp at h2; omega
          have e2 : ds.drop off = [] := by apply List.drop_eq_nil_of_le; simp at h2; omega
          rw [e1, e2] at h3
          simp only [cellsEq, Option.some.injEq] at h3
          subst h3
          simp [Op.eqFields]
        | cons f l ih =>
          intro off ks' h1 h2 h3
          simp only [ftFields] at h1
          split at h1 <;> try (cases h1; done)
          rename_i hno
          simp only [not_or, Decidable.not_not] at hno
          obtain ⟨hname, rfl⟩ := hno
          split at h1 <;> try (cases h1; done)
          rename_i kf nf bf hg hld
          split at h1 <;> try (cases h1; done)
          rename_i hkn
          split at h1 <;> try (cases h1; done)
          rename_i kr hr
          simp only [Option.some.injEq] at h1
          subst h1
          simp only [List.length_append] at h2
          have hb' : bf = true ∨ nf = 1 := by
            cases bf with
            | true => exact .inl rfl
            | false =>
              right
              obtain ⟨fi, fd, hfi, hfd, rfl, hfb⟩ := tyLd_inv hld
              cases d with
              | zero => simp [ftOf] at hg
              | succ d =>
                simp only [ftOf, hfd] at hg
                split at hg <;> first | (cases hg; done) | (rename_i e; cases e; simp only [Option.some.injEq] at hg; subst hg; simpa using hkn.symm) | (rename_i e; cases e; simp [descAgg] at hfb)
          have splitc : cs.drop f.offset = (cs.drop f.offset).take nf ++ cs.drop (f.offset + nf) := by
            rw [← List.drop_drop]; exact (List.take_append_drop _ _).symm
          have splitd : ds.drop f.offset = (ds.drop f.offset).take nf ++ ds.drop (f.offset + nf) := by
            rw [← List.drop_drop]; exact (List.take_append_drop _ _).symm
          rw [splitc, splitd, cellsEq_append _ _ _ _ _ _ (by simp; omega) (by simp; omega)] at h3
          obtain ⟨u, hu, hou⟩ := part_of (w := w) hld hb' (a := xs.toArray) (off := f.offset) (by simp; omega)
          obtain ⟨v, hv, hov⟩ := part_of (w := w) hld hb' (a := ys.toArray) (off := f.offset) (by simp; omega)
          simp only [Op.eqFields, ne_eq, hname, not_false_eq_true, if_true, Sem.run_bind, hu, hv, Result.andThen_ok]
          have rec' : ∀ r', cellsEq kf ((cs.drop f.offset).take nf) ((ds.drop f.offset).take nf) = some r' → (Op.equalIn d f.type u v).run P w = .ok r' w := fun r' hr' =>
            flat_ok d f.type kf nf bf hg hld hkn _ _ _ _ u v r' hr' (by simp; omega) (by simp; omega) ((hcx.drop _).take _) ((hdy.drop _).take _) hou hov
          cases hq : cellsEq kf ((cs.drop f.offset).take nf) ((ds.drop f.offset).take nf) with
          | none => rw [hq] at h3; cases h3
          | some r' =>
            rw [rec' r' hq, Result.andThen_ok]
            rw [hq] at h3
            cases r' with
            | true => simpa using ih (f.offset + nf) kr hr (by omega) h3
            | false => simp only [Option.some.injEq] at h3; subst h3; simp
      exact key fs.toList 0 ks h (by omega) (by simpa using hc)
    · cases h
end
end Go.Fw
