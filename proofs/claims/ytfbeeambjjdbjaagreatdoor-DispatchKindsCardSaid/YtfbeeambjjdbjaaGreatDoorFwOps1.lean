import Derived.Test.YtfbeeambjjdbjaaGreatDoorFwMem2
import Derived.Laws.Cells
import Derived.Laws.CopyRow
import Derived.Laws.CopyOwn
import Derived.Deep.AppendSrc
import Derived.Deep.Upon
namespace Go.Fw
open Go.RowKit

/-! ### constants, cells -/

def cD1 : Value → Option D
  | .bool b => some (.bool b)
  | .int k n => some (.int k n)
  | .string s => some (.str s.data.toList)
  | .pointer none => some .nilp
  | .slice none 0 0 => some (.list [] 0 true)
  | .map none => some .nilmap
  | .nilFunc => some .nilf
  | .nilIface => some .nili
  | _ => none

theorem cD1_rep (G : Gh) {v : Value} {d : D} (h : cD1 v = some d) : Rep G d v := by
  unfold cD1 at h
  split at h <;> first | (cases h; done) | (cases h; simp [Rep])

def cDs : List Value → Option (List D)
  | [] => some []
  | v :: vs => match cD1 v with
    | some d => match cDs vs with
      | some ds => some (d :: ds)
      | none => none
    | none => none

theorem cDs_rep (G : Gh) : ∀ {vs : List Value} {ds : List D}, cDs vs = some ds → Reps G ds vs
  | [], _, h => by simp only [cDs, Option.some.injEq] at h; subst h; simp only [Reps]
  | v :: vs, _, h => by
    simp only [cDs] at h
    split at h
    · rename_i d hd
      split at h
      · rename_i ds hds
        cases h
        simp only [Reps]
        exact ⟨v, vs, rfl, cD1_rep G hd, cDs_rep G hds⟩
      · cases h
    · cases h

def constD : Value → Option D
  | .agg cs => (cDs cs.toList).map .agg
  | v => cD1 v

theorem constD_rep (G : Gh) {v : Value} {d : D} (h : constD v = some d) : Rep G d v := by
  unfold constD at h
  split at h
  · rename_i cs
    simp only [Option.map_eq_some_iff] at h
    obtain ⟨ds, h1, rfl⟩ := h
    simp only [Rep]
    exact ⟨cs, rfl, cDs_rep G h1⟩
  · exact cD1_rep G h

def D.isCell : D → Bool
  | .agg _ | .tuple _ | .junk => false
  | _ => true

def D.cells? : D → Option (List D)
  | .agg cs => some cs
  | .tuple _ => none
  | .junk => none
  | d => some [d]

theorem rep_oneCell {G : Gh} {d : D} {v : Value} (hc : d.isCell = true) (h : Rep G d v) : v.oneCell' = true := by
  cases d <;> simp only [D.isCell, Bool.false_eq_true] at hc <;> simp only [Rep] at h
  case ptr => obtain ⟨b, _, rfl⟩ := h; rfl
  case rptr => obtain ⟨b, _, rfl, _⟩ := h; rfl
  case list => obtain ⟨a, c, rfl, _⟩ := h; rfl
  case sl => obtain ⟨a, c, t, _, rfl, _⟩ := h; rfl
  case map => obtain ⟨a, _, rfl⟩ := h; rfl
  case cmap => obtain ⟨a, _, rfl, _⟩ := h; rfl
  case func => obtain ⟨a, _, rfl, _⟩ := h; rfl
  case iface => obtain ⟨a, rfl, _⟩ := h; rfl
  case anyi => obtain ⟨a, _, rfl⟩ := h; rfl
  all_goals (subst h; rfl)

theorem rep_cells {G : Gh} {d : D} {v : Value} {cs : List D} (hc : d.cells? = some cs) (h : Rep G d v) : Reps G cs v.cells.toList := by
  by_cases hd : d.isCell = true
  · have h1 := rep_oneCell hd h
    have h2 : v.cells = #[v] := by cases v <;> first | rfl | simp [Value.oneCell'] at h1
    have h3 : cs = [d] := by cases d <;> simp_all [D.cells?, D.isCell]
    subst h3
    rw [h2]
    simp only [Reps]
    exact ⟨v, [], rfl, h, rfl⟩
  · cases d <;> simp only [D.isCell, not_true_eq_false] at hd <;> simp only [D.cells?, Option.some.injEq] at hc
    · subst hc
      simp only [Rep] at h
      obtain ⟨a, rfl, h⟩ := h
      exact h
    · cases hc
    · cases hc

theorem Reps.length {G : Gh} : ∀ {ds : List D} {vs : List Value}, Reps G ds vs → ds.length = vs.length
  | [], _, h => by simp only [Reps] at h; subst h; rfl
  | d :: ds, _, h => by
    simp only [Reps] at h
    obtain ⟨v, r, rfl, _, h2⟩ := h
    simp [Reps.length h2]

theorem Reps.get {G : Gh} : ∀ {ds : List D} {vs : List Value} (i : Nat) {d : D}, Reps G ds vs → ds[i]? = some d → ∃ v, vs[i]? = some v ∧ Rep G d v
  | [], _, _, _, _, h => by simp at h
  | d :: ds, _, 0, _, hr, h => by
    simp only [Reps] at hr
    obtain ⟨v, r, rfl, h1, _⟩ := hr
    simp at h; subst h
    exact ⟨v, rfl, h1⟩
  | d :: ds, _, i + 1, _, hr, h => by
    simp only [Reps] at hr
    obtain ⟨v, r, rfl, _, h2⟩ := hr
    simpa using Reps.get i h2 (by simpa using h)

theorem Reps.append {G : Gh} : ∀ {ds es : List D} {vs us : List Value}, Reps G ds vs → Reps G es us → Reps G (ds ++ es) (vs ++ us)
  | [], _, _, _, h, k => by simp only [Reps] at h; subst h; simpa using k
  | d :: ds, _, _, _, h, k => by
    simp only [Reps] at h
    obtain ⟨v, r, rfl, h1, h2⟩ := h
    simp only [List.cons_append, Reps]
    exact ⟨v, _, rfl, h1, Reps.append h2 k⟩

theorem Reps.take {G : Gh} : ∀ {ds : List D} {vs : List Value} (n : Nat), Reps G ds vs → Reps G (ds.take n) (vs.take n)
  | [], _, _, h => by simp only [Reps] at h; subst h; simp [Reps]
  | _ :: _, _, 0, _ => by simp [Reps]
  | d :: ds, _, n + 1, h => by
    simp only [Reps] at h
    obtain ⟨v, r, rfl, h1, h2⟩ := h
    simp only [List.take_succ_cons, Reps]
    exact ⟨v, _, rfl, h1, Reps.take n h2⟩

theorem Reps.drop {G : Gh} : ∀ {ds : List D} {vs : List Value} (n : Nat), Reps G ds vs → Reps G (ds.drop n) (vs.drop n)
  | [], _, _, h => by simp only [Reps] at h; subst h; simp [Reps]
  | _ :: _, _, 0, h => by simpa using h
  | d :: ds, _, n + 1, h => by
    simp only [Reps] at h
    obtain ⟨v, r, rfl, h1, h2⟩ := h
    simpa using Reps.drop n h2

theorem Reps.oneCell {G : Gh} : ∀ {ds : List D} {vs : List Value}, Reps G ds vs → ds.all D.isCell = true → ∀ v ∈ vs, v.oneCell' = true
  | [], _, h, _ => by simp only [Reps] at h; subst h; simp
  | d :: ds, _, h, ha => by
    simp only [Reps] at h
    obtain ⟨v, r, rfl, h1, h2⟩ := h
    simp only [List.all_cons, Bool.and_eq_true] at ha
    intro u hu
    rcases List.mem_cons.1 hu with rfl | hu
    · exact rep_oneCell ha.1 h1
    · exact Reps.oneCell h2 ha.2 u hu

theorem Cells.reps {G : Gh} {b : Nat} : ∀ {o : Nat} {ds : List D}, Cells G b o ds → ∃ vs, Reps G ds vs ∧ ∀ j v, vs[j]? = some v → G.imm b (o + j) = some v
  | _, [], _ => ⟨[], by simp only [Reps], by simp⟩
  | o, d :: ds, h => by
    simp only [Cells] at h
    obtain ⟨⟨v, hv, hr⟩, hs⟩ := h
    obtain ⟨vs, h1, h2⟩ := Cells.reps hs
    refine ⟨v :: vs, by simp only [Reps]; exact ⟨v, vs, rfl, hr, h1⟩, ?_⟩
    intro j u hj
    cases j with
    | zero => simp at hj; subst hj; exact hv
    | succ j =>
      have := h2 j u (by simpa using hj)
      rw [show o + (j + 1) = o + 1 + j from by omega]; exact this

theorem Cells.drop {G : Gh} {b : Nat} : ∀ {o : Nat} {ds : List D} (n : Nat), Cells G b o ds → Cells G b (o + n) (ds.drop n)
  | _, [], _, _ => by simp [Cells]
  | _, _ :: _, 0, h => by simpa using h
  | o, d :: ds, n + 1, h => by
    simp only [Cells] at h
    have := Cells.drop n h.2
    rw [show o + (n + 1) = o + 1 + n from by omega]; simpa using this

theorem Cells.take {G : Gh} {b : Nat} : ∀ {o : Nat} {ds : List D} (n : Nat), Cells G b o ds → Cells G b o (ds.take n)
  | _, [], _, _ => by simp [Cells]
  | _, _ :: _, 0, _ => by simp [Cells]
  | o, d :: ds, n + 1, h => by
    simp only [Cells] at h
    simp only [List.take_succ_cons, Cells]
    exact ⟨h.1, Cells.take n h.2⟩

theorem addr_add (b o n : Nat) : (⟨b, o, none⟩ : Addr).add n = ⟨b, o + n, none⟩ := by unfold Addr.add; split <;> simp_all

/-- Where an abstract pointer's cells are read. -/
def readAt (σ : List AObj) : D → Nat → Option (List D)
  | .ptr l u o, n => match σ[l]? with
    | some (.cells cs _ u') => if u' = u ∧ o + n ≤ cs.length then some ((cs.drop o).take n) else none
    | _ => none
  | .rptr cs o, n => if o + n ≤ cs.length then some ((cs.drop o).take n) else none
  | _, _ => none

theorem readAt_ok {B : Base} {G : Gh} {σ : List AObj} {w : World} (hR : Rel B G σ w) {d : D} {n : Nat} {cs : List D} {v : Value} (h : readAt σ d n = some cs) (hv : Rep G d v) :
    ∃ b o vs, v = .pointer (some ⟨b, o, none⟩) ∧ vs.length = n ∧ cs.length = n ∧ Reps G cs vs ∧ ∀ j u, vs[j]? = some u → w.cell? ⟨b, o + j, none⟩ = some u := by
  cases d <;> simp only [readAt] at h <;> try (cases h; done)
  case ptr l u o =>
    simp only [Rep] at hv
    obtain ⟨b, hb, rfl⟩ := hv
    split at h
    · rename_i cs' frz u' hl
      split at h
      · rename_i hc
        cases h
        obtain ⟨rfl, hlen⟩ := hc
        have hob := hR.obj l _ b hl hb
        obtain ⟨vs, et, h1, h2, tl, hd, h3, h4⟩ := hob
        have hl4 := h4.length
        refine ⟨b, o, (hd.drop o).take n, rfl, by simp; omega, by simp; omega, (h4.drop o).take n, ?_⟩
        intro j u hj
        rw [List.getElem?_take] at hj
        split at hj
        · rw [List.getElem?_drop] at hj
          have hlt : o + j < hd.length := by
            rcases Nat.lt_or_ge (o + j) hd.length with h' | h'
            · exact h'
            · rw [List.getElem?_eq_none h'] at hj; cases hj
          unfold World.cell?
          rw [h1]
          show vs[o + j]? = some u
          have : vs[o + j]? = vs.toList[o + j]? := by simp
          rw [this, h3, List.getElem?_append_left hlt]; exact hj
        · cases hj
      · cases h
    · cases h
  case rptr cs' o =>
    simp only [Rep] at hv
    obtain ⟨b, o', rfl, hc⟩ := hv
    split at h
    · rename_i hlen
      cases h
      obtain ⟨vs, h1, h2⟩ := ((hc.drop o).take n).reps
      have hl := h1.length
      refine ⟨b, o' + o, vs, rfl, by rw [← hl]; simp; omega, by simp; omega, h1, ?_⟩
      intro j u hj
      exact hR.imm _ _ _ (h2 j u hj)
    · cases h

/-! ### what an operation hands back -/

def Out (B : Base) (G : Gh) (d : D) (σ' : List AObj) (r : Result Next) : Prop :=
  ∃ v w' G', (r = .ok (.value v) w' ∨ (r = .ok .skip w' ∧ v = undef)) ∧ G.Le G' ∧ Rel B G' σ' w' ∧ Rep G' d v

theorem Out.here {B : Base} {G : Gh} {d : D} {σ : List AObj} {w : World} {v : Value} (hR : Rel B G σ w) (hv : Rep G d v) : Out B G d σ (.ok (.value v) w) :=
  ⟨v, w, G, .inl rfl, .refl G, hR, hv⟩

/-! ### types, as an operation asks for them -/
def descAgg : TypeDesc → Bool
  | .struct _ => true
  | .array _ _ => true
  | _ => false
section
variable (P : Program)
def tyLd (t : TypeId) : Option (Nat × Bool) :=
  match P.info? t, P.underlying t with
  | some i, some d => some (i.size, descAgg d)
  | _, _ => none
def tyFld (s : TypeId) (f : Nat) : Option Nat :=
  match P.underlying s with
  | some (.struct fs) => match fs[f]? with
    | some x => match P.info? x.type with
      | some j => if j.size = 0 then none else some x.offset
      | none => none
    | none => none
  | _ => none
def tyZero (t : TypeId) : Option (List D) :=
  match P.info? t with
  | some i => match i.zero with
    | some v => cDs v.cells.toList
    | none => none
  | none => none
/-- element size in cells, and in bytes. -/
def tySl (t : TypeId) : Option (Nat × Nat) :=
  match P.underlying t with
  | some (.slice e) => match P.info? e with
    | some i => some (i.size, i.bytes)
    | none => none
  | _ => none
def tyArr (t : TypeId) : Option (Nat × Nat) :=
  match P.underlying t with
  | some (.array n e) => match P.info? e with
    | some i => some (n, i.size)
    | none => none
  | _ => none
end

section
variable {P : Program} {B : Base} {G : Gh} {σ : List AObj} {w : World}

theorem tyLd_inv {t : TypeId} {n : Nat} {b : Bool} (h : tyLd P t = some (n, b)) : ∃ i d, P.info? t = some i ∧ P.underlying t = some d ∧ i.size = n ∧ descAgg d = b := by
  unfold tyLd at h
  split at h
  · rename_i i d hi hd
    simp only [Option.some.injEq, Prod.mk.injEq] at h
    exact ⟨i, d, hi, hd, h.1, h.2⟩
  · cases h

theorem run_isAgg {t : TypeId} {d : TypeDesc} (hd : P.underlying t = some d) : (isAgg t).run P w = .ok (descAgg d) w := by
  unfold isAgg
  simp only [Sem.run_bind, run_underlying hd, Result.andThen_ok]
  cases d <;> rfl

theorem load_ok (hR : Rel B G σ w) {t : TypeId} {n : Nat} {b : Bool} (ht : tyLd P t = some (n, b)) {d : D} {v : Value} (hv : Rep G d v) {cs : List D} (h : readAt σ d n = some cs) (hb : b = true ∨ n = 1) :
    ∃ u, (Instr.loadAt t v).run P w = .ok u w ∧ (if b then Rep G (.agg cs) u else ∃ x, cs = [x] ∧ Rep G x u) := by
  obtain ⟨i, ds, hi, hd, rfl, hbb⟩ := tyLd_inv ht
  obtain ⟨bl, o, vs, rfl, hlen, hlen2, hreps, hcell⟩ := readAt_ok hR h hv
  have hl : (loadCells ⟨bl, o, none⟩ vs.length).run P w = .ok vs.toArray w :=
    run_loadCells_list w ⟨bl, o, none⟩ vs (fun j u hj => by rw [addr_add]; exact hcell j u hj)
  unfold Instr.loadAt Instr.sureAddr loadVar
  simp only [Sem.run_bind, Sem.run_pure, Result.andThen_ok, run_isAgg hd, hbb]
  cases b with
  | true =>
    refine ⟨.agg vs.toArray, ?_, ?_⟩
    · rw [hlen] at hl
      simp [sizeOf, typeInfo, hi, hl]
    · simp only [if_true, Rep]; exact ⟨_, rfl, by simpa using hreps⟩
  | false =>
    have hn : i.size = 1 := hb.resolve_left (by simp)
    rw [hn] at hlen hlen2
    match vs, hlen with
    | [u], _ =>
      match cs, hlen2 with
      | [x], _ =>
        have hc := hcell 0 u rfl
        refine ⟨u, by simp [show w.cell? ⟨bl, o, none⟩ = some u from hc], ?_⟩
        simp only [Reps] at hreps
        obtain ⟨v', r, e, hx, _⟩ := hreps
        cases e
        exact ⟨x, rfl, hx⟩
end
end Go.Fw
