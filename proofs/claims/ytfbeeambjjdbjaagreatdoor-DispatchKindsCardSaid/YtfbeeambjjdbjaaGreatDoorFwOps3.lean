import Derived.Test.YtfbeeambjjdbjaaGreatDoorFwOps2
import Derived.Laws.Strings
namespace Go.Fw
open Go.RowKit

section
variable {P : Program} {B : Base} {G : Gh} {σ : List AObj} {w : World}

theorem bytes_eta (s : ByteArray) : (⟨s.data.toList.toArray⟩ : ByteArray) = s := by cases s; simp

theorem bytes_get (l : List UInt8) (i : Nat) : (⟨l.toArray⟩ : ByteArray)[i]? = l[i]? := by
  rcases Nat.lt_or_ge i l.length with h | h
  · have h' : i < (⟨l.toArray⟩ : ByteArray).size := by simpa [ByteArray.size] using h
    rw [List.getElem?_eq_getElem h]
    exact (getElem?_pos (⟨l.toArray⟩ : ByteArray) i h').trans rfl
  · have h' : ¬ i < (⟨l.toArray⟩ : ByteArray).size := by simpa [ByteArray.size] using h
    rw [List.getElem?_eq_none h]
    exact getElem?_neg (⟨l.toArray⟩ : ByteArray) i h'

theorem bytes_size (l : List UInt8) : (⟨l.toArray⟩ : ByteArray).size = l.length := by simp [ByteArray.size]

theorem bytes_extract (l : List UInt8) (a b : Nat) : (⟨l.toArray⟩ : ByteArray).extract a b = ⟨((l.take b).drop a).toArray⟩ := by
  apply ByteArray.ext
  rw [ByteArray.data_extract]
  simp [List.drop_take]

theorem bytes_append (a b : List UInt8) : (⟨a.toArray⟩ : ByteArray) ++ ⟨b.toArray⟩ = ⟨(a ++ b).toArray⟩ := by
  apply ByteArray.ext
  simp [ByteArray.data_append]

theorem bytes_toList (l : List UInt8) : (⟨l.toArray⟩ : ByteArray).toList = l := by
  have h : ∀ (s : ByteArray), s.toList = s.data.toList := fun s => ByteArray.toList_eq s
  rw [h]

/-! ### field of a struct value, index of an array value and of a string -/
def tyFldV (P : Program) (s : TypeId) (f : Nat) : Option (Nat × Nat × Bool) :=
  match P.underlying s with
  | some (.struct fs) => match fs[f]? with
    | some x => match tyLd P x.type with
      | some (n, b) => some (x.offset, n, b)
      | none => none
    | none => none
  | _ => none

def partD (cs : List D) (off n : Nat) (agg : Bool) : Option D :=
  if agg then (if off + n ≤ cs.length then some (.agg ((cs.drop off).take n)) else none) else cs[off]?

theorem part_ok {t : TypeId} {n off : Nat} {b : Bool} (ht : tyLd P t = some (n, b)) {cs : List D} {a : Array Value} {d : D} (hr : Reps G cs a.toList) (h : partD cs off n b = some d) :
    ∃ u, (part t a off).run P w = .ok u w ∧ Rep G d u := by
  obtain ⟨i, ds, hi, hd, rfl, hbb⟩ := tyLd_inv ht
  unfold part
  simp only [Sem.run_bind, run_isAgg hd, hbb, Result.andThen_ok]
  unfold partD at h
  cases b with
  | true =>
    simp only [if_true] at h ⊢
    split at h
    · cases h
      refine ⟨.agg (a.extract off (off + i.size)), by simp [sizeOf, typeInfo, hi], ?_⟩
      simp only [Rep]
      refine ⟨_, rfl, ?_⟩
      have : (a.extract off (off + i.size)).toList = (a.toList.drop off).take i.size := by
        simp
      rw [this]
      exact (hr.drop off).take i.size
    · cases h
  | false =>
    simp only [Bool.false_eq_true, if_false] at h ⊢
    obtain ⟨v, hv, hrep⟩ := hr.get off h
    have : a[off]? = some v := by simpa using hv
    exact ⟨v, by rw [this]; rfl, hrep⟩

theorem field_ok {s : TypeId} {f off n : Nat} {b : Bool} (h : tyFldV P s f = some (off, n, b)) {cs : List D} {d : D} {v : Value} (hd : partD cs off n b = some d) (hv : Rep G (.agg cs) v) :
    ∃ u, (Instr.field s v f).run P w = .ok u w ∧ Rep G d u := by
  unfold tyFldV at h
  split at h <;> try (cases h; done)
  rename_i fs hs
  split at h <;> try (cases h; done)
  rename_i x hx
  split at h <;> try (cases h; done)
  rename_i n' b' ht
  simp only [Option.some.injEq, Prod.mk.injEq] at h
  obtain ⟨rfl, rfl, rfl⟩ := h
  simp only [Rep] at hv
  obtain ⟨a, rfl, hr⟩ := hv
  obtain ⟨u, hu, hrep⟩ := part_ok (w := w) ht hr hd
  refine ⟨u, ?_, hrep⟩
  unfold Instr.field
  simp [run_underlying hs, hx, asAgg, hu]

theorem indexStr_ok {t : TypeId} (ht : P.underlying t = some .string) {s : List UInt8} {ix : D} {i : Int} {b : UInt8} {iv : Value} (hi : idxInt ix = some i) (h0 : 0 ≤ i) (hb : s[i.toNat]? = some b) (hiv : Rep G ix iv) :
    ∃ u, (Instr.index t (.string ⟨s.toArray⟩) iv).run P w = .ok u w ∧ Rep G (.int .u8 b.toNat) u := by
  obtain ⟨k, rfl⟩ := idxInt_ok hi hiv
  refine ⟨.int .u8 b.toNat, ?_, by simp [Rep]⟩
  unfold Instr.index
  simp only [Sem.run_bind, asIntOf, Sem.run_pure, Result.andThen_ok, run_underlying ht, h0, if_true, bytes_get, hb]

theorem indexArr_ok {t e : TypeId} {len n : Nat} {b : Bool} (ht : P.underlying t = some (.array len e)) (he : tyLd P e = some (n, b)) {cs : List D} {ix d : D} {i : Int} {v iv : Value} (hi : idxInt ix = some i) (h0 : 0 ≤ i) (h1 : i < len)
    (hd : partD cs (i.toNat * n) n b = some d) (hv : Rep G (.agg cs) v) (hiv : Rep G ix iv) : ∃ u, (Instr.index t v iv).run P w = .ok u w ∧ Rep G d u := by
  obtain ⟨k, rfl⟩ := idxInt_ok hi hiv
  simp only [Rep] at hv
  obtain ⟨a, rfl, hr⟩ := hv
  obtain ⟨inf, _, hinf, _, rfl, _⟩ := tyLd_inv he
  obtain ⟨u, hu, hrep⟩ := part_ok (w := w) he hr hd
  refine ⟨u, ?_, hrep⟩
  unfold Instr.index
  simp [asIntOf, run_underlying ht, h0, h1, sizeOf, typeInfo, hinf, hu]

/-! ### build -/
def fillD (place : Nat → Option (Nat × Nat)) : List D → List (Nat × D) → Option (List D)
  | cells, [] => some cells
  | cells, (i, d) :: rest =>
    match place i, d.cells? with
    | some (off, n), some cs => if cs.length = n ∧ off + n ≤ cells.length then fillD place (cells.take off ++ cs ++ cells.drop (off + n)) rest else none
    | _, _ => none

theorem fold_set (off : Nat) : ∀ (vs : List Value) (k : Nat) (cells : Array Value), off + k + vs.length ≤ cells.size →
    ((vs.zipIdx k).foldl (fun cs (x : Value × Nat) => cs.setIfInBounds (off + x.2) x.1) cells).toList = cells.toList.take (off + k) ++ vs ++ cells.toList.drop (off + k + vs.length)
  | [], k, cells, _ => by simp
  | v :: vs, k, cells, h => by
    simp only [List.length_cons] at h
    rw [List.zipIdx_cons, List.foldl_cons, fold_set off vs (k + 1) _ (by simp; omega)]
    simp only [Array.toList_setIfInBounds, List.length_cons]
    have hk : off + k < cells.toList.length := by simp; omega
    have e0 : (cells.toList.set (off + k) v).take (off + k) = cells.toList.take (off + k) := by
      apply List.ext_getElem?
      intro i
      simp only [List.getElem?_take]
      split
      · rw [List.getElem?_set_ne (by omega)]
      · rfl
    have e1 : (cells.toList.set (off + k) v).take (off + (k + 1)) = cells.toList.take (off + k) ++ [v] := by
      rw [show off + (k + 1) = off + k + 1 from by omega, List.take_succ_eq_append_getElem (by simpa using hk), e0, List.getElem_set_self]
    have e2 : (cells.toList.set (off + k) v).drop (off + (k + 1) + vs.length) = cells.toList.drop (off + k + (vs.length + 1)) := by
      rw [List.drop_set_of_lt (by omega)]
      congr 1; omega
    rw [e1, e2]
    simp

theorem fill_ok (place : Nat → Option (Nat × Nat)) : ∀ (parts : List (Nat × D)) (cells : List D) (out : List D) (cv : Array Value) (pv : List (Nat × Value)),
    fillD place cells parts = some out → Reps G cells cv.toList → parts.length = pv.length → (∀ (j i : Nat) (d : D), parts[j]? = some (i, d) → ∃ v, pv[j]? = some (i, v) ∧ Rep G d v) →
    ∃ ov, Instr.fill place cv pv = some ov ∧ Reps G out ov.toList
  | [], cells, out, cv, pv, h, hr, hl, _ => by
    simp only [fillD, Option.some.injEq] at h
    subst h
    match pv, hl with
    | [], _ => exact ⟨cv, rfl, hr⟩
  | (i, d) :: rest, cells, out, cv, pv, h, hr, hl, hp => by
    match pv, hl with
    | (i', v) :: pr, hl =>
      have h0 := hp 0 i d rfl
      obtain ⟨v', e, hrep⟩ := h0
      simp only [List.getElem?_cons_zero, Option.some.injEq, Prod.mk.injEq] at e
      obtain ⟨rfl, rfl⟩ := e
      simp only [fillD] at h
      split at h <;> try (cases h; done)
      rename_i off n cs hpl hcs
      split at h <;> try (cases h; done)
      rename_i hc
      obtain ⟨hn, hoff⟩ := hc
      have hcr := rep_cells hcs hrep
      have hcl := hcr.length
      have hrl := hr.length
      have hv : v.cells.size = n := by rw [← hn, hcl]; simp
      have hcv : cv.size = cells.length := by rw [hrl]; simp
      have hfold := fold_set off v.cells.toList 0 cv (by simp; omega)
      simp only [Nat.add_zero] at hfold
      have hreps : Reps G (cells.take off ++ cs ++ cells.drop (off + n)) (cv.toList.take off ++ v.cells.toList ++ cv.toList.drop (off + v.cells.toList.length)) := by
        rw [show off + v.cells.toList.length = off + n from by simp [hv]]
        exact ((hr.take off).append hcr).append (hr.drop _)
      rw [← hfold] at hreps
      obtain ⟨ov, ho, hro⟩ := fill_ok place rest _ out _ pr h hreps (by simpa using hl) (fun j i d hj => by simpa using hp (j + 1) i d (by simpa using hj))
      refine ⟨ov, ?_, hro⟩
      simp only [Instr.fill, hpl]
      rw [if_neg (by simp; omega)]
      rw [← ho]
      congr 1
      rw [← Array.foldl_toList, Array.toList_zipIdx]

def placesOf (P : Program) (fs : List Field) : Option (List (Nat × Nat)) :=
  match fs with
  | [] => some []
  | f :: r => match P.info? f.type, placesOf P r with
    | some i, some ps => some ((f.offset, i.size) :: ps)
    | _, _ => none

theorem run_places (w : World) : ∀ {fs : List Field} {ps : List (Nat × Nat)}, placesOf P fs = some ps →
    (fs.mapM fun f => do pure (f.offset, ← sizeOf f.type) : Sem (List (Nat × Nat))).run P w = .ok ps w
  | [], ps, h => by simp only [placesOf, Option.some.injEq] at h; subst h; simp
  | f :: r, ps, h => by
    simp only [placesOf] at h
    split at h <;> try (cases h; done)
    rename_i i ps' hi hps
    cases h
    have ih := run_places w hps
    simp only [List.mapM_cons, Sem.run_bind, sizeOf, typeInfo, run_program, hi, Sem.run_pure, Result.andThen_ok] at ih ⊢
    rw [ih]
    simp

inductive BKind where
  | struct (ps : List (Nat × Nat))
  | array (n : Nat)

def BKind.place : BKind → Nat → Option (Nat × Nat)
  | .struct ps, i => ps[i]?
  | .array n, i => some (i * n, n)

def tyBuild (P : Program) (t : TypeId) : Option (List D × BKind) :=
  match tyZero P t, P.underlying t with
  | some z, some (.struct fs) => match placesOf P fs.toList with
    | some ps => some (z, .struct ps)
    | none => none
  | some z, some (.array _ e) => match P.info? e with
    | some i => some (z, .array i.size)
    | none => none
  | _, _ => none

theorem build_ok {t : TypeId} {z : List D} {bk : BKind} (h : tyBuild P t = some (z, bk)) {parts : List (Nat × D)} {out : List D} (hf : fillD bk.place z parts = some out) {pv : Array (Nat × Value)}
    (hl : parts.length = pv.size) (hp : ∀ (j i : Nat) (d : D), parts[j]? = some (i, d) → ∃ v, pv[j]? = some (i, v) ∧ Rep G d v) :
    ∃ u, (Instr.build t pv).run P w = .ok u w ∧ Rep G (.agg out) u := by
  have hfill : ∀ (place : Nat → Option (Nat × Nat)) (cv : Array Value), fillD place z parts = some out → Reps G z cv.toList → ∃ ov, Instr.fill place cv pv.toList = some ov ∧ Reps G out ov.toList := by
    intro place cv h1 h2
    exact fill_ok place parts z out cv pv.toList h1 h2 (by simpa using hl) (fun j i d hj => by obtain ⟨v, h3, h4⟩ := hp j i d hj; exact ⟨v, by simpa using h3, h4⟩)
  unfold tyBuild at h
  split at h
  · rename_i z' fs hz hu
    split at h <;> try (cases h; done)
    rename_i ps hps
    simp only [Option.some.injEq, Prod.mk.injEq] at h
    obtain ⟨rfl, rfl⟩ := h
    obtain ⟨i, v, hi, hv, hcd⟩ := tyZero_inv hz
    have hr := run_places w hps
    obtain ⟨ov, ho, hro⟩ := hfill _ v.cells hf (cDs_rep G hcd)
    refine ⟨.agg ov, ?_, by simp only [Rep]; exact ⟨_, rfl, hro⟩⟩
    unfold Instr.build
    simp only [zeroValue, typeInfo, Sem.run_bind, run_program, Result.andThen_ok, hi, Sem.run_pure, hv, run_underlying hu, Array.mapM_eq_mapM_toList, Sem.run_map, hr]
    have : (fun x => ps.toArray[x]?) = BKind.place (.struct ps) := by funext x; simp [BKind.place]
    rw [this, ho]
    rfl
  · rename_i z' n e hz hu
    split at h <;> try (cases h; done)
    rename_i i hi
    simp only [Option.some.injEq, Prod.mk.injEq] at h
    obtain ⟨rfl, rfl⟩ := h
    obtain ⟨i', v, hi', hv, hcd⟩ := tyZero_inv hz
    obtain ⟨ov, ho, hro⟩ := hfill _ v.cells hf (cDs_rep G hcd)
    refine ⟨.agg ov, ?_, by simp only [Rep]; exact ⟨_, rfl, hro⟩⟩
    unfold Instr.build
    simp only [zeroValue, typeInfo, Sem.run_bind, run_program, Result.andThen_ok, hi', Sem.run_pure, hv, run_underlying hu, sizeOf, hi]
    have : (fun x => some (x * i.size, i.size)) = BKind.place (.array i.size) := by funext x; simp [BKind.place]
    rw [this, ho]
    rfl
  · cases h

/-! ### buildSlice: a block that is never written again -/
def repZ (z : List D) : Nat → List D
  | 0 => []
  | n + 1 => z ++ repZ z n

theorem repZ_length (z : List D) : ∀ n, (repZ z n).length = n * z.length
  | 0 => by simp [repZ]
  | n + 1 => by simp [repZ, repZ_length z n, Nat.succ_mul, Nat.add_comm]

theorem Reps.of_get {G : Gh} : ∀ {ds : List D} {vs : List Value}, ds.length = vs.length → (∀ (i : Nat) (d : D) (v : Value), ds[i]? = some d → vs[i]? = some v → Rep G d v) → Reps G ds vs
  | [], [], _, _ => by simp only [Reps]
  | d :: ds, v :: vs, hl, h => by
    simp only [Reps]
    exact ⟨v, vs, rfl, h 0 d v rfl rfl, Reps.of_get (by simpa using hl) fun i d' v' h1 h2 => h (i + 1) d' v' (by simpa using h1) (by simpa using h2)⟩

theorem repZ_get (z : List D) (hz : z ≠ []) : ∀ (n i : Nat), i < n * z.length → (repZ z n)[i]? = z[i % z.length]?
  | 0, i, h => by simp at h
  | n + 1, i, h => by
    have hpos : 0 < z.length := List.length_pos_iff.2 hz
    simp only [repZ]
    rcases Nat.lt_or_ge i z.length with h' | h'
    · rw [List.getElem?_append_left h', Nat.mod_eq_of_lt h']
    · rw [List.getElem?_append_right h', repZ_get z hz n (i - z.length) (by rw [Nat.succ_mul] at h; omega)]
      congr 1
      rw [Nat.mod_eq_sub_mod h']

theorem zeros_ok {z : List D} {zv : Array Value} (hr : Reps G z zv.toList) (n : Nat) :
    Reps G (repZ z n) (((Array.range (n * z.length)).map (zv[· % zv.size]!)).toList) := by
  have hl : z.length = zv.size := by simpa using hr.length
  refine Reps.of_get (by simp [repZ_length]) ?_
  intro i d v h1 h2
  have hi : i < n * z.length := by
    rcases Nat.lt_or_ge i (n * z.length) with h' | h'
    · exact h'
    · rw [List.getElem?_eq_none (by simpa using h')] at h2; cases h2
  have hz : z ≠ [] := by
    rintro rfl
    simp at hi
  rw [repZ_get z hz n i hi] at h1
  obtain ⟨u, hu, hrep⟩ := hr.get _ h1
  have hmod : i % zv.size < zv.size := Nat.mod_lt _ (by rw [← hl]; exact List.length_pos_iff.2 hz)
  have : v = zv[i % zv.size]! := by
    simp only [Array.toList_map, Array.toList_range, List.getElem?_map, List.getElem?_range hi, Option.map_some, Option.some.injEq] at h2
    exact h2.symm
  rw [this, getElem!_pos zv _ hmod]
  have h3 : zv.toList[i % z.length]? = some (zv[i % zv.size]) := by
    rw [hl]
    simp [Array.getElem?_eq_getElem hmod]
  rw [h3] at hu
  cases hu
  exact hrep

def tyBS (P : Program) (t : TypeId) : Option (List D × Nat) :=
  match P.underlying t with
  | some (.slice e) => match tyZero P e, P.info? e with
    | some z, some i => if z.length = i.size ∧ 0 < i.size then some (z, i.size) else none
    | _, _ => none
  | _ => none

theorem buildSlice_ok (hR : Rel B G σ w) {t : TypeId} {z : List D} {sz : Nat} (h : tyBS P t = some (z, sz)) {len : Nat} (hlen : len * sz ≤ 16777216) {parts : List (Nat × D)} {out : List D}
    (hf : fillD (fun i => some (i * sz, sz)) (repZ z len) parts = some out) {pv : Array (Nat × Value)} (hl : parts.length = pv.size) (hp : ∀ (j i : Nat) (d : D), parts[j]? = some (i, d) → ∃ v, pv[j]? = some (i, v) ∧ Rep G d v) :
    ∃ u w' G', (Instr.buildSlice t len pv).run P w = .ok u w' ∧ G.Le G' ∧ Rel B G' σ w' ∧ Rep G' (.list out len true) u := by
  unfold tyBS at h
  split at h <;> try (cases h; done)
  rename_i e hu
  split at h <;> try (cases h; done)
  rename_i z' i hz hi
  split at h <;> try (cases h; done)
  rename_i hc
  obtain ⟨hzl, hpos⟩ := hc
  simp only [Option.some.injEq, Prod.mk.injEq] at h
  obtain ⟨rfl, rfl⟩ := h
  obtain ⟨i', v, hi', hv, hcd⟩ := tyZero_inv hz
  rw [hi] at hi'; cases hi'
  have hzr := cDs_rep G hcd
  have hcs := zeros_ok hzr len
  rw [hzl] at hcs
  obtain ⟨ov, ho, hro⟩ := fill_ok (G := G) _ parts _ out _ pv.toList hf hcs (by simpa using hl) (fun j i d hj => by obtain ⟨v, h3, h4⟩ := hp j i d hj; exact ⟨v, by simpa using h3, h4⟩)
  have hg := grow_new hR ov.toList [] e (0, 0) ov (by simp)
  refine ⟨.slice (some ⟨w.heap.size, 0, none⟩) len len, w.alloc (.cells ov e), _, ?_, hg.le, hR.grow hg, ?_⟩
  · unfold Instr.buildSlice
    have h24 : ¬ (len * i.size > 2 ^ 24) := by omega
    simp only [run_underlying hu, Sem.run_bind, Result.andThen_ok, sizeOf, typeInfo, run_program, hi, Sem.run_pure, h24, if_false]
    by_cases h0 : len * i.size = 0
    · have hlen0 : len = 0 := by
        rcases Nat.mul_eq_zero.1 h0 with h | h <;> omega
      subst hlen0
      have e0 : ∀ f : Nat → Value, Array.map f (Array.range 0) = #[] := by intro f; simp
      simp only [Nat.zero_mul, e0] at ho
      simp only [Nat.zero_mul, if_true, Sem.run_bind, Sem.run_pure, Result.andThen_ok, e0, ho]
      simp only [newRow, Sem.run_bind, run_newObj, Result.andThen_ok, Sem.run_pure]
      rfl
    · simp only [h0, if_false, Sem.run_bind, zeroValue, typeInfo, run_program, Result.andThen_ok, hi, Sem.run_pure, hv]
      rw [ho]
      simp only [newRow, Sem.run_bind, run_newObj, Result.andThen_ok, Sem.run_pure]
      rfl
  · simp only [Rep]
    refine ⟨_, len, rfl, Nat.le_refl _, ?_, fun _ => rfl, ?_⟩
    · have : len ≤ len * i.size := Nat.le_mul_of_pos_right _ hpos
      omega
    · exact .inl ⟨_, _, rfl, cells_addImm ov.toList out [] ov.toList rfl hro hg.le⟩
end
end Go.Fw
