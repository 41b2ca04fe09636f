import Derived.Test.YtfbeeambjjdbjaaGreatDoorFwOps1
namespace Go.Fw
open Go.RowKit

section
variable {P : Program} {B : Base} {G : Gh} {σ : List AObj} {w : World}

def writeAt (σ : List AObj) : D → List D → Option (List AObj)
  | .ptr l u o, new => match σ[l]? with
    | some (.cells cs frz u') => if u' = u ∧ frz ≤ o ∧ o + new.length ≤ cs.length ∧ new.all D.isCell = true then
        some (σ.set l (.cells (cs.take o ++ new ++ cs.drop (o + new.length)) frz u)) else none
    | _ => none
  | _, _ => none

theorem write_ok (hR : Rel B G σ w) {d : D} {new : List D} {σ' : List AObj} {v : Value} {us : List Value} (h : writeAt σ d new = some σ') (hv : Rep G d v) (hu : Reps G new us) :
    ∃ a w', v = .pointer (some a) ∧ (storeCells a us).run P w = .ok () w' ∧ Rel B G σ' w' := by
  cases d <;> simp only [writeAt] at h <;> try (cases h; done)
  case ptr l u o =>
    simp only [Rep] at hv
    obtain ⟨b, hb, rfl⟩ := hv
    split at h
    · rename_i cs frz u' hl
      split at h
      · rename_i hc
        obtain ⟨rfl, hfrz, hlen, hall⟩ := hc
        cases h
        obtain ⟨vs, et, h1, h2, tl, hd, h3, h4⟩ := hR.obj l _ b hl hb
        have hul := hu.length
        have hl4 := h4.length
        have hsz : vs.size = hd.length + tl.length := by
          have := congrArg List.length h3
          simpa using this
        have hbB := (hR.blk _ _ _ hb).2.1
        have hrun := run_storeCells_at (P := P) b o et us 0 vs w h1 (by omega) (hu.oneCell hall)
        refine ⟨_, _, rfl, hrun, ?_⟩
        simp only [Nat.add_zero]
        generalize hnew : (vs.toList.take o ++ us ++ vs.toList.drop (o + us.length)).toArray = nv
        have hnl : nv.toList = hd.take o ++ us ++ hd.drop (o + us.length) ++ tl := by
          rw [← hnew, h3]
          simp only [List.take_append_of_le_length (show o ≤ hd.length by omega), List.drop_append_of_le_length (show o + us.length ≤ hd.length by omega), List.append_assoc]
        have hns : nv.size = vs.size := by
          have := congrArg List.length hnl
          simp at this
          omega
        refine hR.update hl hb (.refl G) (fun _ _ _ x => .inl x) hb ?_ rfl rfl (below_setRow hR.below hbB nv) (by simp) (fun k hk => setRow_other w b k nv hk) ?_ ?_ ?_ ?_ ⟨Nat.le_refl _, by have := (hR.ver _ _ hl).1; simp only [AObj.ver, AObj.len] at this ⊢; simp; omega⟩ (by have := hR.frzle _ _ hl; simp only [AObj.frz, AObj.len] at this ⊢; simp; omega)
        · intro b' o' x hi
          refine ⟨?_, fun _ => hi⟩
          by_cases e : b' = b
          · subst e
            have hlt := hR.own l _ _ _ _ hl hb o' x hi
            have hcl := hR.imm _ _ _ hi
            rw [cell_setRow_same w b' o' vs nv et (0, 0) h1]
            unfold World.cell? at hcl
            rw [h1] at hcl
            have hcl' : vs[o']? = some x := hcl
            have e1 : nv[o']? = nv.toList[o']? := by simp
            have e2 : vs[o']? = vs.toList[o']? := by simp
            rw [e2, h3, List.getElem?_append_left (by omega)] at hcl'
            rw [e1, hnl, List.append_assoc, List.append_assoc, List.getElem?_append_left (by simp; omega), List.getElem?_take_of_lt (by omega)]
            exact hcl'
          · rw [cell_setRow_other w b nv _ e]; exact hR.imm _ _ _ hi
        · intro n hn
          rw [h2] at hn
          exact ⟨nv, et, (0, 0), setRow_heap w b vs nv et (0, 0) h1, by cases hn; exact hns⟩
        · cases hm : G.mimm b with
          | none => rfl
          | some es =>
            obtain ⟨hc, _⟩ := hR.mimm _ _ hm
            rw [h1] at hc; cases hc
        · refine ⟨nv, et, setRow_heap w b vs nv et (0, 0) h1, by rw [hns]; exact h2, tl, _, hnl, ?_⟩
          rw [← hul]
          exact ((h4.take o).append hu).append (h4.drop _)
        · intro cs' frz' u'' e o' x hi
          cases e
          exact hR.own l _ _ _ _ hl hb o' x hi
      · cases h
    · cases h

theorem store_ok (hR : Rel B G σ w) {t : TypeId} {n : Nat} {bb : Bool} (ht : tyLd P t = some (n, bb)) {d x : D} {v u : Value} {cs : List D} {σ' : List AObj} (hx : x.cells? = some cs) (hn : cs.length = n)
    (h : writeAt σ d cs = some σ') (hv : Rep G d v) (hu : Rep G x u) : ∃ w', (Instr.storeAt t v u).run P w = .ok () w' ∧ Rel B G σ' w' := by
  obtain ⟨i, ds, hi, hd, rfl, hbb⟩ := tyLd_inv ht
  have hcs := rep_cells hx hu
  have hl := hcs.length
  obtain ⟨a, w', rfl, hrun, hR'⟩ := write_ok (P := P) hR h hv hcs
  refine ⟨w', ?_, hR'⟩
  have hsz : u.cells.size = i.size := by simpa [hn] using hl.symm
  unfold Instr.storeAt Instr.sureAddr storeVar
  simp only [Sem.run_bind, Sem.run_pure, Result.andThen_ok, sizeOf, typeInfo, run_program, hi, hsz, ne_eq, not_true_eq_false, if_false]
  exact hrun

/-- A new object. -/
theorem newObj_ok (hR : Rel B G σ w) {cs : List D} {vs : List Value} (hr : Reps G cs vs) (tl : List Value) (t : TypeId) (c : Array Value) (hc : c.toList = vs ++ tl) :
    ∃ G', G.Le G' ∧ Rel B G' (σ ++ [.cells cs 0 0]) (w.alloc (.cells c t)) ∧ G'.blk σ.length 0 = some w.heap.size ∧ G'.siz w.heap.size = some c.size := by
  have hf : G.blk σ.length 0 = none := by
    cases h : G.blk σ.length 0 with
    | none => rfl
    | some b => exact absurd (hR.blk _ _ _ h).1 (Nat.lt_irrefl _)
  obtain ⟨h1, h2⟩ := hR.bindCells (l := σ.length) (u := 0) (frz := 0) (cs := cs) (σ' := σ ++ [.cells cs 0 0]) t (by simp) (fun l' hl' => by
    rcases Nat.lt_or_ge l' σ.length with h | h
    · rw [List.getElem?_append_left h]
    · rw [List.getElem?_append_right h, List.getElem?_eq_none h]
      have : l' - σ.length ≠ 0 := by omega
      cases hk : l' - σ.length with
      | zero => exact absurd hk this
      | succ k => simp) (by simp) hf ⟨Nat.zero_le _, fun u' b h => absurd (hR.blk _ _ _ h).1 (Nat.lt_irrefl _)⟩ (Nat.zero_le _) hc hr
  exact ⟨_, h1, h2, by simp [Gh.bind], by simp [Gh.bind]⟩

theorem tyZero_inv {t : TypeId} {cs : List D} (h : tyZero P t = some cs) : ∃ i v, P.info? t = some i ∧ i.zero = some v ∧ cDs v.cells.toList = some cs := by
  unfold tyZero at h
  split at h
  · rename_i i hi
    split at h
    · rename_i v hv; exact ⟨i, v, hi, hv, h⟩
    · cases h
  · cases h

theorem alloc_ok (hR : Rel B G σ w) {t : TypeId} {cs : List D} (h : tyZero P t = some cs) :
    ∃ w' G' v, (Instr.alloc t true (.tuple #[])).run P w = .ok v w' ∧ G.Le G' ∧ Rel B G' (σ ++ [.cells cs 0 0]) w' ∧ Rep G' (.ptr σ.length 0 0) v := by
  obtain ⟨i, v, hi, hv, hz⟩ := tyZero_inv h
  obtain ⟨G', h1, h2, h3, h4⟩ := newObj_ok hR (cDs_rep G hz) [] t v.cells (by simp)
  refine ⟨_, G', .pointer (some ⟨w.heap.size, 0, none⟩), ?_, h1, h2, ?_⟩
  · unfold Instr.alloc
    simp only [zeroValue, typeInfo, Sem.run_bind, run_program, Result.andThen_ok, hi, Sem.run_pure, hv, newVar, newRow, run_newObj]
    rfl
  · simp only [Rep]; exact ⟨_, h3, rfl⟩

theorem box_ok (hR : Rel B G σ w) {t : TypeId} {x : D} {cs : List D} {u : Value} (hx : x.cells? = some cs) (hu : Rep G x u) :
    ∃ w' G' v, (Instr.box t u).run P w = .ok v w' ∧ G.Le G' ∧ Rel B G' (σ ++ [.cells cs 0 0]) w' ∧ Rep G' (.ptr σ.length 0 0) v := by
  obtain ⟨G', h1, h2, h3, h4⟩ := newObj_ok hR (rep_cells hx hu) [] t u.cells (by simp)
  refine ⟨_, G', .pointer (some ⟨w.heap.size, 0, none⟩), ?_, h1, h2, ?_⟩
  · unfold Instr.box
    simp only [Sem.run_bind, Sem.run_pure, Result.andThen_ok, newVar, newRow, run_newObj]
    rfl
  · simp only [Rep]; exact ⟨_, h3, rfl⟩

/-! ### field, index addresses -/
def ptrAdd : D → Nat → Option D
  | .ptr l u o, n => some (.ptr l u (o + n))
  | .rptr cs o, n => some (.rptr cs (o + n))
  | _, _ => none

theorem ptrAdd_ok {d d' : D} {n : Nat} {v : Value} (h : ptrAdd d n = some d') (hv : Rep G d v) : ∃ a, v = .pointer (some a) ∧ Rep G d' (.pointer (some (a.add n))) := by
  cases d <;> simp only [ptrAdd, Option.some.injEq] at h <;> try (cases h; done)
  · subst h
    simp only [Rep] at hv ⊢
    obtain ⟨b, hb, rfl⟩ := hv
    exact ⟨_, rfl, b, hb, by rw [addr_add]⟩
  · subst h
    simp only [Rep] at hv ⊢
    obtain ⟨b, o', rfl, hc⟩ := hv
    exact ⟨_, rfl, b, o', by rw [addr_add, Nat.add_assoc], hc⟩

theorem fieldAt_ok {s : TypeId} {f off : Nat} (h : tyFld P s f = some off) {d d' : D} {v : Value} (hd : ptrAdd d off = some d') (hv : Rep G d v) :
    ∃ u, (Instr.fieldAt s v f).run P w = .ok u w ∧ Rep G d' u := by
  unfold tyFld at h
  split at h <;> try (cases h; done)
  rename_i fs hs
  split at h <;> try (cases h; done)
  rename_i x hx
  split at h <;> try (cases h; done)
  rename_i j hj
  split at h <;> try (cases h; done)
  rename_i hnz
  simp only [Option.some.injEq] at h
  subst h
  obtain ⟨a, rfl, hr⟩ := ptrAdd_ok hd hv
  refine ⟨_, ?_, hr⟩
  unfold Instr.fieldAt Instr.sureAddr fieldPlace
  simp [run_underlying hs, hx, sizeOf, typeInfo, hj, hnz]

def idxInt : D → Option Int
  | .int _ n => some n
  | _ => none

theorem idxInt_ok {d : D} {n : Int} {v : Value} (h : idxInt d = some n) (hv : Rep G d v) : ∃ k, v = .int k n := by
  cases d <;> simp only [idxInt, Option.some.injEq] at h <;> try (cases h; done)
  subst h
  simp only [Rep] at hv
  exact ⟨_, hv⟩

/-- '&x[i]': x a slice. -/
def idxSl (sz : Nat) (x : D) (i : Int) : Option D :=
  match x with
  | .list cs n _ => if 0 ≤ i ∧ i < n ∧ 0 < sz ∧ cs.length = n * sz then some (.rptr cs (i.toNat * sz)) else none
  | .sl l u o n sz' _ => if 0 ≤ i ∧ i < n ∧ sz' = sz then some (.ptr l u (o + i.toNat * sz)) else none
  | _ => none

theorem tySl_inv {t : TypeId} {sz by' : Nat} (h : tySl P t = some (sz, by')) : ∃ e i, P.underlying t = some (.slice e) ∧ P.info? e = some i ∧ i.size = sz ∧ i.bytes = by' := by
  unfold tySl at h
  split at h <;> try (cases h; done)
  rename_i e he
  split at h <;> try (cases h; done)
  rename_i i hi
  simp only [Option.some.injEq, Prod.mk.injEq] at h
  exact ⟨e, i, he, hi, h.1, h.2⟩

theorem tyArr_inv {t : TypeId} {n sz : Nat} (h : tyArr P t = some (n, sz)) : ∃ e i, P.underlying t = some (.array n e) ∧ P.info? e = some i ∧ i.size = sz := by
  unfold tyArr at h
  split at h <;> try (cases h; done)
  rename_i m e he
  split at h <;> try (cases h; done)
  rename_i i hi
  simp only [Option.some.injEq, Prod.mk.injEq] at h
  obtain ⟨rfl, h2⟩ := h
  exact ⟨e, i, he, hi, h2⟩

theorem indexAtSl_ok {t : TypeId} {sz by' : Nat} (h : tySl P t = some (sz, by')) {x x' ix : D} {i : Int} {v iv : Value} (hi : idxInt ix = some i) (hx : idxSl sz x i = some x') (hv : Rep G x v) (hiv : Rep G ix iv) :
    ∃ u, (Instr.indexAt t v iv).run P w = .ok u w ∧ Rep G x' u := by
  obtain ⟨e, inf, hu, hinf, rfl, _⟩ := tySl_inv h
  obtain ⟨k, rfl⟩ := idxInt_ok hi hiv
  cases x <;> simp only [idxSl] at hx <;> try (cases hx; done)
  · rename_i cs n full
    split at hx <;> try (cases hx; done)
    rename_i hc
    obtain ⟨h0, h1, h2, h3⟩ := hc
    cases hx
    simp only [Rep] at hv
    obtain ⟨a, cap, rfl, _, _, _, h6⟩ := hv
    rcases h6 with ⟨b, o, rfl, hcl⟩ | rfl
    · refine ⟨.pointer (some ((⟨b, o, none⟩ : Addr).add (i.toNat * inf.size))), ?_, ?_⟩
      · unfold Instr.indexAt
        simp [asIntOf, run_underlying hu, h0, h1, sizeOf, typeInfo, hinf]
      · simp only [Rep]
        exact ⟨b, o, by rw [addr_add], hcl⟩
    · simp only [List.length_nil] at h3
      have : n = 0 := by
        rcases Nat.mul_eq_zero.1 h3.symm with h | h <;> omega
      omega
  · rename_i l u o n sz' full
    split at hx <;> try (cases hx; done)
    rename_i hc
    obtain ⟨h0, h1, rfl⟩ := hc
    cases hx
    simp only [Rep] at hv
    obtain ⟨b, cap, tot, hb, rfl, _⟩ := hv
    refine ⟨.pointer (some ((⟨b, o, none⟩ : Addr).add (i.toNat * inf.size))), ?_, ?_⟩
    · unfold Instr.indexAt
      simp [asIntOf, run_underlying hu, h0, h1, sizeOf, typeInfo, hinf]
    · simp only [Rep]
      exact ⟨b, hb, by rw [addr_add]⟩

theorem indexAtArr_ok {t : TypeId} {len sz : Nat} (h : tyArr P t = some (len, sz)) {x x' ix : D} {i : Int} {v iv : Value} (hi : idxInt ix = some i) (h0 : 0 ≤ i) (h1 : i < len) (hx : ptrAdd x (i.toNat * sz) = some x') (hv : Rep G x v) (hiv : Rep G ix iv) :
    ∃ u, (Instr.indexAt t v iv).run P w = .ok u w ∧ Rep G x' u := by
  obtain ⟨e, inf, hu, hinf, rfl⟩ := tyArr_inv h
  obtain ⟨k, rfl⟩ := idxInt_ok hi hiv
  obtain ⟨a, rfl, hr⟩ := ptrAdd_ok hx hv
  refine ⟨_, ?_, hr⟩
  unfold Instr.indexAt Instr.sureAddr
  simp [asIntOf, run_underlying hu, h0, h1, sizeOf, typeInfo, hinf]
end
end Go.Fw
