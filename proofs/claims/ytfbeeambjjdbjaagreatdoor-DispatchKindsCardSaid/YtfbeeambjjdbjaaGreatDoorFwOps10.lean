import Derived.Test.YtfbeeambjjdbjaaGreatDoorFwOps9
import Derived.Laws.RangeString
import Derived.IntWalk
namespace Go.Fw
open Go.RowKit

section
variable {P : Program} {B : Base} {G : Gh} {σ : List AObj} {w : World}

theorem findNow_key {lk : LK} {k : D} {kv : Value} (hk : Rep G k kv) : ∀ (ks : List D) (es : List MapEntry) (i j : Nat), findD lk k ks i = some (some j) → Reps G ks (es.map (·.key)) →
    ∃ e, es[j - i]? = some e ∧ e.key = kv ∧ i ≤ j ∧ Instr.sameBits 10000 e.key kv = true
  | [], es, i, j, h, hr => by simp [findD] at h
  | a :: as, es, i, j, h, hr => by
    match es, hr with
    | [], hr => simp only [List.map_nil, Reps] at hr; obtain ⟨_, _, h, _⟩ := hr; cases h
    | e :: es, hr =>
      simp only [List.map_cons, Reps] at hr
      obtain ⟨v, rr, he, h1, h2⟩ := hr
      cases he
      simp only [findD] at h
      split at h <;> try (cases h; done)
      · rename_i hc
        simp only [Option.some.injEq] at h
        subst h
        refine ⟨e, by simp, ?_⟩
        cases lk <;> cases k <;> cases a <;> simp only [cellEq] at hc <;> try (cases hc; done)
        all_goals simp only [Rep] at hk h1
        · subst hk
          rw [h1]
          simp only [Option.some.injEq, beq_iff_eq] at hc
          subst hc
          exact ⟨rfl, Nat.le_refl _, by simp [Instr.sameBits]⟩
        · subst hk
          rw [h1]
          split at hc <;> try (cases hc; done)
          rename_i hkk
          subst hkk
          simp only [Option.some.injEq, beq_iff_eq] at hc
          subst hc
          exact ⟨rfl, Nat.le_refl _, by simp [Instr.sameBits]⟩
        · subst hk
          rw [h1]
          simp only [Option.some.injEq, beq_iff_eq] at hc
          subst hc
          exact ⟨rfl, Nat.le_refl _, by simp only [Instr.sameBits, beq_toListBytes, beq_self_eq_true]⟩
      · obtain ⟨e', g1, g2, g3, g4⟩ := findNow_key hk as es (i + 1) j h h2
        refine ⟨e', ?_, g2, by omega, g4⟩
        have : j - i = (j - (i + 1)) + 1 := by omega
        rw [this, List.getElem?_cons_succ]; exact g1

theorem Reps.set {G : Gh} : ∀ {ds : List D} {vs : List Value} (i : Nat) {d : D} {v : Value}, Reps G ds vs → Rep G d v → Reps G (ds.set i d) (vs.set i v)
  | [], _, _, _, _, h, _ => by simp only [Reps] at h; subst h; simp [Reps]
  | _ :: _, _, 0, _, _, h, hd => by
    simp only [Reps] at h
    obtain ⟨_, r, rfl, _, h2⟩ := h
    simp only [List.set_cons_zero, Reps]
    exact ⟨_, r, rfl, hd, h2⟩
  | _ :: _, _, i + 1, _, _, h, hd => by
    simp only [Reps] at h
    obtain ⟨v, r, rfl, h1, h2⟩ := h
    simp only [List.set_cons_succ, Reps]
    exact ⟨v, _, rfl, h1, Reps.set i h2 hd⟩

theorem setObj_rel (hR : Rel B G σ w) {l b : Nat} {ob ob' : AObj} (hl : σ[l]? = some ob) (hb : G.blk l 0 = some b) {o o' : Obj} (ho : w.heap[b]? = some o) (hver : ob.ver = 0) (hver' : ob'.ver = 0) (hlen' : ob'.len = 0) (hfrz' : ob'.frz = 0)
    (hno : ∀ cs t f, o ≠ .cells cs t f) (hnc : ∀ cs f u, ob' ≠ .cells cs f u) (hmb : G.mimm b = none) (hobj : ∀ w' : World, w'.heap[b]? = some o' → ObjAt G w' b ob') :
    Rel B G (σ.set l ob') { w with heap := w.heap.setIfInBounds b o' } := by
  have hlt := lt_of_some ho
  have hoth : ∀ k, k ≠ b → (w.heap.setIfInBounds b o')[k]? = w.heap[k]? := fun k hk => Array.getElem?_setIfInBounds_ne (Ne.symm hk)
  have hsame : (w.heap.setIfInBounds b o')[b]? = some o' := by simp [hlt]
  have hbB := (hR.blk _ _ _ hb).2.1
  refine hR.update hl (by rw [hver]; exact hb) (.refl G) (fun _ _ _ x => .inl x) (by rw [hver']; exact hb) ?_ rfl rfl ?_ (by simp) hoth ?_ hmb (hobj _ hsame) (fun cs frz u e => absurd e (hnc _ _ _)) (by omega) (by omega)
  · intro b' off v hi
    refine ⟨?_, fun _ => hi⟩
    have hcl := hR.imm _ _ _ hi
    have hne : b' ≠ b := by
      rintro rfl
      unfold World.cell? at hcl
      rw [ho] at hcl
      cases o <;> first | exact absurd rfl (hno _ _ _) | simp at hcl
    unfold World.cell? at hcl ⊢
    have : ({ w with heap := w.heap.setIfInBounds b o' } : World).heap[b']? = w.heap[b']? := hoth b' hne
    simp only [this]; exact hcl
  · exact hR.below.trans ⟨rfl, rfl, rfl, by simp, fun k hk => hoth k (by omega)⟩
  · intro n hn
    obtain ⟨vs, et, f, h1, _⟩ := hR.siz _ _ hn
    rw [ho] at h1
    cases h1
    exact absurd rfl (hno _ _ _)

theorem upd_ok (hR : Rel B G σ w) {t : TypeId} {lk : LK} {z : D} (ht : tyMap P t = some (lk, z)) {m k x : D} {mv kv xv : Value} {σ' : List AObj} (h : updD σ lk m k x = some σ') (hm : Rep G m mv) (hk : Rep G k kv) (hx : Rep G x xv) :
    ∃ w', (Instr.mapUpdate t mv kv xv).run P w = .ok () w' ∧ Rel B G σ' w' := by
  obtain ⟨kt, e, kd, i, zv, hu, hku, hl, hi, hz, hzd⟩ := tyMap_inv ht
  cases m <;> simp only [updD] at h <;> try (cases h; done)
  rename_i l
  split at h <;> try (cases h; done)
  rename_i ks vs hob
  simp only [Rep] at hm
  obtain ⟨b, hb, rfl⟩ := hm
  obtain ⟨es, ⟨o1, ob1⟩, o2, o3⟩ := hR.obj _ _ b hob hb
  generalize hc : es.size = c at o1
  have hgo : (getObj b).run P w = .ok (.map es c) w := by simp [getObj, Sem.run, o1]
  have hso : ∀ o', (setObj b o').run P w = .ok () { w with heap := w.heap.setIfInBounds b o' } := fun o' => by simp [setObj, Sem.run, o1]
  have hmb : G.mimm b = none := hR.ownm _ _ _ _ hob hb
  split at h <;> try (cases h; done)
  · rename_i j hf
    cases h
    obtain ⟨g1, g2⟩ := findNow_ok hl hk ks es.toList 0 (some j) hf o2
    obtain ⟨en, e1, e2, _, e4⟩ := findNow_key hk ks es.toList 0 j hf o2
    simp only [Nat.sub_zero] at e1
    have e1' : es[j]? = some en := by simpa using e1
    have hstay : (Instr.keyThatStays (((es[j]?).map (·.key)).getD kv) kv).run P w = .ok kv w := by
      rw [e1']
      simp only [Option.map_some, Option.getD_some]
      unfold Instr.keyThatStays
      rw [e4]; rfl
    refine ⟨_, ?_, setObj_rel hR hob hb o1 rfl rfl rfl rfl (by simp) (by simp) hmb (o' := .map (es.modify j fun e => { e with key := kv, val := xv }) c) ?_⟩
    · unfold Instr.mapUpdate Instr.findKey
      simp only [Sem.run_bind, run_underlying hu, Result.andThen_ok, hgo, checkKey_ok hl hku, run_underlying hku, g1, Option.map_some, Sem.run_pure, hstay, hso]
    · intro w' hw'
      refine ⟨es.modify j fun e => { e with key := kv, val := xv }, ⟨by rw [hw']; simp [hc], fun q eq hq => ?_⟩, ?_, ?_⟩
      · rw [Array.getElem?_modify] at hq
        by_cases e : j = q
        · subst e
          simp only [if_true, e1', Option.map_some, Option.some.injEq] at hq
          rw [← hq]; exact ob1 j en e1'
        · simp only [e, if_false] at hq; exact ob1 q eq hq
      · have : (es.modify j fun e => { e with key := kv, val := xv }).toList.map (·.key) = es.toList.map (·.key) := by
          apply List.ext_getElem?
          intro q
          simp only [List.getElem?_map, Array.getElem?_toList, Array.getElem?_modify]
          by_cases hq : j = q
          · subst hq
            simp [e1', e2]
          · simp [hq]
        rw [this]; exact o2
      · have : (es.modify j fun e => { e with key := kv, val := xv }).toList.map (·.val) = (es.toList.map (·.val)).set j xv := by
          apply List.ext_getElem?
          intro q
          simp only [List.getElem?_map, Array.getElem?_toList, Array.getElem?_modify]
          by_cases hq : j = q
          · subst hq
            have hjl : j < es.size := by
              rcases Nat.lt_or_ge j es.size with h' | h'
              · exact h'
              · rw [Array.getElem?_eq_none h'] at e1'; cases e1'
            rw [List.getElem?_set_self (by simpa using hjl)]
            simp [e1']
          · rw [List.getElem?_set_ne hq]
            simp [hq]
        rw [this]; exact o3.set j hx
  · rename_i hf
    split at h <;> try (cases h; done)
    cases h
    obtain ⟨g1, g2⟩ := findNow_ok hl hk ks es.toList 0 none hf o2
    refine ⟨_, ?_, setObj_rel hR hob hb o1 rfl rfl rfl rfl (by simp) (by simp) hmb (o' := .map (es.push { key := kv, val := xv, born := c }) (c + 1)) ?_⟩
    · unfold Instr.mapUpdate Instr.findKey
      simp only [Sem.run_bind, run_underlying hu, Result.andThen_ok, hgo, checkKey_ok hl hku, run_underlying hku, g1, Option.map_none, Sem.run_pure, hso]
    · intro w' hw'
      refine ⟨es.push { key := kv, val := xv, born := c }, ⟨by rw [hw']; simp [hc], fun q eq hq => ?_⟩, ?_, ?_⟩
      · rw [Array.getElem?_push] at hq
        split at hq
        · rename_i e; cases hq; rw [← hc]; exact e.symm
        · exact ob1 q eq hq
      · simp only [Array.toList_push, List.map_append, List.map_cons, List.map_nil]
        exact o2.append (by simp only [Reps]; exact ⟨kv, [], rfl, hk, rfl⟩)
      · simp only [Array.toList_push, List.map_append, List.map_cons, List.map_nil]
        exact o3.append (by simp only [Reps]; exact ⟨xv, [], rfl, hx, rfl⟩)

/-! ### make([]T, n) -/
def mkSlD (bs? : Option (List D × Nat)) (mk? : Option (Nat × Nat)) (σ : List AObj) (l c : D) : Option (D × List AObj) :=
  match bs?, mk?, idxInt l, idxInt c with
  | some (z, sz), some (_, by'), some n, some m =>
    if 0 ≤ n ∧ n ≤ m ∧ m ≤ limit ∧ m.toNat * by' ≤ limit then some (.sl σ.length 0 0 n.toNat sz (decide (n = m)), σ ++ [.cells (repZ z n.toNat) 0 0]) else none
  | _, _, _, _ => none

theorem repZ_add (z : List D) : ∀ a b, repZ z (a + b) = repZ z a ++ repZ z b
  | 0, b => by simp [repZ]
  | a + 1, b => by rw [show a + 1 + b = (a + b) + 1 from by omega, repZ, repZ, repZ_add z a b, List.append_assoc]

theorem Reps.split {G : Gh} : ∀ {ds es : List D} {vs : List Value}, Reps G (ds ++ es) vs → ∃ a b, vs = a ++ b ∧ Reps G ds a ∧ Reps G es b
  | [], _, vs, h => ⟨[], vs, rfl, by simp [Reps], h⟩
  | d :: ds, es, vs, h => by
    simp only [List.cons_append, Reps] at h
    obtain ⟨v, r, rfl, h1, h2⟩ := h
    obtain ⟨a, b, rfl, h3, h4⟩ := Reps.split h2
    exact ⟨v :: a, b, rfl, by simp only [Reps]; exact ⟨v, a, rfl, h1, h3⟩, h4⟩

theorem makeSlice_ok (hR : Rel B G σ w) {t : TypeId} {l c d : D} {σ' : List AObj} {lv cv : Value} {bs? : Option (List D × Nat)} {mk? : Option (Nat × Nat)} (hbs? : ∀ x, bs? = some x → tyBS P t = some x) (hmk? : ∀ x, mk? = some x → tySl P t = some x) (h : mkSlD bs? mk? σ l c = some (d, σ')) (hl : Rep G l lv) (hc : Rep G c cv) :
    ∃ u w' G', (Instr.makeSlice t lv cv).run P w = .ok u w' ∧ G.Le G' ∧ Rel B G' σ' w' ∧ Rep G' d u := by
  unfold mkSlD at h
  split at h <;> try (cases h; done)
  rename_i z sz by1 by' n m hn hm
  have hbs := hbs? _ rfl
  have hsl := hmk? _ rfl
  split at h <;> try (cases h; done)
  rename_i hcd
  obtain ⟨h0, h1, h2, h3⟩ := hcd
  cases h
  obtain ⟨k1, rfl⟩ := idxInt_ok hn hl
  obtain ⟨k2, rfl⟩ := idxInt_ok hm hc
  obtain ⟨e, i, hu, hi, _, hby⟩ := tySl_inv hsl
  unfold tyBS at hbs
  rw [hu] at hbs
  simp only at hbs
  split at hbs <;> try (cases hbs; done)
  rename_i z' i' hz hi'
  rw [hi] at hi'
  cases hi'
  split at hbs <;> try (cases hbs; done)
  rename_i hzc
  obtain ⟨hzl, hpos⟩ := hzc
  cases hbs
  obtain ⟨i'', v, hi'', hv, hcdv⟩ := tyZero_inv hz
  rw [hi] at hi''
  cases hi''
  have hzr := cDs_rep G hcdv
  have hcs := zeros_ok hzr m.toNat
  rw [hzl] at hcs
  have hsplit : repZ z m.toNat = repZ z n.toNat ++ repZ z (m.toNat - n.toNat) := by
    rw [← repZ_add]; congr 1; omega
  rw [hsplit] at hcs
  obtain ⟨hd, tl, hvs, hrd, _⟩ := hcs.split
  obtain ⟨G', g1, g2, g3, g4⟩ := newObj_ok hR hrd tl e ((Array.range (m.toNat * i.size)).map (v.cells[· % v.cells.size]!)) hvs
  have hw1 : IntKind.i64.wrap n = n := IntWalk.i64_in n (by unfold limit at h2; omega)
  have hw2 : IntKind.i64.wrap m = m := IntWalk.i64_in m (by unfold limit at h2; omega)
  refine ⟨.slice (some ⟨w.heap.size, 0, none⟩) n.toNat m.toNat, _, G', ?_, g1, g2, ?_⟩
  · unfold Instr.makeSlice
    have hmm : (m.toNat : Int) = m := Int.toNat_of_nonneg (by omega)
    have hb1 : ¬ ((i.bytes : Int) * m > 2 ^ 48) := by
      have : ((m.toNat * i.bytes : Nat) : Int) ≤ (limit : Int) := by
        rw [← hby] at h3
        exact Int.ofNat_le.2 h3
      rw [Int.natCast_mul, hmm, Int.mul_comm] at this
      unfold limit at this
      omega
    simp only [run_underlying hu, Sem.run_bind, asInt, asIntOf, Sem.run_pure, Result.andThen_ok, typeInfo, run_program, hi, hw1, hw2]
    have c1 : ((decide (m < 0) || decide ((i.bytes : Int) * m > 2 ^ 48)) || decide (n < 0) || decide (n > m)) = false := by
      simp only [Bool.or_eq_false_iff, decide_eq_false_iff_not]
      refine ⟨⟨⟨by omega, hb1⟩, by omega⟩, by omega⟩
    rw [if_neg (by rw [c1]; simp)]
    simp only [run_askRoom, Result.andThen_ok, sizeOf, typeInfo, Sem.run_bind, run_program, hi, Sem.run_pure]
    by_cases hz0 : m.toNat * i.size = 0
    · have hm0 : m.toNat = 0 := by
        rcases Nat.mul_eq_zero.1 hz0 with h | h <;> omega
      have e0 : ∀ f : Nat → Value, Array.map f (Array.range 0) = #[] := by intro f; simp
      simp only [hz0, if_true, Sem.run_pure, Result.andThen_ok, e0, newRow, Sem.run_bind, run_newObj]
      rfl
    · simp only [hz0, if_false, Sem.run_bind, zeroValue, typeInfo, run_program, Result.andThen_ok, hi, Sem.run_pure, hv, newRow, run_newObj]
      rfl
  · simp only [Rep]
    refine ⟨w.heap.size, m.toNat, _, g3, rfl, by omega, by unfold limit at h2; omega, ?_, g4, ?_⟩
    · intro hf
      simp only [decide_eq_true_eq] at hf
      omega
    · simp

/-! ### ranging over a string -/
theorem rangeStr_ok (hR : Rel B G σ w) {t : TypeId} (ht : P.underlying t = some .string) (s : List UInt8) :
    ∃ u w' G', (Instr.range t (.string ⟨s.toArray⟩)).run P w = .ok u w' ∧ G.Le G' ∧ Rel B G' (σ ++ [.siter s 0]) w' ∧ Rep G' (.ptr σ.length 0 0) u := by
  obtain ⟨h1, h2⟩ := hR.bindOther (.stringIter ⟨s.toArray⟩ 0) (.siter s 0) (by simp) (fun G' _ w' hw' => hw')
  refine ⟨.pointer (some ⟨w.heap.size, 0, none⟩), _, _, ?_, h1, h2, by simp only [Rep]; exact ⟨_, by simp [Gh.bind0], rfl⟩⟩
  unfold Instr.range
  simp [run_underlying ht]

def nextStrD (σ : List AObj) (it : D) : Option (D × List AObj) :=
  match it with
  | .ptr l 0 0 => match σ[l]? with
    | some (.siter s pos) =>
      if pos < s.length then
        some (.tuple [.bool true, .int .i64 pos, .int .i32 (Utf8.decode ⟨s.toArray⟩ pos).1], σ.set l (.siter s (pos + (Utf8.decode ⟨s.toArray⟩ pos).2)))
      else some (.tuple [.bool false], σ)
    | _ => none
  | _ => none

theorem nextStr_ok (hR : Rel B G σ w) {it d : D} {σ' : List AObj} {v : Value} (ty : TypeId) (h : nextStrD σ it = some (d, σ')) (hv : Rep G it v) :
    ∃ u w', (Instr.next v true ty).run P w = .ok u w' ∧ Rel B G σ' w' ∧ Rep G d u := by
  unfold nextStrD at h
  split at h <;> try (cases h; done)
  rename_i l
  split at h <;> try (cases h; done)
  rename_i s pos hob
  simp only [Rep] at hv
  obtain ⟨b, hb, rfl⟩ := hv
  have o1 : w.heap[b]? = some (.stringIter ⟨s.toArray⟩ pos) := hR.obj _ _ b hob hb
  have hgo : (getObj b).run P w = .ok (.stringIter ⟨s.toArray⟩ pos) w := by simp [getObj, Sem.run, o1]
  have hmb : G.mimm b = none := by
    cases hm : G.mimm b with
    | none => rfl
    | some es =>
      obtain ⟨hc, _⟩ := hR.mimm _ _ hm
      rw [o1] at hc; cases hc
  split at h
  · rename_i hlt
    cases h
    refine ⟨.tuple #[.bool true, goInt pos, .int .i32 (Utf8.decode ⟨s.toArray⟩ pos).1], _, ?_, setObj_rel hR hob hb o1 rfl rfl rfl rfl (by simp) (by simp) hmb (o' := .stringIter ⟨s.toArray⟩ (pos + (Utf8.decode ⟨s.toArray⟩ pos).2)) (fun w' hw' => hw'), ?_⟩
    · unfold Instr.next
      simp only [Sem.run_bind, hgo, Result.andThen_ok, bytes_size, hlt, if_true]
      have : (setObj b (.stringIter ⟨s.toArray⟩ (pos + (Utf8.decode ⟨s.toArray⟩ pos).2))).run P w = .ok () { w with heap := w.heap.setIfInBounds b (.stringIter ⟨s.toArray⟩ (pos + (Utf8.decode ⟨s.toArray⟩ pos).2)) } := by simp [setObj, Sem.run, o1]
      simp only [this, Result.andThen_ok, Sem.run_pure]
    · simp only [Rep, Reps]
      exact ⟨_, rfl, _, _, rfl, rfl, _, _, rfl, rfl, _, _, rfl, rfl, rfl⟩
  · rename_i hlt
    cases h
    refine ⟨.tuple #[.bool false], w, ?_, hR, by simp only [Rep, Reps]; exact ⟨_, rfl, _, _, rfl, rfl, rfl⟩⟩
    unfold Instr.next
    simp only [Sem.run_bind, hgo, Result.andThen_ok, bytes_size, hlt, if_false, Sem.run_pure]
end
end Go.Fw
