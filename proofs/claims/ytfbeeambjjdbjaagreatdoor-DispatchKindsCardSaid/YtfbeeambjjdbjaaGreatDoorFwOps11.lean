import Derived.Test.YtfbeeambjjdbjaaGreatDoorFwOps10
namespace Go.Fw
open Go.RowKit

section
variable {P : Program} {B : Base} {G : Gh} {σ σ' : List AObj} {w : World}

/-! ### going over a map that no longer changes -/
theorem rangeMap_ok (hR : Rel B G σ w) {t k e : TypeId} (ht : P.underlying t = some (.map k e)) {ks vs : List D} {v : Value} (hv : Rep G (.cmap ks vs) v) :
    ∃ u w' G', (Instr.range t v).run P w = .ok u w' ∧ G.Le G' ∧ Rel B G' (σ ++ [.miter ks vs (List.range ks.length) none]) w' ∧ Rep G' (.ptr σ.length 0 0) u := by
  simp only [Rep] at hv
  obtain ⟨b, es, rfl, hm, h1, h2⟩ := hv
  obtain ⟨hb, _⟩ := hR.mimm _ _ hm
  have hlen : ks.length = es.size := by have := h1.length; simpa using this
  obtain ⟨g1, g2⟩ := hR.bindOther (.mapIter (some b) es.size #[] es.size) (.miter ks vs (List.range ks.length) none) (by simp)
    (fun G' hle w' hw' => ⟨b, es, #[], hw', hle.mimm _ _ hm, Reps.mono hle _ _ h1, Reps.mono hle _ _ h2, by simp [hlen], by simp⟩)
  refine ⟨.pointer (some ⟨w.heap.size, 0, none⟩), _, _, ?_, g1, g2, by simp only [Rep]; exact ⟨_, by simp [Gh.bind0], rfl⟩⟩
  have hgo : (getObj b).run P w = .ok (.map es es.size) w := by simp [getObj, Sem.run, hb]
  unfold Instr.range
  simp [run_underlying ht, hgo]

theorem choose_lt (n : Nat) (hn : 0 < n) : ∃ k w', (choose (.mapNext n)).run P w = .ok k w' ∧ k < n ∧ (w' = w ∨ w' = w.drew) := by
  have h : (choose (.mapNext n)).run P w = if (Question.mapNext n).forced then .ok 0 w else .ok ((Question.mapNext n).cut (w.tape w.drawn (.mapNext n))) { w with drawn := w.drawn + 1 } := rfl
  by_cases hf : (Question.mapNext n).forced = true
  · exact ⟨0, w, by rw [h, if_pos hf], hn, .inl rfl⟩
  · exact ⟨(w.tape w.drawn (.mapNext n)) % n, w.drew, by rw [h, if_neg hf]; rfl, Nat.mod_lt _ hn, .inr rfl⟩

theorem nextMap_ok (hR : Rel B G σ w) {l : Nat} {ks vs : List D} {rem : List Nat} {cur : Option Nat} {v : Value} (ty : TypeId) (hl : σ[l]? = some (.miter ks vs rem cur)) (hv : Rep G (.ptr l 0 0) v) :
    ∃ u w', (Instr.next v false ty).run P w = .ok u w' ∧
      ((rem = [] ∧ Rel B G σ w' ∧ Rep G (.tuple [.bool false]) u) ∨
       (∃ i a b, i ∈ rem ∧ ks[i]? = some a ∧ vs[i]? = some b ∧ Rel B G (σ.set l (.miter ks vs (rem.filter (· != i)) (some i))) w' ∧ Rep G (.tuple [.bool true, a, b]) u)) := by
  simp only [Rep] at hv
  obtain ⟨b, hb, rfl⟩ := hv
  obtain ⟨m, es, seen, o1, o2, o3, o4, o5, o6⟩ := hR.obj _ _ b hl hb
  obtain ⟨hm, hborn⟩ := hR.mimm _ _ o2
  have hgo : (getObj b).run P w = .ok (.mapIter (some m) es.size seen es.size) w := by simp [getObj, Sem.run, o1]
  have hgm : (getObj m).run P w = .ok (.map es es.size) w := by simp [getObj, Sem.run, hm]
  have hguard : (!seen.isEmpty && !es.isEmpty && es.all (·.born ≥ es.size)) = false := by
    by_cases he : es.isEmpty = true
    · simp [he]
    · have hpos : 0 < es.size := by
        rcases Nat.eq_zero_or_pos es.size with h | h
        · exact absurd (by simp [Array.isEmpty, h]) he
        · exact h
      have : es.all (·.born ≥ es.size) = false := by
        rw [Array.all_eq_false]
        refine ⟨0, hpos, ?_⟩
        have := hborn 0 es[0] (Array.getElem?_eq_getElem hpos)
        rw [decide_eq_true_eq, this]; omega
      simp [this]
  have hold : ∀ (l : Array MapEntry), (∀ e ∈ l, e ∈ es) → l.filter (·.born < es.size) = l ∧ l.filter (·.born ≥ es.size) = #[] := by
    intro l hle
    have hlt : ∀ e ∈ l, e.born < es.size := by
      intro e he
      obtain ⟨i, hi, rfl⟩ := Array.getElem_of_mem (hle e he)
      rw [hborn i _ (Array.getElem?_eq_getElem hi)]; exact hi
    constructor
    · rw [Array.filter_eq_self]; intro e he; simpa using hlt e he
    · rw [Array.filter_eq_empty_iff]; intro e he; simpa using hlt e he
  generalize hleft : (es.filter fun e => !seen.contains e.born) = left
  have hsub : ∀ e ∈ left, e ∈ es ∧ seen.contains e.born = false := by
    intro e he
    rw [← hleft, Array.mem_filter] at he
    exact ⟨he.1, by simpa using he.2⟩
  obtain ⟨hl1, hl2⟩ := hold left fun e he => (hsub e he).1
  have hcand : 0 < ((if left.isEmpty then #[none] else #[]) ++ (left ++ #[]).map some : Array (Option MapEntry)).size := by
    by_cases he : left.isEmpty = true
    · simp [he]; omega
    · have : 0 < left.size := by
        rcases Nat.eq_zero_or_pos left.size with h | h
        · exact absurd (by simp [Array.isEmpty, h]) he
        · exact h
      simp [he]; exact this
  obtain ⟨k, w1, hk, hklt, hw1⟩ := choose_lt (P := P) (w := w) _ hcand
  have hR1 : Rel B G σ w1 := by rcases hw1 with rfl | rfl; exact hR; exact hR.drew
  have hheap : w1.heap = w.heap := by rcases hw1 with rfl | rfl <;> rfl
  have o1' : w1.heap[b]? = some (.mapIter (some m) es.size seen es.size) := by rw [hheap]; exact o1
  have hmb : G.mimm b = none := by
    cases hx : G.mimm b with
    | none => rfl
    | some es' =>
      obtain ⟨hc, _⟩ := hR.mimm _ _ hx
      rw [o1] at hc; cases hc
  obtain ⟨c, hc⟩ : ∃ c, ((if left.isEmpty then #[none] else #[]) ++ (left ++ #[]).map some : Array (Option MapEntry))[k]? = some c := ⟨_, Array.getElem?_eq_getElem hklt⟩
  cases c with
  | none =>
    refine ⟨.tuple #[.bool false], w1, ?_, .inl ⟨?_, hR1, by simp only [Rep, Reps]; exact ⟨_, rfl, _, _, rfl, rfl, rfl⟩⟩⟩
    · unfold Instr.next
      simp only [Sem.run_bind, hgo, Result.andThen_ok, hgm, hguard, Bool.false_eq_true, if_false, hleft, hl1, hl2, hk, hc, Sem.run_pure]
    · have hemp : left = #[] := by
        by_cases he : left.isEmpty = true
        · simpa using he
        · rw [if_neg he] at hc
          simp at hc
      rw [List.eq_nil_iff_forall_not_mem]
      intro i hi
      obtain ⟨h1, h2⟩ := (o5 i).1 hi
      have : es[i] ∈ left := by
        rw [← hleft, Array.mem_filter]
        exact ⟨Array.getElem_mem _, by rw [hborn i _ (Array.getElem?_eq_getElem h1)]; simpa using h2⟩
      rw [hemp] at this; simp at this
  | some e =>
    have hel : e ∈ left := by
      have := Array.mem_of_getElem? hc
      simp only [Array.mem_append, Array.mem_map, Option.some.injEq, exists_eq_right] at this
      rcases this with h | h
      · split at h <;> simp at h
      · simpa using h
    obtain ⟨hes, hsn⟩ := hsub e hel
    obtain ⟨i, hi, rfl⟩ := Array.getElem_of_mem hes
    have hbi := hborn i _ (Array.getElem?_eq_getElem hi)
    rw [hbi] at hsn
    have hki : i < ks.length := by have := o3.length; simp at this; omega
    have hvi : i < vs.length := by have := o4.length; simp at this; omega
    obtain ⟨kv, hkv, hkr⟩ := o3.get i (List.getElem?_eq_getElem hki)
    obtain ⟨vv, hvv, hvr⟩ := o4.get i (List.getElem?_eq_getElem hvi)
    simp [hi] at hkv hvv
    subst hkv hvv
    refine ⟨.tuple #[.bool true, es[i].key, es[i].val], _, ?_, .inr ⟨i, ks[i], vs[i], (o5 i).2 ⟨hi, hsn⟩, List.getElem?_eq_getElem hki, List.getElem?_eq_getElem hvi,
      setObj_rel hR1 hl hb o1' rfl rfl rfl rfl (by simp) (by simp) hmb (o' := .mapIter (some m) es.size (seen.push i) es.size) (fun w' hw' => ⟨m, es, seen.push i, hw', o2, o3, o4, fun j => ?_, fun j hj => ?_⟩),
      by simp only [Rep, Reps]; exact ⟨_, rfl, _, _, rfl, rfl, _, _, rfl, hkr, _, _, rfl, hvr, rfl⟩⟩⟩
    · unfold Instr.next
      have hso : (setObj b (.mapIter (some m) es.size (seen.push es[i].born) es.size)).run P w1 = .ok () { w1 with heap := w1.heap.setIfInBounds b (.mapIter (some m) es.size (seen.push i) es.size) } := by
        rw [hbi]; simp [setObj, Sem.run, o1']
      simp only [Sem.run_bind, hgo, Result.andThen_ok, hgm, hguard, Bool.false_eq_true, if_false, hleft, hl1, hl2, hk, hc, hso, Sem.run_pure]
    · simp only [List.mem_filter, o5 j, bne_iff_ne, ne_eq]
      constructor
      · rintro ⟨⟨h1, h2⟩, h3⟩
        refine ⟨h1, ?_⟩
        simp at h2 ⊢
        exact ⟨h2, h3⟩
      · rintro ⟨h1, h2⟩
        simp at h2 ⊢
        exact ⟨⟨h1, h2.1⟩, h2.2⟩
    · cases hj; simp

def entryD (σ : List AObj) (it : D) : Option D :=
  match it with
  | .ptr l 0 0 => match σ[l]? with
    | some (.miter ks vs _ (some i)) => match ks[i]?, vs[i]? with
      | some a, some b => some (.tuple [a, b])
      | _, _ => none
    | _ => none
  | _ => none

theorem entryMap_ok (hR : Rel B G σ w) {it d : D} {v : Value} (h : entryD σ it = some d) (hv : Rep G it v) : ∃ u, (Instr.entry v).run P w = .ok u w ∧ Rep G d u := by
  unfold entryD at h
  split at h <;> try (cases h; done)
  rename_i l
  split at h <;> try (cases h; done)
  rename_i ks vs rem i hl
  split at h <;> try (cases h; done)
  rename_i a c ha hc
  cases h
  simp only [Rep] at hv
  obtain ⟨b, hb, rfl⟩ := hv
  obtain ⟨m, es, seen, o1, o2, o3, o4, o5, o6⟩ := hR.obj _ _ b hl hb
  obtain ⟨hm, hborn⟩ := hR.mimm _ _ o2
  have hgo : (getObj b).run P w = .ok (.mapIter (some m) es.size seen es.size) w := by simp [getObj, Sem.run, o1]
  have hgm : (getObj m).run P w = .ok (.map es es.size) w := by simp [getObj, Sem.run, hm]
  obtain ⟨kv, hkv, hkr⟩ := o3.get i ha
  obtain ⟨vv, hvv, hvr⟩ := o4.get i hc
  have hi : i < es.size := by
    rcases Nat.lt_or_ge i es.size with h' | h'
    · exact h'
    · rw [List.getElem?_eq_none (by simpa using h')] at hkv; cases hkv
  simp [hi] at hkv hvv
  subst hkv hvv
  have hfind : es.find? (·.born == i) = some es[i] := by
    rw [Array.find?_eq_some_iff_getElem]
    refine ⟨by simp [hborn i _ (Array.getElem?_eq_getElem hi)], i, hi, rfl, fun j hj => ?_⟩
    have := hborn j es[j] (Array.getElem?_eq_getElem (by omega))
    simp [this]; omega
  refine ⟨.tuple #[es[i].key, es[i].val], ?_, by simp only [Rep, Reps]; exact ⟨_, rfl, _, _, rfl, hkr, _, _, rfl, hvr, rfl⟩⟩
  unfold Instr.entry
  simp only [Sem.run_bind, hgo, Result.andThen_ok, o6 i rfl, hgm, bne_self_eq_false, Bool.false_eq_true, if_false, hfind, Sem.run_pure]
end
end Go.Fw
