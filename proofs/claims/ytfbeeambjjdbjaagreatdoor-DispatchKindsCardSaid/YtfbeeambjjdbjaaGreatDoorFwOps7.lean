import Derived.Test.YtfbeeambjjdbjaaGreatDoorFwOps6
namespace Go.Fw
open Go.RowKit

section
variable {P : Program} {B : Base} {G : Gh} {σ : List AObj} {w : World}

/-! ### append -/

/-- the cells and the number of elements of what is appended. -/
def srcD (σ : List AObj) (sz : Nat) : D → Option (List D × Nat)
  | .list cs n _ => if cs.length = n * sz then some (cs, n) else none
  | .sl l u o n sz' _ => match σ[l]? with
    | some (.cells cs _ u') => if u' = u ∧ sz' = sz ∧ o + n * sz ≤ cs.length then some ((cs.drop o).take (n * sz), n) else none
    | _ => none
  | .str s => if sz = 1 then some (s.map fun b => .int .u8 b.toNat, s.length) else none
  | _ => none

theorem Rel.cells_of (hR : Rel B G σ w) {l u b o k : Nat} {cs : List D} {frz : Nat} (hl : σ[l]? = some (.cells cs frz u)) (hb : G.blk l u = some b) (hk : o + k ≤ cs.length) :
    ∃ vs : List Value, vs.length = k ∧ Reps G ((cs.drop o).take k) vs ∧ ∀ j v, vs[j]? = some v → w.cell? ⟨b, o + j, none⟩ = some v := by
  have hrd : readAt σ (.ptr l u o) k = some ((cs.drop o).take k) := by simp [readAt, hl, hk]
  obtain ⟨b', o', vs, e, h1, h2, h3, h4⟩ := readAt_ok hR hrd (show Rep G (.ptr l u o) (.pointer (some ⟨b, o, none⟩)) by simp only [Rep]; exact ⟨b, hb, rfl⟩)
  cases e
  exact ⟨vs, h1, h3, h4⟩

theorem src_ok (hR : Rel B G σ w) {tx : TypeId} {i : TypeInfo} {x : D} {v : Value} {new : List D} {m : Nat} (h : srcD σ i.size x = some (new, m)) (hv : Rep G x v) (hall : new.all D.isCell = true)
    (hk : (∃ e', P.underlying tx = some (.slice e')) ∨ P.underlying tx = some .string) : ∃ news, Src P i.size tx v m news w ∧ Reps G new news := by
  cases x <;> simp only [srcD] at h <;> try (cases h; done)
  · rename_i s
    split at h <;> try (cases h; done)
    rename_i hsz
    cases h
    simp only [Rep] at hv
    subst hv
    refine ⟨s.map fun b => .int .u8 b.toNat, ?_, ?_⟩
    · have hx : ∀ w' : World, (Builtin.firstCells i.size s.length (.string ⟨s.toArray⟩)).run P w' = .ok (s.map fun b => Value.int .u8 b.toNat).toArray w' := by
        intro w'
        simp only [Builtin.firstCells, Sem.run_pure]
        congr 1
        rw [bytes_extract]
        simp
      exact ⟨hk, fun w' => by simp [Builtin.lenOf, bytes_size], hx w, hx _, by simp [hsz], by simp [Value.oneCell']⟩
    · clear hall
      induction s with
      | nil => simp [Reps]
      | cons a s ih => simp only [List.map_cons, Reps]; exact ⟨_, _, rfl, by simp [Rep], ih⟩
  · rename_i cs n full
    split at h <;> try (cases h; done)
    rename_i hlen
    cases h
    simp only [Rep] at hv
    obtain ⟨a, cap, rfl, h1, h2, h3, h4⟩ := hv
    have key : ∃ news, Reps G new news ∧ ∀ w' : World, (∀ b o u, G.imm b o = some u → w'.cell? ⟨b, o, none⟩ = some u) → (Builtin.firstCells i.size m (.slice a m cap)).run P w' = .ok news.toArray w' := by
      rcases h4 with ⟨b, o, rfl, hc⟩ | rfl
      · obtain ⟨vs, hr, hi'⟩ := hc.reps
        refine ⟨vs, hr, fun w' hw' => ?_⟩
        have hl := hr.length
        have := run_loadCells_list (P := P) w' ⟨b, o, none⟩ vs (fun j u hj => by rw [addr_add]; exact hw' _ _ _ (hi' j u hj))
        rw [← hl, hlen] at this
        exact this
      · refine ⟨[], by simp [Reps], fun w' _ => ?_⟩
        have hz : m * i.size = 0 := by simpa using hlen.symm
        cases a with
        | none => simp [Builtin.firstCells]
        | some a => simp only [Builtin.firstCells, hz]; rfl
    obtain ⟨news, hr, hrun⟩ := key
    exact ⟨news, ⟨hk, fun w' => by simp [Builtin.lenOf], hrun w hR.imm, hrun _ hR.drew.imm, by rw [← hr.length, hlen], hr.oneCell hall⟩, hr⟩
  · rename_i l u o n sz' full
    split at h <;> try (cases h; done)
    rename_i cs frz u' hl
    split at h <;> try (cases h; done)
    rename_i hc
    obtain ⟨rfl, rfl, hlen⟩ := hc
    cases h
    simp only [Rep] at hv
    obtain ⟨b, cap, tot, hb, rfl, h1, h2, h3, h4, h5⟩ := hv
    obtain ⟨vs, hvl, hr, hcell⟩ := hR.cells_of hl hb hlen
    have hrun : ∀ w' : World, (∀ j v, vs[j]? = some v → w'.cell? ⟨b, o + j, none⟩ = some v) → (Builtin.firstCells i.size m (.slice (some ⟨b, o, none⟩) m cap)).run P w' = .ok vs.toArray w' := by
      intro w' hw'
      have := run_loadCells_list (P := P) w' ⟨b, o, none⟩ vs (fun j u hj => by rw [addr_add]; exact hw' j u hj)
      rw [hvl] at this
      exact this
    exact ⟨vs, ⟨hk, fun w' => by simp [Builtin.lenOf], hrun w hcell, hrun _ hcell, by rw [hvl], hr.oneCell hall⟩, hr⟩

def limit : Nat := 1099511627776

def isSeq : Option TypeDesc → Bool
  | some (.slice _) => true
  | some .string => true
  | _ => false

theorem isSeq_inv {d : Option TypeDesc} (h : isSeq d = true) : (∃ e', d = some (.slice e')) ∨ d = some .string := by
  unfold isSeq at h
  split at h
  · exact .inl ⟨_, rfl⟩
  · exact .inr rfl
  · cases h

/-- sz, bytes of an element: of what append asks of its types. -/
def tyApp (P : Program) (t tx : TypeId) : Option (Nat × Nat) :=
  match P.underlying t with
  | some (.slice e) => match P.info? e, tyZero P e with
    | some i, some z => if z.length = i.size ∧ 0 < i.size ∧ isSeq (P.underlying tx) = true then some (i.size, i.bytes) else none
    | _, _ => none
  | _ => none

def appD (σ : List AObj) (sz by' : Nat) (s x : D) : Option (D × List AObj) :=
  match srcD σ sz x with
  | none => none
  | some (new, m) =>
    if new.all D.isCell = true then
      match s with
      | .list cs n full =>
        if cs.length = n * sz then
          (if m = 0 then some (.list cs n full, σ)
          else if full = true ∧ (n + m) * by' ≤ limit ∧ n + m ≤ limit then some (.sl σ.length 0 0 (n + m) sz false, σ ++ [.cells (cs ++ new) 0 0]) else none)
        else none
      | .sl l u o n sz' full =>
        match σ[l]? with
        | some (.cells cs frz u') =>
          if u' = u ∧ sz' = sz ∧ o + n * sz ≤ cs.length then
            (if m = 0 then some (.sl l u o n sz' full, σ)
            else if (n + m) * by' ≤ limit ∧ n + m ≤ limit then
              (if full = true then some (.sl σ.length 0 0 (n + m) sz false, σ ++ [.cells ((cs.drop o).take (n * sz) ++ new) 0 0])
              else if o = 0 ∧ n * sz = cs.length then some (.sl l (cs ++ new).length 0 (n + m) sz false, σ.set l (.cells (cs ++ new) frz (cs ++ new).length))
              else none)
            else none)
          else none
        | _ => none
      | _ => none
    else none

theorem tyApp_inv {t tx : TypeId} {sz by' : Nat} (h : tyApp P t tx = some (sz, by')) : ∃ e i zv z, P.underlying t = some (.slice e) ∧ P.info? e = some i ∧ i.size = sz ∧ i.bytes = by' ∧ 0 < sz ∧
    i.zero = some zv ∧ cDs zv.cells.toList = some z ∧ z.length = sz ∧ ((∃ e', P.underlying tx = some (.slice e')) ∨ P.underlying tx = some .string) := by
  unfold tyApp at h
  split at h <;> try (cases h; done)
  rename_i e hu
  split at h <;> try (cases h; done)
  rename_i i z hi hz
  split at h <;> try (cases h; done)
  rename_i hc
  obtain ⟨h1, h2, h3⟩ := hc
  cases h
  obtain ⟨i', zv, hi', hzv, hcd⟩ := tyZero_inv hz
  rw [hi] at hi'; cases hi'
  exact ⟨e, i, zv, z, hu, hi, rfl, rfl, h2, hzv, hcd, h1, isSeq_inv h3⟩

theorem growBy_le (newLen : Nat) : ∀ (r c : Nat), Builtin.growBy newLen r c ≤ max c (newLen + (newLen + 768) / 4)
  | 0, c => by simp only [Builtin.growBy]; omega
  | r + 1, c => by
    simp only [Builtin.growBy]
    split
    · omega
    · have := growBy_le newLen r (c + (c + 768) / 4)
      omega

theorem nextcap_le {need old : Nat} (h : old < need) : Builtin.nextslicecap need old ≤ 2 * need + 192 := by
  unfold Builtin.nextslicecap
  split
  · omega
  · split
    · omega
    · have := growBy_le need 4 old
      omega

theorem nextcap_fit {need old by' : Nat} (h : old < need) (h1 : need * by' ≤ limit) : Builtin.nextslicecap need old * by' ≤ 281474976710656 := by
  have h3 := nextcap_le h
  have h4 : by' ≤ limit := Nat.le_trans (Nat.le_mul_of_pos_left by' (show 0 < need by omega)) h1
  have h5 : Builtin.nextslicecap need old * by' ≤ (2 * need + 192) * by' := Nat.mul_le_mul_right _ h3
  have h6 : (2 * need + 192) * by' = 2 * (need * by') + 192 * by' := by rw [Nat.add_mul, Nat.mul_assoc]
  unfold limit at h1 h4
  omega

/-- append into new memory. -/
theorem grow_ok (hR : Rel B G σ w) {t tx ty e : TypeId} {i : TypeInfo} {zv : Value} {z : List D} (hu : P.underlying t = some (.slice e)) (hi : P.info? e = some i) (hz : i.zero = some zv) (hcd : cDs zv.cells.toList = some z) (hzl : z.length = i.size)
    {σ' : List AObj} {l ver frz : Nat} {cs new : List D} {olds news : List Value} {base : Option Addr} {n cap m : Nat} {v : Value} (hsrc : Src P i.size tx v m news w) (hnew : Reps G new news) (hold : Reps G cs olds) (hcs : cs.length = n * i.size)
    (hfirst : (Builtin.firstCells i.size n (.slice base n cap)).run P w.drew = .ok olds.toArray w.drew) (hcap : cap < n + m) (hb1 : (n + m) * i.bytes ≤ limit) (hb2 : n + m ≤ limit)
    (hlen : σ.length ≤ σ'.length) (ho : ∀ l', l' ≠ l → σ'[l']? = σ[l']?) (hl : σ'[l]? = some (.cells (cs ++ new) frz ver)) (hf : G.blk l ver = none) (hvr : ver ≤ (cs ++ new).length ∧ ∀ u' b, G.blk l u' = some b → u' ≤ ver) (hfz : frz ≤ (cs ++ new).length) :
    ∃ u w' G', (Builtin.append_ #[t, tx] ty #[.slice base n cap, v]).run P w = .ok u w' ∧ G.Le G' ∧ Rel B G' σ' w' ∧ Rep G' (.sl l ver 0 (n + m) i.size false) u := by
  have hnl : new.length = m * i.size := by rw [hnew.length, hsrc.newsLen]
  have hrun := run_append_grow_src (P := P) w t tx ty e i zv hu hi hz base n cap olds hfirst v m news hsrc hcap (by unfold limit at hb2; omega) (nextcap_fit hcap hb1)
  have hge := grownCap_ge w (n + m) cap e
  have hle := grownCap_le_maxLen w (n + m) cap e (by unfold maxLen; unfold limit at hb2; omega)
  generalize hcp : grownCap w (n + m) cap e = gc at hrun hge hle
  obtain ⟨h1, h2⟩ := hR.drew.bindCells (l := l) (u := ver) (frz := frz) (cs := cs ++ new) (σ' := σ') (hd := olds ++ news) (tl := (Builtin.zeroCells zv.cells (gc - (n + m))).toList)
    (c := (olds ++ news).toArray ++ Builtin.zeroCells zv.cells (gc - (n + m))) e hlen ho hl hf hvr hfz (by simp) (hold.append hnew)
  refine ⟨_, _, _, hrun, h1, h2, ?_⟩
  simp only [Rep]
  have hol := hold.length
  have hnl' := hnew.length
  have hzs : zv.cells.size = i.size := by rw [← hzl, (cDs_rep G hcd).length]; simp
  refine ⟨w.heap.size, gc, _, by simp [Gh.bind], rfl, hge, by unfold maxLen at hle; exact hle, by simp, by simp [Gh.bind]; rfl, ?_⟩
  simp only [Array.size_append, size_zeroCells, hzs, Nat.zero_add, List.size_toArray, List.length_append]
  have e1 : olds.length + news.length = (n + m) * i.size := by rw [Nat.add_mul]; omega
  rw [e1, ← Nat.add_mul]
  exact Nat.mul_le_mul_right _ (by omega)

theorem setRow_ok (hR : Rel B G σ w) {l u b frz : Nat} {cs new : List D} {news : List Value} (hl : σ[l]? = some (.cells cs frz u)) (hb : G.blk l u = some b) (hn : new ≠ []) (hr : Reps G new news) {tot : Nat} (hs : G.siz b = some tot) (hfit : cs.length + new.length ≤ tot) (hall : new.all D.isCell = true) :
    ∃ w' G', (storeCells ((⟨b, 0, none⟩ : Addr).add cs.length) news).run P w = .ok () w' ∧ G.Le G' ∧ Rel B G' (σ.set l (.cells (cs ++ new) frz (cs ++ new).length)) w' ∧ G'.blk l (cs ++ new).length = some b ∧ G'.siz b = some tot := by
  obtain ⟨vs, et, o1, o2, tl, hd, o3, o4⟩ := hR.obj _ _ b hl hb
  have hl4 := o4.length
  have hrl := hr.length
  have hsz : vs.size = hd.length + tl.length := by simpa using congrArg List.length o3
  rw [hs] at o2
  simp only [Option.some.injEq] at o2
  have hbB := (hR.blk _ _ _ hb).2.1
  have hv := hR.ver _ _ hl
  have hnpos : 0 < new.length := List.length_pos_iff.2 hn
  have hrun := run_storeCells_at (P := P) b cs.length et news 0 vs w o1 (by omega) (hr.oneCell hall)
  simp only [Nat.add_zero] at hrun
  generalize hnew : (vs.toList.take cs.length ++ news ++ vs.toList.drop (cs.length + news.length)).toArray = nv at hrun
  have hnl : nv.toList = hd ++ news ++ tl.drop news.length := by
    rw [← hnew, o3, hl4]
    simp [List.drop_append]
  have hns : nv.size = vs.size := by
    have := congrArg List.length hnl
    simp at this
    omega
  have hfresh : G.blk l (cs ++ new).length = none := by
    cases hx : G.blk l (cs ++ new).length with
    | none => rfl
    | some b' =>
      have h1 := hv.2 _ _ hx
      have h2 := hv.1
      simp only [AObj.ver, AObj.len, List.length_append] at h1 h2
      omega
  let G' : Gh := { G with blk := fun l' u' => if l' = l ∧ u' = (cs ++ new).length then some b else G.blk l' u' }
  have hle : G.Le G' := by
    refine ⟨fun _ _ _ x => x, fun _ _ x => x, fun l' u' b' hb' => ?_, fun _ _ x => x⟩
    by_cases e : l' = l ∧ u' = (cs ++ new).length
    · obtain ⟨rfl, rfl⟩ := e; rw [hfresh] at hb'; cases hb'
    · simp only [G', e, if_false]; exact hb'
  refine ⟨w.setRow b nv, G', by rw [addr_add, Nat.zero_add]; exact hrun, hle, ?_, by simp [G'], hs⟩
  refine hR.update hl hb hle ?_ (by simp [G', AObj.ver]) ?_ rfl rfl (below_setRow hR.below hbB nv) (by simp) (fun k hk => setRow_other w b k nv hk) ?_ ?_ ?_ ?_ ?_ (by have := hR.frzle _ _ hl; simp only [AObj.frz, AObj.len, List.length_append] at this ⊢; omega)
  · intro l' u' b' hx
    by_cases e : l' = l ∧ u' = (cs ++ new).length
    · simp only [G', e, and_self, if_true, Option.some.injEq] at hx
      exact .inr ⟨e.1, e.2, hx.symm⟩
    · simp only [G', e, if_false] at hx; exact .inl hx
  · intro b' o' x hi
    have hi' : G.imm b' o' = some x := hi
    refine ⟨?_, fun _ => hi'⟩
    by_cases e : b' = b
    · subst e
      have hcl := hR.imm _ _ _ hi'
      have hlt : o' < hd.length := by
        have h1 := hR.own l _ _ _ _ hl hb o' x hi'
        have h2 := hR.frzle _ _ hl
        simp only [AObj.frz, AObj.len] at h2
        omega
      rw [cell_setRow_same w b' o' vs nv et (0, 0) o1]
      unfold World.cell? at hcl
      rw [o1] at hcl
      have hcl' : vs[o']? = some x := hcl
      have e1 : nv[o']? = nv.toList[o']? := by simp
      have e2 : vs[o']? = vs.toList[o']? := by simp
      rw [e2, o3, List.getElem?_append_left hlt] at hcl'
      rw [e1, hnl, List.append_assoc, List.getElem?_append_left hlt]
      exact hcl'
    · rw [cell_setRow_other w b nv _ e]; exact hR.imm _ _ _ hi'
  · intro k hk
    rw [hs] at hk
    exact ⟨nv, et, (0, 0), setRow_heap w b vs nv et (0, 0) o1, by cases hk; rw [hns]; exact o2.symm⟩
  · cases hm : G.mimm b with
    | none => rfl
    | some es =>
      obtain ⟨hc, _⟩ := hR.mimm _ _ hm
      rw [o1] at hc; cases hc
  · refine ⟨nv, et, setRow_heap w b vs nv et (0, 0) o1, by rw [hns, ← o2]; exact hs, _, _, hnl, ?_⟩
    exact (Reps.mono hle _ _ o4).append (Reps.mono hle _ _ hr)
  · intro cs' frz' u'' e o' x hi
    cases e
    exact hR.own l _ _ _ _ hl hb o' x hi
  · have := hv.1
    simp only [AObj.ver, AObj.len, List.length_append] at this ⊢
    omega
end
end Go.Fw
