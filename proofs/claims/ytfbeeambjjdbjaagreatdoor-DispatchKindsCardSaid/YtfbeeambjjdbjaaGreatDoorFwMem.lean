import Derived.Test.YtfbeeambjjdbjaaGreatDoorFwCore
namespace Go.Fw
open Go.RowKit

inductive AObj where
  | cells (cs : List D) (frz : Nat) (ver : Nat)
  | map (ks vs : List D)
  | siter (s : List UInt8) (pos : Nat)
  | miter (ks vs : List D) (rem : List Nat) (cur : Option Nat)
  | dead
  | gone
  deriving Inhabited

def AObj.ver : AObj → Nat
  | .cells _ _ u => u
  | _ => 0

def AObj.frz : AObj → Nat
  | .cells _ f _ => f
  | _ => 0

def AObj.len : AObj → Nat
  | .cells cs _ _ => cs.length
  | _ => 0

/-- The block is a map with these entries, each born in its turn. -/
def MapAt (w : World) (b : Nat) (es : Array MapEntry) : Prop := w.heap[b]? = some (.map es es.size) ∧ ∀ (i : Nat) (e : MapEntry), es[i]? = some e → e.born = i

/-- The block holds what the abstract object says. -/
def ObjAt (G : Gh) (w : World) (b : Nat) : AObj → Prop
  | .cells cs _ _ => ∃ vs et, w.heap[b]? = some (.cells vs et (0, 0)) ∧ G.siz b = some vs.size ∧ ∃ tl, ∃ hd, vs.toList = hd ++ tl ∧ Reps G cs hd
  | .map ks vs => ∃ es, MapAt w b es ∧ Reps G ks (es.toList.map (·.key)) ∧ Reps G vs (es.toList.map (·.val))
  | .siter s pos => w.heap[b]? = some (.stringIter ⟨s.toArray⟩ pos)
  | .miter ks vs rem cur => ∃ m es seen, w.heap[b]? = some (.mapIter (some m) es.size seen es.size) ∧ G.mimm m = some es ∧ Reps G ks (es.toList.map (·.key)) ∧ Reps G vs (es.toList.map (·.val)) ∧
      (∀ i, i ∈ rem ↔ i < es.size ∧ seen.contains i = false) ∧ (∀ i, cur = some i → seen.back? = some i)
  | .dead => False
  | .gone => b < w.heap.size

/-- Where a call began. -/
structure Base where
  w : World
  g : Gh

structure Rel (B : Base) (G : Gh) (σ : List AObj) (w : World) : Prop where
  below : Below B.w.heap.size B.w w
  imm : ∀ b o v, G.imm b o = some v → w.cell? ⟨b, o, none⟩ = some v
  mimm : ∀ b es, G.mimm b = some es → MapAt w b es
  siz : ∀ b n, G.siz b = some n → ∃ vs et f, w.heap[b]? = some (.cells vs et f) ∧ vs.size = n
  blk : ∀ l u b, G.blk l u = some b → l < σ.length ∧ B.w.heap.size ≤ b ∧ b < w.heap.size
  inj : ∀ l u l' u' b, G.blk l u = some b → G.blk l' u' = some b → l = l'
  obj : ∀ l ob b, σ[l]? = some ob → G.blk l ob.ver = some b → ObjAt G w b ob
  own : ∀ l cs frz u b, σ[l]? = some (.cells cs frz u) → G.blk l u = some b → ∀ o v, G.imm b o = some v → o < frz
  ownm : ∀ l ks vs b, σ[l]? = some (.map ks vs) → G.blk l 0 = some b → G.mimm b = none
  ver : ∀ l ob, σ[l]? = some ob → ob.ver ≤ ob.len ∧ ∀ u b, G.blk l u = some b → u ≤ ob.ver
  frzle : ∀ (l : Nat) (ob : AObj), σ[l]? = some ob → ob.frz ≤ ob.len
  bimm : ∀ b o, b < B.w.heap.size → G.imm b o = B.g.imm b o
  bmimm : ∀ b, b < B.w.heap.size → G.mimm b = B.g.mimm b

theorem lt_of_some {w : World} {b : Nat} {o : Obj} (h : w.heap[b]? = some o) : b < w.heap.size := by
  rcases Nat.lt_or_ge b w.heap.size with h' | h'
  · exact h'
  · rw [Array.getElem?_eq_none h'] at h; cases h

theorem lt_of_cell {w : World} {b o : Nat} {v : Value} (h : w.cell? ⟨b, o, none⟩ = some v) : b < w.heap.size :=
  World.block_lt_of_cell? w _ h

theorem ObjAt.keep {G G' : Gh} {w w' : World} {b : Nat} {ob : AObj} (hG : G.Le G') (h : ObjAt G w b ob) (e : w'.heap[b]? = w.heap[b]?) : ObjAt G' w' b ob := by
  cases ob with
  | cells cs frz u =>
    obtain ⟨vs, et, h1, h2, tl, hd, h3, h4⟩ := h
    exact ⟨vs, et, e.trans h1, hG.siz _ _ h2, tl, hd, h3, Reps.mono hG _ _ h4⟩
  | map ks vs =>
    obtain ⟨es, h1, h2, h3⟩ := h
    exact ⟨es, ⟨e.trans h1.1, h1.2⟩, Reps.mono hG _ _ h2, Reps.mono hG _ _ h3⟩
  | siter s pos => exact e.trans h
  | miter ks vs rem cur =>
    obtain ⟨m, es, seen, h1, h2, h3, h4, h5, h6⟩ := h
    exact ⟨m, es, seen, e.trans h1, hG.mimm _ _ h2, Reps.mono hG _ _ h3, Reps.mono hG _ _ h4, h5, h6⟩
  | dead => exact h.elim
  | gone =>
    have h' : b < w.heap.size := h
    obtain ⟨o, ho⟩ : ∃ o, w.heap[b]? = some o := ⟨_, Array.getElem?_eq_getElem h'⟩
    exact lt_of_some (e.trans ho)

theorem ObjAt.lt {G : Gh} {w : World} {b : Nat} {ob : AObj} (h : ObjAt G w b ob) : b < w.heap.size := by
  cases ob with
  | cells cs frz u => obtain ⟨vs, et, h1, _⟩ := h; exact lt_of_some h1
  | map ks vs => obtain ⟨es, h1, _⟩ := h; exact lt_of_some h1.1
  | siter s pos => exact lt_of_some h
  | miter ks vs rem cur => obtain ⟨m, es, seen, h1, _⟩ := h; exact lt_of_some h1
  | dead => exact h.elim
  | gone => exact h

/-- Whatever was there is as it was; new immutable things lie in new blocks. -/
structure Grow (G G' : Gh) (w w' : World) : Prop where
  le : G.Le G'
  below : Below w.heap.size w w'
  blk : G'.blk = G.blk
  imm : ∀ b o v, G'.imm b o = some v → w'.cell? ⟨b, o, none⟩ = some v
  mimm : ∀ b es, G'.mimm b = some es → MapAt w' b es
  siz : ∀ b n, G'.siz b = some n → ∃ vs et f, w'.heap[b]? = some (.cells vs et f) ∧ vs.size = n
  imm_new : ∀ b o, b < w.heap.size → G'.imm b o = G.imm b o
  mimm_new : ∀ b, b < w.heap.size → G'.mimm b = G.mimm b

theorem Grow.trans {G G' G'' : Gh} {w w' w'' : World} (h : Grow G G' w w') (k : Grow G' G'' w' w'') : Grow G G'' w w'' where
  le := h.le.trans k.le
  below := h.below.trans (k.below.mono h.below.size)
  blk := k.blk.trans h.blk
  imm := k.imm
  mimm := k.mimm
  siz := k.siz
  imm_new b o hb := (k.imm_new b o (Nat.lt_of_lt_of_le hb h.below.size)).trans (h.imm_new b o hb)
  mimm_new b hb := (k.mimm_new b (Nat.lt_of_lt_of_le hb h.below.size)).trans (h.mimm_new b hb)

theorem Rel.grow {B : Base} {G G' : Gh} {σ : List AObj} {w w' : World} (h : Rel B G σ w) (g : Grow G G' w w') : Rel B G' σ w' where
  below := h.below.trans (g.below.mono h.below.size)
  imm := g.imm
  mimm := g.mimm
  siz := g.siz
  blk l u b hb := by
    rw [g.blk] at hb
    obtain ⟨h1, h2, h3⟩ := h.blk l u b hb
    exact ⟨h1, h2, Nat.lt_of_lt_of_le h3 g.below.size⟩
  inj := by rw [g.blk]; exact h.inj
  obj l ob b ho hb := by
    rw [g.blk] at hb
    have hk := h.obj l ob b ho hb
    exact hk.keep g.le (g.below.block b hk.lt)
  own l cs frz u b ho hb o v hi := by
    rw [g.blk] at hb
    rw [g.imm_new b o (h.blk _ _ _ hb).2.2] at hi
    exact h.own l cs frz u b ho hb o v hi
  ownm l ks vs b ho hb := by
    rw [g.blk] at hb
    rw [g.mimm_new b (h.blk _ _ _ hb).2.2]
    exact h.ownm l ks vs b ho hb
  ver := by rw [g.blk]; exact h.ver
  frzle := h.frzle
  bimm b o hb := (g.imm_new b o (Nat.lt_of_lt_of_le hb h.below.size)).trans (h.bimm b o hb)
  bmimm b hb := (g.mimm_new b (Nat.lt_of_lt_of_le hb h.below.size)).trans (h.bmimm b hb)

/-- Nothing known turns when only new blocks are made or the tape is read. -/
theorem Grow.of_below {B : Base} {G : Gh} {σ : List AObj} {w w' : World} (h : Rel B G σ w) (hb : Below w.heap.size w w') : Grow G G w w' where
  le := .refl G
  below := hb
  blk := rfl
  imm b o v hi := by
    have hc := h.imm b o v hi
    rw [hb.cell (p := ⟨b, o, none⟩) (lt_of_cell hc)]; exact hc
  mimm b es hm := by
    obtain ⟨hc, hb2⟩ := h.mimm b es hm
    exact ⟨(hb.block b (lt_of_some hc)).trans hc, hb2⟩
  siz b n hs := by
    obtain ⟨vs, et, f, h1, h2⟩ := h.siz b n hs
    exact ⟨vs, et, f, (hb.block b (lt_of_some h1)).trans h1, h2⟩
  imm_new _ _ _ := rfl
  mimm_new _ _ := rfl

theorem Rel.of_below {B : Base} {G : Gh} {σ : List AObj} {w w' : World} (h : Rel B G σ w) (hb : Below w.heap.size w w') : Rel B G σ w' :=
  h.grow (.of_below h hb)

theorem Rel.drew {B : Base} {G : Gh} {σ : List AObj} {w : World} (h : Rel B G σ w) : Rel B G σ w.drew := h.of_below (Below.refl _ _).drew

/-! ### a new block whose cells are known for good -/

def Gh.addImm (G : Gh) (b : Nat) (vs : List Value) : Gh :=
  { G with imm := fun b' o => if b' = b then vs[o]? else G.imm b' o }

theorem cell_new (w : World) (c : Array Value) (t : TypeId) (f : Nat × Nat) (o : Nat) : (w.alloc (.cells c t f)).cell? ⟨w.heap.size, o, none⟩ = c[o]? := by
  have h : (w.alloc (.cells c t f)).heap[w.heap.size]? = some (.cells c t f) := by show (w.heap.push _)[w.heap.size]? = _; simp
  unfold World.cell?; rw [h]; rfl

theorem heap_new (w : World) (o : Obj) : (w.alloc o).heap[w.heap.size]? = some o := by show (w.heap.push _)[w.heap.size]? = _; simp

theorem grow_new {B : Base} {G : Gh} {σ : List AObj} {w : World} (h : Rel B G σ w) (hd tl : List Value) (t : TypeId) (f : Nat × Nat) (c : Array Value) (hc : c.toList = hd ++ tl) :
    Grow G (G.addImm w.heap.size hd) w (w.alloc (.cells c t f)) where
  le := by
    refine ⟨fun b o v hi => ?_, fun _ _ x => x, fun _ _ _ x => x, fun _ _ x => x⟩
    have hlt := lt_of_cell (h.imm b o v hi)
    have : b ≠ w.heap.size := Nat.ne_of_lt hlt
    simp [Gh.addImm, this, hi]
  below := (Below.refl _ _).alloc (Nat.le_refl _) _
  blk := rfl
  imm b o v hi := by
    by_cases e : b = w.heap.size
    · subst e
      simp only [Gh.addImm, if_true] at hi
      rw [cell_new]
      have : c[o]? = c.toList[o]? := by simp
      rw [this, hc, List.getElem?_append_left]
      · exact hi
      · rcases Nat.lt_or_ge o hd.length with h' | h'
        · exact h'
        · rw [List.getElem?_eq_none h'] at hi; cases hi
    · simp only [Gh.addImm, e, if_false] at hi
      have hcl := h.imm b o v hi
      have hlt := lt_of_cell hcl
      rw [World.cell?_alloc_lt _ _ _ (by simpa using hlt)]; exact hcl
  mimm b es hm := by
    obtain ⟨hk, hb2⟩ := h.mimm b es hm
    exact ⟨(Below.heap_alloc _ _ _ (lt_of_some hk)).trans hk, hb2⟩
  siz b n hs := by
    obtain ⟨vs, et, f', h1, h2⟩ := h.siz b n hs
    exact ⟨vs, et, f', (Below.heap_alloc _ _ _ (lt_of_some h1)).trans h1, h2⟩
  imm_new b o hb := by
    have : b ≠ w.heap.size := Nat.ne_of_lt hb
    simp [Gh.addImm, this]
  mimm_new _ _ := rfl

theorem cells_addImm {G : Gh} {b : Nat} (vs : List Value) : ∀ (ds : List D) (pre r : List Value), vs = pre ++ r → Reps G ds r → G.Le (G.addImm b vs) → Cells (G.addImm b vs) b pre.length ds
  | [], _, _, _, _, _ => by simp only [Cells]
  | d :: ds, pre, r, e, hr, hle => by
    simp only [Reps] at hr
    obtain ⟨v, r', rfl, h1, h2⟩ := hr
    simp only [Cells]
    refine ⟨⟨v, by simp [Gh.addImm, e], Rep.mono hle _ _ h1⟩, ?_⟩
    have := cells_addImm (b := b) vs ds (pre ++ [v]) r' (by simp [e]) h2 hle
    simpa using this
end Go.Fw
