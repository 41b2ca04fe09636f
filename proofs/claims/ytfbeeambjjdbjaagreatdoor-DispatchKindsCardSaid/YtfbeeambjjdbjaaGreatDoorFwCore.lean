import Derived.Calls
import Derived.Orders
import Derived.Below
import Derived.KernelRfl
namespace Go.Fw

/-- Abstract values: slices as flat lists of cells, structs as flat lists of cells, pointers into abstract objects. -/
inductive D where
  | bool (b : Bool)
  | int (k : IntKind) (n : Int)
  | str (s : List UInt8)
  | nilp
  | ptr (l u o : Nat)
  | rptr (cs : List D) (o : Nat)
  | list (cs : List D) (n : Nat) (full : Bool)
  | sl (l u o n sz : Nat) (full : Bool)
  | map (l : Nat)
  | nilmap
  | cmap (ks vs : List D)
  | func (fn : Fn) (first cap : List D)
  | nilf
  | iface (t : TypeId) (v : D)
  | nili
  | anyi
  | agg (cs : List D)
  | tuple (vs : List D)
  | junk
  deriving Inhabited

/-- What is known of the concrete memory: cells that no longer change, maps that no longer change, where an abstract object lies, how many cells a block has. -/
structure Gh where
  imm : Nat → Nat → Option Value
  mimm : Nat → Option (Array MapEntry)
  blk : Nat → Nat → Option Nat
  siz : Nat → Option Nat

structure Gh.Le (G G' : Gh) : Prop where
  imm : ∀ b o v, G.imm b o = some v → G'.imm b o = some v
  mimm : ∀ b es, G.mimm b = some es → G'.mimm b = some es
  blk : ∀ l u b, G.blk l u = some b → G'.blk l u = some b
  siz : ∀ b n, G.siz b = some n → G'.siz b = some n

theorem Gh.Le.refl (G : Gh) : G.Le G := ⟨fun _ _ _ h => h, fun _ _ h => h, fun _ _ _ h => h, fun _ _ h => h⟩
theorem Gh.Le.trans {A B C : Gh} (h : A.Le B) (k : B.Le C) : A.Le C :=
  ⟨fun b o v x => k.imm _ _ _ (h.imm b o v x), fun b e x => k.mimm _ _ (h.mimm b e x), fun l u b x => k.blk _ _ _ (h.blk l u b x), fun b n x => k.siz _ _ (h.siz b n x)⟩

mutual
/-- The value represents the abstract value. -/
def Rep (G : Gh) : D → Value → Prop
  | .bool b, v => v = .bool b
  | .int k n, v => v = .int k n
  | .str s, v => v = .string ⟨s.toArray⟩
  | .nilp, v => v = .pointer none
  | .ptr l u o, v => ∃ b, G.blk l u = some b ∧ v = .pointer (some ⟨b, o, none⟩)
  | .rptr cs o, v => ∃ b o', v = .pointer (some ⟨b, o' + o, none⟩) ∧ Cells G b o' cs
  | .list cs n full, v => ∃ a cap, v = .slice a n cap ∧ n ≤ cap ∧ cap ≤ 9223372036854775807 ∧ (full = true → cap = n) ∧
      ((∃ b o, a = some ⟨b, o, none⟩ ∧ Cells G b o cs) ∨ cs = [])
  | .sl l u o n sz full, v => ∃ b cap tot, G.blk l u = some b ∧ v = .slice (some ⟨b, o, none⟩) n cap ∧ n ≤ cap ∧ cap ≤ 9223372036854775807 ∧
      (full = true → cap = n) ∧ G.siz b = some tot ∧ o + cap * sz ≤ tot
  | .map l, v => ∃ b, G.blk l 0 = some b ∧ v = .map (some b)
  | .nilmap, v => v = .map none
  | .cmap ks vs, v => ∃ b es, v = .map (some b) ∧ G.mimm b = some es ∧ Reps G ks (es.toList.map (·.key)) ∧ Reps G vs (es.toList.map (·.val))
  | .func fn first cap, v => ∃ f c, v = .func fn f c ∧ Reps G first f.toList ∧ Reps G cap c.toList
  | .nilf, v => v = .nilFunc
  | .iface t d, v => ∃ x, v = .iface t x ∧ Rep G d x
  | .nili, v => v = .nilIface
  | .anyi, v => ∃ t x, v = .iface t x
  | .agg cs, v => ∃ a, v = .agg a ∧ Reps G cs a.toList
  | .tuple cs, v => ∃ a, v = .tuple a ∧ Reps G cs a.toList
  | .junk, _ => True
/-- Cells that no longer change, from an offset on. -/
def Cells (G : Gh) (b : Nat) : Nat → List D → Prop
  | _, [] => True
  | o, d :: ds => (∃ v, G.imm b o = some v ∧ Rep G d v) ∧ Cells G b (o + 1) ds
def Reps (G : Gh) : List D → List Value → Prop
  | [], vs => vs = []
  | d :: ds, vs => ∃ v r, vs = v :: r ∧ Rep G d v ∧ Reps G ds r
end

mutual
theorem Rep.mono {G G' : Gh} (h : G.Le G') : ∀ (d : D) (v : Value), Rep G d v → Rep G' d v
  | .bool _, _, x => by simpa only [Rep] using x
  | .int _ _, _, x => by simpa only [Rep] using x
  | .str _, _, x => by simpa only [Rep] using x
  | .nilp, _, x => by simpa only [Rep] using x
  | .ptr _ _ _, _, x => by
    simp only [Rep] at x ⊢
    obtain ⟨b, e, r⟩ := x
    exact ⟨b, h.blk _ _ _ e, r⟩
  | .rptr cs _, _, x => by
    simp only [Rep] at x ⊢
    obtain ⟨b, o', e, r⟩ := x
    exact ⟨b, o', e, Cells.mono h b _ cs r⟩
  | .list cs _ _, _, x => by
    simp only [Rep] at x ⊢
    obtain ⟨a, cap, e, h1, h2, h3, h4⟩ := x
    refine ⟨a, cap, e, h1, h2, h3, h4.imp ?_ id⟩
    rintro ⟨b, o, ha, hc⟩
    exact ⟨b, o, ha, Cells.mono h b _ cs hc⟩
  | .sl _ _ _ _ _ _, _, x => by
    simp only [Rep] at x ⊢
    obtain ⟨b, cap, tot, e, h1, h2, h3, h4, h5, h6⟩ := x
    exact ⟨b, cap, tot, h.blk _ _ _ e, h1, h2, h3, h4, h.siz _ _ h5, h6⟩
  | .map _, _, x => by
    simp only [Rep] at x ⊢
    obtain ⟨b, e, r⟩ := x
    exact ⟨b, h.blk _ _ _ e, r⟩
  | .nilmap, _, x => by simpa only [Rep] using x
  | .cmap ks vs, _, x => by
    simp only [Rep] at x ⊢
    obtain ⟨b, es, e, hm, h1, h2⟩ := x
    exact ⟨b, es, e, h.mimm _ _ hm, Reps.mono h ks _ h1, Reps.mono h vs _ h2⟩
  | .func _ first cap, _, x => by
    simp only [Rep] at x ⊢
    obtain ⟨f, c, e, h1, h2⟩ := x
    exact ⟨f, c, e, Reps.mono h first _ h1, Reps.mono h cap _ h2⟩
  | .nilf, _, x => by simpa only [Rep] using x
  | .iface _ d, _, x => by
    simp only [Rep] at x ⊢
    obtain ⟨y, e, h1⟩ := x
    exact ⟨y, e, Rep.mono h d _ h1⟩
  | .nili, _, x => by simpa only [Rep] using x
  | .anyi, _, x => by simpa only [Rep] using x
  | .agg cs, _, x => by
    simp only [Rep] at x ⊢
    obtain ⟨a, e, h1⟩ := x
    exact ⟨a, e, Reps.mono h cs _ h1⟩
  | .tuple cs, _, x => by
    simp only [Rep] at x ⊢
    obtain ⟨a, e, h1⟩ := x
    exact ⟨a, e, Reps.mono h cs _ h1⟩
  | .junk, _, _ => by simp only [Rep]
theorem Cells.mono {G G' : Gh} (h : G.Le G') (b : Nat) : ∀ (o : Nat) (ds : List D), Cells G b o ds → Cells G' b o ds
  | _, [], _ => by simp only [Cells]
  | o, d :: ds, x => by
    simp only [Cells] at x ⊢
    obtain ⟨⟨v, e, r⟩, hs⟩ := x
    exact ⟨⟨v, h.imm _ _ _ e, Rep.mono h d v r⟩, Cells.mono h b _ ds hs⟩
theorem Reps.mono {G G' : Gh} (h : G.Le G') : ∀ (ds : List D) (vs : List Value), Reps G ds vs → Reps G' ds vs
  | [], _, x => by simpa only [Reps] using x
  | d :: ds, _, x => by
    simp only [Reps] at x ⊢
    obtain ⟨v, r, e, h1, h2⟩ := x
    exact ⟨v, r, e, Rep.mono h d v h1, Reps.mono h ds r h2⟩
end
end Go.Fw
