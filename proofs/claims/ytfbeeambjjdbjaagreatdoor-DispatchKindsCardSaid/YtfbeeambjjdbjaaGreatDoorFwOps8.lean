import Derived.Test.YtfbeeambjjdbjaaGreatDoorFwOps7
import Derived.Test.YtfbeeambjjdbjaaGreatDoorFwMem3
namespace Go.Fw
open Go.RowKit

section
variable {P : Program} {B : Base} {G : Gh} {σ : List AObj} {w : World}

theorem append_ok (hR : Rel B G σ w) {t tx ty : TypeId} {sz by' : Nat} (ht : tyApp P t tx = some (sz, by')) {s x d : D} {sv xv : Value} {σ' : List AObj} (h : appD σ sz by' s x = some (d, σ')) (hs : Rep G s sv) (hx : Rep G x xv) :
    ∃ u w' G', (Builtin.append_ #[t, tx] ty #[sv, xv]).run P w = .ok u w' ∧ G.Le G' ∧ Rel B G' σ' w' ∧ Rep G' d u := by
  obtain ⟨e, i, zv, z, hu, hi, rfl, rfl, hpos, hz, hcd, hzl, hk⟩ := tyApp_inv ht
  unfold appD at h
  split at h <;> try (cases h; done)
  rename_i new m hsrc
  split at h <;> try (cases h; done)
  rename_i hall
  obtain ⟨news, hS, hnew⟩ := src_ok (P := P) hR hsrc hx hall hk
  have nothing : m = 0 → news = [] := fun hm => by
    have := hS.newsLen
    rw [hm, Nat.zero_mul] at this
    exact List.eq_nil_of_length_eq_zero this
  split at h <;> try (cases h; done)
  · rename_i cs n full
    split at h <;> try (cases h; done)
    rename_i hcs
    have hs0 := hs
    simp only [Rep] at hs
    obtain ⟨a, cap, rfl, h1, h2, h3, h4⟩ := hs
    split at h
    · rename_i hm
      cases h
      subst hm
      have := nothing rfl
      subst this
      exact ⟨_, w, G, run_append_nothing w t tx ty e i hu hi a n cap h1 xv hS, .refl G, hR, hs0⟩
    · rename_i hm
      split at h <;> try (cases h; done)
      rename_i hc
      obtain ⟨hfull, hb1, hb2⟩ := hc
      cases h
      have hcap := h3 hfull
      subst hcap
      have hfirst : ∃ olds, Reps G cs olds ∧ (Builtin.firstCells i.size cap (.slice a cap cap)).run P w.drew = .ok olds.toArray w.drew := by
        rcases h4 with ⟨b, o, rfl, hc⟩ | rfl
        · obtain ⟨vs, hr, hi'⟩ := hc.reps
          have hl := hr.length
          refine ⟨vs, hr, ?_⟩
          have := run_loadCells_list (P := P) w.drew ⟨b, o, none⟩ vs (fun j u hj => by rw [addr_add]; exact hR.drew.imm _ _ _ (hi' j u hj))
          rw [← hl, hcs] at this
          exact this
        · refine ⟨[], by simp [Reps], ?_⟩
          have hz0 : cap * i.size = 0 := by simpa using hcs.symm
          cases a with
          | none => simp [Builtin.firstCells]
          | some a => simp only [Builtin.firstCells, hz0]; rfl
      obtain ⟨olds, hold, hfirst⟩ := hfirst
      exact grow_ok hR hu hi hz hcd hzl (l := σ.length) (ver := 0) (frz := 0) hS hnew hold hcs hfirst (by omega) hb1 hb2 (by simp) (fun l' hl' => by
        rcases Nat.lt_or_ge l' σ.length with h | h
        · rw [List.getElem?_append_left h]
        · rw [List.getElem?_append_right h, List.getElem?_eq_none h]
          have : l' - σ.length ≠ 0 := by omega
          cases hk : l' - σ.length with
          | zero => exact absurd hk this
          | succ k => simp) (by simp) (by
            cases h : G.blk σ.length 0 with
            | none => rfl
            | some b => exact absurd (hR.blk _ _ _ h).1 (Nat.lt_irrefl _)) ⟨Nat.zero_le _, fun u' b h => absurd (hR.blk _ _ _ h).1 (Nat.lt_irrefl _)⟩ (Nat.zero_le _)
  · rename_i l u o n sz' full
    split at h <;> try (cases h; done)
    rename_i cs frz u' hl
    split at h <;> try (cases h; done)
    rename_i hc
    obtain ⟨rfl, rfl, hlen⟩ := hc
    have hs0 := hs
    simp only [Rep] at hs
    obtain ⟨b, cap, tot, hb, rfl, h1, h2, h3, h4, h5⟩ := hs
    split at h
    · rename_i hm
      cases h
      subst hm
      have := nothing rfl
      subst this
      exact ⟨_, w, G, run_append_nothing w t tx ty e i hu hi _ n cap h1 xv hS, .refl G, hR, hs0⟩
    · rename_i hm
      split at h <;> try (cases h; done)
      rename_i hbd
      obtain ⟨hb1, hb2⟩ := hbd
      obtain ⟨olds, holdl, hold, hcell⟩ := hR.cells_of hl hb hlen
      have hfirst : (Builtin.firstCells i.size n (.slice (some ⟨b, o, none⟩) n cap)).run P w.drew = .ok olds.toArray w.drew := by
        have := run_loadCells_list (P := P) w.drew ⟨b, o, none⟩ olds (fun j u hj => by rw [addr_add]; exact hcell j u hj)
        rw [holdl] at this
        exact this
      split at h
      · rename_i hfull
        cases h
        have hcap := h3 hfull
        subst hcap
        exact grow_ok hR hu hi hz hcd hzl (l := σ.length) (ver := 0) (frz := 0) hS hnew hold (by rw [hold.length, holdl]) hfirst (by omega) hb1 hb2 (by simp) (fun l' hl' => by
          rcases Nat.lt_or_ge l' σ.length with h | h
          · rw [List.getElem?_append_left h]
          · rw [List.getElem?_append_right h, List.getElem?_eq_none h]
            have : l' - σ.length ≠ 0 := by omega
            cases hk : l' - σ.length with
            | zero => exact absurd hk this
            | succ k => simp) (by simp) (by
              cases h : G.blk σ.length 0 with
              | none => rfl
              | some b => exact absurd (hR.blk _ _ _ h).1 (Nat.lt_irrefl _)) ⟨Nat.zero_le _, fun u' b h => absurd (hR.blk _ _ _ h).1 (Nat.lt_irrefl _)⟩ (Nat.zero_le _)
      · split at h <;> try (cases h; done)
        rename_i hc
        obtain ⟨rfl, hn⟩ := hc
        cases h
        have hnewl := hnew.length
        have hnl := hS.newsLen
        have hmpos : 0 < m * i.size := Nat.mul_pos (by omega) hpos
        have hnne : new ≠ [] := by
          intro h0
          rw [h0] at hnewl
          simp at hnewl
          omega
        have hver := hR.ver _ _ hl
        have hlt : σ.length > l := by
          rcases Nat.lt_or_ge l σ.length with h' | h'
          · exact h'
          · rw [List.getElem?_eq_none h'] at hl; cases hl
        by_cases hroom : n + m ≤ cap
        · have hle : (n + m) * i.size ≤ cap * i.size := Nat.mul_le_mul_right _ hroom
          have hfit : cs.length + new.length ≤ tot := by
            rw [Nat.add_mul] at hle
            omega
          obtain ⟨w', G', hrun, hle', hR', hb', hs'⟩ := setRow_ok (P := P) hR hl hb hnne hnew h4 hfit hall
          refine ⟨.slice (some ⟨b, 0, none⟩) (n + m) cap, w', G', ?_, hle', hR', ?_⟩
          · rw [← hn] at hrun
            have hfs : (Builtin.firstCells i.size m xv).run P w = .ok news.toArray w := hS.cells
            rcases hk with ⟨e', hk⟩ | hk <;> simp [Builtin.append_, run_underlying hu, run_underlying hk, sizeOf, typeInfo, hi, hS.len, hroom, hfs, hrun]
          · simp only [Rep]
            refine ⟨b, cap, tot, hb', rfl, hroom, h2, by simp, hs', ?_⟩
            simpa using h5
        · have hold' : Reps G cs olds := by
            have : (cs.drop 0).take (n * i.size) = cs := by simp [hn]
            rwa [this] at hold
          have hlenset : ∀ l', l' ≠ l → (σ.set l (.cells (cs ++ new) frz (cs ++ new).length))[l']? = σ[l']? := fun l' hl' => by rw [List.getElem?_set_ne (Ne.symm hl')]
          refine grow_ok hR hu hi hz hcd hzl (l := l) (ver := (cs ++ new).length) (frz := frz) hS hnew hold' (by omega) hfirst (by omega) hb1 hb2 (by simp) hlenset (by rw [List.getElem?_set_self hlt]) ?_ ?_ ?_
          · cases hx : G.blk l (cs ++ new).length with
            | none => rfl
            | some b' =>
              have h1 := hver.2 _ _ hx
              have h2 := hver.1
              simp only [AObj.ver, AObj.len, List.length_append] at h1 h2
              omega
          · refine ⟨Nat.le_refl _, fun u'' b'' hx => ?_⟩
            have h1 := hver.2 _ _ hx
            have h2 := hver.1
            simp only [AObj.ver, AObj.len, List.length_append] at h1 h2 ⊢
            omega
          · have := hR.frzle _ _ hl
            simp only [AObj.frz, AObj.len, List.length_append] at this ⊢
            omega

/-! ### unary operators, conversions -/
def unD : UnOp → D → Option D
  | .not, .bool b => some (.bool (!b))
  | .neg, .int k n => some (.int k (k.wrap (0 - n)))
  | .xor, .int k n => some (.int k (bits .xor k (if k.signed then -1 else k.max) n))
  | _, _ => none

theorem un_ok {op : UnOp} {x d : D} {v : Value} (h : unD op x = some d) (hv : Rep G x v) : ∃ u, (Op.unary op v).run P w = .ok u w ∧ Rep G d u := by
  cases op <;> cases x <;> simp only [unD] at h <;> try (cases h; done)
  all_goals (simp only [Rep] at hv; subst hv; cases h)
  · exact ⟨_, rfl, by simp [Rep]⟩
  · refine ⟨_, by simp only [Op.unary, intBits_xor]; rfl, by simp [Rep]⟩
  · exact ⟨_, rfl, by simp [Rep]⟩

inductive CK where
  | int (k : IntKind) | idStr | toBytes | toStr
  deriving Inhabited

def tyConv (P : Program) (src dst : TypeId) : Option CK :=
  match P.underlying src, P.underlying dst with
  | some (.int _), some (.int k) => some (.int k)
  | some .string, some .string => some .idStr
  | some .string, some (.slice e) => match P.underlying e, P.info? e with
    | some (.int .u8), some i => if i.size = 1 then some .toBytes else none
    | _, _ => none
  | some (.slice e), some .string => match P.underlying e with
    | some (.int .u8) => some .toStr
    | _ => none
  | _, _ => none

def byteOfD : D → Option UInt8
  | .int .u8 n => some (UInt8.ofNat n.toNat)
  | _ => none

def bytesOfD : List D → Option (List UInt8)
  | [] => some []
  | d :: ds => match byteOfD d, bytesOfD ds with
    | some b, some bs => some (b :: bs)
    | _, _ => none

def convD (σ : List AObj) : CK → D → Option D
  | .int k, .int _ n => some (.int k (k.wrap n))
  | .idStr, .str s => some (.str s)
  | .toBytes, .str s => if s.length ≤ limit then some (.list (s.map fun b => .int .u8 b.toNat) s.length false) else none
  | .toStr, .list cs' n' f => match srcD σ 1 (.list cs' n' f) with
    | some (cs, _) => (bytesOfD cs).map .str
    | none => none
  | .toStr, .sl l u o n' z f => match srcD σ 1 (.sl l u o n' z f) with
    | some (cs, _) => (bytesOfD cs).map .str
    | none => none
  | _, _ => none

theorem bytes_push (s : List UInt8) (b : UInt8) : (⟨s.toArray⟩ : ByteArray).push b = ⟨(s ++ [b]).toArray⟩ := by
  show (⟨s.toArray.push b⟩ : ByteArray) = _
  simp

theorem reps_bytes : ∀ {cs : List D} {vs : List Value} {bs : List UInt8}, Reps G cs vs → bytesOfD cs = some bs → ∃ ns : List Int, vs = ns.map (fun n => .int .u8 n) ∧ bs = ns.map fun n => UInt8.ofNat n.toNat
  | [], _, _, h, hb => by
    simp only [Reps] at h
    simp only [bytesOfD, Option.some.injEq] at hb
    subst h hb
    exact ⟨[], rfl, rfl⟩
  | d :: ds, _, _, h, hb => by
    simp only [Reps] at h
    obtain ⟨v, r, rfl, h1, h2⟩ := h
    simp only [bytesOfD] at hb
    split at hb <;> try (cases hb; done)
    rename_i b bs' hd hbs
    cases hb
    obtain ⟨ns, rfl, rfl⟩ := reps_bytes h2 hbs
    cases d <;> simp only [byteOfD] at hd <;> try (cases hd; done)
    rename_i k n
    cases k <;> simp only [Option.some.injEq] at hd <;> try (cases hd; done)
    subst hd
    simp only [Rep] at h1
    subst h1
    exact ⟨n :: ns, rfl, rfl⟩

theorem conv_ok (hR : Rel B G σ w) {src dst : TypeId} {ck : CK} (ht : tyConv P src dst = some ck) {x d : D} {v : Value} (h : convD σ ck x = some d) (hv : Rep G x v) :
    ∃ u w' G', (convert src dst v).run P w = .ok u w' ∧ G.Le G' ∧ Rel B G' σ w' ∧ Rep G' d u := by
  unfold tyConv at ht
  split at ht <;> try (cases ht; done)
  · rename_i k0 k hs hd
    cases ht
    cases x <;> simp only [convD] at h <;> try (cases h; done)
    cases h
    simp only [Rep] at hv
    subst hv
    rename_i k1 n1
    refine ⟨.int k (k.wrap n1), w, G, ?_, .refl G, hR, by simp only [Rep]⟩
    unfold convert
    simp [run_underlying hs, run_underlying hd, Conv.intToInt]
  · rename_i hs hd
    cases ht
    cases x <;> simp only [convD] at h <;> try (cases h; done)
    cases h
    have hv0 := hv
    simp only [Rep] at hv
    subst hv
    refine ⟨_, w, G, ?_, .refl G, hR, hv0⟩
    unfold convert
    simp [run_underlying hs, run_underlying hd]
  · rename_i e hs hd
    split at ht <;> try (cases ht; done)
    rename_i i he hi
    split at ht <;> try (cases ht; done)
    rename_i hi1
    cases ht
    cases x <;> simp only [convD] at h <;> try (cases h; done)
    rename_i s
    split at h <;> try (cases h; done)
    rename_i hlim
    cases h
    simp only [Rep] at hv
    subst hv
    let c := grownCap w s.length 0 e
    have hge : s.length ≤ c := grownCap_ge w s.length 0 e
    have hle : c ≤ maxLen := grownCap_le_maxLen w s.length 0 e (by unfold maxLen; unfold limit at hlim; omega)
    let cells : Array Value := ((s.toArray.map fun b => (Value.int .u8 b.toNat)) ++ Array.replicate (c - s.length) (.int .u8 0))
    have hgr := grow_new hR.drew (s.map fun b => Value.int .u8 b.toNat) (List.replicate (c - s.length) (.int .u8 0)) e (cells.size, cells.size + 1) cells (by simp [cells])
    refine ⟨.slice (some ⟨w.heap.size, 0, none⟩) s.length c, w.drew.alloc (.cells cells e (cells.size, cells.size + 1)), _, ?_, hgr.le, hR.drew.grow hgr, ?_⟩
    · unfold convert
      simp only [Sem.run_bind, run_underlying hs, run_underlying hd, run_underlying he, Result.andThen_ok]
      unfold Conv.stringToBytes
      have hq : (Question.appendCap s.length 0 e).forced = false := rfl
      simp only [bytes_size, Sem.run_bind, run_choose, hq, Bool.false_eq_true, if_false, Result.andThen_ok, newRow, run_newObj, Sem.run_pure]
      unfold markStringish
      have hsh : ({ w with heap := w.heap.push (.cells cells e), drawn := w.drawn + 1 } : World).shape? w.heap.size = some (e, cells.size) := by
        simp [World.shape?]
      show Result.andThen (Sem.run P (markStringish ⟨w.heap.size, 0, none⟩) (w.drew.alloc (.cells cells e))) _ = _
      have hsh' : (w.drew.alloc (.cells cells e)).shape? w.heap.size = some (e, cells.size) := by
        have := heap_new w.drew (.cells cells e)
        unfold World.shape?
        have h2 : (w.drew.alloc (.cells cells e)).heap[w.heap.size]? = some (.cells cells e) := this
        rw [h2]
      unfold markStringish
      simp only [Sem.run_bind, run_shape, Result.andThen_ok, hsh', run_freeze]
      congr 1
      unfold World.freeze
      rw [if_neg (by omega)]
      show World.mk _ _ _ _ _ = World.mk _ _ _ _ _
      congr 1
      apply Array.ext_getElem?
      intro j
      show ((w.heap.push (.cells cells e)).modify w.heap.size _)[j]? = (w.heap.push (.cells cells e (cells.size, cells.size + 1)))[j]?
      rw [Array.getElem?_modify, Array.getElem?_push, Array.getElem?_push]
      by_cases hj : j = w.heap.size
      · subst hj; simp
      · simp [hj, Ne.symm hj]
    · simp only [Rep]
      refine ⟨_, c, rfl, hge, by unfold maxLen at hle; exact hle, by simp, .inl ⟨_, _, rfl, ?_⟩⟩
      refine cells_addImm (b := w.drew.heap.size) _ (s.map fun b => D.int .u8 b.toNat) [] _ rfl ?_ hgr.le
      clear hgr hge hle hlim
      induction s with
      | nil => simp [Reps]
      | cons a s ih => simp only [List.map_cons, Reps]; exact ⟨_, _, rfl, by simp [Rep], ih⟩
  · rename_i e hs hd
    split at ht <;> try (cases ht; done)
    rename_i he
    cases ht
    obtain ⟨cs, n, hsrc, bs, hbs, rfl, hsh⟩ : ∃ cs n, srcD σ 1 x = some (cs, n) ∧ ∃ bs, bytesOfD cs = some bs ∧ d = .str bs ∧ ((∃ a b c, x = .list a b c) ∨ ∃ a b c d e f, x = .sl a b c d e f) := by
      cases x <;> simp only [convD] at h <;> try (cases h; done)
      all_goals
        split at h <;> try (cases h; done)
        rename_i cs n hsrc
        simp only [Option.map_eq_some_iff] at h
        obtain ⟨bs, hbs, rfl⟩ := h
      · exact ⟨cs, n, hsrc, bs, hbs, rfl, .inl ⟨_, _, _, rfl⟩⟩
      · exact ⟨cs, n, hsrc, bs, hbs, rfl, .inr ⟨_, _, _, _, _, _, rfl⟩⟩
    have hall : cs.all D.isCell = true := by
      clear hsrc hsh h
      induction cs generalizing bs with
      | nil => rfl
      | cons a cs ih =>
        simp only [bytesOfD] at hbs
        split at hbs <;> try (cases hbs; done)
        rename_i b bs' hd' hbs'
        simp only [List.all_cons, ih _ hbs', Bool.and_true]
        cases a <;> simp [byteOfD] at hd' <;> rfl
    have key : ∀ (a : Option Addr) (len cap : Nat) (vs : List Value), v = .slice a len cap → Reps G cs vs → (a = none → vs = []) → (∀ x, a = some x → (loadCells x len).run P w = .ok vs.toArray w) →
        ∃ u w' G', (convert src dst v).run P w = .ok u w' ∧ G.Le G' ∧ Rel B G' σ w' ∧ Rep G' (.str bs) u := by
      intro a len cap vs hveq hr hn hl
      subst hveq
      obtain ⟨ns, rfl, rfl⟩ := reps_bytes hr hbs
      refine ⟨.string ⟨(ns.map fun n => UInt8.ofNat n.toNat).toArray⟩, w, G, ?_, .refl G, hR, by simp only [Rep]⟩
      unfold convert
      simp only [Sem.run_bind, run_underlying hs, run_underlying hd, Result.andThen_ok]
      cases a with
      | none =>
        have := hn rfl
        simp only [List.map_eq_nil_iff] at this
        subst this
        simp only [run_underlying he, Result.andThen_ok]
        unfold Conv.bytesToString
        rfl
      | some x =>
        have := hl x rfl
        simp only [run_underlying he, Result.andThen_ok]
        unfold Conv.bytesToString
        simp only [Sem.run_bind, this, Result.andThen_ok]
        have loop : ∀ (f : Value → ByteArray → Sem (ForInStep ByteArray)) (_ : ∀ n r, f (.int .u8 n) r = pure (ForInStep.yield (r.push (UInt8.ofNat n.toNat)))) (ns : List Int) (acc : List UInt8),
            (ForIn.forIn (m := Sem) (ns.map fun n => Value.int .u8 n).toArray (⟨acc.toArray⟩ : ByteArray) f).run P w = .ok ⟨(acc ++ ns.map fun n => UInt8.ofNat n.toNat).toArray⟩ w := by
          intro f hf ns
          induction ns with
          | nil => intro acc; simp
          | cons n ns ih =>
            intro acc
            have := ih (acc ++ [UInt8.ofNat n.toNat])
            simp only [List.map_cons, List.forIn_toArray, List.forIn_cons, Sem.run_bind, hf, Sem.run_pure, Result.andThen_ok, bytes_push] at this ⊢
            rw [this]
            simp
        have e0 : ByteArray.empty = (⟨([] : List UInt8).toArray⟩ : ByteArray) := rfl
        rw [e0, loop _ (fun _ _ => rfl)]
        rfl
    cases x <;> simp only [srcD] at hsrc <;> try (cases hsrc; done)
    · rcases hsh with ⟨_, _, _, h⟩ | ⟨_, _, _, _, _, _, h⟩ <;> cases h
    · rename_i cs' n' full
      split at hsrc <;> try (cases hsrc; done)
      rename_i hlen
      cases hsrc
      simp only [Rep] at hv
      obtain ⟨a, cap, rfl, h1, h2, h3, h4⟩ := hv
      rcases h4 with ⟨b, o, rfl, hc⟩ | rfl
      · obtain ⟨vs, hr, hi'⟩ := hc.reps
        have hl := hr.length
        refine key _ _ cap vs rfl hr (by simp) (fun x hx => ?_)
        cases hx
        have := run_loadCells_list (P := P) w ⟨b, o, none⟩ vs (fun j u hj => by rw [addr_add]; exact hR.imm _ _ _ (hi' j u hj))
        rw [← hl, hlen, Nat.mul_one] at this
        exact this
      · have hn0 : n = 0 := by simpa using hlen.symm
        subst hn0
        exact key a 0 cap [] rfl (by simp [Reps]) (fun _ => rfl) (fun x hx => rfl)
    · rename_i l u o n' sz' full
      split at hsrc <;> try (cases hsrc; done)
      rename_i cs' frz u' hl
      split at hsrc <;> try (cases hsrc; done)
      rename_i hc
      obtain ⟨rfl, rfl, hlen⟩ := hc
      cases hsrc
      simp only [Rep] at hv
      obtain ⟨b, cap, tot, hb, rfl, h1, h2, h3, h4, h5⟩ := hv
      obtain ⟨vs, hvl, hr, hcell⟩ := hR.cells_of hl hb hlen
      refine key _ _ cap vs rfl hr (by simp) (fun x hx => ?_)
      cases hx
      have := run_loadCells_list (P := P) w ⟨b, o, none⟩ vs (fun j u hj => by rw [addr_add]; exact hcell j u hj)
      rw [hvl, Nat.mul_one] at this
      exact this
end
end Go.Fw
