import Derived.Test.YtfbeeambjjdbjaaGreatDoorFwRun2
namespace Go.Fw
open Go.RowKit

/-! ### forgetting objects, and numbering the rest anew -/
def mv (ks : List Nat) : D → D
  | .ptr j u o => .ptr (ks.getD j 0) u o
  | .sl j u o n sz f => .sl (ks.getD j 0) u o n sz f
  | .map j => .map (ks.getD j 0)
  | d => d

def okv (n : Nat) : D → Bool
  | .ptr j _ _ => Nat.blt j n
  | .sl j _ _ _ _ _ => Nat.blt j n
  | .map j => Nat.blt j n
  | d => d.pure

def mvO (ks : List Nat) : AObj → AObj
  | .cells cs f v => .cells (cs.map (mv ks)) f v
  | ob => ob

def okO (n : Nat) : AObj → Bool
  | .cells cs _ _ => cs.all (okv n)
  | .map a b => pureL a && pureL b
  | .miter a b _ _ => pureL a && pureL b
  | _ => true

def Gh.sel (G : Gh) (ks : List Nat) : Gh := { G with blk := fun j u => match ks[j]? with
  | some l => G.blk l u
  | none => none }

theorem sel_blk {G : Gh} {ks : List Nat} {j u b : Nat} (hj : j < ks.length) (h : G.blk (ks.getD j 0) u = some b) : (G.sel ks).blk j u = some b := by
  have e : ks[j]? = some (ks.getD j 0) := by rw [List.getD_eq_getElem?_getD, List.getElem?_eq_getElem hj]; rfl
  simp only [Gh.sel, e]; exact h

theorem mv_rep {G : Gh} {ks : List Nat} {d : D} {v : Value} (hk : okv ks.length d = true) (h : Rep G (mv ks d) v) : Rep (G.sel ks) d v := by
  have pure : d.pure = true → mv ks d = d → Rep (G.sel ks) d v := fun hp e => by
    rw [e] at h
    exact Rep.pure (G := G) (G' := G.sel ks) (fun _ _ _ x => x) (fun _ _ x => x) d v hp h
  cases d
  case ptr j u o =>
    have hk : j < ks.length := Nat.le_of_ble_eq_true hk
    simp only [mv, Rep] at h ⊢
    obtain ⟨b, hb, e⟩ := h
    exact ⟨b, sel_blk hk hb, e⟩
  case sl j u o n sz f =>
    have hk : j < ks.length := Nat.le_of_ble_eq_true hk
    simp only [mv, Rep] at h ⊢
    obtain ⟨b, cap, tot, hb, e⟩ := h
    exact ⟨b, cap, tot, sel_blk hk hb, e⟩
  case map j =>
    have hk : j < ks.length := Nat.le_of_ble_eq_true hk
    simp only [mv, Rep] at h ⊢
    obtain ⟨b, hb, e⟩ := h
    exact ⟨b, sel_blk hk hb, e⟩
  all_goals exact pure hk rfl

theorem mv_reps {G : Gh} {ks : List Nat} : ∀ {ds : List D} {vs : List Value}, ds.all (okv ks.length) = true → Reps G (ds.map (mv ks)) vs → Reps (G.sel ks) ds vs
  | [], _, _, h => by simpa only [List.map_nil, Reps] using h
  | d :: ds, _, hk, h => by
    simp only [List.all_cons, Bool.and_eq_true] at hk
    simp only [List.map_cons, Reps] at h ⊢
    obtain ⟨v, r, e, h1, h2⟩ := h
    exact ⟨v, r, e, mv_rep hk.1 h1, mv_reps hk.2 h2⟩

theorem mvO_obj {G : Gh} {ks : List Nat} {w : World} {b : Nat} {ob : AObj} (hk : okO ks.length ob = true) (h : ObjAt G w b (mvO ks ob)) : ObjAt (G.sel ks) w b ob := by
  cases ob with
  | cells cs f v =>
    obtain ⟨vs, et, h1, h2, tl, hd, h3, h4⟩ := h
    exact ⟨vs, et, h1, h2, tl, hd, h3, mv_reps hk h4⟩
  | map a c =>
    simp only [okO, Bool.and_eq_true] at hk
    obtain ⟨es, h1, h2, h3⟩ := h
    exact ⟨es, h1, Reps.pure (G := G) (G' := G.sel ks) (fun _ _ _ x => x) (fun _ _ x => x) _ _ hk.1 h2, Reps.pure (G := G) (G' := G.sel ks) (fun _ _ _ x => x) (fun _ _ x => x) _ _ hk.2 h3⟩
  | siter s p => exact h
  | miter a c r cur =>
    simp only [okO, Bool.and_eq_true] at hk
    obtain ⟨m, es, seen, h1, h2, h3, h4, h5, h6⟩ := h
    exact ⟨m, es, seen, h1, h2, Reps.pure (G := G) (G' := G.sel ks) (fun _ _ _ x => x) (fun _ _ x => x) _ _ hk.1 h3, Reps.pure (G := G) (G' := G.sel ks) (fun _ _ _ x => x) (fun _ _ x => x) _ _ hk.2 h4, h5, h6⟩
  | dead => exact h
  | gone => exact h

theorem mvO_ver {ks : List Nat} (ob : AObj) : (mvO ks ob).ver = ob.ver ∧ (mvO ks ob).frz = ob.frz ∧ (mvO ks ob).len = ob.len := by
  cases ob <;> simp [mvO, AObj.ver, AObj.frz, AObj.len]

theorem Rel.sel {B : Base} {G : Gh} {σ σ' : Sto} {w : World} (hR : Rel B G σ w) {ks : List Nat} (hnd : ks.Nodup) (hlen : σ'.length = ks.length)
    (hob : ∀ (j l : Nat) (ob : AObj), ks[j]? = some l → σ'[j]? = some ob → σ[l]? = some (mvO ks ob) ∧ okO ks.length ob = true) : Rel B (G.sel ks) σ' w := by
  have hb : ∀ {j u b : Nat}, (G.sel ks).blk j u = some b → ∃ l, ks[j]? = some l ∧ G.blk l u = some b := by
    intro j u b h
    simp only [Gh.sel] at h
    split at h
    · rename_i l hl; exact ⟨l, hl, h⟩
    · cases h
  have hin : ∀ {j : Nat} {ob : AObj}, σ'[j]? = some ob → ∃ l, ks[j]? = some l := by
    intro j ob h
    have := lt_of_getElem? h
    exact ⟨ks[j]'(by omega), List.getElem?_eq_getElem (by omega)⟩
  refine ⟨hR.below, hR.imm, hR.mimm, hR.siz, fun j u b h => ?_, fun j u j' u' b h h' => ?_, fun j ob b ho h => ?_, fun j cs f u b ho h => ?_, fun j a c b ho h => ?_, fun j ob ho => ?_, fun j ob ho => ?_, hR.bimm, hR.bmimm⟩
  · obtain ⟨l, hl, h⟩ := hb h
    exact ⟨by rw [hlen]; exact lt_of_getElem? hl, (hR.blk _ _ _ h).2⟩
  · obtain ⟨l, hl, h⟩ := hb h
    obtain ⟨l', hl', h'⟩ := hb h'
    have e := hR.inj _ _ _ _ _ h h'
    subst e
    have h1 := lt_of_getElem? hl
    have h2 := lt_of_getElem? hl'
    rw [List.getElem?_eq_getElem h1] at hl
    rw [List.getElem?_eq_getElem h2] at hl'
    have e := (Option.some.inj hl).trans (Option.some.inj hl').symm
    rcases Nat.lt_trichotomy j j' with h3 | h3 | h3
    · exact absurd e (List.pairwise_iff_getElem.1 hnd j j' h1 h2 h3)
    · exact h3
    · exact absurd e.symm (List.pairwise_iff_getElem.1 hnd j' j h2 h1 h3)
  · obtain ⟨l, hl, h⟩ := hb h
    obtain ⟨h1, h2⟩ := hob j l ob hl ho
    exact mvO_obj h2 (hR.obj l _ b h1 (by rw [(mvO_ver ob).1]; exact h))
  · obtain ⟨l, hl, h⟩ := hb h
    obtain ⟨h1, h2⟩ := hob j l _ hl ho
    exact hR.own l _ f u b h1 h
  · obtain ⟨l, hl, h⟩ := hb h
    obtain ⟨h1, h2⟩ := hob j l _ hl ho
    exact hR.ownm l _ _ b h1 h
  · obtain ⟨l, hl⟩ := hin ho
    obtain ⟨h1, h2⟩ := hob j l ob hl ho
    have h3 := hR.ver l _ h1
    rw [(mvO_ver ob).1, (mvO_ver ob).2.2] at h3
    refine ⟨h3.1, fun u b h => ?_⟩
    obtain ⟨l', hl', h⟩ := hb h
    rw [hl] at hl'; cases hl'
    exact h3.2 u b h
  · obtain ⟨l, hl⟩ := hin ho
    obtain ⟨h1, h2⟩ := hob j l ob hl ho
    have h3 := hR.frzle l _ h1
    rw [(mvO_ver ob).2.1, (mvO_ver ob).2.2] at h3
    exact h3

theorem TRel.sel {G : Gh} {N : Nat} {τ τ' : Env} {a : Act} (hT : TRel G N τ a) {ks : List Nat} (h : ∀ t d, get τ' t = some d → get τ t = some (mv ks d) ∧ okv ks.length d = true) : TRel (G.sel ks) N τ' a :=
  ⟨hT.size, hT.defers, fun t d hg => mv_rep (h t d hg).2 (hT.slot t _ (h t d hg).1)⟩

/-- at the head of a round: only what is needed. -/
theorem AWp.gc {P : Program} {N : Nat} {c : Code} {τ τ' : Env} {σ σ' : Sto} {Q : AEx → Env → Sto → Prop} (ks : List Nat) (hnd : ks.Nodup) (hlen : σ'.length = ks.length)
    (hob : ∀ (j l : Nat) (ob : AObj), ks[j]? = some l → σ'[j]? = some ob → σ[l]? = some (mvO ks ob) ∧ okO ks.length ob = true)
    (hτ : ∀ t d, get τ' t = some d → get τ t = some (mv ks d) ∧ okv ks.length d = true) (h : AWp true P N c τ' σ' Q) : AWp true P N c τ σ Q := by
  intro B G w a hR hT
  refine wp_mono (h B (G.sel ks) w a (hR.sel hnd hlen hob) (hT.sel hτ)) fun e a w x => liftQ_le ?_ (fun _ _ _ y => y) e a w x
  exact ⟨fun _ _ _ x => x, fun _ _ x => x, fun _ _ x => x, fun h => by cases h⟩
end Go.Fw
