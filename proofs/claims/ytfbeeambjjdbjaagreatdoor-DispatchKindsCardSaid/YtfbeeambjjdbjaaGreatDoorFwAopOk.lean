import Derived.Test.YtfbeeambjjdbjaaGreatDoorFwAop
namespace Go.Fw
open Go.RowKit

section
variable {P : Program} {T : Tys} {B : Base} {G : Gh} {σ σ' : List AObj} {w : World} {N : Nat} {τ : List (Nat × D)} {a : Act} {d : D}

theorem out_val {s : Sem Value} {u : Value} {w' : World} {G' : Gh} (h : s.run P w = .ok u w') (hle : G.Le G') (hR : Rel B G' σ' w') (hd : Rep G' d u) :
    Out B G d σ' ((do pure (Next.value (← s)) : Sem Next).run P w) :=
  ⟨u, w', G', .inl (by simp [h]), hle, hR, hd⟩

theorem out_same {s : Sem Value} (hR : Rel B G σ w) (h : ∃ u, s.run P w = .ok u w ∧ Rep G d u) : Out B G d σ ((do pure (Next.value (← s)) : Sem Next).run P w) := by
  obtain ⟨u, hu, hd⟩ := h
  exact out_val hu (.refl G) hR hd

theorem out_new {s : Sem Value} (h : ∃ u w' G', s.run P w = .ok u w' ∧ G.Le G' ∧ Rel B G' σ' w' ∧ Rep G' d u) : Out B G d σ' ((do pure (Next.value (← s)) : Sem Next).run P w) := by
  obtain ⟨u, w', G', hu, hle, hR, hd⟩ := h
  exact out_val hu hle hR hd

theorem out_unit {s : Sem Unit} (h : ∃ w', s.run P w = .ok () w' ∧ Rel B G σ' w') : Out B G .junk σ' ((do s; pure Next.skip : Sem Next).run P w) := by
  obtain ⟨w', hu, hR⟩ := h
  exact ⟨undef, w', G, .inr ⟨by simp [hu], rfl⟩, .refl G, hR, by simp only [Rep]⟩

theorem map_some {α β : Type} {x : Option α} {f : α → β} {b : β} (h : x.map f = some b) : ∃ a, x = some a ∧ f a = b := by
  cases x with
  | none => cases h
  | some a => exact ⟨a, rfl, by simpa using h⟩

theorem mapσ {x : Option D} (h : x.map (·, σ) = some (d, σ')) : x = some d ∧ σ' = σ := by
  obtain ⟨a, h1, h2⟩ := map_some h
  cases h2
  exact ⟨h1, rfl⟩

theorem mapj {x : Option (List AObj)} (h : x.map (D.junk, ·) = some (d, σ')) : x = some σ' ∧ d = .junk := by
  obtain ⟨a, h1, h2⟩ := map_some h
  cases h2
  exact ⟨h1, rfl⟩

theorem tySl_of {t : TypeId} {sz : Nat} (h : (tySl P t).map (fun x => SK.slice x.1) = some (.slice sz)) : ∃ by', tySl P t = some (sz, by') := by
  obtain ⟨⟨s, b⟩, h1, h2⟩ := map_some h
  cases h2
  exact ⟨b, h1⟩

def notNum : Value → Bool
  | .int _ _ => false
  | .float _ _ => false
  | .complex _ _ _ => false
  | .string _ => false
  | _ => true

theorem bin_eql {t : TypeId} {u v : Value} (h : notNum u = true) : (binOp .eql t u v).run P w = ((Op.equal t u v).run P w).andThen fun r w' => .ok (.bool r) w' := by
  cases u <;> first | (simp [notNum] at h; done) | (simp only [binOp]; simp)

theorem bin_neq {t : TypeId} {u v : Value} (h : notNum u = true) : (binOp .neq t u v).run P w = ((Op.equal t u v).run P w).andThen fun r w' => .ok (.bool (!r)) w' := by
  cases u <;> first | (simp [notNum] at h; done) | (simp only [binOp]; simp)

theorem bin_ok (hTy : TOk T P) (hT : TRel G N τ a) {op : BinOp} {t : TypeId} {x y : Operand} (h : oBin T τ op t x y = some d) :
    ∃ u, (do eqGuard op t x y (a.eval x) (a.eval y); binOp op t (a.eval x) (a.eval y) : Sem Value).run P w = .ok u w ∧ Rep G d u := by
  unfold oBin at h
  split at h <;> try (cases h; done)
  rename_i dx dy hx hy
  have hxr := ev_ok hT hx
  have hyr := ev_ok hT hy
  generalize a.eval x = u at hxr
  generalize a.eval y = v at hyr
  unfold binD at h
  split at h
  · simp only [Rep] at hxr hyr
    subst hxr hyr
    obtain ⟨r, hr, hrep⟩ := int_ok (P := P) (G := G) (w := w) t h
    refine ⟨r, ?_, hrep⟩
    rw [Sem.run_bind, eqGuard_prim (fun _ _ => .inl (by simp)) (.inl (by simp))]
    exact hr
  · simp only [Rep] at hxr hyr
    subst hxr hyr
    obtain ⟨r, hr, hrep⟩ := str_ok (P := P) (G := G) (w := w) t h
    refine ⟨r, ?_, hrep⟩
    rw [Sem.run_bind, eqGuard_prim (fun _ _ => .inl (by simp)) (.inl (by simp))]
    exact hr
  · rename_i hni hns
    have key : ∀ (ek : EK) (r : Bool), tyEq P t = some ek → eqD (isCst x || isCst y) ek dx dy = some r → (eqGuard op t x y u v).run P w = .ok () w ∧ (Op.equal t u v).run P w = .ok r w ∧ notNum u = true := by
      intro ek r hek hr
      have heq := eq_run (P := P) (G := G) (w := w) hek hr hxr hyr
      have hprim : (∀ xs ys, u ≠ .agg xs ∨ v ≠ .agg ys) → (u ≠ .nilIface ∨ v ≠ .nilIface) → (eqGuard op t x y u v).run P w = .ok () w := eqGuard_prim
      cases ek with
      | prim => cases dx <;> cases dy <;> simp only [eqD] at hr <;> cases hr
      | bool =>
        cases dx <;> cases dy <;> simp only [eqD] at hr <;> try (cases hr; done)
        simp only [Rep] at hxr hyr
        subst hxr hyr
        exact ⟨hprim (fun _ _ => .inl (by simp)) (.inl (by simp)), heq, rfl⟩
      | flat ks =>
        cases dx <;> cases dy <;> simp only [eqD] at hr <;> try (cases hr; done)
        simp only [Rep] at hxr hyr
        obtain ⟨xa, rfl, _⟩ := hxr
        obtain ⟨ya, rfl, _⟩ := hyr
        have hg : P.eqGuardType P.depth t = false := by
          unfold tyEq at hek
          split at hek <;> try (cases hek; done)
          split at hek <;> try (cases hek; done)
          rename_i hg; exact hg
        exact ⟨run_eqGuard_agg w op t x y xa ya hg, heq, rfl⟩
      | iface =>
        cases dx <;> cases dy <;> simp only [eqD] at hr <;> try (cases hr; done)
        all_goals simp only [Rep] at hxr hyr
        · obtain ⟨_, rfl, _⟩ := hxr; subst hyr
          exact ⟨hprim (fun _ _ => .inl (by simp)) (.inl (by simp)), heq, rfl⟩
        · obtain ⟨_, rfl, _⟩ := hyr; subst hxr
          exact ⟨hprim (fun _ _ => .inl (by simp)) (.inr (by simp)), heq, rfl⟩
        · subst hxr hyr
          refine ⟨?_, heq, rfl⟩
          split at hr <;> try (cases hr; done)
          rename_i hcst
          unfold eqGuard
          cases op <;> first | rfl | skip
          all_goals
            cases x <;> cases y <;> first | rfl | (simp [isCst] at hcst)
        · obtain ⟨_, _, rfl⟩ := hyr; subst hxr
          exact ⟨hprim (fun _ _ => .inl (by simp)) (.inr (by simp)), heq, rfl⟩
        · obtain ⟨_, _, rfl⟩ := hxr; subst hyr
          exact ⟨hprim (fun _ _ => .inl (by simp)) (.inl (by simp)), heq, rfl⟩
      | ptr =>
        cases dx <;> cases dy <;> simp only [eqD] at hr <;> try (cases hr; done)
        all_goals simp only [Rep] at hxr hyr
        · subst hxr hyr
          exact ⟨hprim (fun _ _ => .inl (by simp)) (.inl (by simp)), heq, rfl⟩
        · subst hxr
          exact ⟨hprim (fun _ _ => .inl (by simp)) (.inl (by simp)), heq, rfl⟩
        · subst hxr
          exact ⟨hprim (fun _ _ => .inl (by simp)) (.inl (by simp)), heq, rfl⟩
        · obtain ⟨_, _, rfl⟩ := hxr
          exact ⟨hprim (fun _ _ => .inl (by simp)) (.inl (by simp)), heq, rfl⟩
        · obtain ⟨_, _, rfl, _⟩ := hxr
          exact ⟨hprim (fun _ _ => .inl (by simp)) (.inl (by simp)), heq, rfl⟩
      | func =>
        cases dx <;> cases dy <;> simp only [eqD] at hr <;> try (cases hr; done)
        all_goals simp only [Rep] at hxr hyr
        · obtain ⟨_, _, rfl, _⟩ := hxr
          exact ⟨hprim (fun _ _ => .inl (by simp)) (.inl (by simp)), heq, rfl⟩
        · subst hxr
          exact ⟨hprim (fun _ _ => .inl (by simp)) (.inl (by simp)), heq, rfl⟩
        · subst hxr
          exact ⟨hprim (fun _ _ => .inl (by simp)) (.inl (by simp)), heq, rfl⟩
      | map =>
        cases dx <;> cases dy <;> simp only [eqD] at hr <;> try (cases hr; done)
        all_goals simp only [Rep] at hxr hyr
        · obtain ⟨_, _, rfl⟩ := hxr
          exact ⟨hprim (fun _ _ => .inl (by simp)) (.inl (by simp)), heq, rfl⟩
        · subst hxr
          exact ⟨hprim (fun _ _ => .inl (by simp)) (.inl (by simp)), heq, rfl⟩
        · subst hxr
          exact ⟨hprim (fun _ _ => .inl (by simp)) (.inl (by simp)), heq, rfl⟩
        · subst hxr
          exact ⟨hprim (fun _ _ => .inl (by simp)) (.inl (by simp)), heq, rfl⟩
        · obtain ⟨_, _, rfl, _⟩ := hxr
          exact ⟨hprim (fun _ _ => .inl (by simp)) (.inl (by simp)), heq, rfl⟩
    split at h <;> try (cases h; done)
    · rename_i ek hek
      obtain ⟨r, hr, rfl⟩ := map_some h
      obtain ⟨k1, k2, k3⟩ := key ek r (lk_of hTy.eq hek) hr
      refine ⟨.bool r, ?_, by simp only [Rep]⟩
      rw [Sem.run_bind, k1, Result.andThen_ok, bin_eql k3, k2]; rfl
    · rename_i ek hek
      obtain ⟨r, hr, rfl⟩ := map_some h
      obtain ⟨k1, k2, k3⟩ := key ek r (lk_of hTy.eq hek) hr
      refine ⟨.bool (!r), ?_, by simp only [Rep]⟩
      rw [Sem.run_bind, k1, Result.andThen_ok, bin_neq k3, k2]; rfl

set_option maxHeartbeats 1000000 in
theorem aop_ok (hTy : TOk T P) (hR : Rel B G σ w) (hT : TRel G N τ a) (o : Oper) (h : aop T τ σ o.op = some (d, σ')) : Out B G d σ' ((execOp a.eval o).run P w) := by
  obtain ⟨dst, op, ty, pos, after, guard⟩ := o
  simp only at h
  unfold execOp
  cases op <;> simp only [aop] at h ⊢ <;> try (cases h; done)
  case move x =>
    obtain ⟨hx, rfl⟩ := mapσ h
    exact .here hR (ev_ok hT hx)
  case assign x =>
    obtain ⟨hx, rfl⟩ := mapσ h
    exact .here hR (ev_ok hT hx)
  case pick c x y =>
    obtain ⟨hx, rfl⟩ := mapσ h
    unfold oPick at hx
    split at hx <;> try (cases hx; done)
    rename_i r hc
    have hcr := ev_ok hT hc
    simp only [Rep] at hcr
    simp only [hcr, asBool, Sem.run_bind, Sem.run_pure, Result.andThen_ok]
    cases r
    · exact .here hR (ev_ok hT hx)
    · exact .here hR (ev_ok hT hx)
  case alloc e =>
    obtain ⟨cs, hz, h2⟩ := map_some h
    cases h2
    have hz := lk_of hTy.zero hz
    obtain ⟨w', G', v, h1, h2, h3, h4⟩ := alloc_ok hR hz
    exact out_val h1 h2 h3 h4
  case box e x =>
    unfold oBox at h
    split at h <;> try (cases h; done)
    rename_i dx hx
    split at h <;> try (cases h; done)
    rename_i cs hcs
    cases h
    obtain ⟨w', G', v, h1, h2, h3, h4⟩ := box_ok (P := P) (t := e) hR hcs (ev_ok hT hx)
    exact out_val h1 h2 h3 h4
  case build t ps =>
    obtain ⟨hx, rfl⟩ := mapσ h
    unfold oBuild at hx
    split at hx <;> try (cases hx; done)
    rename_i z bk ds htb hp
    have htb := lk_of hTy.build htb
    obtain ⟨out, hf, rfl⟩ := map_some hx
    obtain ⟨hl, hpp⟩ := evp_ok hT hp
    refine out_same hR (build_ok htb hf (by simpa using hl) (fun j i d hj => ?_))
    obtain ⟨v, hv, hr⟩ := hpp j i d hj
    exact ⟨v, by simpa using hv, hr⟩
  case buildSlice t len ps =>
    obtain ⟨hx, rfl⟩ := mapσ h
    unfold oBuildSlice at hx
    split at hx <;> try (cases hx; done)
    rename_i z sz ds htb hp
    have htb := lk_of hTy.bs htb
    split at hx <;> try (cases hx; done)
    rename_i hlen
    obtain ⟨out, hf, rfl⟩ := map_some hx
    obtain ⟨hl, hpp⟩ := evp_ok hT hp
    refine out_new (buildSlice_ok hR htb hlen hf (by simpa using hl) (fun j i d hj => ?_))
    obtain ⟨v, hv, hr⟩ := hpp j i d hj
    exact ⟨v, by simpa using hv, hr⟩
  case load t x =>
    obtain ⟨hx, rfl⟩ := mapσ h
    unfold oLoad at hx
    split at hx <;> try (cases hx; done)
    rename_i n b dx ht hdx
    have ht := lk_of hTy.ld ht
    split at hx <;> try (cases hx; done)
    rename_i hb
    split at hx <;> try (cases hx; done)
    rename_i cs hcs
    obtain ⟨u, hu, hrep⟩ := load_ok hR ht (ev_ok hT hdx) hcs hb
    refine out_same hR ⟨u, hu, ?_⟩
    unfold ldFin at hx
    cases b with
    | true => simp only [if_true, Option.some.injEq] at hx hrep; subst hx; exact hrep
    | false =>
      simp only [Bool.false_eq_true, if_false] at hx hrep
      obtain ⟨y, rfl, hy⟩ := hrep
      simp only [Option.some.injEq] at hx
      subst hx; exact hy
  case store t p x =>
    obtain ⟨hx, rfl⟩ := mapj h
    unfold oStore at hx
    split at hx <;> try (cases hx; done)
    rename_i n b dp dx ht hdp hdx
    have ht := lk_of hTy.ld ht
    split at hx <;> try (cases hx; done)
    rename_i cs hcs
    split at hx <;> try (cases hx; done)
    rename_i hn
    exact out_unit (store_ok hR ht hcs hn hx (ev_ok hT hdp) (ev_ok hT hdx))
  case nilCheck x =>
    obtain ⟨hx, rfl⟩ := mapσ h
    unfold oNil at hx
    split at hx <;> try (cases hx; done)
    all_goals
      rename_i hdx
      cases hx
      have hr := ev_ok hT hdx
      have hr0 := hr
      simp only [Rep] at hr
    · obtain ⟨b, _, he⟩ := hr
      rw [he] at hr0 ⊢
      exact .here hR hr0
    · obtain ⟨b, _, he, _⟩ := hr
      rw [he] at hr0 ⊢
      exact .here hR hr0
    · obtain ⟨b, he, _⟩ := hr
      rw [he] at hr0 ⊢
      exact .here hR hr0
    · obtain ⟨b, _, he⟩ := hr
      rw [he] at hr0 ⊢
      exact .here hR hr0
    · obtain ⟨b, _, he, _⟩ := hr
      rw [he] at hr0 ⊢
      exact .here hR hr0
  case binOp op t x y yt =>
    obtain ⟨hx, rfl⟩ := mapσ h
    exact out_same hR (bin_ok hTy hT hx)
  case unOp op t x =>
    obtain ⟨hx, rfl⟩ := mapσ h
    unfold oUn at hx
    split at hx <;> try (cases hx; done)
    rename_i dx hdx
    exact out_same hR (un_ok hx (ev_ok hT hdx))
  case convert s t x =>
    obtain ⟨hx, rfl⟩ := mapσ h
    unfold oConv at hx
    split at hx <;> try (cases hx; done)
    rename_i ck dx ht hdx
    have ht := lk2_of hTy.conv ht
    exact out_new (conv_ok hR ht hx (ev_ok hT hdx))
  case makeInterface t x =>
    obtain ⟨hx, rfl⟩ := mapσ h
    unfold oIface at hx
    split at hx <;> try (cases hx; done)
    rename_i dx hdx
    split at hx <;> try (cases hx; done)
    rename_i hc0 hc
    cases hx
    have hc : tyConcrete P t = true := by
      have := lk_of hTy.conc hc
      unfold tyConc at this
      split at this <;> first | assumption | cases this
    exact out_same hR ⟨_, mkIface_ok hc _, by simp only [Rep]; exact ⟨_, rfl, ev_ok hT hdx⟩⟩
  case makeFunc fn fs cs =>
    obtain ⟨hx, rfl⟩ := mapσ h
    unfold oFunc at hx
    split at hx <;> try (cases hx; done)
    rename_i ds es h1 h2
    cases hx
    refine out_same hR ⟨_, rfl, ?_⟩
    simp only [Rep]
    exact ⟨_, _, rfl, by simpa using evs_ok hT h1, by simpa using evs_ok hT h2⟩
  case makeMap t r =>
    cases r with
    | some r => simp only [] at h; cases h
    | none =>
      simp only [Option.some.injEq, Prod.mk.injEq] at h
      obtain ⟨rfl, rfl⟩ := h
      exact out_new (makeMap_ok hR t)
  case makeSlice t l c =>
    unfold oMakeSlice at h
    split at h <;> try (cases h; done)
    rename_i dl dc hl hc
    exact out_new (makeSlice_ok hR (fun _ h => lk_of hTy.bs h) (fun _ h => lk_of hTy.msl h) h (ev_ok hT hl) (ev_ok hT hc))
  case slice t x lo hi mx =>
    obtain ⟨hx, rfl⟩ := mapσ h
    unfold oSlice at hx
    split at hx <;> try (cases hx; done)
    rename_i sk dx dl dh dm hsk hdx hl hh hm
    have hsk := lk_of hTy.sli hsk
    split at hx <;> try (cases hx; done)
    rename_i l h' m ol oh om
    have vl := optInt_ok ol (evo_ok hT hl)
    have vh := optInt_ok oh (evo_ok hT hh)
    have vm := optInt_ok om (evo_ok hT hm)
    have hdr := ev_ok hT hdx
    split at hx
    · rename_i sz
      unfold tySlice at hsk
      split at hsk <;> try (cases hsk; done)
      · obtain ⟨by', hts⟩ := tySl_of hsk
        exact out_same hR (slice_ok hts hx vl vh vm hdr)
      · split at hsk <;> try (cases hsk; done)
        split at hsk <;> cases hsk
    · unfold tySlice at hsk
      split at hsk <;> try (cases hsk; done)
      · rename_i hu
        split at hx <;> try (cases hx; done)
        unfold slStr at hx
        split at hx <;> try (cases hx; done)
        rename_i s
        split at hx <;> try (cases hx; done)
        rename_i l2 h2 f hb
        cases hx
        simp only [Rep] at hdr
        rw [hdr]
        generalize Option.map a.eval mx = mv at vm ⊢
        cases vm
        exact out_same hR ⟨_, sliceStr_ok hu hb vl vh, by simp only [Rep]⟩
      · obtain ⟨_, _, h2⟩ := map_some hsk; cases h2
      · split at hsk <;> try (cases hsk; done)
        split at hsk <;> cases hsk
    · rename_i n sz
      split at hx <;> try (cases hx; done)
      rename_i cs hcs
      unfold tySlice at hsk
      split at hsk <;> try (cases hsk; done)
      · obtain ⟨_, _, h2⟩ := map_some hsk; cases h2
      · split at hsk <;> try (cases hsk; done)
        rename_i n' sz' hta
        split at hsk <;> try (cases hsk; done)
        rename_i hn
        cases hsk
        exact out_same hR (sliceArr_ok hR hta hn hcs hx vl vh vm hdr)
  case fieldAddr s x f =>
    obtain ⟨hx, rfl⟩ := mapσ h
    unfold oFieldAddr at hx
    split at hx <;> try (cases hx; done)
    rename_i off dx ht hdx
    have ht := lk2_of hTy.fld ht
    exact out_same hR (fieldAt_ok ht hx (ev_ok hT hdx))
  case field s x f =>
    obtain ⟨hx, rfl⟩ := mapσ h
    unfold oField at hx
    split at hx <;> try (cases hx; done)
    rename_i off n b cs ht hdx
    have ht := lk2_of hTy.fldV ht
    exact out_same hR (field_ok ht hx (ev_ok hT hdx))
  case indexAddr t x i =>
    obtain ⟨hx, rfl⟩ := mapσ h
    unfold oIndexAddr at hx
    split at hx <;> try (cases hx; done)
    rename_i ik dx di hik hdx hdi
    have hik := lk_of hTy.idx hik
    split at hx <;> try (cases hx; done)
    rename_i n hn
    split at hx
    · unfold tyIdx at hik
      split at hik <;> try (cases hik; done)
      · obtain ⟨⟨s, b⟩, h1, h2⟩ := map_some hik
        cases h2
        exact out_same hR (indexAtSl_ok h1 hn hx (ev_ok hT hdx) (ev_ok hT hdi))
      · obtain ⟨_, _, h2⟩ := map_some hik; cases h2
    · unfold tyIdx at hik
      split at hik <;> try (cases hik; done)
      · obtain ⟨_, _, h2⟩ := map_some hik; cases h2
      · obtain ⟨⟨l, s⟩, h1, h2⟩ := map_some hik
        cases h2
        split at hx <;> try (cases hx; done)
        rename_i hb
        exact out_same hR (indexAtArr_ok h1 hn hb.1 hb.2 hx (ev_ok hT hdx) (ev_ok hT hdi))
  case index t x i =>
    obtain ⟨hx, rfl⟩ := mapσ h
    unfold oIndex at hx
    split at hx <;> try (cases hx; done)
    rename_i ik dx di hik hdx hdi
    have hik := lk_of hTy.idxV hik
    split at hx <;> try (cases hx; done)
    rename_i n hn
    have hdr := ev_ok hT hdx
    split at hx <;> try (cases hx; done)
    · rename_i s
      unfold tyIdxV at hik
      split at hik <;> try (cases hik; done)
      · rename_i hu
        unfold strAt at hx
        split at hx <;> try (cases hx; done)
        rename_i h0
        split at hx <;> try (cases hx; done)
        rename_i b hb
        cases hx
        simp only [Rep] at hdr
        rw [hdr]
        exact out_same hR (indexStr_ok hu hn h0 hb (ev_ok hT hdi))
      · split at hik <;> cases hik
    · rename_i len sz b cs
      split at hx <;> try (cases hx; done)
      rename_i hb
      unfold tyIdxV at hik
      split at hik <;> try (cases hik; done)
      rename_i e hu
      split at hik <;> try (cases hik; done)
      rename_i n' b' he
      cases hik
      exact out_same hR (indexArr_ok hu he hn hb.1 hb.2 hx hdr (ev_ok hT hdi))
  case lookup t m k ok =>
    obtain ⟨hx, rfl⟩ := mapσ h
    unfold oLookup at hx
    split at hx <;> try (cases hx; done)
    rename_i lk z dm dk ht hm hk
    have ht := lk_of hTy.map ht
    exact out_same hR (lookup_ok hR ht hx (ev_ok hT hm) (ev_ok hT hk))
  case mapUpdate t m k x =>
    obtain ⟨hx, rfl⟩ := mapj h
    unfold oUpd at hx
    split at hx <;> try (cases hx; done)
    rename_i lk z dm dk dx ht hm hk hdx
    have ht := lk_of hTy.map ht
    exact out_unit (upd_ok hR ht hx (ev_ok hT hm) (ev_ok hT hk) (ev_ok hT hdx))
  case insert t m k x =>
    obtain ⟨hx, rfl⟩ := mapj h
    unfold oUpd at hx
    split at hx <;> try (cases hx; done)
    rename_i lk z dm dk dx ht hm hk hdx
    have ht := lk_of hTy.map ht
    exact out_unit (upd_ok hR ht hx (ev_ok hT hm) (ev_ok hT hk) (ev_ok hT hdx))
  case range t x =>
    unfold oRange at h
    split at h <;> try (cases h; done)
    · rename_i s hdx
      split at h <;> try (cases h; done)
      rename_i hst
      cases h
      have hdr := ev_ok hT hdx
      simp only [Rep] at hdr
      have hst := lk_of hTy.sli hst
      unfold tySlice at hst
      split at hst
      · rename_i hu
        rw [hdr]
        exact out_new (rangeStr_ok hR hu s)
      · obtain ⟨_, _, h2⟩ := map_some hst; cases h2
      · split at hst <;> try (cases hst; done)
        split at hst <;> cases hst
      · cases hst
    · rename_i ks vs hdx
      split at h <;> try (cases h; done)
      rename_i lz hst
      cases h
      obtain ⟨lk', z⟩ := lz
      obtain ⟨k, e, kd, i, v, hu, _⟩ := tyMap_inv (lk_of hTy.map hst)
      exact out_new (rangeMap_ok hR hu (ev_ok hT hdx))
  case entry it =>
    obtain ⟨hx, rfl⟩ := mapσ h
    unfold oEntry at hx
    split at hx <;> try (cases hx; done)
    rename_i di hdi
    exact out_same hR (entryMap_ok hR hx (ev_ok hT hdi))
  case next it isS =>
    cases isS with
    | false => simp only [] at h; cases h
    | true =>
      simp only at h
      split at h <;> try (cases h; done)
      rename_i di hdi
      obtain ⟨u, w', h1, h2, h3⟩ := nextStr_ok (P := P) hR ty h (ev_ok hT hdi)
      exact out_val h1 (.refl G) h2 h3
  case extract x i =>
    obtain ⟨hx, rfl⟩ := mapσ h
    unfold oExtract at hx
    split at hx <;> try (cases hx; done)
    rename_i ds hds
    exact out_same hR (extract_ok hx (ev_ok hT hds))
  case call c =>
    obtain ⟨callee, args, ats⟩ := c
    cases callee <;> simp only [] at h <;> try (cases h; done)
    rename_i b
    simp only [resolve, Sem.run_bind, Sem.run_pure, Result.andThen_ok, invoke]
    unfold oBuiltin at h
    generalize hal : args.toList = al at h
    generalize htl : ats.toList = tl at h
    split at h <;> try (cases h; done)
    · unfold oLen at h
      split at h <;> try (cases h; done)
      rename_i x t
      split at h <;> try (cases h; done)
      rename_i k dx hk hdx
      have hk := lk_of hTy.len hk
      obtain ⟨n, hn, h2⟩ := map_some h
      cases h2
      have ha : args = #[x] := by apply Array.ext'; simpa using hal
      have ht : ats = #[t] := by apply Array.ext'; simpa using htl
      subst ha ht
      simp only [builtin, List.map_toArray, List.map_cons, List.map_nil]
      have hrep : Rep G (.int .i64 (n : Int)) (.int .i64 (n : Int)) := by simp only [Rep]
      exact out_same hR ⟨.int .i64 n, len_ok hk hn (ev_ok hT hdx), hrep⟩
    · unfold oAppend at h
      split at h <;> try (cases h; done)
      rename_i s x t tx
      split at h <;> try (cases h; done)
      rename_i sz by' ds dx ht' hds hdx
      have ht' := lk2_of hTy.app ht'
      have ha : args = #[s, x] := by apply Array.ext'; simpa using hal
      have ht : ats = #[t, tx] := by apply Array.ext'; simpa using htl
      subst ha ht
      simp only [builtin, List.map_toArray, List.map_cons, List.map_nil]
      exact out_new (append_ok hR ht' h (ev_ok hT hds) (ev_ok hT hdx))
    · unfold oMM at h
      split at h <;> try (cases h; done)
      rename_i ds hds
      obtain ⟨r, hr, h2⟩ := map_some h
      cases h2
      obtain ⟨u, hu, hrep⟩ := max_ok (P := P) (w := w) ats ty hr (evs_ok hT hds)
      refine out_same (s := Builtin.max_ ats ty _) hR ⟨u, ?_, hrep⟩
      rw [← hu, ← hal]
      congr 2
      apply Array.ext'
      simp
    · unfold oMM at h
      split at h <;> try (cases h; done)
      rename_i ds hds
      obtain ⟨r, hr, h2⟩ := map_some h
      cases h2
      obtain ⟨u, hu, hrep⟩ := min_ok (P := P) (w := w) ats ty hr (evs_ok hT hds)
      refine out_same (s := Builtin.min_ ats ty _) hR ⟨u, ?_, hrep⟩
      rw [← hu, ← hal]
      congr 2
      apply Array.ext'
      simp
end
end Go.Fw
