import Derived.Test.YtfbeeambjjdbjaaGreatDoorFwCtx
namespace Go.Fw
open Go.RowKit

section
variable {P : Program} {T : Tys} {N : Nat} {o : Oper} {τ : Env} {σ σ1 : Sto}

/-- which function a call enters, and with what. -/
def callD (T : Tys) (τ : Env) (c : Call) : Option (FuncId × List D) :=
  match c.callee with
  | .value x => match ev τ x, evs τ c.args.toList with
    | some (.func (.func f) first cap), some ds => some (f, first ++ ds ++ cap)
    | _, _ => none
  | .invoke x name => match ev τ x, evs τ c.args.toList with
    | some (.iface t v), some ds => match lkM T.meth t name with
      | some f => some (f, v :: ds)
      | none => none
    | _, _ => none
  | _ => none

theorem callFunc_run {f : FuncId} {w : World} (hf : FnOk P f) (args : Array Value) : (callFunc f args).run P w = .ok (.enter f args) w := by
  obtain ⟨fn, hfn, hbody, hname⟩ := hf
  have hb : fn.body.isNone = false := by
    cases hfb : fn.body with
    | none => rw [hfb] at hbody; cases hbody
    | some b => rfl
  simp only [callFunc, Sem.run_bind, run_program, Result.andThen_ok, hfn, hname, Bool.false_eq_true, if_false, hb, Sem.run_pure]

theorem method_run {t : TypeId} {v : Value} {name : String} {f : FuncId} {w : World} (n : Nat) (h : tyMeth P t name = some f) : (method (n + 1) t v name).run P w = .ok (f, v) w := by
  unfold tyMeth at h
  split at h <;> try (cases h; done)
  rename_i i hi
  split at h <;> try (cases h; done)
  rename_i m hm
  split at h <;> try (cases h; done)
  rename_i f' fs hpath hfunc hu
  cases h
  unfold method
  have hpe : m.path.toList = [] := hpath
  simp only [typeInfo, Sem.run_bind, run_program, Result.andThen_ok, hi, Sem.run_pure, hm, hpe, follow, hfunc, receiverAt, run_underlying hu, Place.get]

theorem callD_run {T : Tys} (hTy : TOk T P) {G : Gh} {a : Act} {c : Call} {f : FuncId} {ds : List D} {w : World} {ty : TypeId} (hT : TRel G N τ a) (h : callD T τ c = some (f, ds)) :
    ∃ vals, Reps G ds vals ∧ (do let d ← resolve a.eval c ty; invoke d.target d.args : Sem Next).run P w = (callFunc f vals.toArray).run P w := by
  unfold callD at h
  split at h
  · rename_i x hc
    split at h <;> try (cases h; done)
    rename_i f' first cap ds' hx has
    cases h
    have hxr := ev_ok hT hx
    simp only [Rep] at hxr
    obtain ⟨fa, ca, hfv, hfr, hcr⟩ := hxr
    have har := evs_ok hT has
    refine ⟨fa.toList ++ c.args.toList.map a.eval ++ ca.toList, (hfr.append har).append hcr, ?_⟩
    simp only [resolve, hc, hfv, Deferred.ofValue, Sem.run_bind, Sem.run_pure, Result.andThen_ok, invoke]
    congr 2
    apply Array.ext'
    simp
  · rename_i x name hc
    split at h <;> try (cases h; done)
    rename_i t v ds' hx has
    split at h <;> try (cases h; done)
    rename_i f' hm
    cases h
    have hxr := ev_ok hT hx
    simp only [Rep] at hxr
    obtain ⟨y, hy, hyr⟩ := hxr
    have har := evs_ok hT has
    refine ⟨y :: c.args.toList.map a.eval, by simp only [Reps]; exact ⟨_, _, rfl, hyr, har⟩, ?_⟩
    have hm := lkM_of (f := tyMeth P) hTy.meth hm
    simp only [resolve, hc, Sem.run_bind, Sem.run_pure, Result.andThen_ok, invoke]
    have h0 : (#[a.eval x] ++ c.args.map a.eval)[0]? = some (a.eval x) := by rw [Array.getElem?_append_left (by simp)]; rfl
    simp only [h0]
    rw [hy]
    simp only [callMethod, Sem.run_bind, run_program, Result.andThen_ok]
    have hpos : 0 < Made.depth := by decide
    obtain ⟨n, hn⟩ : ∃ n, P.types.size + Made.depth = n + 1 := ⟨P.types.size + Made.depth - 1, by omega⟩
    rw [hn, method_run n hm]
    simp only [Result.andThen_ok]
    congr 2
    apply Array.ext'
    simp [List.take_of_length_le]
  · cases h

theorem aop_call {T : Tys} (hTy : TOk T P) {c : Call} {f : FuncId} {ds ds' : List D} {K : D → Sto → Prop} (ho : o.op = .call c) (hc : callD T τ c = some (f, ds))
    (hz : frzCs σ ds = some (ds', σ1)) (hf : FnOk P f) (h : ACall P f ds' σ1 K) : AOp P N o τ σ K := by
  intro B G w a hR hT next Q hn
  obtain ⟨vals, hall, hinv⟩ := callD_run hTy (w := w) (ty := o.type) hT hc
  rw [callFunc_run hf] at hinv
  obtain ⟨G1, l1, R1, r1⟩ := frzCs_ok hR hz hall
  have hrun : (execOp a.eval o).run P w = .ok (.enter f vals.toArray) w := by
    unfold execOp
    rw [ho]
    exact hinv
  unfold Oper.wp
  rw [hrun, Oper.upon_enter]
  refine (h B G1 w _ R1 r1).mono ?_
  rintro e w' ⟨v, G', d, σ', rfl, h1, h2, h3, h4⟩
  exact hn v w' G' d σ' (l1.trans h1.le) h2 h3 h4

/-! ### functions without a body -/
def extD (k : ExK) (ds : List D) : Option D :=
  match k, ds with
  | .count, [.str s, .int .u8 c] => some (.int .i64 ((⟨s.toArray⟩ : ByteArray).foldl (fun (n : Int) x => if x == c.toNat.toUInt8 then n + 1 else n) ((0 : Nat) : Int)))
  | .indexByte, [.str s, .int .u8 c] => some (match (List.range (⟨s.toArray⟩ : ByteArray).size).find? fun i => (⟨s.toArray⟩ : ByteArray)[i]! == c.toNat.toUInt8 with
    | some i => .int .i64 i
    | none => .int .i64 (-1))
  | _, _ => none

theorem ext_find1 : Extern.allNextRows.lookup "internal/bytealg.CountString" = none := by kernel_rfl
theorem ext_find2 : Extern.allNextRows.lookup "internal/bytealg.IndexByteString" = none := by kernel_rfl
theorem ext_find0 : Extern.allNextRows.lookup "" = none := by kernel_rfl
theorem ext_find3 : Extern.allGenericRows.lookup "internal/bytealg.CountString" = none := by kernel_rfl
theorem ext_find4 : Extern.allGenericRows.lookup "internal/bytealg.IndexByteString" = none := by kernel_rfl
theorem ext_find5 : Extern.allTypedRows.lookup "internal/bytealg.CountString" = none := by kernel_rfl
theorem ext_find6 : Extern.allTypedRows.lookup "internal/bytealg.IndexByteString" = none := by kernel_rfl
theorem ext_find7 : Extern.allRows.lookup "internal/bytealg.CountString" = some Extern.BytealgCount.count := by kernel_rfl
theorem ext_find8 : Extern.allRows.lookup "internal/bytealg.IndexByteString" = some Extern.BytealgIndexByte.indexByte := by kernel_rfl

def extFn : ExK → Array Value → Sem Value
  | .count => Extern.BytealgCount.count
  | .indexByte => Extern.BytealgIndexByte.indexByte

theorem mark_run (m : Mark) (w : World) : (mark m).run P w = .ok () w := rfl

theorem callFunc_ext {f : FuncId} {k : ExK} {w : World} (h : tyExt P f = some k) (args : Array Value) : (callFunc f args).run P w = ((extFn k args).run P w).andThen fun v w' => .ok (.value v) w' := by
  unfold tyExt at h
  split at h <;> try (cases h; done)
  rename_i fn hfn
  split at h <;> try (cases h; done)
  rename_i hb
  split at h <;> try (cases h; done)
  rename_i ho
  have ho : fn.origin = "" := by simpa using ho
  split at h
  · rename_i hn
    have hn : fn.name = "internal/bytealg.CountString" := by simpa using hn
    cases h
    have h1 : (fn.name == "runtime.NumGoroutine") = false := by rw [hn]; rfl
    have h2 : Extern.findNext fn = none := by unfold Extern.findNext; simp only [hn, ho, ext_find1, ext_find0]; rfl
    have h3 : Extern.find fn = some Extern.BytealgCount.count := by unfold Extern.find; simp only [hn, ho, ext_find3, ext_find5, ext_find7]; rfl
    simp only [callFunc, Sem.run_bind, run_program, Result.andThen_ok, hfn, h1, Bool.false_eq_true, if_false, hb, Option.isNone_none, if_true, mark_run, h2, h3]
    rfl
  · split at h <;> try (cases h; done)
    rename_i hn
    have hn : fn.name = "internal/bytealg.IndexByteString" := by simpa using hn
    cases h
    have h1 : (fn.name == "runtime.NumGoroutine") = false := by rw [hn]; rfl
    have h2 : Extern.findNext fn = none := by unfold Extern.findNext; simp only [hn, ho, ext_find2, ext_find0]; rfl
    have h3 : Extern.find fn = some Extern.BytealgIndexByte.indexByte := by unfold Extern.find; simp only [hn, ho, ext_find4, ext_find6, ext_find8]; rfl
    simp only [callFunc, Sem.run_bind, run_program, Result.andThen_ok, hfn, h1, Bool.false_eq_true, if_false, hb, Option.isNone_none, if_true, mark_run, h2, h3]
    rfl

theorem extD_ok {k : ExK} {ds : List D} {d : D} {G : Gh} {vals : List Value} {w : World} (h : extD k ds = some d) (hv : Reps G ds vals) : ∃ v, (extFn k vals.toArray).run P w = .ok v w ∧ Rep G d v := by
  unfold extD at h
  split at h <;> try (cases h; done)
  · rename_i s c
    cases h
    simp only [Reps, Rep] at hv
    obtain ⟨v1, r1, rfl, rfl, v2, r2, rfl, rfl, rfl⟩ := hv
    exact ⟨_, rfl, by simp only [Rep]; rfl⟩
  · rename_i s c
    cases h
    simp only [Reps, Rep] at hv
    obtain ⟨v1, r1, rfl, rfl, v2, r2, rfl, rfl, rfl⟩ := hv
    cases hf : (List.range (⟨s.toArray⟩ : ByteArray).size).find? fun i => (⟨s.toArray⟩ : ByteArray)[i]! == c.toNat.toUInt8 with
    | some i =>
      refine ⟨.int .i64 i, ?_, by simp only [Rep]⟩
      show (match (List.range (⟨s.toArray⟩ : ByteArray).size).find? fun i => (⟨s.toArray⟩ : ByteArray)[i]! == c.toNat.toUInt8 with
        | some i => (Pure.pure (goInt i) : Sem Value)
        | none => Pure.pure (goInt (-1))).run P w = _
      rw [hf]; rfl
    | none =>
      refine ⟨.int .i64 (-1), ?_, by simp only [Rep]⟩
      show (match (List.range (⟨s.toArray⟩ : ByteArray).size).find? fun i => (⟨s.toArray⟩ : ByteArray)[i]! == c.toNat.toUInt8 with
        | some i => (Pure.pure (goInt i) : Sem Value)
        | none => Pure.pure (goInt (-1))).run P w = _
      rw [hf]; rfl

theorem aop_ext {T : Tys} (hTy : TOk T P) {c : Call} {f : FuncId} {k : ExK} {ds : List D} {d : D} (ho : o.op = .call c) (hc : callD T τ c = some (f, ds))
    (hk : lk T.ext f = some k) (hd : extD k ds = some d) : AOp P N o τ σ (fun d' s => d' = d ∧ s = σ) := by
  intro B G w a hR hT next Q hn
  obtain ⟨vals, hall, hinv⟩ := callD_run hTy (w := w) (ty := o.type) hT hc
  rw [callFunc_ext (lk_of hTy.ext hk)] at hinv
  obtain ⟨v, h1, h2⟩ := extD_ok (P := P) (w := w) hd hall
  rw [h1] at hinv
  have hrun : (execOp a.eval o).run P w = .ok (.value v) w := by
    unfold execOp
    rw [ho]
    exact hinv
  unfold Oper.wp
  rw [hrun]
  exact hn v w G d σ (.refl G) hR h2 ⟨rfl, rfl⟩

/-- a step over a map: any entry that is left. -/
theorem aop_nextM {it : Operand} {l : Nat} {ks vs : List D} {rem : List Nat} {cur : Option Nat} (ho : o.op = .next it false) (hit : ev τ it = some (.ptr l 0 0)) (hl : σ[l]? = some (.miter ks vs rem cur)) :
    AOp P N o τ σ (fun d s => (rem = [] ∧ d = .tuple [.bool false] ∧ s = σ) ∨
      (∃ i a b, i ∈ rem ∧ ks[i]? = some a ∧ vs[i]? = some b ∧ d = .tuple [.bool true, a, b] ∧ s = σ.set l (.miter ks vs (rem.filter (· != i)) (some i)))) := by
  intro B G w a hR hT next Q hn
  obtain ⟨u, w', hrun, h⟩ := nextMap_ok (P := P) hR o.type hl (ev_ok hT hit)
  have hex : (execOp a.eval o).run P w = .ok (.value u) w' := by
    obtain ⟨dst, op, ty, pos, after, guard⟩ := o
    simp only at ho
    subst ho
    unfold execOp
    simp only [Sem.run_bind, hrun, Result.andThen_ok, Sem.run_pure]
  unfold Oper.wp
  rw [hex]
  rcases h with ⟨h1, h2, h3⟩ | ⟨i, x, y, h1, h2, h3, h4, h5⟩
  · exact hn u w' G _ _ (.refl G) h2 h3 (.inl ⟨h1, rfl, rfl⟩)
  · exact hn u w' G _ _ (.refl G) h4 h5 (.inr ⟨i, x, y, h1, h2, h3, rfl, rfl⟩)

/-! ### the oracle: what is known of functions that are handed data -/
def KOk (P : Program) (K : FuncId → List D → Option D) : Prop := ∀ f ds d, K f ds = some d → FnOk P f ∧ PureOK P f ds d

def callE (T : Tys) (K : FuncId → List D → Option D) (τ : Env) (σ : Sto) (c : Call) : Option (D × Sto) :=
  match callD T τ c with
  | some (f, ds) => match lk T.ext f with
    | some k => match extD k ds with
      | some d => some (d, σ)
      | none => none
    | none => match frzCs σ ds with
      | some (ds', σ1) => match K f ds' with
        | some d => some (d, σ1)
        | none => none
      | none => none
  | _ => none

def isBuiltin : Callee → Bool
  | .builtin _ => true
  | _ => false

def opE (T : Tys) (K : FuncId → List D → Option D) (τ : Env) (σ : Sto) (op : Op) : Option (D × Sto) :=
  match op with
  | .call c => match isBuiltin c.callee with
    | true => aop T τ σ op
    | false => callE T K τ σ c
  | _ => aop T τ σ op

theorem aop_E (hTy : TOk T P) {K : FuncId → List D → Option D} (hK : KOk P K) {d : D} {σ' : Sto} (h : opE T K τ σ o.op = some (d, σ')) : AOp P N o τ σ (fun d' s => d' = d ∧ s = σ') := by
  unfold opE at h
  split at h
  · rename_i c hop
    split at h
    · exact aop_aop hTy h
    · unfold callE at h
      split at h <;> try (cases h; done)
      rename_i f ds hc
      split at h
      · rename_i k hk
        split at h <;> try (cases h; done)
        rename_i d' hd
        cases h
        exact aop_ext hTy hop hc hk hd
      · split at h <;> try (cases h; done)
        rename_i ds' σ1 hz
        split at h <;> try (cases h; done)
        rename_i d' hk
        cases h
        obtain ⟨h1, h2⟩ := hK _ _ _ hk
        exact aop_call hTy hop hc hz h1 (h2.acall _)
  · exact aop_aop hTy h

/-! ### a region in its written order -/
def wantD (all : Array Oper) (τ : Env) (o : Oper) : Option Bool :=
  match o.guard with
  | none => some true
  | some (j, want) => match (all[j]?).bind (·.dst) with
    | some t => match get τ t with
      | some (.bool b) => some (b == want)
      | some (.tuple _) => some false
      | _ => none
    | none => none

def putD (N : Nat) (dst : Option Tmp) (d : D) (τ : Env) : Option Env :=
  match dst with
  | none => some τ
  | some t => if t < N then some ((t, d) :: τ) else none

theorem wantD_ok {G : Gh} {a : Act} {all : Array Oper} {b : Bool} (hT : TRel G N τ a) (h : wantD all τ o = some b) : Region.wanted o (yielded all a.tmps) = b := by
  unfold wantD at h
  unfold Region.wanted
  split at h
  · rename_i hg; rw [hg]; cases h; rfl
  · rename_i j want hg
    rw [hg]
    simp only
    unfold yielded
    split at h <;> try (cases h; done)
    rename_i t ht
    simp only [ht, Option.bind_some]
    split at h <;> try (cases h; done)
    · rename_i b' hb
      have hr := hT.slot _ _ hb
      simp only [Rep] at hr
      have : a.tmps[t]? = some (.bool b') := by
        rw [Array.getD_eq_getD_getElem?] at hr
        cases hx : a.tmps[t]? with
        | none => rw [hx] at hr; simp [undef] at hr
        | some v => rw [hx] at hr; simpa using hr
      rw [this]
      cases h
      cases b' <;> cases want <;> rfl
    · rename_i vs hb
      have hr := hT.slot _ _ hb
      simp only [Rep] at hr
      obtain ⟨x, hx, _⟩ := hr
      have hno : ∀ b', a.tmps[t]? ≠ some (.bool b') := by
        intro b' hb'
        rw [Array.getD_eq_getD_getElem?, hb'] at hx
        simp at hx
      cases h
      cases hx' : a.tmps[t]? with
      | none => rfl
      | some v =>
        cases v <;> first | rfl | exact absurd hx' (hno _)

theorem putD_ok {G : Gh} {a : Act} {dst : Option Tmp} {d : D} {v : Value} {τ' : Env} (hT : TRel G N τ a) (h : putD N dst d τ = some τ') (hv : Rep G d v) : TRel G N τ' (a.put dst v) := by
  unfold putD at h
  split at h
  · cases h; exact hT
  · split at h <;> try (cases h; done)
    rename_i ht
    cases h
    exact hT.put ht hv

def AOps (P : Program) (N : Nat) (all : Array Oper) : List Oper → Env → Sto → (Env → Sto → Prop) → Prop
  | [], τ, σ, K => K τ σ
  | o :: r, τ, σ, K =>
    (wantD all τ o = some true ∧ AOp P N o τ σ fun d σ' => ∃ τ', putD N o.dst d τ = some τ' ∧ AOps P N all r τ' σ' K) ∨
    (wantD all τ o = some false ∧ ∃ τ', putD N o.dst (.tuple []) τ = some τ' ∧ AOps P N all r τ' σ K)

theorem aops_wp {i : Bool} {B : Base} {all : Array Oper} {Q : AEx → Env → Sto → Prop} {G0 : Gh} : ∀ (l : List Oper) (is : List Nat) (τ : Env) (σ : Sto) (G : Gh) (a : Act) (w : World), G0.LeB i G → l.map some = is.map (all[·]?) →
    AOps P N all l τ σ (fun τ' σ' => Q .normal τ' σ') → Rel B G σ w → TRel G N τ a → wpOps P all (liftQ i B G0 N Q) is a w
  | [], is, τ, σ, G, a, w, h0, hl, h, hR, hT => by
    match is, hl with
    | [], _ => exact ⟨G, τ, σ, h0, hR, hT, h⟩
  | o :: r, is, τ, σ, G, a, w, h0, hl, h, hR, hT => by
    match is, hl with
    | i :: is, hl =>
      simp only [List.map_cons, List.cons.injEq] at hl
      obtain ⟨ho, hl⟩ := hl
      simp only [wpOps, ← ho]
      rcases h with ⟨hw, hop⟩ | ⟨hw, τ', hp, hr⟩
      · rw [if_pos (wantD_ok hT hw)]
        refine .inl (hop B G w a hR hT _ _ ?_)
        rintro v w' G' d σ' hle hR' hd ⟨τ', hp, hr⟩
        exact aops_wp r is τ' σ' G' _ w' (h0.trans hle.b) hl hr hR' (putD_ok (hT.mono hle) hp hd)
      · rw [if_neg (by rw [wantD_ok hT hw]; simp)]
        exact aops_wp r is τ' σ G _ w h0 hl hr hR (putD_ok hT hp (by simp only [Rep, undef]; exact ⟨#[], rfl, by simp [Reps]⟩))

theorem awp_region {i : Bool} {id : Nat} {ops : Array Oper} {Q : AEx → Env → Sto → Prop} (h : AOps P N ops ops.toList τ σ (fun τ' σ' => Q .normal τ' σ')) : AWp i P N (.region id ops false) τ σ Q := by
  intro B G w a hR hT
  refine wp_region (aops_wp ops.toList (List.range ops.size) τ σ G a w (.refl G) ?_ h hR hT)
  apply List.ext_getElem?
  intro i
  simp only [List.getElem?_map, Array.getElem?_toList]
  by_cases hi : i < ops.size
  · simp [List.getElem?_range hi, Array.getElem?_eq_getElem hi]
  · rw [Array.getElem?_eq_none (by omega), List.getElem?_eq_none (by simp; omega)]; rfl

def opsE (T : Tys) (K : FuncId → List D → Option D) (N : Nat) (all : Array Oper) : List Oper → Env → Sto → Option (Env × Sto)
  | [], τ, σ => some (τ, σ)
  | o :: r, τ, σ => match wantD all τ o with
    | some true => match opE T K τ σ o.op with
      | some (d, σ') => match putD N o.dst d τ with
        | some τ' => opsE T K N all r τ' σ'
        | none => none
      | none => none
    | some false => match putD N o.dst (.tuple []) τ with
      | some τ' => opsE T K N all r τ' σ
      | none => none
    | none => none

theorem aops_E (hTy : TOk T P) {K : FuncId → List D → Option D} (hK : KOk P K) {all : Array Oper} {Kt : Env → Sto → Prop} : ∀ (l : List Oper) (τ : Env) (σ : Sto) (τ' : Env) (σ' : Sto), opsE T K N all l τ σ = some (τ', σ') → Kt τ' σ' → AOps P N all l τ σ Kt
  | [], τ, σ, τ', σ', h, hk => by
    simp only [opsE, Option.some.injEq, Prod.mk.injEq] at h
    obtain ⟨rfl, rfl⟩ := h
    exact hk
  | o :: r, τ, σ, τ', σ', h, hk => by
    simp only [opsE] at h
    split at h <;> try (cases h; done)
    · rename_i hw
      split at h <;> try (cases h; done)
      rename_i d σ1 hop
      split at h <;> try (cases h; done)
      rename_i τ1 hp
      refine .inl ⟨hw, (aop_E hTy hK hop).mono ?_⟩
      rintro d' s ⟨rfl, rfl⟩
      exact ⟨τ1, hp, aops_E hTy hK r τ1 _ τ' σ' h hk⟩
    · rename_i hw
      split at h <;> try (cases h; done)
      rename_i τ1 hp
      exact .inr ⟨hw, τ1, hp, aops_E hTy hK r τ1 _ τ' σ' h hk⟩

/-! ### from a body to a contract -/
def Gh.strip (G : Gh) : Gh := { G with blk := fun _ _ => none }

theorem pure_of_call {i : Bool} {f : FuncId} {ds : List D} {d : D} (hp : pureL ds = true) (h : ACallB i P f ds [] fun d' σ' => ∃ σ'', frzR σ' d' = some (d, σ'') ∧ d.pure = true) : PureOK P f ds d := by
  intro G w vals hI hv
  have hR : Rel ⟨w, G⟩ G.strip [] w := by
    refine ⟨Below.refl _ _, hI.imm, hI.mimm, hI.siz, ?_, ?_, ?_, ?_, ?_, ?_, ?_, fun _ _ _ => rfl, fun _ _ => rfl⟩
    · intro l u b hb; cases hb
    · intro l u l' u' b hb; cases hb
    · intro l ob b ho; simp at ho
    · intro l cs frz u b ho; simp at ho
    · intro l ks vs b ho; simp at ho
    · intro l ob ho; simp at ho
    · intro l ob ho; simp at ho
  refine (h ⟨w, G⟩ G.strip w vals hR (Reps.pure (G := G) (G' := G.strip) (fun _ _ _ x => x) (fun _ _ x => x) ds vals hp hv)).mono ?_
  rintro e w' ⟨v, G', d', σ', rfl, hle, hR', hd, σ'', hz, hpd⟩
  obtain ⟨G2, l2, R2, r2⟩ := frzR_ok hR' hz hd
  let G3 : Gh := { G2 with blk := G.blk }
  refine ⟨v, G3, rfl, ?_, Rep.pure (G := G2) (G' := G3) (fun _ _ _ x => x) (fun _ _ x => x) d v hpd r2⟩
  have hle2 := hle.trans (l2.b (i := i))
  exact {
    le := ⟨hle2.imm, hle2.mimm, fun _ _ _ x => x, hle2.siz⟩
    below := R2.below
    blk := rfl
    imm := R2.imm
    mimm := R2.mimm
    siz := R2.siz
    imm_new := R2.bimm
    mimm_new := R2.bmimm }

/-- the contract of a function whose body is walked. -/
theorem pure_of_body {i : Bool} (hTy : TOk T P) {f : FuncId} {fn : Func} {c : Code} {ds : List D} {d : D} (hf : P.funcs[f]? = some fn) (hb : fn.body = some c) (hn : ds.length ≤ fn.ntmps) (hp : pureL ds = true)
    (h : AWp i P fn.ntmps c (env0 0 ds) [] fun e τ' σ' => (e = .normal ∨ e = .ret) ∧ ∃ d', resD T fn.results.toList τ' σ' = some d' ∧ ∃ σ'', frzR σ' d' = some (d, σ'') ∧ d.pure = true) : PureOK P f ds d :=
  pure_of_call hp (acall_body hTy hf hb hn h)
end
end Go.Fw
