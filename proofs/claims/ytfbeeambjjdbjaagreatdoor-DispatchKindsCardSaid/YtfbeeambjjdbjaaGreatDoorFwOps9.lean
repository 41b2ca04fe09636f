import Derived.Test.YtfbeeambjjdbjaaGreatDoorFwOps8
namespace Go.Fw
open Go.RowKit

section
variable {P : Program} {B : Base} {G : Gh} {σ : List AObj} {w : World}

theorem extract_ok {ds : List D} {i : Nat} {d : D} {v : Value} (h : ds[i]? = some d) (hv : Rep G (.tuple ds) v) : ∃ u, (Instr.extract v i).run P w = .ok u w ∧ Rep G d u := by
  simp only [Rep] at hv
  obtain ⟨a, rfl, hr⟩ := hv
  obtain ⟨u, hu, hrep⟩ := hr.get i h
  refine ⟨u, ?_, hrep⟩
  unfold Instr.extract
  have : a[i]? = some u := by simpa using hu
  simp [this]

def tyConcrete (P : Program) (t : TypeId) : Bool :=
  match P.underlying t with
  | some (.interface _) => false
  | some _ => true
  | none => false

theorem mkIface_ok {t : TypeId} (h : tyConcrete P t = true) (v : Value) : (Instr.makeInterface t v).run P w = .ok (.iface t v) w := by
  unfold tyConcrete at h
  split at h <;> try (cases h; done)
  rename_i d hne hd
  unfold Instr.makeInterface
  simp only [Sem.run_bind, run_underlying hd, Result.andThen_ok]
  rfl

/-! ### min, max -/
def mmD (mx : Bool) : D → List D → Option D
  | .int k a, [] => some (.int k a)
  | .int k a, .int k' b :: r => if k = k' then mmD mx (.int k (if mx = true then (if b > a then b else a) else (if b < a then b else a))) r else none
  | _, _ => none

def mmL (mx : Bool) : List D → Option D
  | [] => none
  | a :: r => mmD mx a r

theorem max_ok (ts : Array TypeId) (t : TypeId) {ds : List D} {vs : List Value} {d : D} (h : mmL true ds = some d) (hr : Reps G ds vs) : ∃ u, (Builtin.max_ ts t vs.toArray).run P w = .ok u w ∧ Rep G d u := by
  have key : ∀ (r : List D) (rv : List Value) (a : D) (av : Value) (d : D), mmD true a r = some d → Rep G a av → Reps G r rv → ∃ u, (rv.foldlM Builtin.max2 av).run P w = .ok u w ∧ Rep G d u := by
    intro r
    induction r with
    | nil =>
      intro rv a av d h ha hr
      simp only [Reps] at hr
      subst hr
      cases a <;> simp only [mmD] at h <;> try (cases h; done)
      cases h
      exact ⟨av, by simp, ha⟩
    | cons x r ih =>
      intro rv a av d h ha hr
      simp only [Reps] at hr
      obtain ⟨v, r2, rfl, hv, hr2⟩ := hr
      cases a <;> cases x <;> simp only [mmD] at h <;> try (cases h; done)
      split at h <;> try (cases h; done)
      rename_i hk
      subst hk
      simp only [Rep] at ha hv
      subst ha hv
      obtain ⟨u, hu, hrep⟩ := ih r2 _ _ d h (by simp only [Rep]; rfl) hr2
      exact ⟨u, by simpa [List.foldlM_cons, Builtin.max2] using hu, hrep⟩
  cases ds with
  | nil => simp [mmL] at h
  | cons a r =>
    simp only [Reps] at hr
    obtain ⟨v, r2, rfl, hv, hr2⟩ := hr
    obtain ⟨u, hu, hrep⟩ := key r r2 a v d h hv hr2
    exact ⟨u, by unfold Builtin.max_; simpa using hu, hrep⟩

theorem min_ok (ts : Array TypeId) (t : TypeId) {ds : List D} {vs : List Value} {d : D} (h : mmL false ds = some d) (hr : Reps G ds vs) : ∃ u, (Builtin.min_ ts t vs.toArray).run P w = .ok u w ∧ Rep G d u := by
  have key : ∀ (r : List D) (rv : List Value) (a : D) (av : Value) (d : D), mmD false a r = some d → Rep G a av → Reps G r rv → ∃ u, (rv.foldlM Builtin.min2 av).run P w = .ok u w ∧ Rep G d u := by
    intro r
    induction r with
    | nil =>
      intro rv a av d h ha hr
      simp only [Reps] at hr
      subst hr
      cases a <;> simp only [mmD] at h <;> try (cases h; done)
      cases h
      exact ⟨av, by simp, ha⟩
    | cons x r ih =>
      intro rv a av d h ha hr
      simp only [Reps] at hr
      obtain ⟨v, r2, rfl, hv, hr2⟩ := hr
      cases a <;> cases x <;> simp only [mmD] at h <;> try (cases h; done)
      split at h <;> try (cases h; done)
      rename_i hk
      subst hk
      simp only [Rep] at ha hv
      subst ha hv
      obtain ⟨u, hu, hrep⟩ := ih r2 _ _ d h (by simp only [Rep]; rfl) hr2
      exact ⟨u, by simpa [List.foldlM_cons, Builtin.min2] using hu, hrep⟩
  cases ds with
  | nil => simp [mmL] at h
  | cons a r =>
    simp only [Reps] at hr
    obtain ⟨v, r2, rfl, hv, hr2⟩ := hr
    obtain ⟨u, hu, hrep⟩ := key r r2 a v d h hv hr2
    exact ⟨u, by unfold Builtin.min_; simpa using hu, hrep⟩

/-! ### maps that the call makes -/
theorem makeMap_ok (hR : Rel B G σ w) (t : TypeId) : ∃ u w' G', (Instr.makeMap t none).run P w = .ok u w' ∧ G.Le G' ∧ Rel B G' (σ ++ [.map [] []]) w' ∧ Rep G' (.map σ.length) u := by
  obtain ⟨h1, h2⟩ := hR.bindOther (.map #[] 0) (.map [] []) (by simp) (fun G' _ w' hw' => ⟨#[], ⟨hw', by simp⟩, by simp [Reps], by simp [Reps]⟩)
  refine ⟨.map (some w.heap.size), _, _, ?_, h1, h2, by simp only [Rep]; exact ⟨_, by simp [Gh.bind0], rfl⟩⟩
  unfold Instr.makeMap
  simp

def keyEq (k : LK) (a b : D) : Option Bool := cellEq k a b

/-- the place of a key. -/
def findD (lk : LK) (k : D) : List D → Nat → Option (Option Nat)
  | [], _ => some none
  | a :: as, i => match cellEq lk k a with
    | some true => some (some i)
    | some false => findD lk k as (i + 1)
    | none => none

/-- kind of the keys; the zero of an element. -/
def tyMap (P : Program) (t : TypeId) : Option (LK × D) :=
  match P.underlying t with
  | some (.map k e) =>
    match (match P.underlying k with | some (.int _) => some LK.i | some .string => some LK.s | some .bool => some LK.b | _ => none), (match P.info? e with | some i => (match i.zero with | some v => constD v | none => none) | none => none) with
    | some lk, some z => some (lk, z)
    | _, _ => none
  | _ => none

def lkDesc : LK → TypeDesc → Prop
  | .i, .int _ => True
  | .s, .string => True
  | .b, .bool => True
  | _, _ => False

theorem tyMap_inv {t : TypeId} {lk : LK} {z : D} (h : tyMap P t = some (lk, z)) : ∃ k e kd i v, P.underlying t = some (.map k e) ∧ P.underlying k = some kd ∧ lkDesc lk kd ∧ P.info? e = some i ∧ i.zero = some v ∧ constD v = some z := by
  unfold tyMap at h
  split at h <;> try (cases h; done)
  rename_i k e hu
  split at h <;> try (cases h; done)
  rename_i lk' z' h1 h2
  cases h
  split at h2 <;> try (cases h2; done)
  rename_i i hi
  split at h2 <;> try (cases h2; done)
  rename_i v hv
  split at h1 <;> try (cases h1; done)
  all_goals
    rename_i hk
    cases h1
    exact ⟨k, e, _, i, v, hu, hk, by simp [lkDesc], hi, hv, h2⟩

theorem sameNow_ok {lk : LK} {kd : TypeDesc} (hl : lkDesc lk kd) {a b : D} {x y : Value} {r : Bool} (h : cellEq lk a b = some r) (ha : Rep G a x) (hb : Rep G b y) : Instr.sameNow kd x y = some r := by
  cases lk <;> cases a <;> cases b <;> simp only [cellEq] at h <;> try (cases h; done)
  all_goals
    simp only [Rep] at ha hb
    subst ha hb
    cases kd <;> simp only [lkDesc] at hl
  · simpa [Instr.sameNow] using h
  · split at h <;> try (cases h; done)
    rename_i hk
    subst hk
    simpa [Instr.sameNow] using h
  · simp only [Instr.sameNow, beq_toListBytes, bytes_toList]
    exact h

theorem checkKey_ok {lk : LK} {kd : TypeDesc} {k : TypeId} (hl : lkDesc lk kd) (hk : P.underlying k = some kd) (e : Bool) (n : Nat) (x : Value) : (Instr.checkKey e (n + 1) k x).run P w = .ok () w := by
  unfold Instr.checkKey
  simp only [Sem.run_bind, run_underlying hk, Result.andThen_ok]
  cases lk <;> cases kd <;> simp only [lkDesc] at hl <;> rfl

theorem findNow_ok {lk : LK} {kd : TypeDesc} (hl : lkDesc lk kd) {k : D} {kv : Value} (hk : Rep G k kv) : ∀ (ks : List D) (es : List MapEntry) (i : Nat) (r : Option Nat), findD lk k ks i = some r → Reps G ks (es.map (·.key)) →
    Instr.findNow kd kv es i = some (r.map fun j => (j, ((es[j - i]?).map (·.val)).getD undef)) ∧ (∀ j, r = some j → i ≤ j ∧ j - i < es.length)
  | [], es, i, r, h, hr => by
    simp only [Reps, List.map_eq_nil_iff] at hr
    subst hr
    simp only [findD, Option.some.injEq] at h
    subst h
    exact ⟨rfl, by simp⟩
  | a :: as, es, i, r, h, hr => by
    match es, hr with
    | [], hr => simp only [Reps] at hr; obtain ⟨_, _, h, _⟩ := hr; cases h
    | e :: es, hr =>
      simp only [List.map_cons, Reps] at hr
      obtain ⟨v, rr, he, h1, h2⟩ := hr
      cases he
      simp only [findD] at h
      split at h <;> try (cases h; done)
      · rename_i hc
        cases h
        simp only [Instr.findNow, sameNow_ok hl hc hk h1, Option.map_some, Nat.sub_self, List.getElem?_cons_zero, Option.getD_some]
        exact ⟨trivial, fun j hj => by cases hj; simp⟩
      · rename_i hc
        obtain ⟨g1, g2⟩ := findNow_ok hl hk as es (i + 1) r h h2
        simp only [Instr.findNow, sameNow_ok hl hc hk h1]
        refine ⟨?_, fun j hj => ?_⟩
        · rw [g1]
          cases r with
          | none => rfl
          | some j =>
            obtain ⟨h3, h4⟩ := g2 j rfl
            simp only [Option.map_some, Option.some.injEq, Prod.mk.injEq, true_and]
            have : j - i = (j - (i + 1)) + 1 := by omega
            rw [this, List.getElem?_cons_succ]
        · obtain ⟨h3, h4⟩ := g2 j hj
          simp only [List.length_cons]
          omega

def lookFin (z : D) (ok : Bool) (r : Option D) : D := match r with
  | some d => if ok then .tuple [d, .bool true] else d
  | none => if ok then .tuple [z, .bool false] else z

def lookKV (lk : LK) (z : D) (ok : Bool) (ks vs : List D) (k : D) : Option D :=
  match findD lk k ks 0 with
  | some (some i) => (vs[i]?).map fun d => lookFin z ok (some d)
  | some none => some (lookFin z ok none)
  | none => none

def lookD (σ : List AObj) (lk : LK) (z : D) (ok : Bool) (m k : D) : Option D :=
  match m with
  | .map l => match σ[l]? with
    | some (.map ks vs) => lookKV lk z ok ks vs k
    | _ => none
  | .cmap ks vs => lookKV lk z ok ks vs k
  | .nilmap => if (cellEq lk k k).isSome then some (lookFin z ok none) else none
  | _ => none

theorem look_fin {ok : Bool} {d : D} {v : Value} (b : Bool) (hv : Rep G d v) : Rep G (if ok then .tuple [d, .bool b] else d) (if ok then .tuple #[v, .bool b] else v) := by
  cases ok
  · exact hv
  · simp only [if_true, Rep, Reps]
    exact ⟨_, rfl, v, _, rfl, hv, _, _, rfl, rfl, rfl⟩

theorem lookKV_ok {t : TypeId} {lk : LK} {z : D} (ht : tyMap P t = some (lk, z)) {ok : Bool} {ks vs : List D} {k d : D} {b c : Nat} {es : Array MapEntry} {kv : Value} (h : lookKV lk z ok ks vs k = some d)
    (o1 : w.heap[b]? = some (.map es c)) (o2 : Reps G ks (es.toList.map (·.key))) (o3 : Reps G vs (es.toList.map (·.val))) (hk : Rep G k kv) :
    ∃ u, (Instr.lookup t (.map (some b)) kv ok).run P w = .ok u w ∧ Rep G d u := by
  obtain ⟨kt, e, kd, i, zv, hu, hku, hl, hi, hz, hzd⟩ := tyMap_inv ht
  have hzr : Rep G z zv := constD_rep G hzd
  have hgo : (getObj b).run P w = .ok (.map es c) w := by simp [getObj, Sem.run, o1]
  unfold lookKV at h
  split at h <;> try (cases h; done)
  · rename_i j hf
    obtain ⟨g1, g2⟩ := findNow_ok hl hk ks es.toList 0 (some j) hf o2
    obtain ⟨_, hlt⟩ := g2 j rfl
    simp only [Option.map_eq_some_iff] at h
    obtain ⟨d', hd', rfl⟩ := h
    obtain ⟨v, hv, hrep⟩ := o3.get j hd'
    have hv' : es[j]?.map (·.val) = some v := by simpa using hv
    refine ⟨_, ?_, look_fin (ok := ok) true hrep⟩
    unfold Instr.lookup Instr.findKey
    simp only [Sem.run_bind, run_underlying hu, Result.andThen_ok, hgo, Sem.run_pure, checkKey_ok hl hku, run_underlying hku, g1, Option.map_some, Nat.sub_zero]
    have : (es.toList[j]?.map (·.val)).getD undef = v := by
      have h3 : es.toList[j]? = es[j]? := by simp
      rw [h3, hv']; rfl
    rw [this]
  · rename_i hf
    obtain ⟨g1, g2⟩ := findNow_ok hl hk ks es.toList 0 none hf o2
    cases h
    refine ⟨_, ?_, look_fin (ok := ok) false hzr⟩
    unfold Instr.lookup Instr.findKey
    simp [run_underlying hu, hgo, checkKey_ok hl hku, run_underlying hku, g1, zeroValue, typeInfo, hi, hz]

theorem lookup_ok (hR : Rel B G σ w) {t : TypeId} {lk : LK} {z : D} (ht : tyMap P t = some (lk, z)) {ok : Bool} {m k d : D} {mv kv : Value} (h : lookD σ lk z ok m k = some d) (hm : Rep G m mv) (hk : Rep G k kv) :
    ∃ u, (Instr.lookup t mv kv ok).run P w = .ok u w ∧ Rep G d u := by
  cases m <;> simp only [lookD] at h <;> try (cases h; done)
  · rename_i l
    split at h <;> try (cases h; done)
    rename_i ks vs hob
    simp only [Rep] at hm
    obtain ⟨b, hb, rfl⟩ := hm
    obtain ⟨es, o1, o2, o3⟩ := hR.obj _ _ b hob hb
    exact lookKV_ok ht h o1.1 o2 o3 hk
  · split at h <;> try (cases h; done)
    obtain ⟨kt, e, kd, i, zv, hu, hku, hl, hi, hz, hzd⟩ := tyMap_inv ht
    have hzr : Rep G z zv := constD_rep G hzd
    cases h
    simp only [Rep] at hm
    subst hm
    refine ⟨_, ?_, look_fin (ok := ok) false hzr⟩
    unfold Instr.lookup Instr.findKey
    simp [run_underlying hu, checkKey_ok hl hku, run_underlying hku, Instr.findNow, zeroValue, typeInfo, hi, hz]
  · simp only [Rep] at hm
    obtain ⟨b, es, rfl, hm1, h1, h2⟩ := hm
    obtain ⟨hc, _⟩ := hR.mimm _ _ hm1
    exact lookKV_ok ht h hc h1 h2 hk

def updD (σ : List AObj) (lk : LK) (m k x : D) : Option (List AObj) :=
  match m with
  | .map l => match σ[l]? with
    | some (.map ks vs) => match findD lk k ks 0 with
      | some (some i) => some (σ.set l (.map ks (vs.set i x)))
      | some none => if k.isCell = true then some (σ.set l (.map (ks ++ [k]) (vs ++ [x]))) else none
      | none => none
    | _ => none
  | _ => none
end
end Go.Fw
