import Derived.Test.YtfbeeambjjdbjaaGreatDoorFwOps11
namespace Go.Fw
open Go.RowKit

/-! ### slots -/
def get : List (Nat × D) → Nat → Option D
  | [], _ => none
  | (i, d) :: r, t => if i = t then some d else get r t

/-- The slots that are known hold what is said of them; N: how many slots there are. -/
structure TRel (G : Gh) (N : Nat) (τ : List (Nat × D)) (a : Act) : Prop where
  size : a.tmps.size = N
  defers : a.defers = []
  slot : ∀ t d, get τ t = some d → Rep G d (a.tmps.getD t undef)

theorem TRel.mono {G G' : Gh} {N : Nat} {τ : List (Nat × D)} {a : Act} (h : TRel G N τ a) (hle : G.Le G') : TRel G' N τ a :=
  ⟨h.size, h.defers, fun t d ht => Rep.mono hle _ _ (h.slot t d ht)⟩

/-- forgetting slots. -/
theorem TRel.sub {G : Gh} {N : Nat} {τ τ' : List (Nat × D)} {a : Act} (h : TRel G N τ a) (hs : ∀ t d, get τ' t = some d → get τ t = some d) : TRel G N τ' a :=
  ⟨h.size, h.defers, fun t d ht => h.slot t d (hs t d ht)⟩

theorem TRel.put {G : Gh} {N : Nat} {τ : List (Nat × D)} {a : Act} (h : TRel G N τ a) {t : Nat} (ht : t < N) {d : D} {v : Value} (hv : Rep G d v) : TRel G N ((t, d) :: τ) (a.put (some t) v) := by
  refine ⟨by simp [Act.put, h.size], h.defers, fun t' d' hg => ?_⟩
  simp only [get] at hg
  simp only [Act.put]
  by_cases e : t = t'
  · subst e
    simp only [if_true, Option.some.injEq] at hg
    subst hg
    have : t < a.tmps.size := by rw [h.size]; exact ht
    simp [Array.getD_eq_getD_getElem?, this, hv]
  · simp only [e, if_false] at hg
    have := h.slot t' d' hg
    simpa [Array.getD_eq_getD_getElem?, Array.getElem?_setIfInBounds_ne e] using this

def ev (τ : List (Nat × D)) : Operand → Option D
  | .tmp t => get τ t
  | .const v => constD v
  | .func f => some (.func (.func f) [] [])
  | .global _ => none

theorem ev_ok {G : Gh} {N : Nat} {τ : List (Nat × D)} {a : Act} (h : TRel G N τ a) {x : Operand} {d : D} (hx : ev τ x = some d) : Rep G d (a.eval x) := by
  cases x <;> simp only [ev] at hx
  · exact h.slot _ _ hx
  · exact constD_rep G hx
  · cases hx
  · cases hx
    simp only [Act.eval, Rep, Reps]
    exact ⟨_, _, rfl, rfl, rfl⟩

def evs (τ : List (Nat × D)) : List Operand → Option (List D)
  | [] => some []
  | x :: xs => match ev τ x with
    | some d => match evs τ xs with
      | some ds => some (d :: ds)
      | none => none
    | none => none

theorem evs_ok {G : Gh} {N : Nat} {τ : List (Nat × D)} {a : Act} (h : TRel G N τ a) : ∀ {xs : List Operand} {ds : List D}, evs τ xs = some ds → Reps G ds (xs.map a.eval)
  | [], _, hx => by simp only [evs, Option.some.injEq] at hx; subst hx; simp [Reps]
  | x :: xs, _, hx => by
    simp only [evs] at hx
    split at hx <;> try (cases hx; done)
    rename_i d hd
    split at hx <;> try (cases hx; done)
    rename_i ds hds
    cases hx
    simp only [List.map_cons, Reps]
    exact ⟨_, _, rfl, ev_ok h hd, evs_ok h hds⟩

def evo (τ : List (Nat × D)) : Option Operand → Option (Option D)
  | none => some none
  | some x => match ev τ x with
    | some d => some (some d)
    | none => none

theorem evo_ok {G : Gh} {N : Nat} {τ : List (Nat × D)} {a : Act} (h : TRel G N τ a) {x : Option Operand} {d : Option D} (hx : evo τ x = some d) : RepO G d (x.map a.eval) := by
  cases x with
  | none => simp only [evo, Option.some.injEq] at hx; subst hx; trivial
  | some x =>
    simp only [evo] at hx
    split at hx <;> try (cases hx; done)
    rename_i d' hd
    cases hx
    exact ev_ok h hd

def evp (τ : List (Nat × D)) : List (Nat × Operand) → Option (List (Nat × D))
  | [] => some []
  | (i, x) :: xs => match ev τ x with
    | some d => match evp τ xs with
      | some ds => some ((i, d) :: ds)
      | none => none
    | none => none

theorem evp_ok {G : Gh} {N : Nat} {τ : List (Nat × D)} {a : Act} (h : TRel G N τ a) : ∀ {xs : List (Nat × Operand)} {ds : List (Nat × D)}, evp τ xs = some ds →
    ds.length = xs.length ∧ ∀ (j i : Nat) (d : D), ds[j]? = some (i, d) → ∃ v, (xs.map fun (i, x) => (i, a.eval x))[j]? = some (i, v) ∧ Rep G d v
  | [], _, hx => by simp only [evp, Option.some.injEq] at hx; subst hx; simp
  | (i, x) :: xs, _, hx => by
    simp only [evp] at hx
    split at hx <;> try (cases hx; done)
    rename_i d hd
    split at hx <;> try (cases hx; done)
    rename_i ds hds
    cases hx
    obtain ⟨h1, h2⟩ := evp_ok h hds
    refine ⟨by simp [h1], fun j i' d' hj => ?_⟩
    cases j with
    | zero =>
      simp only [List.getElem?_cons_zero, Option.some.injEq, Prod.mk.injEq] at hj
      obtain ⟨rfl, rfl⟩ := hj
      exact ⟨_, rfl, ev_ok h hd⟩
    | succ j =>
      simp only [List.getElem?_cons_succ] at hj
      simpa using h2 j i' d' hj

/-! ### the abstract operation -/
inductive SK where
  | slice (sz : Nat) | string | array (n sz : Nat)

def tySlice (P : Program) (t : TypeId) : Option SK :=
  match P.underlying t with
  | some .string => some .string
  | some (.slice _) => (tySl P t).map fun x => .slice x.1
  | some (.array _ _) => match tyArr P t with
    | some (n, sz) => if n ≤ 9223372036854775807 then some (.array n sz) else none
    | none => none
  | _ => none

inductive IK where
  | slice (sz : Nat) | array (n sz : Nat)

def tyIdx (P : Program) (t : TypeId) : Option IK :=
  match P.underlying t with
  | some (.slice _) => (tySl P t).map fun x => .slice x.1
  | some (.array _ _) => (tyArr P t).map fun x => .array x.1 x.2
  | _ => none

/-- value arrays and strings. -/
inductive IVK where
  | string | array (len n : Nat) (agg : Bool)

def tyIdxV (P : Program) (t : TypeId) : Option IVK :=
  match P.underlying t with
  | some .string => some .string
  | some (.array len e) => match tyLd P e with
    | some (n, b) => some (.array len n b)
    | none => none
  | _ => none

def isStrTy (P : Program) (t : TypeId) : Bool :=
  match P.underlying t with
  | some .string => true
  | _ => false

/-! ### the types that a walk looks at, in tables -/
/-- a search tree. -/
inductive Tr (α : Type) where
  | nil
  | node (l : Tr α) (k : Nat) (x : α) (r : Tr α)

def lk {α : Type} (tr : Tr α) (t : Nat) : Option α :=
  match tr with
  | .nil => none
  | .node l k x r => match Nat.beq t k with
    | true => some x
    | false => match Nat.ble t k with
      | true => lk l t
      | false => lk r t

def lk2 {α : Type} (tr : Tr α) (s t : Nat) : Option α :=
  match Nat.ble t 65535 with
  | true => lk tr (Nat.add (Nat.mul s 65536) t)
  | false => none

def Tr.toL {α : Type} : Tr α → List (Nat × α)
  | .nil => []
  | .node l k x r => l.toL ++ (k, x) :: r.toL

theorem lk_mem {α : Type} : ∀ {tr : Tr α} {t : Nat} {x : α}, lk tr t = some x → (t, x) ∈ tr.toL
  | .nil, _, _, h => by simp [lk] at h
  | .node l k y r, t, x, h => by
    simp only [lk] at h
    simp only [Tr.toL, List.mem_append, List.mem_cons]
    split at h
    · rename_i e
      have := Nat.eq_of_beq_eq_true e
      cases h; subst this; exact .inr (.inl rfl)
    · split at h
      · exact .inl (lk_mem h)
      · exact .inr (.inr (lk_mem h))

/-- the table holds what the function says. -/
def TrOk {α : Type} (f : Nat → Option α) (tr : Tr α) : Prop := (tr.toL.map fun p => f p.1) = tr.toL.map fun p => some p.2

theorem lk_of {α : Type} {f : Nat → Option α} {tr : Tr α} (he : TrOk f tr) {t : Nat} {x : α} (h : lk tr t = some x) : f t = some x := by
  have hm := lk_mem h
  obtain ⟨n, hn, hx⟩ := List.getElem_of_mem hm
  have := congrArg (·[n]?) he
  simpa [hn, hx] using this

theorem lk2_of {α : Type} {f : Nat → Nat → Option α} {tr : Tr α} (he : TrOk (fun k => f (k / 65536) (k % 65536)) tr) {s t : Nat} {x : α} (h : lk2 tr s t = some x) : f s t = some x := by
  unfold lk2 at h
  split at h <;> try (cases h; done)
  rename_i ht
  have ht := Nat.le_of_ble_eq_true ht
  have := lk_of he h
  have e1 : (Nat.add (Nat.mul s 65536) t) / 65536 = s := by
    show (s * 65536 + t) / 65536 = s
    omega
  have e2 : (Nat.add (Nat.mul s 65536) t) % 65536 = t := by
    show (s * 65536 + t) % 65536 = t
    omega
  rw [e1, e2] at this
  exact this

/-- the method of a type (a value's receiver, no way through embedded fields). -/
def tyMeth (P : Program) (t : TypeId) (name : String) : Option FuncId :=
  match P.info? t with
  | some i => match i.methods.find? (·.name == name) with
    | some m => match m.path.toList, m.func, P.underlying t with
      | [], some (f, false), some (.struct _) => some f
      | _, _, _ => none
    | none => none
  | none => none

def lkM : List (Nat × String × Nat) → Nat → String → Option Nat
  | [], _, _ => none
  | (t, n, f) :: r, t', n' => match Nat.beq t t' with
    | true => match n == n' with
      | true => some f
      | false => lkM r t' n'
    | false => lkM r t' n'

/-- functions without a body that are known. -/
inductive ExK where
  | count | indexByte

def tyExt (P : Program) (f : FuncId) : Option ExK :=
  match P.funcs[f]? with
  | some fn => match fn.body with
    | some _ => none
    | none => match fn.origin == "" with
      | false => none
      | true => match fn.name == "internal/bytealg.CountString" with
        | true => some .count
        | false => match fn.name == "internal/bytealg.IndexByteString" with
          | true => some .indexByte
          | false => none
  | none => none

structure Tys where
  ld : Tr (Nat × Bool) := .nil
  fld : Tr Nat := .nil
  fldV : Tr (Nat × Nat × Bool) := .nil
  zero : Tr (List D) := .nil
  build : Tr (List D × BKind) := .nil
  bs : Tr (List D × Nat) := .nil
  msl : Tr (Nat × Nat) := .nil
  eq : Tr EK := .nil
  conv : Tr CK := .nil
  conc : Tr Unit := .nil
  sli : Tr SK := .nil
  idx : Tr IK := .nil
  idxV : Tr IVK := .nil
  map : Tr (LK × D) := .nil
  len : Tr LKind := .nil
  app : Tr (Nat × Nat) := .nil
  meth : List (Nat × String × Nat) := []
  ext : Tr ExK := .nil

def tyConc (P : Program) (t : TypeId) : Option Unit := if tyConcrete P t then some () else none

/-- the tables are the program's. (Each field: by the kernel.) -/
structure TOk (T : Tys) (P : Program) : Prop where
  ld : TrOk (tyLd P) T.ld
  fld : TrOk (fun k => tyFld P (k / 65536) (k % 65536)) T.fld
  fldV : TrOk (fun k => tyFldV P (k / 65536) (k % 65536)) T.fldV
  zero : TrOk (tyZero P) T.zero
  build : TrOk (tyBuild P) T.build
  bs : TrOk (tyBS P) T.bs
  msl : TrOk (tySl P) T.msl
  eq : TrOk (tyEq P) T.eq
  conv : TrOk (fun k => tyConv P (k / 65536) (k % 65536)) T.conv
  conc : TrOk (tyConc P) T.conc
  sli : TrOk (tySlice P) T.sli
  idx : TrOk (tyIdx P) T.idx
  idxV : TrOk (tyIdxV P) T.idxV
  map : TrOk (tyMap P) T.map
  len : TrOk (tyLen P) T.len
  app : TrOk (fun k => tyApp P (k / 65536) (k % 65536)) T.app
  meth : (T.meth.map fun p => tyMeth P p.1 p.2.1) = T.meth.map fun p => some p.2.2
  ext : TrOk (tyExt P) T.ext

theorem lkM_of {f : Nat → String → Option Nat} : ∀ {l : List (Nat × String × Nat)}, (l.map fun p => f p.1 p.2.1) = (l.map fun p => some p.2.2) → ∀ {t : Nat} {n : String} {x : Nat}, lkM l t n = some x → f t n = some x
  | [], _, _, _, _, h => by simp [lkM] at h
  | (i, m, y) :: r, he, t, n, x, h => by
    simp only [List.map_cons, List.cons.injEq] at he
    simp only [lkM] at h
    split at h
    · rename_i e
      have e := Nat.eq_of_beq_eq_true e
      split at h
      · rename_i e2
        have e2 : m = n := by simpa using e2
        subst e e2; cases h; exact he.1
      · exact lkM_of he.2 h
    · exact lkM_of he.2 h

section
variable (T : Tys) (τ : List (Nat × D)) (σ : List AObj)

def oPick (c a b : Operand) : Option D :=
  match ev τ c with
  | some (.bool r) => ev τ (if r then a else b)
  | _ => none

def oBox (x : Operand) : Option (D × List AObj) :=
  match ev τ x with
  | some d => match d.cells? with
    | some cs => some (.ptr σ.length 0 0, σ ++ [.cells cs 0 0])
    | none => none
  | none => none

def oBuild (t : TypeId) (ps : List (Nat × Operand)) : Option D :=
  match lk T.build t, evp τ ps with
  | some (z, bk), some ds => (fillD bk.place z ds).map .agg
  | _, _ => none

def oBuildSlice (t : TypeId) (len : Nat) (ps : List (Nat × Operand)) : Option D :=
  match lk T.bs t, evp τ ps with
  | some (z, sz), some ds => if len * sz ≤ 16777216 then (fillD (fun i => some (i * sz, sz)) (repZ z len) ds).map fun cs => .list cs len true else none
  | _, _ => none

def ldFin (b : Bool) (cs : List D) : Option D := if b then some (.agg cs) else match cs with | [x] => some x | _ => none

def oLoad (t : TypeId) (x : Operand) : Option D :=
  match lk T.ld t, ev τ x with
  | some (n, b), some d => if b = true ∨ n = 1 then (match readAt σ d n with | some cs => ldFin b cs | none => none) else none
  | _, _ => none

def oStore (t : TypeId) (p x : Operand) : Option (List AObj) :=
  match lk T.ld t, ev τ p, ev τ x with
  | some (n, _), some d, some e => match e.cells? with
    | some cs => if cs.length = n then writeAt σ d cs else none
    | none => none
  | _, _, _ => none

def oNil (x : Operand) : Option D :=
  match ev τ x with
  | some (.ptr l u o) => some (.ptr l u o)
  | some (.rptr cs o) => some (.rptr cs o)
  | some (.iface t v) => some (.iface t v)
  | some .anyi => some .anyi
  | some (.func (.func f) a b) => some (.func (.func f) a b)
  | _ => none

def oBin (op : BinOp) (t : TypeId) (x y : Operand) : Option D :=
  match ev τ x, ev τ y with
  | some d, some e => binD (lk T.eq t) op (isCst x || isCst y) d e
  | _, _ => none

def oUn (op : UnOp) (x : Operand) : Option D :=
  match ev τ x with
  | some d => unD op d
  | none => none

def oConv (s t : TypeId) (x : Operand) : Option D :=
  match lk2 T.conv s t, ev τ x with
  | some ck, some d => convD σ ck d
  | _, _ => none

def oIface (t : TypeId) (x : Operand) : Option D :=
  match ev τ x with
  | some d => match lk T.conc t with | some _ => some (.iface t d) | none => none
  | none => none

def oFunc (fn : Fn) (a b : List Operand) : Option D :=
  match evs τ a, evs τ b with
  | some ds, some es => some (.func fn ds es)
  | _, _ => none

def oMakeSlice (t : TypeId) (l c : Operand) : Option (D × List AObj) :=
  match ev τ l, ev τ c with
  | some d, some e => mkSlD (lk T.bs t) (lk T.msl t) σ d e
  | _, _ => none

def slStr (x : D) (l h : Option Int) : Option D :=
  match x with
  | .str s => match bnds s.length true l h none with
    | some (l, h, _) => some (.str ((s.take h).drop l))
    | none => none
  | _ => none

def oSlice (t : TypeId) (x : Operand) (lo hi mx : Option Operand) : Option D :=
  match lk T.sli t, ev τ x, evo τ lo, evo τ hi, evo τ mx with
  | some sk, some d, some l, some h, some m => match optInt l, optInt h, optInt m with
    | some l, some h, some m => match sk with
      | .slice sz => sliceD sz d l h m
      | .string => (match m with | none => slStr d l h | some _ => none)
      | .array n sz => match readAt σ d (n * sz) with
        | some _ => sliceArrD n sz d l h m
        | none => none
    | _, _, _ => none
  | _, _, _, _, _ => none

def oFieldAddr (s : TypeId) (x : Operand) (f : Nat) : Option D :=
  match lk2 T.fld s f, ev τ x with
  | some off, some d => ptrAdd d off
  | _, _ => none

def oField (s : TypeId) (x : Operand) (f : Nat) : Option D :=
  match lk2 T.fldV s f, ev τ x with
  | some (off, n, b), some (.agg cs) => partD cs off n b
  | _, _ => none

def oIndexAddr (t : TypeId) (x i : Operand) : Option D :=
  match lk T.idx t, ev τ x, ev τ i with
  | some ik, some d, some e => match idxInt e with
    | some n => match ik with
      | .slice sz => idxSl sz d n
      | .array len sz => if 0 ≤ n ∧ n < len then ptrAdd d (n.toNat * sz) else none
    | none => none
  | _, _, _ => none

def strAt (s : List UInt8) (n : Int) : Option D :=
  if 0 ≤ n then (match s[n.toNat]? with | some b => some (.int .u8 b.toNat) | none => none) else none

def oIndex (t : TypeId) (x i : Operand) : Option D :=
  match lk T.idxV t, ev τ x, ev τ i with
  | some ik, some d, some e => match idxInt e with
    | some n => match ik, d with
      | .string, .str s => strAt s n
      | .array len sz b, .agg cs => if 0 ≤ n ∧ n < len then partD cs (n.toNat * sz) sz b else none
      | _, _ => none
    | none => none
  | _, _, _ => none

def oLookup (t : TypeId) (m k : Operand) (ok : Bool) : Option D :=
  match lk T.map t, ev τ m, ev τ k with
  | some (lk', z), some d, some e => lookD σ lk' z ok d e
  | _, _, _ => none

def oUpd (t : TypeId) (m k x : Operand) : Option (List AObj) :=
  match lk T.map t, ev τ m, ev τ k, ev τ x with
  | some (lk', _), some d, some e, some y => updD σ lk' d e y
  | _, _, _, _ => none

def oRange (t : TypeId) (x : Operand) : Option (D × List AObj) :=
  match ev τ x with
  | some (.str s) => match lk T.sli t with
    | some .string => some (.ptr σ.length 0 0, σ ++ [.siter s 0])
    | _ => none
  | some (.cmap ks vs) => match lk T.map t with
    | some _ => some (.ptr σ.length 0 0, σ ++ [.miter ks vs (List.range ks.length) none])
    | none => none
  | _ => none

def oEntry (it : Operand) : Option D :=
  match ev τ it with
  | some d => entryD σ d
  | none => none

def oExtract (x : Operand) (i : Nat) : Option D :=
  match ev τ x with
  | some (.tuple ds) => ds[i]?
  | _ => none

def oLen : List Operand → List TypeId → Option (D × List AObj)
  | [x], [t] => match lk T.len t, ev τ x with
    | some k, some d => (lenK k d).map fun (n : Nat) => (.int .i64 n, σ)
    | _, _ => none
  | _, _ => none

def oAppend : List Operand → List TypeId → Option (D × List AObj)
  | [s, x], [t, tx] => match lk2 T.app t tx, ev τ s, ev τ x with
    | some (sz, by'), some d, some e => appD σ sz by' d e
    | _, _, _ => none
  | _, _ => none

def oMM (mx : Bool) (xs : List Operand) : Option (D × List AObj) :=
  match evs τ xs with
  | some ds => (mmL mx ds).map (·, σ)
  | none => none

def oBuiltin (b : Builtin) (args : List Operand) (ts : List TypeId) : Option (D × List AObj) :=
  match b with
  | .len => oLen T τ σ args ts
  | .append => oAppend T τ σ args ts
  | .max => oMM τ σ true args
  | .min => oMM τ σ false args
  | _ => none

/-- One operation that is no call of a function. -/
def aop (op : Op) : Option (D × List AObj) :=
  match op with
  | .move x => (ev τ x).map (·, σ)
  | .assign x => (ev τ x).map (·, σ)
  | .pick c a b => (oPick τ c a b).map (·, σ)
  | .alloc e => (lk T.zero e).map fun cs => (.ptr σ.length 0 0, σ ++ [.cells cs 0 0])
  | .box _ x => oBox τ σ x
  | .build t ps => (oBuild T τ t ps.toList).map (·, σ)
  | .buildSlice t len ps => (oBuildSlice T τ t len ps.toList).map (·, σ)
  | .load t x => (oLoad T τ σ t x).map (·, σ)
  | .store t p x => (oStore T τ σ t p x).map (.junk, ·)
  | .nilCheck x => (oNil τ x).map (·, σ)
  | .binOp op t x y _ => (oBin T τ op t x y).map (·, σ)
  | .unOp op _ x => (oUn τ op x).map (·, σ)
  | .convert s t x => (oConv T τ σ s t x).map (·, σ)
  | .makeInterface t x => (oIface T τ t x).map (·, σ)
  | .makeFunc fn a b => (oFunc τ fn a.toList b.toList).map (·, σ)
  | .makeMap _ none => some (.map σ.length, σ ++ [.map [] []])
  | .makeSlice t l c => oMakeSlice T τ σ t l c
  | .slice t x lo hi mx => (oSlice T τ σ t x lo hi mx).map (·, σ)
  | .fieldAddr s x f => (oFieldAddr T τ s x f).map (·, σ)
  | .field s x f => (oField T τ s x f).map (·, σ)
  | .indexAddr t x i => (oIndexAddr T τ t x i).map (·, σ)
  | .index t x i => (oIndex T τ t x i).map (·, σ)
  | .lookup t m k ok => (oLookup T τ σ t m k ok).map (·, σ)
  | .mapUpdate t m k x => (oUpd T τ σ t m k x).map (.junk, ·)
  | .insert t m k x => (oUpd T τ σ t m k x).map (.junk, ·)
  | .range t x => oRange T τ σ t x
  | .next it true => match ev τ it with
    | some d => nextStrD σ d
    | none => none
  | .entry it => (oEntry τ σ it).map (·, σ)
  | .extract x i => (oExtract τ x i).map (·, σ)
  | .call c => match c.callee with
    | .builtin b => oBuiltin T τ σ b c.args.toList c.argTypes.toList
    | _ => none
  | _ => none
end
end Go.Fw
