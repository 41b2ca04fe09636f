/- A framework for proofs about Go programs in this model: part C. Everything is proved; no condition is added. -/
import Derived.Test.YtgliijeioigckaaGreatDoorFwB
set_option linter.unusedVariables false
set_option linter.unusedSimpArgs false
namespace Go.Fw
open Go.RowKit
def get:List (Nat×D)→Nat→Option D
 |[],_=>none
 |(i,d)::r,t=>if i=t then some d else get r t
structure TRel (G:Gh) (N:Nat) (τ:List (Nat×D)) (a:Act):Prop where
 size:a.tmps.size=N
 defers:a.defers=[]
 slot:∀t d,get τ t=some d→Rep G d (a.tmps.getD t undef)
theorem TRel.mono{G G' :Gh}{N:Nat}{τ:List (Nat×D)}{a:Act}(h:TRel G N τ a) (hle:G.Le G'):TRel G' N τ a:=
 ⟨h.size,h.defers,fun t d ht=>Rep.mono hle _ _ (h.slot t d ht)⟩
theorem TRel.sub{G:Gh}{N:Nat}{τ τ' :List (Nat×D)}{a:Act}(h:TRel G N τ a) (hs:∀t d,get τ' t=some d→get τ t=some d):TRel G N τ' a:=
 ⟨h.size,h.defers,fun t d ht=>h.slot t d (hs t d ht)⟩
theorem TRel.put{G:Gh}{N:Nat}{τ:List (Nat×D)}{a:Act}(h:TRel G N τ a) {t:Nat}(ht:t<N) {d:D}{v:Value}(hv:Rep G d v):TRel G N ((t,d)::τ) (a.put (some t) v):=by
 refine⟨by simp[Act.put,h.size],h.defers,fun t' d' hg=> ?_⟩
 simp only[get]at hg
 simp only[Act.put]
 by_cases e:t=t'
 ·subst e
  simp only[if_true,Option.some.injEq]at hg
  subst hg
  have:t<a.tmps.size:=by rw[h.size];exact ht
  simp[Array.getD_eq_getD_getElem?,this,hv]
 ·simp only[e,if_false]at hg
  have:=h.slot t' d' hg
  simpa[Array.getD_eq_getD_getElem?,Array.getElem?_setIfInBounds_ne e] using this
def ev(τ:List (Nat×D)):Operand→Option D
 | .tmp t=>get τ t
 | .const v=>constD v
 | .func f=>some (.func (.func f) [] [])
 | .global _=>none
theorem ev_ok{G:Gh}{N:Nat}{τ:List (Nat×D)}{a:Act}(h:TRel G N τ a) {x:Operand}{d:D}(hx:ev τ x=some d):Rep G d (a.eval x):=by
 cases x<;>simp only[ev]at hx
 ·exact h.slot _ _ hx
 ·exact constD_rep G hx
 ·cases hx
 ·cases hx
  simp only[Act.eval,Rep,Reps]
  exact⟨_,_,rfl,rfl,rfl⟩
def evs(τ:List (Nat×D)):List Operand→Option (List D)
 |[]=>some []
 |x::xs=>match ev τ x with
  |some d=>match evs τ xs with
   |some ds=>some (d::ds)
   |none=>none
  |none=>none
theorem evs_ok{G:Gh}{N:Nat}{τ:List (Nat×D)}{a:Act}(h:TRel G N τ a):∀{xs:List Operand}{ds:List D},evs τ xs=some ds→Reps G ds (xs.map a.eval)
 |[],_,hx=>by simp only[evs,Option.some.injEq]at hx;subst hx;simp[Reps]
 |x::xs,_,hx=>by
  simp only[evs]at hx
  split at hx<;>try (cases hx;done)
  rename_i d hd
  split at hx<;>try (cases hx;done)
  rename_i ds hds
  cases hx
  simp only[List.map_cons,Reps]
  exact⟨_,_,rfl,ev_ok h hd,evs_ok h hds⟩
def evo(τ:List (Nat×D)):Option Operand→Option (Option D)
 |none=>some none
 |some x=>match ev τ x with
  |some d=>some (some d)
  |none=>none
theorem evo_ok{G:Gh}{N:Nat}{τ:List (Nat×D)}{a:Act}(h:TRel G N τ a) {x:Option Operand}{d:Option D}(hx:evo τ x=some d):RepO G d (x.map a.eval):=by
 cases x with
 |none=>simp only[evo,Option.some.injEq]at hx;subst hx;trivial
 |some x=>
  simp only[evo]at hx
  split at hx<;>try (cases hx;done)
  rename_i d' hd
  cases hx
  exact ev_ok h hd
def evp(τ:List (Nat×D)):List (Nat×Operand)→Option (List (Nat×D))
 |[]=>some []
 |(i,x)::xs=>match ev τ x with
  |some d=>match evp τ xs with
   |some ds=>some ((i,d)::ds)
   |none=>none
  |none=>none
theorem evp_ok{G:Gh}{N:Nat}{τ:List (Nat×D)}{a:Act}(h:TRel G N τ a):∀{xs:List (Nat×Operand)}{ds:List (Nat×D)},evp τ xs=some ds→
 ds.length=xs.length∧∀(j i:Nat) (d:D),ds[j]? =some (i,d)→∃v,(xs.map fun(i,x)=>(i,a.eval x))[j]? =some (i,v)∧Rep G d v
 |[],_,hx=>by simp only[evp,Option.some.injEq]at hx;subst hx;simp
 |(i,x)::xs,_,hx=>by
  simp only[evp]at hx
  split at hx<;>try (cases hx;done)
  rename_i d hd
  split at hx<;>try (cases hx;done)
  rename_i ds hds
  cases hx
  obtain⟨h1,h2⟩:=evp_ok h hds
  refine⟨by simp[h1],fun j i' d' hj=> ?_⟩
  cases j with
  |zero=>
   simp only[List.getElem?_cons_zero,Option.some.injEq,Prod.mk.injEq]at hj
   obtain⟨rfl,rfl⟩:=hj
   exact⟨_,rfl,ev_ok h hd⟩
  |succ j=>
   simp only[List.getElem?_cons_succ]at hj
   simpa using h2 j i' d' hj
inductive SK where
 |slice (sz:Nat)|string|array (n sz:Nat)
def tySlice(P:Program) (t:TypeId):Option SK:=
 match P.underlying t with
 |some .string=>some .string
 |some (.slice _)=>(tySl P t).map fun x=> .slice x.1
 |some (.array _ _)=>match tyArr P t with
  |some (n,sz)=>if n≤9223372036854775807 then some (.array n sz) else none
  |none=>none
 |_=>none
inductive IK where
 |slice (sz:Nat)|array (n sz:Nat)
def tyIdx(P:Program) (t:TypeId):Option IK:=
 match P.underlying t with
 |some (.slice _)=>(tySl P t).map fun x=> .slice x.1
 |some (.array _ _)=>(tyArr P t).map fun x=> .array x.1 x.2
 |_=>none
inductive IVK where
 |string|array (len n:Nat) (agg:Bool)
def tyIdxV(P:Program) (t:TypeId):Option IVK:=
 match P.underlying t with
 |some .string=>some .string
 |some (.array len e)=>match tyLd P e with
  |some (n,b)=>some (.array len n b)
  |none=>none
 |_=>none
inductive Tr (α:Type) where
 |nil
 |node (l:Tr α) (k:Nat) (x:α) (r:Tr α)
def lk{α:Type}(tr:Tr α) (t:Nat):Option α:=
 match tr with
 | .nil=>none
 | .node l k x r=>match Nat.beq t k with
   |true=>some x
   |false=>match Nat.ble t k with
    |true=>lk l t
    |false=>lk r t
def lk2{α:Type}(tr:Tr α) (s t:Nat):Option α:=
 match Nat.ble t 65535 with
 |true=>lk tr (Nat.add (Nat.mul s 65536) t)
 |false=>none
def Tr.toL{α:Type}:Tr α→List (Nat×α)
 | .nil=>[]
 | .node l k x r=>l.toL++(k,x)::r.toL
theorem lk_mem{α:Type}:∀{tr:Tr α}{t:Nat}{x:α},lk tr t=some x→(t,x) ∈ tr.toL
 | .nil,_,_,h=>by simp[lk]at h
 | .node l k y r,t,x,h=>by
   simp only[lk]at h
   simp only[Tr.toL,List.mem_append,List.mem_cons]
   split at h
   ·rename_i e
    have:=Nat.eq_of_beq_eq_true e
    cases h;subst this;exact .inr (.inl rfl)
   ·split at h
    ·exact .inl (lk_mem h)
    ·exact .inr (.inr (lk_mem h))
def TrOk{α:Type}(f:Nat→Option α) (tr:Tr α):Prop:=(tr.toL.map fun p=>f p.1)=tr.toL.map fun p=>some p.2
theorem lk_of{α:Type}{f:Nat→Option α}{tr:Tr α}(he:TrOk f tr) {t:Nat}{x:α}(h:lk tr t=some x):f t=some x:=by
 have hm:=lk_mem h
 obtain⟨n,hn,hx⟩:=List.getElem_of_mem hm
 have:=congrArg (·[n]?) he
 simpa[hn,hx] using this
theorem lk2_of{α:Type}{f:Nat→Nat→Option α}{tr:Tr α}(he:TrOk (fun k=>f (k / 65536) (k % 65536)) tr) {s t:Nat}{x:α}(h:lk2 tr s t=some x):f s t=some x:=by
 unfold lk2 at h
 split at h<;>try (cases h;done)
 rename_i ht
 have ht:=Nat.le_of_ble_eq_true ht
 have:=lk_of he h
 have e1:(Nat.add (Nat.mul s 65536) t) / 65536=s:=by
  show(s*65536+t) / 65536=s
  omega
 have e2:(Nat.add (Nat.mul s 65536) t) % 65536=t:=by
  show(s*65536+t) % 65536=t
  omega
 rw[e1,e2]at this
 exact this
def tyMeth(P:Program) (t:TypeId) (name:String):Option FuncId:=
 match P.info? t with
 |some i=>match i.methods.find? (·.name==name) with
  |some m=>match m.path.toList,m.func,P.underlying t with
   |[],some (f,false),some (.struct _)=>some f
   |_,_,_=>none
  |none=>none
 |none=>none
def lkM:List (Nat×String×Nat)→Nat→String→Option Nat
 |[],_,_=>none
 |(t,n,f)::r,t',n' =>match Nat.beq t t' with
  |true=>match n==n' with
   |true=>some f
   |false=>lkM r t' n'
  |false=>lkM r t' n'
inductive ExK where
 |count|indexByte
def tyExt(P:Program) (f:FuncId):Option ExK:=
 match P.funcs[f]? with
 |some fn=>match fn.body with
  |some _=>none
  |none=>match fn.origin== "" with
   |false=>none
   |true=>match fn.name== "internal/bytealg.CountString" with
    |true=>some .count
    |false=>match fn.name== "internal/bytealg.IndexByteString" with
     |true=>some .indexByte
     |false=>none
 |none=>none
structure Tys where
 ld:Tr (Nat×Bool):= .nil
 fld:Tr Nat:= .nil
 fldV:Tr (Nat×Nat×Bool):= .nil
 zero:Tr (List D):= .nil
 build:Tr (List D×BKind):= .nil
 bs:Tr (List D×Nat):= .nil
 msl:Tr (Nat×Nat):= .nil
 eq:Tr EK:= .nil
 conv:Tr CK:= .nil
 conc:Tr Unit:= .nil
 sli:Tr SK:= .nil
 idx:Tr IK:= .nil
 idxV:Tr IVK:= .nil
 map:Tr (LK×D):= .nil
 len:Tr LKind:= .nil
 app:Tr (Nat×Nat):= .nil
 meth:List (Nat×String×Nat):=[]
 ext:Tr ExK:= .nil
def tyConc(P:Program) (t:TypeId):Option Unit:=if tyConcrete P t then some () else none
structure TOk (T:Tys) (P:Program):Prop where
 ld:TrOk (tyLd P) T.ld
 fld:TrOk (fun k=>tyFld P (k / 65536) (k % 65536)) T.fld
 fldV:TrOk (fun k=>tyFldV P (k / 65536) (k % 65536)) T.fldV
 zero:TrOk (tyZero P) T.zero
 build:TrOk (tyBuild P) T.build
 bs:TrOk (tyBS P) T.bs
 msl:TrOk (tySl P) T.msl
 eq:TrOk (tyEq P) T.eq
 conv:TrOk (fun k=>tyConv P (k / 65536) (k % 65536)) T.conv
 conc:TrOk (tyConc P) T.conc
 sli:TrOk (tySlice P) T.sli
 idx:TrOk (tyIdx P) T.idx
 idxV:TrOk (tyIdxV P) T.idxV
 map:TrOk (tyMap P) T.map
 len:TrOk (tyLen P) T.len
 app:TrOk (fun k=>tyApp P (k / 65536) (k % 65536)) T.app
 meth:(T.meth.map fun p=>tyMeth P p.1 p.2.1)=T.meth.map fun p=>some p.2.2
 ext:TrOk (tyExt P) T.ext
theorem lkM_of{f:Nat→String→Option Nat}:∀{l:List (Nat×String×Nat)},(l.map fun p=>f p.1 p.2.1)=(l.map fun p=>some p.2.2)→∀{t:Nat}{n:String}{x:Nat},lkM l t n=some x→f t n=some x
 |[],_,_,_,_,h=>by simp[lkM]at h
 |(i,m,y)::r,he,t,n,x,h=>by
  simp only[List.map_cons,List.cons.injEq]at he
  simp only[lkM]at h
  split at h
  ·rename_i e
   have e:=Nat.eq_of_beq_eq_true e
   split at h
   ·rename_i e2
    have e2:m=n:=by simpa using e2
    subst e e2;cases h;exact he.1
   ·exact lkM_of he.2 h
  ·exact lkM_of he.2 h
section
variable (T:Tys) (τ:List (Nat×D)) (σ:List AObj)
def oPick(c a b:Operand):Option D:=
 match ev τ c with
 |some (.bool r)=>ev τ (if r then a else b)
 |_=>none
def oBox(x:Operand):Option (D×List AObj):=
 match ev τ x with
 |some d=>match d.cells? with
  |some cs=>some (.ptr σ.length 0 0,σ++[.cells cs 0 0])
  |none=>none
 |none=>none
def oBuild(t:TypeId) (ps:List (Nat×Operand)):Option D:=
 match lk T.build t,evp τ ps with
 |some (z,bk),some ds=>(fillD bk.place z ds).map .agg
 |_,_=>none
def oBuildSlice(t:TypeId) (len:Nat) (ps:List (Nat×Operand)):Option D:=
 match lk T.bs t,evp τ ps with
 |some (z,sz),some ds=>if len*sz≤16777216 then(fillD (fun i=>some (i*sz,sz)) (repZ z len) ds).map fun cs=> .list cs len true else none
 |_,_=>none
def ldFin(b:Bool) (cs:List D):Option D:=if b then some (.agg cs) else match cs with|[x]=>some x|_=>none
def oLoad(t:TypeId) (x:Operand):Option D:=
 match lk T.ld t,ev τ x with
 |some (n,b),some d=>if b=true∨n=1 then(match readAt σ d n with|some cs=>ldFin b cs|none=>none) else none
 |_,_=>none
def oStore(t:TypeId) (p x:Operand):Option (List AObj):=
 match lk T.ld t,ev τ p,ev τ x with
 |some (n,_),some d,some e=>match e.cells? with
  |some cs=>if cs.length=n then writeAt σ d cs else none
  |none=>none
 |_,_,_=>none
def oNil(x:Operand):Option D:=
 match ev τ x with
 |some (.ptr l u o)=>some (.ptr l u o)
 |some (.rptr cs o)=>some (.rptr cs o)
 |some (.iface t v)=>some (.iface t v)
 |some .anyi=>some .anyi
 |some (.func (.func f) a b)=>some (.func (.func f) a b)
 |_=>none
def oBin(op:BinOp) (t:TypeId) (x y:Operand):Option D:=
 match ev τ x,ev τ y with
 |some d,some e=>binD (lk T.eq t) op (isCst x||isCst y) d e
 |_,_=>none
def oUn(op:UnOp) (x:Operand):Option D:=
 match ev τ x with
 |some d=>unD op d
 |none=>none
def oConv(s t:TypeId) (x:Operand):Option D:=
 match lk2 T.conv s t,ev τ x with
 |some ck,some d=>convD σ ck d
 |_,_=>none
def oIface(t:TypeId) (x:Operand):Option D:=
 match ev τ x with
 |some d=>match lk T.conc t with|some _=>some (.iface t d)|none=>none
 |none=>none
def oFunc(fn:Fn) (a b:List Operand):Option D:=
 match evs τ a,evs τ b with
 |some ds,some es=>some (.func fn ds es)
 |_,_=>none
def oMakeSlice(t:TypeId) (l c:Operand):Option (D×List AObj):=
 match ev τ l,ev τ c with
 |some d,some e=>mkSlD (lk T.bs t) (lk T.msl t) σ d e
 |_,_=>none
def slStr(x:D) (l h:Option Int):Option D:=
 match x with
 | .str s=>match bnds s.length true l h none with
   |some (l,h,_)=>some (.str ((s.take h).drop l))
   |none=>none
 |_=>none
def oSlice(t:TypeId) (x:Operand) (lo hi mx:Option Operand):Option D:=
 match lk T.sli t,ev τ x,evo τ lo,evo τ hi,evo τ mx with
 |some sk,some d,some l,some h,some m=>match optInt l,optInt h,optInt m with
  |some l,some h,some m=>match sk with
   | .slice sz=>sliceD sz d l h m
   | .string=>(match m with|none=>slStr d l h|some _=>none)
   | .array n sz=>match readAt σ d (n*sz) with
     |some _=>sliceArrD n sz d l h m
     |none=>none
  |_,_,_=>none
 |_,_,_,_,_=>none
def oFieldAddr(s:TypeId) (x:Operand) (f:Nat):Option D:=
 match lk2 T.fld s f,ev τ x with
 |some off,some d=>ptrAdd d off
 |_,_=>none
def oField(s:TypeId) (x:Operand) (f:Nat):Option D:=
 match lk2 T.fldV s f,ev τ x with
 |some (off,n,b),some (.agg cs)=>partD cs off n b
 |_,_=>none
def oIndexAddr(t:TypeId) (x i:Operand):Option D:=
 match lk T.idx t,ev τ x,ev τ i with
 |some ik,some d,some e=>match idxInt e with
  |some n=>match ik with
   | .slice sz=>idxSl sz d n
   | .array len sz=>if 0≤n∧n<len then ptrAdd d (n.toNat*sz) else none
  |none=>none
 |_,_,_=>none
def strAt(s:List UInt8) (n:Int):Option D:=
 if 0≤n then(match s[n.toNat]? with|some b=>some (.int .u8 b.toNat)|none=>none) else none
def oIndex(t:TypeId) (x i:Operand):Option D:=
 match lk T.idxV t,ev τ x,ev τ i with
 |some ik,some d,some e=>match idxInt e with
  |some n=>match ik,d with
   | .string,.str s=>strAt s n
   | .array len sz b,.agg cs=>if 0≤n∧n<len then partD cs (n.toNat*sz) sz b else none
   |_,_=>none
  |none=>none
 |_,_,_=>none
def oLookup(t:TypeId) (m k:Operand) (ok:Bool):Option D:=
 match lk T.map t,ev τ m,ev τ k with
 |some (lk',z),some d,some e=>lookD σ lk' z ok d e
 |_,_,_=>none
def oUpd(t:TypeId) (m k x:Operand):Option (List AObj):=
 match lk T.map t,ev τ m,ev τ k,ev τ x with
 |some (lk',_),some d,some e,some y=>updD σ lk' d e y
 |_,_,_,_=>none
def oRange(t:TypeId) (x:Operand):Option (D×List AObj):=
 match ev τ x with
 |some (.str s)=>match lk T.sli t with
  |some .string=>some (.ptr σ.length 0 0,σ++[.siter s 0])
  |_=>none
 |some (.cmap ks vs)=>match lk T.map t with
  |some _=>some (.ptr σ.length 0 0,σ++[.miter ks vs (List.range ks.length) none])
  |none=>none
 |_=>none
def oEntry(it:Operand):Option D:=
 match ev τ it with
 |some d=>entryD σ d
 |none=>none
def oExtract(x:Operand) (i:Nat):Option D:=
 match ev τ x with
 |some (.tuple ds)=>ds[i]?
 |_=>none
def oLen:List Operand→List TypeId→Option (D×List AObj)
 |[x],[t]=>match lk T.len t,ev τ x with
  |some k,some d=>(lenK k d).map fun(n:Nat)=>(.int .i64 n,σ)
  |_,_=>none
 |_,_=>none
def oAppend:List Operand→List TypeId→Option (D×List AObj)
 |[s,x],[t,tx]=>match lk2 T.app t tx,ev τ s,ev τ x with
  |some (sz,by'),some d,some e=>appD σ sz by' d e
  |_,_,_=>none
 |_,_=>none
def oMM(mx:Bool) (xs:List Operand):Option (D×List AObj):=
 match evs τ xs with
 |some ds=>(mmL mx ds).map (·,σ)
 |none=>none
def oBuiltin(b:Builtin) (args:List Operand) (ts:List TypeId):Option (D×List AObj):=
 match b with
 | .len=>oLen T τ σ args ts
 | .append=>oAppend T τ σ args ts
 | .max=>oMM τ σ true args
 | .min=>oMM τ σ false args
 |_=>none
def aop(op:Op):Option (D×List AObj):=
 match op with
 | .move x=>(ev τ x).map (·,σ)
 | .assign x=>(ev τ x).map (·,σ)
 | .pick c a b=>(oPick τ c a b).map (·,σ)
 | .alloc e=>(lk T.zero e).map fun cs=>(.ptr σ.length 0 0,σ++[.cells cs 0 0])
 | .box _ x=>oBox τ σ x
 | .build t ps=>(oBuild T τ t ps.toList).map (·,σ)
 | .buildSlice t len ps=>(oBuildSlice T τ t len ps.toList).map (·,σ)
 | .load t x=>(oLoad T τ σ t x).map (·,σ)
 | .store t p x=>(oStore T τ σ t p x).map (.junk,·)
 | .nilCheck x=>(oNil τ x).map (·,σ)
 | .binOp op t x y _=>(oBin T τ op t x y).map (·,σ)
 | .unOp op _ x=>(oUn τ op x).map (·,σ)
 | .convert s t x=>(oConv T τ σ s t x).map (·,σ)
 | .makeInterface t x=>(oIface T τ t x).map (·,σ)
 | .makeFunc fn a b=>(oFunc τ fn a.toList b.toList).map (·,σ)
 | .makeMap _ none=>some (.map σ.length,σ++[.map [] []])
 | .makeSlice t l c=>oMakeSlice T τ σ t l c
 | .slice t x lo hi mx=>(oSlice T τ σ t x lo hi mx).map (·,σ)
 | .fieldAddr s x f=>(oFieldAddr T τ s x f).map (·,σ)
 | .field s x f=>(oField T τ s x f).map (·,σ)
 | .indexAddr t x i=>(oIndexAddr T τ t x i).map (·,σ)
 | .index t x i=>(oIndex T τ t x i).map (·,σ)
 | .lookup t m k ok=>(oLookup T τ σ t m k ok).map (·,σ)
 | .mapUpdate t m k x=>(oUpd T τ σ t m k x).map (.junk,·)
 | .insert t m k x=>(oUpd T τ σ t m k x).map (.junk,·)
 | .range t x=>oRange T τ σ t x
 | .next it true=>match ev τ it with
   |some d=>nextStrD σ d
   |none=>none
 | .entry it=>(oEntry τ σ it).map (·,σ)
 | .extract x i=>(oExtract τ x i).map (·,σ)
 | .call c=>match c.callee with
   | .builtin b=>oBuiltin T τ σ b c.args.toList c.argTypes.toList
   |_=>none
 |_=>none
end
end Go.Fw
namespace Go.Fw
open Go.RowKit
section
variable {P:Program}{T:Tys}{B:Base P}{G:Gh}{σ σ' :List AObj}{w:World}{N:Nat}{τ:List (Nat×D)}{a:Act}{d:D}
theorem out_val{s:Sem Value}{u:Value}{w' :World}{G' :Gh}(h:s.run P w= .ok u w') (hle:G.Le G') (hR:Rel B G' σ' w') (hd:Rep G' d u):
 Out B G d σ' ((do pure (Next.value (←s)):Sem Next).run P w):=
 ⟨u,w',G',.inl (by simp[h]),hle,hR,hd⟩
theorem out_same{s:Sem Value}(hR:Rel B G σ w) (h:∃u,s.run P w= .ok u w∧Rep G d u):Out B G d σ ((do pure (Next.value (←s)):Sem Next).run P w):=by
 obtain⟨u,hu,hd⟩:=h
 exact out_val hu (.refl G) hR hd
theorem out_new{s:Sem Value}(h:∃u w' G',s.run P w= .ok u w'∧G.Le G'∧Rel B G' σ' w'∧Rep G' d u):Out B G d σ' ((do pure (Next.value (←s)):Sem Next).run P w):=by
 obtain⟨u,w',G',hu,hle,hR,hd⟩:=h
 exact out_val hu hle hR hd
theorem out_unit{s:Sem Unit}(h:∃w',s.run P w= .ok () w'∧Rel B G σ' w'):Out B G .junk σ' ((do s;pure Next.skip:Sem Next).run P w):=by
 obtain⟨w',hu,hR⟩:=h
 exact⟨undef,w',G,.inr ⟨by simp[hu],rfl⟩,.refl G,hR,by simp only[Rep]⟩
theorem map_some{α β:Type}{x:Option α}{f:α→β}{b:β}(h:x.map f=some b):∃a,x=some a∧f a=b:=by
 cases x with
 |none=>cases h
 |some a=>exact⟨a,rfl,by simpa using h⟩
theorem mapσ{x:Option D}(h:x.map (·,σ)=some (d,σ')):x=some d∧σ' =σ:=by
 obtain⟨a,h1,h2⟩:=map_some h
 cases h2
 exact⟨h1,rfl⟩
theorem mapj{x:Option (List AObj)}(h:x.map (D.junk,·)=some (d,σ')):x=some σ'∧d= .junk:=by
 obtain⟨a,h1,h2⟩:=map_some h
 cases h2
 exact⟨h1,rfl⟩
theorem tySl_of{t:TypeId}{sz:Nat}(h:(tySl P t).map (fun x=>SK.slice x.1)=some (.slice sz)):∃by',tySl P t=some (sz,by'):=by
 obtain⟨⟨s,b⟩,h1,h2⟩:=map_some h
 cases h2
 exact⟨b,h1⟩
def notNum:Value→Bool
 | .int _ _=>false
 | .float _ _=>false
 | .complex _ _ _=>false
 | .string _=>false
 |_=>true
theorem bin_eql{t:TypeId}{u v:Value}(h:notNum u=true):(binOp .eql t u v).run P w=((Op.equal t u v).run P w).andThen fun r w' => .ok (.bool r) w' :=by
 cases u<;>first|(simp[notNum]at h;done)|(simp only[binOp];simp)
theorem bin_neq{t:TypeId}{u v:Value}(h:notNum u=true):(binOp .neq t u v).run P w=((Op.equal t u v).run P w).andThen fun r w' => .ok (.bool (!r)) w' :=by
 cases u<;>first|(simp[notNum]at h;done)|(simp only[binOp];simp)
theorem bin_ok(hTy:TOk T P) (hT:TRel G N τ a) {op:BinOp}{t:TypeId}{x y:Operand}(h:oBin T τ op t x y=some d):
 ∃u,(do eqGuard op t x y (a.eval x) (a.eval y);binOp op t (a.eval x) (a.eval y):Sem Value).run P w= .ok u w∧Rep G d u:=by
 unfold oBin at h
 split at h<;>try (cases h;done)
 rename_i dx dy hx hy
 have hxr:=ev_ok hT hx
 have hyr:=ev_ok hT hy
 generalize a.eval x=u at hxr
 generalize a.eval y=v at hyr
 unfold binD at h
 split at h
 ·simp only[Rep]at hxr hyr
  subst hxr hyr
  obtain⟨r,hr,hrep⟩:=int_ok (P:=P) (G:=G) (w:=w) t h
  refine⟨r,?_,hrep⟩
  rw[Sem.run_bind,eqGuard_prim (fun _ _=> .inl (by simp)) (.inl (by simp))]
  exact hr
 ·simp only[Rep]at hxr hyr
  subst hxr hyr
  obtain⟨r,hr,hrep⟩:=str_ok (P:=P) (G:=G) (w:=w) t h
  refine⟨r,?_,hrep⟩
  rw[Sem.run_bind,eqGuard_prim (fun _ _=> .inl (by simp)) (.inl (by simp))]
  exact hr
 ·rename_i hni hns
  have key:∀(ek:EK) (r:Bool),tyEq P t=some ek→eqD (isCst x||isCst y) ek dx dy=some r→(eqGuard op t x y u v).run P w= .ok () w∧(Op.equal t u v).run P w= .ok r w∧notNum u=true:=by
   intro ek r hek hr
   have heq:=eq_run (P:=P) (G:=G) (w:=w) hek hr hxr hyr
   have hprim:(∀xs ys,u≠.agg xs∨v≠.agg ys)→(u≠.nilIface∨v≠.nilIface)→(eqGuard op t x y u v).run P w= .ok () w:=eqGuard_prim
   cases ek with
   |prim=>cases dx<;>cases dy<;>simp only[eqD]at hr<;>cases hr
   |bool=>
    cases dx<;>cases dy<;>simp only[eqD]at hr<;>try (cases hr;done)
    simp only[Rep]at hxr hyr
    subst hxr hyr
    exact⟨hprim (fun _ _=> .inl (by simp)) (.inl (by simp)),heq,rfl⟩
   |flat ks=>
    cases dx<;>cases dy<;>simp only[eqD]at hr<;>try (cases hr;done)
    simp only[Rep]at hxr hyr
    obtain⟨xa,rfl,_⟩:=hxr
    obtain⟨ya,rfl,_⟩:=hyr
    have hg:P.eqGuardType P.depth t=false:=by
     unfold tyEq at hek
     split at hek<;>try (cases hek;done)
     split at hek<;>try (cases hek;done)
     rename_i hg;exact hg
    exact⟨run_eqGuard_agg w op t x y xa ya hg,heq,rfl⟩
   |iface=>
    cases dx<;>cases dy<;>simp only[eqD]at hr<;>try (cases hr;done)
    all_goals simp only[Rep]at hxr hyr
    ·obtain⟨_,rfl,_⟩:=hxr;subst hyr
     exact⟨hprim (fun _ _=> .inl (by simp)) (.inl (by simp)),heq,rfl⟩
    ·obtain⟨_,rfl,_⟩:=hyr;subst hxr
     exact⟨hprim (fun _ _=> .inl (by simp)) (.inr (by simp)),heq,rfl⟩
    ·subst hxr hyr
     refine⟨?_,heq,rfl⟩
     split at hr<;>try (cases hr;done)
     rename_i hcst
     unfold eqGuard
     cases op<;>first|rfl|skip
     all_goals
      cases x<;>cases y<;>first|rfl|(simp[isCst]at hcst)
    ·obtain⟨_,_,rfl⟩:=hyr;subst hxr
     exact⟨hprim (fun _ _=> .inl (by simp)) (.inr (by simp)),heq,rfl⟩
    ·obtain⟨_,_,rfl⟩:=hxr;subst hyr
     exact⟨hprim (fun _ _=> .inl (by simp)) (.inl (by simp)),heq,rfl⟩
   |ptr=>
    cases dx<;>cases dy<;>simp only[eqD]at hr<;>try (cases hr;done)
    all_goals simp only[Rep]at hxr hyr
    ·subst hxr hyr
     exact⟨hprim (fun _ _=> .inl (by simp)) (.inl (by simp)),heq,rfl⟩
    ·subst hxr
     exact⟨hprim (fun _ _=> .inl (by simp)) (.inl (by simp)),heq,rfl⟩
    ·subst hxr
     exact⟨hprim (fun _ _=> .inl (by simp)) (.inl (by simp)),heq,rfl⟩
    ·obtain⟨_,_,rfl⟩:=hxr
     exact⟨hprim (fun _ _=> .inl (by simp)) (.inl (by simp)),heq,rfl⟩
    ·obtain⟨_,_,rfl,_⟩:=hxr
     exact⟨hprim (fun _ _=> .inl (by simp)) (.inl (by simp)),heq,rfl⟩
   |func=>
    cases dx<;>cases dy<;>simp only[eqD]at hr<;>try (cases hr;done)
    all_goals simp only[Rep]at hxr hyr
    ·obtain⟨_,_,rfl,_⟩:=hxr
     exact⟨hprim (fun _ _=> .inl (by simp)) (.inl (by simp)),heq,rfl⟩
    ·subst hxr
     exact⟨hprim (fun _ _=> .inl (by simp)) (.inl (by simp)),heq,rfl⟩
    ·subst hxr
     exact⟨hprim (fun _ _=> .inl (by simp)) (.inl (by simp)),heq,rfl⟩
   |map=>
    cases dx<;>cases dy<;>simp only[eqD]at hr<;>try (cases hr;done)
    all_goals simp only[Rep]at hxr hyr
    ·obtain⟨_,_,rfl⟩:=hxr
     exact⟨hprim (fun _ _=> .inl (by simp)) (.inl (by simp)),heq,rfl⟩
    ·subst hxr
     exact⟨hprim (fun _ _=> .inl (by simp)) (.inl (by simp)),heq,rfl⟩
    ·subst hxr
     exact⟨hprim (fun _ _=> .inl (by simp)) (.inl (by simp)),heq,rfl⟩
    ·subst hxr
     exact⟨hprim (fun _ _=> .inl (by simp)) (.inl (by simp)),heq,rfl⟩
    ·obtain⟨_,_,rfl,_⟩:=hxr
     exact⟨hprim (fun _ _=> .inl (by simp)) (.inl (by simp)),heq,rfl⟩
  split at h<;>try (cases h;done)
  ·rename_i ek hek
   obtain⟨r,hr,rfl⟩:=map_some h
   obtain⟨k1,k2,k3⟩:=key ek r (lk_of hTy.eq hek) hr
   refine⟨.bool r,?_,by simp only[Rep]⟩
   rw[Sem.run_bind,k1,Result.andThen_ok,bin_eql k3,k2];rfl
  ·rename_i ek hek
   obtain⟨r,hr,rfl⟩:=map_some h
   obtain⟨k1,k2,k3⟩:=key ek r (lk_of hTy.eq hek) hr
   refine⟨.bool (!r),?_,by simp only[Rep]⟩
   rw[Sem.run_bind,k1,Result.andThen_ok,bin_neq k3,k2];rfl
set_option maxHeartbeats 1000000 in
theorem aop_ok(hTy:TOk T P) (hR:Rel B G σ w) (hT:TRel G N τ a) (o:Oper) (h:aop T τ σ o.op=some (d,σ')):Out B G d σ' ((execOp a.eval o).run P w):=by
 obtain⟨dst,op,ty,pos,after,guard⟩:=o
 simp only at h
 unfold execOp
 cases op<;>simp only[aop]at h⊢<;>try (cases h;done)
 case move x=>
  obtain⟨hx,rfl⟩:=mapσ h
  exact .here hR (ev_ok hT hx)
 case assign x=>
  obtain⟨hx,rfl⟩:=mapσ h
  exact .here hR (ev_ok hT hx)
 case pick c x y=>
  obtain⟨hx,rfl⟩:=mapσ h
  unfold oPick at hx
  split at hx<;>try (cases hx;done)
  rename_i r hc
  have hcr:=ev_ok hT hc
  simp only[Rep]at hcr
  simp only[hcr,asBool,Sem.run_bind,Sem.run_pure,Result.andThen_ok]
  cases r
  ·exact .here hR (ev_ok hT hx)
  ·exact .here hR (ev_ok hT hx)
 case alloc e=>
  obtain⟨cs,hz,h2⟩:=map_some h
  cases h2
  have hz:=lk_of hTy.zero hz
  obtain⟨w',G',v,h1,h2,h3,h4⟩:=alloc_ok hR hz
  exact out_val h1 h2 h3 h4
 case box e x=>
  unfold oBox at h
  split at h<;>try (cases h;done)
  rename_i dx hx
  split at h<;>try (cases h;done)
  rename_i cs hcs
  cases h
  obtain⟨w',G',v,h1,h2,h3,h4⟩:=box_ok (P:=P) (t:=e) hR hcs (ev_ok hT hx)
  exact out_val h1 h2 h3 h4
 case build t ps=>
  obtain⟨hx,rfl⟩:=mapσ h
  unfold oBuild at hx
  split at hx<;>try (cases hx;done)
  rename_i z bk ds htb hp
  have htb:=lk_of hTy.build htb
  obtain⟨out,hf,rfl⟩:=map_some hx
  obtain⟨hl,hpp⟩:=evp_ok hT hp
  refine out_same hR (build_ok htb hf (by simpa using hl) (fun j i d hj=> ?_))
  obtain⟨v,hv,hr⟩:=hpp j i d hj
  exact⟨v,by simpa using hv,hr⟩
 case buildSlice t len ps=>
  obtain⟨hx,rfl⟩:=mapσ h
  unfold oBuildSlice at hx
  split at hx<;>try (cases hx;done)
  rename_i z sz ds htb hp
  have htb:=lk_of hTy.bs htb
  split at hx<;>try (cases hx;done)
  rename_i hlen
  obtain⟨out,hf,rfl⟩:=map_some hx
  obtain⟨hl,hpp⟩:=evp_ok hT hp
  refine out_new (buildSlice_ok hR htb hlen hf (by simpa using hl) (fun j i d hj=> ?_))
  obtain⟨v,hv,hr⟩:=hpp j i d hj
  exact⟨v,by simpa using hv,hr⟩
 case load t x=>
  obtain⟨hx,rfl⟩:=mapσ h
  unfold oLoad at hx
  split at hx<;>try (cases hx;done)
  rename_i n b dx ht hdx
  have ht:=lk_of hTy.ld ht
  split at hx<;>try (cases hx;done)
  rename_i hb
  split at hx<;>try (cases hx;done)
  rename_i cs hcs
  obtain⟨u,hu,hrep⟩:=load_ok hR ht (ev_ok hT hdx) hcs hb
  refine out_same hR ⟨u,hu,?_⟩
  unfold ldFin at hx
  cases b with
  |true=>simp only[if_true,Option.some.injEq]at hx hrep;subst hx;exact hrep
  |false=>
   simp only[Bool.false_eq_true,if_false]at hx hrep
   obtain⟨y,rfl,hy⟩:=hrep
   simp only[Option.some.injEq]at hx
   subst hx;exact hy
 case store t p x=>
  obtain⟨hx,rfl⟩:=mapj h
  unfold oStore at hx
  split at hx<;>try (cases hx;done)
  rename_i n b dp dx ht hdp hdx
  have ht:=lk_of hTy.ld ht
  split at hx<;>try (cases hx;done)
  rename_i cs hcs
  split at hx<;>try (cases hx;done)
  rename_i hn
  exact out_unit (store_ok hR ht hcs hn hx (ev_ok hT hdp) (ev_ok hT hdx))
 case nilCheck x=>
  obtain⟨hx,rfl⟩:=mapσ h
  unfold oNil at hx
  split at hx<;>try (cases hx;done)
  all_goals
   rename_i hdx
   cases hx
   have hr:=ev_ok hT hdx
   have hr0:=hr
   simp only[Rep]at hr
  ·obtain⟨b,_,he⟩:=hr
   rw[he]at hr0⊢
   exact .here hR hr0
  ·obtain⟨b,_,he,_⟩:=hr
   rw[he]at hr0⊢
   exact .here hR hr0
  ·obtain⟨b,he,_⟩:=hr
   rw[he]at hr0⊢
   exact .here hR hr0
  ·obtain⟨b,_,he⟩:=hr
   rw[he]at hr0⊢
   exact .here hR hr0
  ·obtain⟨b,_,he,_⟩:=hr
   rw[he]at hr0⊢
   exact .here hR hr0
 case binOp op t x y yt=>
  obtain⟨hx,rfl⟩:=mapσ h
  exact out_same hR (bin_ok hTy hT hx)
 case unOp op t x=>
  obtain⟨hx,rfl⟩:=mapσ h
  unfold oUn at hx
  split at hx<;>try (cases hx;done)
  rename_i dx hdx
  exact out_same hR (un_ok hx (ev_ok hT hdx))
 case convert s t x=>
  obtain⟨hx,rfl⟩:=mapσ h
  unfold oConv at hx
  split at hx<;>try (cases hx;done)
  rename_i ck dx ht hdx
  have ht:=lk2_of hTy.conv ht
  exact out_new (conv_ok hR ht hx (ev_ok hT hdx))
 case makeInterface t x=>
  obtain⟨hx,rfl⟩:=mapσ h
  unfold oIface at hx
  split at hx<;>try (cases hx;done)
  rename_i dx hdx
  split at hx<;>try (cases hx;done)
  rename_i hc0 hc
  cases hx
  have hc:tyConcrete P t=true:=by
   have:=lk_of hTy.conc hc
   unfold tyConc at this
   split at this<;>first|assumption|cases this
  exact out_same hR ⟨_,mkIface_ok hc _,by simp only[Rep];exact⟨_,rfl,ev_ok hT hdx⟩⟩
 case makeFunc fn fs cs=>
  obtain⟨hx,rfl⟩:=mapσ h
  unfold oFunc at hx
  split at hx<;>try (cases hx;done)
  rename_i ds es h1 h2
  cases hx
  refine out_same hR ⟨_,rfl,?_⟩
  simp only[Rep]
  exact⟨_,_,rfl,by simpa using evs_ok hT h1,by simpa using evs_ok hT h2⟩
 case makeMap t r=>
  cases r with
  |some r=>simp only[]at h;cases h
  |none=>
   simp only[Option.some.injEq,Prod.mk.injEq]at h
   obtain⟨rfl,rfl⟩:=h
   exact out_new (makeMap_ok hR t)
 case makeSlice t l c=>
  unfold oMakeSlice at h
  split at h<;>try (cases h;done)
  rename_i dl dc hl hc
  exact out_new (makeSlice_ok hR (fun _ h=>lk_of hTy.bs h) (fun _ h=>lk_of hTy.msl h) h (ev_ok hT hl) (ev_ok hT hc))
 case slice t x lo hi mx=>
  obtain⟨hx,rfl⟩:=mapσ h
  unfold oSlice at hx
  split at hx<;>try (cases hx;done)
  rename_i sk dx dl dh dm hsk hdx hl hh hm
  have hsk:=lk_of hTy.sli hsk
  split at hx<;>try (cases hx;done)
  rename_i l h' m ol oh om
  have vl:=optInt_ok ol (evo_ok hT hl)
  have vh:=optInt_ok oh (evo_ok hT hh)
  have vm:=optInt_ok om (evo_ok hT hm)
  have hdr:=ev_ok hT hdx
  split at hx
  ·rename_i sz
   unfold tySlice at hsk
   split at hsk<;>try (cases hsk;done)
   ·obtain⟨by',hts⟩:=tySl_of hsk
    exact out_same hR (slice_ok hts hx vl vh vm hdr)
   ·split at hsk<;>try (cases hsk;done)
    split at hsk<;>cases hsk
  ·unfold tySlice at hsk
   split at hsk<;>try (cases hsk;done)
   ·rename_i hu
    split at hx<;>try (cases hx;done)
    unfold slStr at hx
    split at hx<;>try (cases hx;done)
    rename_i s
    split at hx<;>try (cases hx;done)
    rename_i l2 h2 f hb
    cases hx
    simp only[Rep]at hdr
    rw[hdr]
    generalize Option.map a.eval mx=mv at vm⊢
    cases vm
    exact out_same hR ⟨_,sliceStr_ok hu hb vl vh,by simp only[Rep]⟩
   ·obtain⟨_,_,h2⟩:=map_some hsk;cases h2
   ·split at hsk<;>try (cases hsk;done)
    split at hsk<;>cases hsk
  ·rename_i n sz
   split at hx<;>try (cases hx;done)
   rename_i cs hcs
   unfold tySlice at hsk
   split at hsk<;>try (cases hsk;done)
   ·obtain⟨_,_,h2⟩:=map_some hsk;cases h2
   ·split at hsk<;>try (cases hsk;done)
    rename_i n' sz' hta
    split at hsk<;>try (cases hsk;done)
    rename_i hn
    cases hsk
    exact out_same hR (sliceArr_ok hR hta hn hcs hx vl vh vm hdr)
 case fieldAddr s x f=>
  obtain⟨hx,rfl⟩:=mapσ h
  unfold oFieldAddr at hx
  split at hx<;>try (cases hx;done)
  rename_i off dx ht hdx
  have ht:=lk2_of hTy.fld ht
  exact out_same hR (fieldAt_ok ht hx (ev_ok hT hdx))
 case field s x f=>
  obtain⟨hx,rfl⟩:=mapσ h
  unfold oField at hx
  split at hx<;>try (cases hx;done)
  rename_i off n b cs ht hdx
  have ht:=lk2_of hTy.fldV ht
  exact out_same hR (field_ok ht hx (ev_ok hT hdx))
 case indexAddr t x i=>
  obtain⟨hx,rfl⟩:=mapσ h
  unfold oIndexAddr at hx
  split at hx<;>try (cases hx;done)
  rename_i ik dx di hik hdx hdi
  have hik:=lk_of hTy.idx hik
  split at hx<;>try (cases hx;done)
  rename_i n hn
  split at hx
  ·unfold tyIdx at hik
   split at hik<;>try (cases hik;done)
   ·obtain⟨⟨s,b⟩,h1,h2⟩:=map_some hik
    cases h2
    exact out_same hR (indexAtSl_ok h1 hn hx (ev_ok hT hdx) (ev_ok hT hdi))
   ·obtain⟨_,_,h2⟩:=map_some hik;cases h2
  ·unfold tyIdx at hik
   split at hik<;>try (cases hik;done)
   ·obtain⟨_,_,h2⟩:=map_some hik;cases h2
   ·obtain⟨⟨l,s⟩,h1,h2⟩:=map_some hik
    cases h2
    split at hx<;>try (cases hx;done)
    rename_i hb
    exact out_same hR (indexAtArr_ok h1 hn hb.1 hb.2 hx (ev_ok hT hdx) (ev_ok hT hdi))
 case index t x i=>
  obtain⟨hx,rfl⟩:=mapσ h
  unfold oIndex at hx
  split at hx<;>try (cases hx;done)
  rename_i ik dx di hik hdx hdi
  have hik:=lk_of hTy.idxV hik
  split at hx<;>try (cases hx;done)
  rename_i n hn
  have hdr:=ev_ok hT hdx
  split at hx<;>try (cases hx;done)
  ·rename_i s
   unfold tyIdxV at hik
   split at hik<;>try (cases hik;done)
   ·rename_i hu
    unfold strAt at hx
    split at hx<;>try (cases hx;done)
    rename_i h0
    split at hx<;>try (cases hx;done)
    rename_i b hb
    cases hx
    simp only[Rep]at hdr
    rw[hdr]
    exact out_same hR (indexStr_ok hu hn h0 hb (ev_ok hT hdi))
   ·split at hik<;>cases hik
  ·rename_i len sz b cs
   split at hx<;>try (cases hx;done)
   rename_i hb
   unfold tyIdxV at hik
   split at hik<;>try (cases hik;done)
   rename_i e hu
   split at hik<;>try (cases hik;done)
   rename_i n' b' he
   cases hik
   exact out_same hR (indexArr_ok hu he hn hb.1 hb.2 hx hdr (ev_ok hT hdi))
 case lookup t m k ok=>
  obtain⟨hx,rfl⟩:=mapσ h
  unfold oLookup at hx
  split at hx<;>try (cases hx;done)
  rename_i lk z dm dk ht hm hk
  have ht:=lk_of hTy.map ht
  exact out_same hR (lookup_ok hR ht hx (ev_ok hT hm) (ev_ok hT hk))
 case mapUpdate t m k x=>
  obtain⟨hx,rfl⟩:=mapj h
  unfold oUpd at hx
  split at hx<;>try (cases hx;done)
  rename_i lk z dm dk dx ht hm hk hdx
  have ht:=lk_of hTy.map ht
  exact out_unit (upd_ok hR ht hx (ev_ok hT hm) (ev_ok hT hk) (ev_ok hT hdx))
 case insert t m k x=>
  obtain⟨hx,rfl⟩:=mapj h
  unfold oUpd at hx
  split at hx<;>try (cases hx;done)
  rename_i lk z dm dk dx ht hm hk hdx
  have ht:=lk_of hTy.map ht
  exact out_unit (upd_ok hR ht hx (ev_ok hT hm) (ev_ok hT hk) (ev_ok hT hdx))
 case range t x=>
  unfold oRange at h
  split at h<;>try (cases h;done)
  ·rename_i s hdx
   split at h<;>try (cases h;done)
   rename_i hst
   cases h
   have hdr:=ev_ok hT hdx
   simp only[Rep]at hdr
   have hst:=lk_of hTy.sli hst
   unfold tySlice at hst
   split at hst
   ·rename_i hu
    rw[hdr]
    exact out_new (rangeStr_ok hR hu s)
   ·obtain⟨_,_,h2⟩:=map_some hst;cases h2
   ·split at hst<;>try (cases hst;done)
    split at hst<;>cases hst
   ·cases hst
  ·rename_i ks vs hdx
   split at h<;>try (cases h;done)
   rename_i lz hst
   cases h
   obtain⟨lk',z⟩:=lz
   obtain⟨k,e,kd,i,v,hu,_⟩:=tyMap_inv (lk_of hTy.map hst)
   exact out_new (rangeMap_ok hR hu (ev_ok hT hdx))
 case entry it=>
  obtain⟨hx,rfl⟩:=mapσ h
  unfold oEntry at hx
  split at hx<;>try (cases hx;done)
  rename_i di hdi
  exact out_same hR (entryMap_ok hR hx (ev_ok hT hdi))
 case next it isS=>
  cases isS with
  |false=>simp only[]at h;cases h
  |true=>
   simp only at h
   split at h<;>try (cases h;done)
   rename_i di hdi
   obtain⟨u,w',h1,h2,h3⟩:=nextStr_ok (P:=P) hR ty h (ev_ok hT hdi)
   exact out_val h1 (.refl G) h2 h3
 case extract x i=>
  obtain⟨hx,rfl⟩:=mapσ h
  unfold oExtract at hx
  split at hx<;>try (cases hx;done)
  rename_i ds hds
  exact out_same hR (extract_ok hx (ev_ok hT hds))
 case call c=>
  obtain⟨callee,args,ats⟩:=c
  cases callee<;>simp only[]at h<;>try (cases h;done)
  rename_i b
  simp only[resolve,Sem.run_bind,Sem.run_pure,Result.andThen_ok,invoke]
  unfold oBuiltin at h
  generalize hal:args.toList=al at h
  generalize htl:ats.toList=tl at h
  split at h<;>try (cases h;done)
  ·unfold oLen at h
   split at h<;>try (cases h;done)
   rename_i x t
   split at h<;>try (cases h;done)
   rename_i k dx hk hdx
   have hk:=lk_of hTy.len hk
   obtain⟨n,hn,h2⟩:=map_some h
   cases h2
   have ha:args= #[x]:=by apply Array.ext';simpa using hal
   have ht:ats= #[t]:=by apply Array.ext';simpa using htl
   subst ha ht
   simp only[builtin,List.map_toArray,List.map_cons,List.map_nil]
   have hrep:Rep G (.int .i64 (n:Int)) (.int .i64 (n:Int)):=by simp only[Rep]
   exact out_same hR ⟨.int .i64 n,len_ok hk hn (ev_ok hT hdx),hrep⟩
  ·unfold oAppend at h
   split at h<;>try (cases h;done)
   rename_i s x t tx
   split at h<;>try (cases h;done)
   rename_i sz by' ds dx ht' hds hdx
   have ht' :=lk2_of hTy.app ht'
   have ha:args= #[s,x]:=by apply Array.ext';simpa using hal
   have ht:ats= #[t,tx]:=by apply Array.ext';simpa using htl
   subst ha ht
   simp only[builtin,List.map_toArray,List.map_cons,List.map_nil]
   exact out_new (append_ok hR ht' h (ev_ok hT hds) (ev_ok hT hdx))
  ·unfold oMM at h
   split at h<;>try (cases h;done)
   rename_i ds hds
   obtain⟨r,hr,h2⟩:=map_some h
   cases h2
   obtain⟨u,hu,hrep⟩:=max_ok (P:=P) (w:=w) ats ty hr (evs_ok hT hds)
   refine out_same (s:=Builtin.max_ ats ty _) hR ⟨u,?_,hrep⟩
   rw[←hu,←hal]
   congr 2
   apply Array.ext'
   simp
  ·unfold oMM at h
   split at h<;>try (cases h;done)
   rename_i ds hds
   obtain⟨r,hr,h2⟩:=map_some h
   cases h2
   obtain⟨u,hu,hrep⟩:=min_ok (P:=P) (w:=w) ats ty hr (evs_ok hT hds)
   refine out_same (s:=Builtin.min_ ats ty _) hR ⟨u,?_,hrep⟩
   rw[←hu,←hal]
   congr 2
   apply Array.ext'
   simp
end
end Go.Fw
namespace Go.Fw
open Go.RowKit
section
variable {P:Program}{B:Base P}{G:Gh}{σ σ' :List AObj}{w:World}
theorem Rel.frzUp(hR:Rel B G σ w) {l frz u:Nat}{cs:List D}(hl:σ[l]? =some (.cells cs frz u)):Rel B G (σ.set l (.cells cs cs.length u)) w:=by
 have hlt:l<σ.length:=(List.getElem?_eq_some_iff.1 hl).1
 have look:∀{l' :Nat}{ob:AObj},(σ.set l (.cells cs cs.length u))[l']? =some ob→(l' =l∧ob= .cells cs cs.length u)∨(l'≠l∧σ[l']? =some ob):=by
  intro l' ob h
  by_cases e:l' =l
  ·subst e
   rw[List.getElem?_set_self hlt]at h
   exact .inl ⟨rfl,(Option.some.inj h).symm⟩
  ·rw[List.getElem?_set_ne (Ne.symm e)]at h
   exact .inr ⟨e,h⟩
 refine⟨hR.below,hR.imm,hR.mimm,hR.siz,fun l' u' b hb=> ?_,hR.inj,fun l' ob b ho hb=> ?_,fun l' cs' frz' u' b ho hb o v hi=> ?_,fun l' ks vs b ho hb=> ?_,fun l' ob ho=> ?_,fun l' ob ho=> ?_,hR.bimm,hR.bmimm⟩
 ·rw[List.length_set];exact hR.blk l' u' b hb
 ·rcases look ho with⟨rfl,rfl⟩|⟨_,h⟩
  ·exact hR.obj l' (.cells cs frz u) b hl hb
  ·exact hR.obj l' ob b h hb
 ·rcases look ho with⟨rfl,h⟩|⟨_,h⟩
  ·cases h
   exact Nat.lt_of_lt_of_le (hR.own l' _ _ _ b hl hb o v hi) (hR.frzle l' _ hl)
  ·exact hR.own l' _ _ _ b h hb o v hi
 ·rcases look ho with⟨_,h⟩|⟨_,h⟩
  ·cases h
  ·exact hR.ownm l' ks vs b h hb
 ·rcases look ho with⟨rfl,rfl⟩|⟨_,h⟩
  ·have h0:=hR.ver l' _ hl;exact h0
  ·exact hR.ver l' ob h
 ·rcases look ho with⟨_,rfl⟩|⟨_,h⟩
  ·exact Nat.le_refl _
  ·exact hR.frzle l' ob h
theorem freeze_ok(hR:Rel B G σ w) {l u o n sz frz:Nat}{full:Bool}{cs:List D}{v:Value}(hl:σ[l]? =some (.cells cs frz u)) (hlen:o+n*sz≤cs.length) (hv:Rep G (.sl l u o n sz full) v):
 ∃G',G.Le G'∧Rel B G' (σ.set l (.cells cs cs.length u)) w∧Rep G' (.list ((cs.drop o).take (n*sz)) n full) v:=by
 simp only[Rep]at hv
 rcases hv with⟨b,cap,tot,hb,rfl,h1,h2,h3,h4,h5⟩|⟨rfl,a,rfl⟩
 ·obtain⟨vs,et,o1,o2,tl,hd,o3,o4⟩:=hR.obj _ _ b hl hb
  have hl4:=o4.length
  have hcell:∀j v,hd[j]? =some v→w.cell? ⟨b,j,none⟩=some v:=by
   intro j v hj
   have hlt:j<hd.length:=by
    rcases Nat.lt_or_ge j hd.length with h' |h'
    ·exact h'
    ·rw[List.getElem?_eq_none h']at hj;cases hj
   unfold World.cell?
   rw[o1]
   show vs[j]? =some v
   have:vs[j]? =vs.toList[j]? :=by simp
   rw[this,o3,List.getElem?_append_left hlt];exact hj
  let G' :Gh:={G with imm:=fun b' j=>if b' =b∧j<hd.length then hd[j]? else G.imm b' j}
  have hle:G.Le G' :=by
   refine⟨fun b' j v hi=> ?_,fun _ _ x=>x,fun _ _ _ x=>x,fun _ _ x=>x⟩
   by_cases e:b' =b∧j<hd.length
   ·obtain⟨rfl,hj⟩:=e
    have hc:=hR.imm _ _ _ hi
    have:=hcell j _ (List.getElem?_eq_getElem hj)
    rw[hc]at this
    cases this
    simp[G',hj]
   ·simp only[G',e,if_false];exact hi
  have hmb:G.mimm b=none:=by
   cases hm:G.mimm b with
   |none=>rfl
   |some es=>
    obtain⟨hc,_⟩:=hR.mimm _ _ hm
    rw[o1]at hc;cases hc
  refine⟨G',hle,?_,?_⟩
  ·refine hR.update hl hb hle (fun _ _ _ x=> .inl x) hb ?_ rfl rfl hR.below rfl (fun _ _=>rfl) (fun k hk=>hR.siz b k hk) hmb ?_ ?_ ⟨Nat.le_refl _,(hR.ver _ _ hl).1⟩ (Nat.le_refl _)
   ·intro b' j v hi
    by_cases e:b' =b∧j<hd.length
    ·obtain⟨rfl,hj⟩:=e
     simp only[G',hj,and_self,if_true]at hi
     exact⟨hcell j v hi,fun h=>absurd rfl h⟩
    ·simp only[G',e,if_false]at hi
     exact⟨hR.imm _ _ _ hi,fun _=>hi⟩
   ·exact⟨vs,et,o1,o2,tl,hd,o3,Reps.mono hle _ _ o4⟩
   ·intro cs' frz' u' e j v hi
    cases e
    by_cases e:j<hd.length
    ·omega
    ·have hi:G.imm b j=some v:=by simpa[G',e] using hi
     have h6:=hR.own _ _ _ _ _ hl hb j v hi
     have h7:=hR.frzle _ _ hl
     simp only[AObj.frz,AObj.len]at h7
     omega
  ·simp only[Rep]
   refine⟨_,cap,rfl,h1,h2,h3,.inl ⟨b,o,rfl,?_⟩⟩
   have key:∀(ds:List D) (pre r:List Value),hd=pre++r→Reps G' ds r→Cells G' b pre.length ds:=by
    intro ds
    induction ds with
    |nil=>intro pre r _ _;simp only[Cells]
    |cons d ds ih=>
     intro pre r e hr
     simp only[Reps]at hr
     obtain⟨v,r',rfl,hd',hr'⟩:=hr
     simp only[Cells]
     refine⟨⟨v,by simp[G',e],hd'⟩,?_⟩
     have:=ih (pre++[v]) r' (by simp[e]) hr'
     simpa using this
   have hall:=key cs [] hd rfl (Reps.mono hle _ _ o4)
   have:=(hall.drop o).take (n*sz)
   simpa using this
 ·refine⟨G,.refl G,hR.frzUp hl,?_⟩
  simp only[Rep]
  exact⟨a,0,rfl,Nat.le_refl _,Nat.zero_le _,fun _=>rfl,.inr (by simp)⟩
def frzC(σ:List AObj) (d:D):Option (D×List AObj):=
 match d with
 | .sl l u o n sz full=>match σ[l]? with
   |some (.cells cs _ u')=>if u' =u∧o+n*sz≤cs.length then some (.list ((cs.drop o).take (n*sz)) n full,σ.set l (.cells cs cs.length u)) else none
   |_=>none
 |d=>some (d,σ)
theorem frzC_ok(hR:Rel B G σ w) {d d' :D}{v:Value}(h:frzC σ d=some (d',σ')) (hv:Rep G d v):∃G',G.Le G'∧Rel B G' σ' w∧Rep G' d' v:=by
 unfold frzC at h
 split at h
 ·split at h<;>try (cases h;done)
  rename_i hl
  split at h<;>try (cases h;done)
  rename_i hc
  obtain⟨rfl,hlen⟩:=hc
  cases h
  exact freeze_ok hR hl hlen hv
 ·cases h
  exact⟨G,.refl G,hR,hv⟩
def frzCs(σ:List AObj):List D→Option (List D×List AObj)
 |[]=>some ([],σ)
 |d::ds=>match frzC σ d with
  |some (d',σ1)=>match frzCs σ1 ds with
   |some (ds',σ2)=>some (d' ::ds',σ2)
   |none=>none
  |none=>none
theorem frzCs_ok:∀{ds ds' :List D}{G:Gh}{σ σ' :List AObj}{vs:List Value},Rel B G σ w→frzCs σ ds=some (ds',σ')→Reps G ds vs→∃G',G.Le G'∧Rel B G' σ' w∧Reps G' ds' vs
 |[],_,G,σ,σ',vs,hR,h,hv=>by
  simp only[frzCs,Option.some.injEq,Prod.mk.injEq]at h
  obtain⟨rfl,rfl⟩:=h
  exact⟨G,.refl G,hR,hv⟩
 |d::ds,_,G,σ,σ',vs,hR,h,hv=>by
  simp only[frzCs]at h
  split at h<;>try (cases h;done)
  rename_i d' σ1 h1
  split at h<;>try (cases h;done)
  rename_i ds' σ2 h2
  cases h
  simp only[Reps]at hv
  obtain⟨v,r,rfl,hd,hr⟩:=hv
  obtain⟨G1,l1,R1,r1⟩:=frzC_ok hR h1 hd
  obtain⟨G2,l2,R2,r2⟩:=frzCs_ok R1 h2 (Reps.mono l1 _ _ hr)
  exact⟨G2,l1.trans l2,R2,by simp only[Reps];exact⟨v,r,rfl,Rep.mono l2 _ _ r1,r2⟩⟩
theorem freezeMap_ok(hR:Rel B G σ w) {l:Nat}{ks vs:List D}{v:Value}(hl:σ[l]? =some (.map ks vs)) (hv:Rep G (.map l) v):
 ∃G',G.Le G'∧Rel B G' (σ.set l .gone) w∧Rep G' (.cmap ks vs) v:=by
 simp only[Rep]at hv
 obtain⟨b,hb,rfl⟩:=hv
 obtain⟨es,o1,o2,o3⟩:=hR.obj _ _ b hl hb
 have hm0:=hR.ownm _ _ _ b hl hb
 have hlt:l<σ.length:=by
  rcases Nat.lt_or_ge l σ.length with h' |h'
  ·exact h'
  ·rw[List.getElem?_eq_none h']at hl;cases hl
 let G' :Gh:={G with mimm:=fun b' =>if b' =b then some es else G.mimm b'}
 have hle:G.Le G' :=by
  refine⟨fun _ _ _ x=>x,fun b' es' hm=> ?_,fun _ _ _ x=>x,fun _ _ x=>x⟩
  by_cases e:b' =b
  ·subst e;rw[hm0]at hm;cases hm
  ·simp only[G',e,if_false];exact hm
 have hset:∀(l' :Nat) (ob:AObj),(σ.set l .gone)[l']? =some ob→(l' =l∧ob= .gone)∨(l'≠l∧σ[l']? =some ob):=by
  intro l' ob h
  by_cases e:l' =l
  ·subst e
   rw[List.getElem?_set_self hlt]at h
   cases h;exact .inl ⟨rfl,rfl⟩
  ·rw[List.getElem?_set_ne (Ne.symm e)]at h
   exact .inr ⟨e,h⟩
 refine⟨G',hle,⟨hR.below,hR.imm,fun b' es' hm=> ?_,hR.siz,fun l' u b' h=> ?_,hR.inj,fun l' ob b' ho h=> ?_,fun l' cs frz u b' ho h=> ?_,fun l' ks' vs' b' ho h=> ?_,fun l' ob ho=> ?_,fun l' ob ho=> ?_,hR.bimm,fun b' h=> ?_⟩,?_⟩
 ·by_cases e:b' =b
  ·subst e
   simp only[G',if_true,Option.some.injEq]at hm
   subst hm;exact o1
  ·simp only[G',e,if_false]at hm;exact hR.mimm _ _ hm
 ·rw[List.length_set];exact hR.blk l' u b' h
 ·rcases hset l' ob ho with⟨rfl,rfl⟩|⟨_,ho⟩
  ·exact(hR.blk _ _ _ h).2.2
  ·exact(hR.obj l' ob b' ho h).keep hle rfl
 ·rcases hset l' _ ho with⟨_,h2⟩|⟨_,ho⟩
  ·cases h2
  ·exact hR.own l' cs frz u b' ho h
 ·rcases hset l' _ ho with⟨_,h2⟩|⟨hne,ho⟩
  ·cases h2
  ·have:b'≠b:=fun e=>hne (hR.inj _ _ _ _ _ h (e▸hb))
   simp only[G',this,if_false]
   exact hR.ownm l' ks' vs' b' ho h
 ·rcases hset l' ob ho with⟨rfl,rfl⟩|⟨_,ho⟩
  ·exact⟨Nat.le_refl _,(hR.ver _ _ hl).2⟩
  ·exact hR.ver l' ob ho
 ·rcases hset l' ob ho with⟨rfl,rfl⟩|⟨_,ho⟩
  ·exact Nat.le_refl _
  ·exact hR.frzle l' ob ho
 ·have:b'≠b:=fun e=>by have:=(hR.blk _ _ _ hb).2.1;omega
  simp only[G',this,if_false]
  exact hR.bmimm b' h
 ·simp only[Rep]
  exact⟨b,es,rfl,by simp[G'],Reps.mono hle _ _ o2,Reps.mono hle _ _ o3⟩
def frz1(σ:List AObj) (d:D):Option (D×List AObj):=
 match d with
 | .map l=>match σ[l]? with
   |some (.map ks vs)=>some (.cmap ks vs,σ.set l .gone)
   |_=>none
 | .agg cs=>match frzCs σ cs with
   |some (cs',σ')=>some (.agg cs',σ')
   |none=>none
 |d=>frzC σ d
theorem frz1_ok(hR:Rel B G σ w) {d d' :D}{v:Value}(h:frz1 σ d=some (d',σ')) (hv:Rep G d v):∃G',G.Le G'∧Rel B G' σ' w∧Rep G' d' v:=by
 unfold frz1 at h
 split at h
 ·split at h<;>try (cases h;done)
  rename_i hl
  cases h
  exact freezeMap_ok hR hl hv
 ·split at h<;>try (cases h;done)
  rename_i h1
  cases h
  simp only[Rep]at hv
  obtain⟨a,rfl,hr⟩:=hv
  obtain⟨G',l1,R1,r1⟩:=frzCs_ok hR h1 hr
  exact⟨G',l1,R1,by simp only[Rep];exact⟨a,rfl,r1⟩⟩
 ·exact frzC_ok hR h hv
def frz1s(σ:List AObj):List D→Option (List D×List AObj)
 |[]=>some ([],σ)
 |d::ds=>match frz1 σ d with
  |some (d',σ1)=>match frz1s σ1 ds with
   |some (ds',σ2)=>some (d' ::ds',σ2)
   |none=>none
  |none=>none
theorem frz1s_ok:∀{ds ds' :List D}{G:Gh}{σ σ' :List AObj}{vs:List Value},Rel B G σ w→frz1s σ ds=some (ds',σ')→Reps G ds vs→∃G',G.Le G'∧Rel B G' σ' w∧Reps G' ds' vs
 |[],_,G,σ,σ',vs,hR,h,hv=>by
  simp only[frz1s,Option.some.injEq,Prod.mk.injEq]at h
  obtain⟨rfl,rfl⟩:=h
  exact⟨G,.refl G,hR,hv⟩
 |d::ds,_,G,σ,σ',vs,hR,h,hv=>by
  simp only[frz1s]at h
  split at h<;>try (cases h;done)
  rename_i d' σ1 h1
  split at h<;>try (cases h;done)
  rename_i ds' σ2 h2
  cases h
  simp only[Reps]at hv
  obtain⟨v,r,rfl,hd,hr⟩:=hv
  obtain⟨G1,l1,R1,r1⟩:=frz1_ok hR h1 hd
  obtain⟨G2,l2,R2,r2⟩:=frz1s_ok R1 h2 (Reps.mono l1 _ _ hr)
  exact⟨G2,l1.trans l2,R2,by simp only[Reps];exact⟨v,r,rfl,Rep.mono l2 _ _ r1,r2⟩⟩
def frzR(σ:List AObj) (d:D):Option (D×List AObj):=
 match d with
 | .tuple ds=>match frz1s σ ds with
   |some (ds',σ')=>some (.tuple ds',σ')
   |none=>none
 |d=>frz1 σ d
theorem frzR_ok(hR:Rel B G σ w) {d d' :D}{v:Value}(h:frzR σ d=some (d',σ')) (hv:Rep G d v):∃G',G.Le G'∧Rel B G' σ' w∧Rep G' d' v:=by
 unfold frzR at h
 split at h
 ·split at h<;>try (cases h;done)
  rename_i h1
  cases h
  simp only[Rep]at hv
  obtain⟨a,rfl,hr⟩:=hv
  obtain⟨G',l1,R1,r1⟩:=frz1s_ok hR h1 hr
  exact⟨G',l1,R1,by simp only[Rep];exact⟨a,rfl,r1⟩⟩
 ·exact frz1_ok hR h hv
end
mutual
def D.pure:D→Bool
 | .bool _=>true
 | .int _ _=>true
 | .str _=>true
 | .nilp=>true
 | .ptr _ _ _=>false
 | .rptr cs _=>pureL cs
 | .list cs _ _=>pureL cs
 | .sl _ _ _ _ _ _=>false
 | .map _=>false
 | .nilmap=>true
 | .cmap ks vs=>pureL ks&&pureL vs
 | .pmap ks vs=>pureL ks&&pureL vs
 | .func _ a b=>pureL a&&pureL b
 | .nilf=>true
 | .iface _ v=>v.pure
 | .nili=>true
 | .anyi=>true
 | .agg cs=>pureL cs
 | .tuple cs=>pureL cs
 | .junk=>true
def pureL:List D→Bool
 |[]=>true
 |d::ds=>d.pure&&pureL ds
end
mutual
theorem Rep.pure{G G' :Gh}(hi:∀b o v,G.imm b o=some v→G'.imm b o=some v) (hm:∀b es,G.mimm b=some es→G'.mimm b=some es):∀(d:D) (v:Value),d.pure=true→Rep G d v→Rep G' d v
 | .bool _,_,_,x=>by simpa only[Rep] using x
 | .int _ _,_,_,x=>by simpa only[Rep] using x
 | .str _,_,_,x=>by simpa only[Rep] using x
 | .nilp,_,_,x=>by simpa only[Rep] using x
 | .ptr _ _ _,_,h,_=>by simp[D.pure]at h
 | .rptr cs _,_,h,x=>by
   simp only[Rep]at x⊢
   simp only[D.pure]at h
   obtain⟨b,o',e,r⟩:=x
   exact⟨b,o',e,Cells.pure hi hm b _ cs h r⟩
 | .list cs _ _,_,h,x=>by
   simp only[Rep]at x⊢
   simp only[D.pure]at h
   obtain⟨a,cap,e,h1,h2,h3,h4⟩:=x
   refine⟨a,cap,e,h1,h2,h3,h4.imp ?_ id⟩
   rintro⟨b,o,ha,hc⟩
   exact⟨b,o,ha,Cells.pure hi hm b _ cs h hc⟩
 | .sl _ _ _ _ _ _,_,h,_=>by simp[D.pure]at h
 | .map _,_,h,_=>by simp[D.pure]at h
 | .nilmap,_,_,x=>by simpa only[Rep] using x
 | .cmap ks vs,_,h,x=>by
   simp only[Rep]at x⊢
   simp only[D.pure,Bool.and_eq_true]at h
   obtain⟨b,es,e,hm',h1,h2⟩:=x
   exact⟨b,es,e,hm _ _ hm',Reps.pure hi hm ks _ h.1 h1,Reps.pure hi hm vs _ h.2 h2⟩
 | .pmap ks vs,_,h,x=>by
   simp only[Rep]at x⊢
   simp only[D.pure,Bool.and_eq_true]at h
   obtain⟨b,es,π,e,hm',hπ,h1,h2⟩:=x
   exact⟨b,es,π,e,hm _ _ hm',hπ,Reps.pure hi hm ks _ h.1 h1,Reps.pure hi hm vs _ h.2 h2⟩
 | .func _ first cap,_,h,x=>by
   simp only[Rep]at x⊢
   simp only[D.pure,Bool.and_eq_true]at h
   obtain⟨f,c,e,h1,h2⟩:=x
   exact⟨f,c,e,Reps.pure hi hm first _ h.1 h1,Reps.pure hi hm cap _ h.2 h2⟩
 | .nilf,_,_,x=>by simpa only[Rep] using x
 | .iface _ d,_,h,x=>by
   simp only[Rep]at x⊢
   simp only[D.pure]at h
   obtain⟨y,e,h1⟩:=x
   exact⟨y,e,Rep.pure hi hm d _ h h1⟩
 | .nili,_,_,x=>by simpa only[Rep] using x
 | .anyi,_,_,x=>by simpa only[Rep] using x
 | .agg cs,_,h,x=>by
   simp only[Rep]at x⊢
   simp only[D.pure]at h
   obtain⟨a,e,h1⟩:=x
   exact⟨a,e,Reps.pure hi hm cs _ h h1⟩
 | .tuple cs,_,h,x=>by
   simp only[Rep]at x⊢
   simp only[D.pure]at h
   obtain⟨a,e,h1⟩:=x
   exact⟨a,e,Reps.pure hi hm cs _ h h1⟩
 | .junk,_,_,_=>by simp only[Rep]
theorem Cells.pure{G G' :Gh}(hi:∀b o v,G.imm b o=some v→G'.imm b o=some v) (hm:∀b es,G.mimm b=some es→G'.mimm b=some es) (b:Nat):∀(o:Nat) (ds:List D),pureL ds=true→Cells G b o ds→Cells G' b o ds
 |_,[],_,_=>by simp only[Cells]
 |o,d::ds,h,x=>by
  simp only[pureL,Bool.and_eq_true]at h
  simp only[Cells]at x⊢
  obtain⟨⟨v,e,r⟩,hs⟩:=x
  exact⟨⟨v,hi _ _ _ e,Rep.pure hi hm d v h.1 r⟩,Cells.pure hi hm b _ ds h.2 hs⟩
theorem Reps.pure{G G' :Gh}(hi:∀b o v,G.imm b o=some v→G'.imm b o=some v) (hm:∀b es,G.mimm b=some es→G'.mimm b=some es):∀(ds:List D) (vs:List Value),pureL ds=true→Reps G ds vs→Reps G' ds vs
 |[],_,_,x=>by simpa only[Reps] using x
 |d::ds,_,h,x=>by
  simp only[pureL,Bool.and_eq_true]at h
  simp only[Reps]at x⊢
  obtain⟨v,r,e,h1,h2⟩:=x
  exact⟨v,r,e,Rep.pure hi hm d v h.1 h1,Reps.pure hi hm ds r h.2 h2⟩
end
end Go.Fw
namespace Go.Fw
open Go.RowKit
abbrev Env:=List (Nat×D)
abbrev Sto:=List AObj
def AOp(P:Program) (N:Nat) (o:Oper) (τ:Env) (σ:Sto) (K:D→Sto→Prop):Prop:=
 ∀(B:Base P) (G:Gh) (w:World) (a:Act),Rel B G σ w→TRel G N τ a→∀(next:Act→World→Prop) (Q:Exit→Act→World→Prop),
  (∀v w' G' d σ',G.Le G'→Rel B G' σ' w'→Rep G' d v→K d σ'→next (a.put o.dst v) w')→o.wp P a w next Q
theorem AOp.mono{P:Program}{N:Nat}{o:Oper}{τ:Env}{σ:Sto}{K K' :D→Sto→Prop}(h:AOp P N o τ σ K) (hk:∀d s,K d s→K' d s):AOp P N o τ σ K' :=
 fun B G w a hR hT next Q hn=>h B G w a hR hT next Q fun v w' G' d σ' h1 h2 h3 h4=>hn v w' G' d σ' h1 h2 h3 (hk _ _ h4)
theorem aop_aop{P:Program}{T:Tys}(hTy:TOk T P) {N:Nat}{o:Oper}{τ:Env}{σ σ' :Sto}{d:D}(h:aop T τ σ o.op=some (d,σ')):AOp P N o τ σ (fun d' s=>d' =d∧s=σ'):=by
 intro B G w a hR hT next Q hn
 obtain⟨v,w',G',hrun,hle,hR',hd⟩:=aop_ok hTy hR hT o h
 unfold Oper.wp
 rcases hrun with hr|⟨hr,rfl⟩
 ·rw[hr];exact hn v w' G' d σ' hle hR' hd ⟨rfl,rfl⟩
 ·rw[hr];exact hn undef w' G' d σ' hle hR' hd ⟨rfl,rfl⟩
def FnOk(P:Program) (f:FuncId):Prop:=∃fn,P.funcs[f]? =some fn∧fn.body.isSome=true∧(fn.name== "runtime.NumGoroutine")=false
structure Gh.LeB (i:Nat) (G G' :Gh):Prop where
 imm:∀b o v,G.imm b o=some v→G'.imm b o=some v
 mimm:∀b es,G.mimm b=some es→G'.mimm b=some es
 siz:∀b n,G.siz b=some n→G'.siz b=some n
 blk:∀l u b,l<i→G.blk l u=some b→G'.blk l u=some b
theorem Gh.LeB.refl{i:Nat}(G:Gh):G.LeB i G:=⟨fun _ _ _ x=>x,fun _ _ x=>x,fun _ _ x=>x,fun _ _ _ _ x=>x⟩
theorem Gh.LeB.trans{i:Nat}{A B C:Gh}(h:A.LeB i B) (k:B.LeB i C):A.LeB i C:=
 ⟨fun _ _ _ x=>k.imm _ _ _ (h.imm _ _ _ x),fun _ _ x=>k.mimm _ _ (h.mimm _ _ x),fun _ _ x=>k.siz _ _ (h.siz _ _ x),fun _ _ _ e x=>k.blk _ _ _ e (h.blk _ _ _ e x)⟩
theorem Gh.Le.b{i:Nat}{A B:Gh}(h:A.Le B):A.LeB i B:=⟨h.imm,h.mimm,h.siz,fun _ _ _ _ x=>h.blk _ _ _ x⟩
theorem Gh.LeB.le{P:Program}{B:Base P}{σ:Sto}{w:World}{G G' :Gh}(hR:Rel B G σ w) (h:G.LeB σ.length G'):G.Le G' :=⟨h.imm,h.mimm,fun l u b x=>h.blk l u b (hR.blk l u b x).1 x,h.siz⟩
def ACallB(i:Nat) (P:Program) (f:FuncId) (ds:List D) (σ:Sto) (R:D→Sto→Prop):Prop:=
 ∀(B:Base P) (G:Gh) (w:World) (vals:List Value),Rel B G σ w→Reps G ds vals→
  Calls P f vals.toArray w fun e w' =>∃v G' d σ',e= .returned v∧G.LeB i G'∧Rel B G' σ' w'∧Rep G' d v∧R d σ'
abbrev ACall(P:Program) (f:FuncId) (ds:List D) (σ:Sto) (R:D→Sto→Prop):Prop:=ACallB σ.length P f ds σ R
theorem ACallB.mono{i:Nat}{P:Program}{f:FuncId}{ds:List D}{σ:Sto}{R R' :D→Sto→Prop}(h:ACallB i P f ds σ R) (hr:∀d s,R d s→R' d s):ACallB i P f ds σ R' :=
 fun B G w vals h1 h2=>(h B G w vals h1 h2).mono fun _ _ ⟨v,G',d,σ',e1,e2,e3,e4,e5⟩=>⟨v,G',d,σ',e1,e2,e3,e4,hr _ _ e5⟩
structure ImmOk (G:Gh) (w:World):Prop where
 imm:∀b o v,G.imm b o=some v→w.cell? ⟨b,o,none⟩=some v
 mimm:∀b es,G.mimm b=some es→MapAt w b es
 siz:∀b n,G.siz b=some n→∃vs et f,w.heap[b]? =some (.cells vs et f)∧vs.size=n
theorem globOf_pure{P:Program}{g:Nat}{cs:List D}(h:globOf P g=some cs):pureL cs=true:=by
 unfold globOf globTab at h
 obtain⟨v,_,h⟩:=Option.bind_eq_some_iff.1 h
 split at h
 ·cases h;rfl
 ·split at h
  ·cases h;rfl
  ·cases h
theorem Rel.glob{P:Program}{B:Base P}{G:Gh}{σ:Sto}{w:World}(hR:Rel B G σ w):GlobOk P G w:=⟨fun g cs h=>by
 obtain⟨h1,h2⟩:=B.gl.1 g cs h
 have hp:=globOf_pure h
 exact⟨Nat.lt_of_lt_of_le h1 hR.below.size,Rep.pure (fun b o v hv=>by rw[hR.bimm b o (B.lim b o v hv)];exact hv) (fun b es hv=>by rw[hR.bmimm b (B.lmm b es hv)];exact hv) _ _ (by simpa only[D.pure] using hp) h2⟩,B.gl.2.below hR.below rfl⟩
def PureOK(P:Program) (f:FuncId) (ds:List D) (d:D):Prop:=
 ∀(G:Gh) (w:World) (vals:List Value),ImmOk G w→GlobOk P G w→Reps G ds vals→
  Calls P f vals.toArray w fun e w' =>∃v G',e= .returned v∧Grow G G' w w'∧Rep G' d v
theorem PureOK.acall{P:Program}{f:FuncId}{ds:List D}{d:D}(h:PureOK P f ds d) (σ:Sto):ACall P f ds σ (fun d' s=>d' =d∧s=σ):=
 fun _ G w vals hR hv=>(h G w vals ⟨hR.imm,hR.mimm,hR.siz⟩ hR.glob hv).mono fun _ _ ⟨v,G',e1,e2,e3⟩=>⟨v,G',d,σ,e1,e2.le.b,hR.grow e2,e3,rfl,rfl⟩
def env0:Nat→List D→Env
 |_,[]=>[]
 |i,d::ds=>(i,d)::env0 (i+1) ds
theorem get_env0:∀(ds:List D) (i t:Nat) (d:D),get (env0 i ds) t=some d→i≤t∧ds[t-i]? =some d
 |[],_,_,_,h=>by simp[env0,get]at h
 |d::ds,i,t,d',h=>by
  simp only[env0,get]at h
  by_cases e:i=t
  ·subst e
   simp only[if_true,Option.some.injEq]at h
   subst h
   simp
  ·simp only[e,if_false]at h
   obtain⟨h1,h2⟩:=get_env0 ds (i+1) t d' h
   refine⟨by omega,?_⟩
   have:t-i=(t-(i+1))+1:=by omega
   rw[this];simpa using h2
inductive AEx where
 |normal|exit (id:Nat)|goto (l:Nat)|ret
 deriving DecidableEq
def liftQ{P:Program}(i:Nat) (B:Base P) (G:Gh) (N:Nat) (Q:AEx→Env→Sto→Prop):Exit→Act→World→Prop
 | .normal,a,w=>∃G' τ σ,G.LeB i G'∧Rel B G' σ w∧TRel G' N τ a∧Q .normal τ σ
 | .exit id,a,w=>∃G' τ σ,G.LeB i G'∧Rel B G' σ w∧TRel G' N τ a∧Q (.exit id) τ σ
 | .goto l,a,w=>∃G' τ σ,G.LeB i G'∧Rel B G' σ w∧TRel G' N τ a∧Q (.goto l) τ σ
 | .ret,a,w=>∃G' τ σ,G.LeB i G'∧Rel B G' σ w∧TRel G' N τ a∧Q .ret τ σ
 | .panic _,_,_=>False
 | .outgrown,_,_=>False
theorem liftQ_le{i:Nat}{P:Program}{B:Base P}{G G' :Gh}{N:Nat}{Q Q' :AEx→Env→Sto→Prop}(h:G.LeB i G') (hq:∀e τ σ,Q e τ σ→Q' e τ σ) (e:Exit) (a:Act) (w:World) (x:liftQ i B G' N Q e a w):liftQ i B G N Q' e a w:=by
 cases e<;>simp only[liftQ]at x⊢<;>first|exact x|(obtain⟨G2,τ,σ,h1,h2,h3,h4⟩:=x;exact⟨G2,τ,σ,h.trans h1,h2,h3,hq _ _ _ h4⟩)
def AWp(i:Nat) (P:Program) (N:Nat) (c:Code) (τ:Env) (σ:Sto) (Q:AEx→Env→Sto→Prop):Prop:=
 ∀(B:Base P) (G:Gh) (w:World) (a:Act),Rel B G σ w→TRel G N τ a→c.wp P (liftQ i B G N Q) a w
section
variable {i:Nat}{P:Program}{N:Nat}{c c1 c2:Code}{τ τ' :Env}{σ σ' :Sto}{Q Q' :AEx→Env→Sto→Prop}
theorem AWp.mono(h:AWp i P N c τ σ Q) (hq:∀e τ σ,Q e τ σ→Q' e τ σ):AWp i P N c τ σ Q' :=
 fun B G w a hR hT=>wp_mono (h B G w a hR hT) fun e a w x=>liftQ_le (.refl G) hq e a w x
theorem AWp.sub(h:AWp i P N c τ' σ Q) (hs:∀t d,get τ' t=some d→get τ t=some d):AWp i P N c τ σ Q:=
 fun B G w a hR hT=>h B G w a hR (hT.sub hs)
theorem awp_skip(h:Q .normal τ σ):AWp i P N .skip τ σ Q:=fun _ G _ _ hR hT=>wp_skip ⟨G,τ,σ,.refl G,hR,hT,h⟩
theorem awp_label{l:Nat}(h:Q .normal τ σ):AWp i P N (.label l) τ σ Q:=fun _ G _ _ hR hT=>wp_label ⟨G,τ,σ,.refl G,hR,hT,h⟩
theorem awp_exit{id:Nat}(h:Q (.exit id) τ σ):AWp i P N (.exit id) τ σ Q:=fun _ G _ _ hR hT=>wp_exit ⟨G,τ,σ,.refl G,hR,hT,h⟩
theorem awp_ret(h:Q .ret τ σ):AWp i P N .ret τ σ Q:=fun _ G _ _ hR hT=>wp_ret ⟨G,τ,σ,.refl G,hR,hT,h⟩
def thenQ(next:Env→Sto→Prop) (Q:AEx→Env→Sto→Prop):AEx→Env→Sto→Prop
 | .normal,τ,σ=>next τ σ
 | .exit id,τ,σ=>Q (.exit id) τ σ
 | .goto l,τ,σ=>Q (.goto l) τ σ
 | .ret,τ,σ=>Q .ret τ σ
theorem awp_seq(h:AWp i P N c1 τ σ (thenQ (fun τ' σ' =>AWp i P N c2 τ' σ' Q) Q)):AWp i P N (.seq c1 c2) τ σ Q:=by
 intro B G w a hR hT
 refine wp_seq (wp_mono (h B G w a hR hT) fun e a' w' x=> ?_)
 cases e with
 |normal=>
  obtain⟨G',τ1,σ1,h1,h2,h3,h4⟩:=x
  exact wp_mono (h4 B G' w' a' h2 h3) fun e a w x=>liftQ_le h1 (fun _ _ _ y=>y) e a w x
 |exit id=>exact x
 |goto l=>exact x
 |ret=>exact x
 |panic ch=>exact x
 |outgrown=>exact x
theorem awp_cond{x:Operand}{b:Bool}(hc:ev τ x=some (.bool b)) (h:AWp i P N (if b then c1 else c2) τ σ Q):AWp i P N (.cond x c1 c2) τ σ Q:=by
 intro B G w a hR hT
 have he:=ev_ok hT hc
 simp only[Rep]at he
 exact wp_cond he (h B G w a hR hT)
def blockQ(id:Nat) (Q:AEx→Env→Sto→Prop):AEx→Env→Sto→Prop
 | .normal,τ,σ=>Q .normal τ σ
 | .exit id',τ,σ=>if id' =id then Q .normal τ σ else Q (.exit id') τ σ
 | .goto l,τ,σ=>Q (.goto l) τ σ
 | .ret,τ,σ=>Q .ret τ σ
theorem awp_block{id:Nat}(h:AWp i P N c τ σ (blockQ id Q)):AWp i P N (.block id c) τ σ Q:=by
 intro B G w a hR hT
 refine wp_block (wp_mono (h B G w a hR hT) fun e a' w' x=> ?_)
 cases e with
 |normal=>exact x
 |exit id' =>
  obtain⟨G',τ1,σ1,h1,h2,h3,h4⟩:=x
  simp only[Exit.inBlock,blockQ]at h4⊢
  by_cases e:id' =id
  ·simp only[e,if_true]at h4⊢;exact⟨G',τ1,σ1,h1,h2,h3,h4⟩
  ·simp only[e,if_false]at h4⊢;exact⟨G',τ1,σ1,h1,h2,h3,h4⟩
 |goto l=>exact x
 |ret=>exact x
 |panic ch=>exact x
 |outgrown=>exact x
theorem wp_loop_idx{Q:Exit→Act→World→Prop}{a:Act}{w:World}{n:Nat}(I:Nat→Act→World→Prop) (h₀:I n a w)
 (round:∀n a w,I n a w→c.wp P (Exit.then (fun a' w' =>∃m,m<n∧I m a' w') Q) a w):(Code.loop c).wp P Q a w:=by
 intro b k cs
 have key:∀n a w,I n a w→
  ∃e a' w',Q e a' w'∧Arrives P (lone (b.at a (.code c:: .inLoop c::k)) cs w) b k cs e a' w' :=by
  intro n
  induction n using Nat.strongRecOn with
  |_ n ih=>
   intro a w hI
   obtain⟨e,a₁,w₁,hq,harr⟩:=round n a w hI b (.inLoop c::k) cs
   cases e with
   |normal=>
    obtain⟨m,hlt,hI₁⟩:=hq
    obtain⟨e₂,a₂,w₂,hq₂,harr₂⟩:=ih m hlt a₁ w₁ hI₁
    exact⟨e₂,a₂,w₂,hq₂,.of_steps (Steps.trans harr (.one step_inLoop)) harr₂⟩
   |exit id=>exact⟨_,a₁,w₁,hq,.pass (x:= .inLoop c) rfl (fun _ _=> .inl (by simp)) harr⟩
   |goto l=>exact⟨_,a₁,w₁,hq,.pass (x:= .inLoop c) rfl (fun _ _=> .inl (by simp)) harr⟩
   |ret=>exact⟨_,a₁,w₁,hq,.pass (x:= .inLoop c) rfl (fun _ _=> .inl (by simp)) harr⟩
   |panic ch=>exact⟨_,a₁,w₁,hq,.pass (x:= .inLoop c) rfl (fun _ _=> .inl (by simp)) harr⟩
   |outgrown=>exact⟨_,a₁,w₁,hq,.pass (x:= .inLoop c) rfl (fun _ _=> .inl (by simp)) harr⟩
 obtain⟨e,a',w',hq,harr⟩:=key n a w h₀
 exact⟨e,a',w',hq,.of_steps (.one step_loop) harr⟩
theorem awp_loop(I:Nat→Env→Sto→Prop) {n:Nat}(h0:I n τ σ) (round:∀n τ σ,I n τ σ→AWp i P N c τ σ (thenQ (fun τ' σ' =>∃m,m<n∧I m τ' σ') Q)):AWp i P N (.loop c) τ σ Q:=by
 intro B G w a hR hT
 refine wp_loop_idx (fun n a w=>∃G' τ σ,G.LeB i G'∧Rel B G' σ w∧TRel G' N τ a∧I n τ σ) ⟨G,τ,σ,.refl G,hR,hT,h0⟩ ?_
 rintro n a w ⟨G1,τ1,σ1,h1,h2,h3,h4⟩
 refine wp_mono (round n τ1 σ1 h4 B G1 w a h2 h3) fun e a' w' x=> ?_
 cases e with
 |normal=>
  obtain⟨G2,τ2,σ2,k1,k2,k3,m,k4,k5⟩:=x
  exact⟨m,k4,G2,τ2,σ2,h1.trans k1,k2,k3,k5⟩
 |exit id=>exact liftQ_le h1 (Q:=Q) (fun _ _ _ y=>y) (.exit id) a' w' x
 |goto l=>exact liftQ_le h1 (Q:=Q) (fun _ _ _ y=>y) (.goto l) a' w' x
 |ret=>exact liftQ_le h1 (Q:=Q) (fun _ _ _ y=>y) .ret a' w' x
 |panic ch=>exact x
 |outgrown=>exact x
end
def resVar(T:Tys) (τ:Env) (σ:Sto):ResultVar→Option D
 | .tmp t=>get τ t
 | .cell t ty=>oLoad T τ σ ty (.tmp t)
def resVars(T:Tys) (τ:Env) (σ:Sto):List ResultVar→Option (List D)
 |[]=>some []
 |r::rs=>match resVar T τ σ r,resVars T τ σ rs with
  |some d,some ds=>some (d::ds)
  |_,_=>none
def resD(T:Tys) (rs:List ResultVar) (τ:Env) (σ:Sto):Option D:=
 match resVars T τ σ rs with
 |some [d]=>some d
 |some ds=>some (.tuple ds)
 |none=>none
section
variable {P:Program}{T:Tys}{B:Base P}{G:Gh}{σ:Sto}{w:World}{N:Nat}{τ:Env}{a:Act}
def resOf(tmps:Array Value):ResultVar→Sem Value
 | .tmp t=>Pure.pure (tmps.getD t undef)
 | .cell x t=>do loadVar t (←asAddr (tmps.getD x undef))
theorem results_eq(fn:Func) (tmps:Array Value):results fn tmps=(fn.results.mapM (resOf tmps)).bind fun vs=>Sem.pure (if h:vs.size=1 then vs[0] else .tuple vs):=by
 unfold results
 congr 1
theorem resVars_ok(hTy:TOk T P) (hR:Rel B G σ w) (hT:TRel G N τ a):∀{rs:List ResultVar}{ds:List D},resVars T τ σ rs=some ds→
 ∃vs,(rs.mapM (resOf a.tmps)).run P w= .ok vs w∧Reps G ds vs
 |[],_,h=>by simp only[resVars,Option.some.injEq]at h;subst h;exact⟨[],by simp,by simp[Reps]⟩
 |r::rs,_,h=>by
  simp only[resVars]at h
  split at h<;>try (cases h;done)
  rename_i d ds hd hds
  cases h
  obtain⟨vs,h1,h2⟩:=resVars_ok hTy hR hT hds
  have hv:∃v,((resOf a.tmps) r).run P w= .ok v w∧Rep G d v:=by
   cases r with
   |tmp t=>exact⟨_,rfl,hT.slot _ _ hd⟩
   |cell t ty=>
    simp only[resVar,oLoad]at hd
    split at hd<;>try (cases hd;done)
    rename_i n b dx ht hdx
    have ht:=lk_of hTy.ld ht
    split at hd<;>try (cases hd;done)
    rename_i hb
    split at hd<;>try (cases hd;done)
    rename_i cs hcs
    have hdr:=ev_ok hT hdx
    obtain⟨u,hu,hrep⟩:=load_ok hR ht hdr hcs hb
    obtain⟨bl,o,_,hpt,_⟩:=readAt_ok hR hcs hdr
    refine⟨u,?_,?_⟩
    ·have hpt' :a.tmps.getD t undef= .pointer (some ⟨bl,o,none⟩):=hpt
     have hu' :(loadVar ty ⟨bl,o,none⟩).run P w= .ok u w:=by
      unfold Instr.loadAt at hu
      rw[hpt]at hu
      simpa[Instr.sureAddr] using hu
     simp only[resOf,hpt',asAddr,Sem.run_bind,Sem.run_pure,Result.andThen_ok,hu']
    ·unfold ldFin at hd
     cases b with
     |true=>simp only[if_true,Option.some.injEq]at hd hrep;subst hd;exact hrep
     |false=>
      simp only[Bool.false_eq_true,if_false]at hd hrep
      obtain⟨y,rfl,hy⟩:=hrep
      simp only[Option.some.injEq]at hd
      subst hd;exact hy
  obtain⟨v,hv1,hv2⟩:=hv
  refine⟨v::vs,?_,by simp only[Reps];exact⟨v,vs,rfl,hv2,h2⟩⟩
  simp only[List.mapM_cons,Sem.run_bind,hv1,h1,Result.andThen_ok,Sem.run_pure]
theorem results_ok(hTy:TOk T P) (hR:Rel B G σ w) (hT:TRel G N τ a) {fn:Func}{d:D}(h:resD T fn.results.toList τ σ=some d):∃v,(results fn a.tmps).run P w= .ok v w∧Rep G d v:=by
 unfold resD at h
 have hm:∀vs,(fn.results.toList.mapM (resOf a.tmps)).run P w= .ok vs w→
  (results fn a.tmps).run P w= .ok (if h:vs.toArray.size=1 then vs.toArray[0] else .tuple vs.toArray) w:=by
  intro vs hvs
  rw[results_eq]
  show Sem.run P ((fn.results.mapM (resOf a.tmps))>>=fun vs=>Pure.pure (if h:vs.size=1 then vs[0] else .tuple vs)) w=_
  simp only[Sem.run_bind,Array.mapM_eq_mapM_toList,Sem.run_map,hvs,Result.andThen_ok,Sem.run_pure]
 split at h
 ·rename_i d' hd
  cases h
  obtain⟨vs,h1,h2⟩:=resVars_ok hTy hR hT hd
  obtain⟨v,rfl,hv⟩:=reps_one h2
  exact⟨v,by rw[hm _ h1];rfl,hv⟩
 ·rename_i ds hne hds
  cases h
  obtain⟨vs,h1,h2⟩:=resVars_ok hTy hR hT hds
  have hl:=h2.length
  have hsz:¬vs.toArray.size=1:=by
   intro e
   obtain⟨x,rfl⟩:=list_one (l:=ds) (by rw[hl];simpa using e.symm)
   exact hne x rfl
  refine⟨.tuple vs.toArray,by rw[hm _ h1,dif_neg hsz],?_⟩
  simp only[Rep]
  exact⟨_,rfl,by simpa using h2⟩
 ·cases h
theorem acall_body{i:Nat}(hTy:TOk T P) {f:FuncId}{fn:Func}{c:Code}{ds:List D}{R:D→Sto→Prop}(hf:P.funcs[f]? =some fn) (hb:fn.body=some c) (hn:ds.length≤fn.ntmps)
 (h:AWp i P fn.ntmps c (env0 0 ds) σ fun e τ' σ' =>(e= .normal∨e= .ret)∧∃d,resD T fn.results.toList τ' σ' =some d∧R d σ'):ACallB i P f ds σ R:=by
 intro B G w vals hR hv
 have hl:=hv.length
 refine calls_of_wp hf hb (wp_mono (h B G w _ hR ⟨?_,rfl,?_⟩) fun e a' w' x=> ?_)
 ·simp;omega
 ·intro t d ht
  obtain⟨_,h2⟩:=get_env0 ds 0 t d ht
  obtain⟨v,hv1,hv2⟩:=hv.get _ h2
  have hlt:t<vals.length:=by
   rcases Nat.lt_or_ge t vals.length with h' |h'
   ·exact h'
   ·rw[Nat.sub_zero,List.getElem?_eq_none h']at hv1;cases hv1
  have:(vals.toArray++Array.replicate (fn.ntmps-vals.toArray.size) undef).getD t undef=v:=by
   rw[Nat.sub_zero,List.getElem?_eq_getElem hlt]at hv1
   cases hv1
   simp[Array.getD_eq_getD_getElem?,Array.getElem?_append,hlt]
  show Rep G d ((vals.toArray++Array.replicate (fn.ntmps-vals.toArray.size) undef).getD t undef)
  rw[this];exact hv2
 ·cases e with
  |normal=>
   obtain⟨G',τ',σ',h1,h2,h3,_,d,h5,h6⟩:=x
   obtain⟨v,hv1,hv2⟩:=results_ok hTy h2 h3 h5
   exact⟨h3.defers,v,hv1,v,G',d,σ',rfl,h1,h2,hv2,h6⟩
  |ret=>
   obtain⟨G',τ',σ',h1,h2,h3,_,d,h5,h6⟩:=x
   obtain⟨v,hv1,hv2⟩:=results_ok hTy h2 h3 h5
   exact⟨h3.defers,v,hv1,v,G',d,σ',rfl,h1,h2,hv2,h6⟩
  |exit id=>obtain⟨_,_,_,_,_,_,h,_⟩:=x;rcases h with h|h<;>cases h
  |goto l=>obtain⟨_,_,_,_,_,_,h,_⟩:=x;rcases h with h|h<;>cases h
  |panic ch=>exact x.elim
  |outgrown=>exact x.elim
end
end Go.Fw
namespace Go.Fw
open Go.RowKit
section
variable {P:Program}{T:Tys}{N:Nat}{o:Oper}{τ:Env}{σ σ1:Sto}
def callD(T:Tys) (τ:Env) (c:Call):Option (FuncId×List D):=
 match c.callee with
 | .value x=>match ev τ x,evs τ c.args.toList with
   |some (.func (.func f) first cap),some ds=>some (f,first++ds++cap)
   |_,_=>none
 | .invoke x name=>match ev τ x,evs τ c.args.toList with
   |some (.iface t v),some ds=>match lkM T.meth t name with
    |some f=>some (f,v::ds)
    |none=>none
   |_,_=>none
 |_=>none
theorem callFunc_run{f:FuncId}{w:World}(hf:FnOk P f) (args:Array Value):(callFunc f args).run P w= .ok (.enter f args) w:=by
 obtain⟨fn,hfn,hbody,hname⟩:=hf
 have hb:fn.body.isNone=false:=by
  cases hfb:fn.body with
  |none=>rw[hfb]at hbody;cases hbody
  |some b=>rfl
 simp only[callFunc,Sem.run_bind,run_program,Result.andThen_ok,hfn,hname,Bool.false_eq_true,if_false,hb,Sem.run_pure]
theorem method_run{t:TypeId}{v:Value}{name:String}{f:FuncId}{w:World}(n:Nat) (h:tyMeth P t name=some f):(method (n+1) t v name).run P w= .ok (f,v) w:=by
 unfold tyMeth at h
 split at h<;>try (cases h;done)
 rename_i i hi
 split at h<;>try (cases h;done)
 rename_i m hm
 split at h<;>try (cases h;done)
 rename_i f' fs hpath hfunc hu
 cases h
 unfold method
 have hpe:m.path.toList=[]:=hpath
 simp only[typeInfo,Sem.run_bind,run_program,Result.andThen_ok,hi,Sem.run_pure,hm,hpe,follow,hfunc,receiverAt,run_underlying hu,Place.get]
theorem callD_run{T:Tys}(hTy:TOk T P) {G:Gh}{a:Act}{c:Call}{f:FuncId}{ds:List D}{w:World}{ty:TypeId}(hT:TRel G N τ a) (h:callD T τ c=some (f,ds)):
 ∃vals,Reps G ds vals∧(do let d ←resolve a.eval c ty;invoke d.target d.args:Sem Next).run P w=(callFunc f vals.toArray).run P w:=by
 unfold callD at h
 split at h
 ·rename_i x hc
  split at h<;>try (cases h;done)
  rename_i f' first cap ds' hx has
  cases h
  have hxr:=ev_ok hT hx
  simp only[Rep]at hxr
  obtain⟨fa,ca,hfv,hfr,hcr⟩:=hxr
  have har:=evs_ok hT has
  refine⟨fa.toList++c.args.toList.map a.eval++ca.toList,(hfr.append har).append hcr,?_⟩
  simp only[resolve,hc,hfv,Deferred.ofValue,Sem.run_bind,Sem.run_pure,Result.andThen_ok,invoke]
  congr 2
  apply Array.ext'
  simp
 ·rename_i x name hc
  split at h<;>try (cases h;done)
  rename_i t v ds' hx has
  split at h<;>try (cases h;done)
  rename_i f' hm
  cases h
  have hxr:=ev_ok hT hx
  simp only[Rep]at hxr
  obtain⟨y,hy,hyr⟩:=hxr
  have har:=evs_ok hT has
  refine⟨y::c.args.toList.map a.eval,by simp only[Reps];exact⟨_,_,rfl,hyr,har⟩,?_⟩
  have hm:=lkM_of (f:=tyMeth P) hTy.meth hm
  simp only[resolve,hc,Sem.run_bind,Sem.run_pure,Result.andThen_ok,invoke]
  have h0:(#[a.eval x]++c.args.map a.eval)[0]? =some (a.eval x):=by rw[Array.getElem?_append_left (by simp)];rfl
  simp only[h0]
  rw[hy]
  simp only[callMethod,Sem.run_bind,run_program,Result.andThen_ok]
  have hpos:0<Made.depth:=by decide
  obtain⟨n,hn⟩:∃n,P.types.size+Made.depth=n+1:=⟨P.types.size+Made.depth-1,by omega⟩
  rw[hn,method_run n hm]
  simp only[Result.andThen_ok]
  congr 2
  apply Array.ext'
  simp[List.take_of_length_le]
 ·cases h
theorem aop_call{T:Tys}(hTy:TOk T P) {c:Call}{f:FuncId}{ds ds' :List D}{K:D→Sto→Prop}(ho:o.op= .call c) (hc:callD T τ c=some (f,ds))
 (hz:frzCs σ ds=some (ds',σ1)) (hf:FnOk P f) (h:ACall P f ds' σ1 K):AOp P N o τ σ K:=by
 intro B G w a hR hT next Q hn
 obtain⟨vals,hall,hinv⟩:=callD_run hTy (w:=w) (ty:=o.type) hT hc
 rw[callFunc_run hf]at hinv
 obtain⟨G1,l1,R1,r1⟩:=frzCs_ok hR hz hall
 have hrun:(execOp a.eval o).run P w= .ok (.enter f vals.toArray) w:=by
  unfold execOp
  rw[ho]
  exact hinv
 unfold Oper.wp
 rw[hrun,Oper.upon_enter]
 refine(h B G1 w _ R1 r1).mono ?_
 rintro e w' ⟨v,G',d,σ',rfl,h1,h2,h3,h4⟩
 exact hn v w' G' d σ' (l1.trans (h1.le R1)) h2 h3 h4
def extD(k:ExK) (ds:List D):Option D:=
 match k,ds with
 | .count,[.str s,.int .u8 c]=>some (.int .i64 ((⟨s.toArray⟩:ByteArray).foldl (fun(n:Int) x=>if x==c.toNat.toUInt8 then n+1 else n) ((0:Nat):Int)))
 | .indexByte,[.str s,.int .u8 c]=>some (match (List.range (⟨s.toArray⟩:ByteArray).size).find? fun i=>(⟨s.toArray⟩:ByteArray)[i]! ==c.toNat.toUInt8 with
   |some i=> .int .i64 i
   |none=> .int .i64 (-1))
 |_,_=>none
theorem ext_find1:Extern.allNextRows.lookup "internal/bytealg.CountString" =none:=by kernel_rfl
theorem ext_find2:Extern.allNextRows.lookup "internal/bytealg.IndexByteString" =none:=by kernel_rfl
theorem ext_find0:Extern.allNextRows.lookup "" =none:=by kernel_rfl
theorem ext_find3:Extern.allGenericRows.lookup "internal/bytealg.CountString" =none:=by kernel_rfl
theorem ext_find4:Extern.allGenericRows.lookup "internal/bytealg.IndexByteString" =none:=by kernel_rfl
theorem ext_find5:Extern.allTypedRows.lookup "internal/bytealg.CountString" =none:=by kernel_rfl
theorem ext_find6:Extern.allTypedRows.lookup "internal/bytealg.IndexByteString" =none:=by kernel_rfl
theorem ext_find7:Extern.allRows.lookup "internal/bytealg.CountString" =some Extern.BytealgCount.count:=by kernel_rfl
theorem ext_find8:Extern.allRows.lookup "internal/bytealg.IndexByteString" =some Extern.BytealgIndexByte.indexByte:=by kernel_rfl
def extFn:ExK→Array Value→Sem Value
 | .count=>Extern.BytealgCount.count
 | .indexByte=>Extern.BytealgIndexByte.indexByte
theorem mark_run(m:Mark) (w:World):(mark m).run P w= .ok () w:=rfl
theorem callFunc_ext{f:FuncId}{k:ExK}{w:World}(h:tyExt P f=some k) (args:Array Value):(callFunc f args).run P w=((extFn k args).run P w).andThen fun v w' => .ok (.value v) w' :=by
 unfold tyExt at h
 split at h<;>try (cases h;done)
 rename_i fn hfn
 split at h<;>try (cases h;done)
 rename_i hb
 split at h<;>try (cases h;done)
 rename_i ho
 have ho:fn.origin= "" :=by simpa using ho
 split at h
 ·rename_i hn
  have hn:fn.name= "internal/bytealg.CountString" :=by simpa using hn
  cases h
  have h1:(fn.name== "runtime.NumGoroutine")=false:=by rw[hn];rfl
  have h2:Extern.findNext fn=none:=by unfold Extern.findNext;simp only[hn,ho,ext_find1,ext_find0];rfl
  have h3:Extern.find fn=some Extern.BytealgCount.count:=by unfold Extern.find;simp only[hn,ho,ext_find3,ext_find5,ext_find7];rfl
  simp only[callFunc,Sem.run_bind,run_program,Result.andThen_ok,hfn,h1,Bool.false_eq_true,if_false,hb,Option.isNone_none,if_true,mark_run,h2,h3]
  rfl
 ·split at h<;>try (cases h;done)
  rename_i hn
  have hn:fn.name= "internal/bytealg.IndexByteString" :=by simpa using hn
  cases h
  have h1:(fn.name== "runtime.NumGoroutine")=false:=by rw[hn];rfl
  have h2:Extern.findNext fn=none:=by unfold Extern.findNext;simp only[hn,ho,ext_find2,ext_find0];rfl
  have h3:Extern.find fn=some Extern.BytealgIndexByte.indexByte:=by unfold Extern.find;simp only[hn,ho,ext_find4,ext_find6,ext_find8];rfl
  simp only[callFunc,Sem.run_bind,run_program,Result.andThen_ok,hfn,h1,Bool.false_eq_true,if_false,hb,Option.isNone_none,if_true,mark_run,h2,h3]
  rfl
theorem extD_ok{k:ExK}{ds:List D}{d:D}{G:Gh}{vals:List Value}{w:World}(h:extD k ds=some d) (hv:Reps G ds vals):∃v,(extFn k vals.toArray).run P w= .ok v w∧Rep G d v:=by
 unfold extD at h
 split at h<;>try (cases h;done)
 ·rename_i s c
  cases h
  simp only[Reps,Rep]at hv
  obtain⟨v1,r1,rfl,rfl,v2,r2,rfl,rfl,rfl⟩:=hv
  exact⟨_,rfl,by simp only[Rep];rfl⟩
 ·rename_i s c
  cases h
  simp only[Reps,Rep]at hv
  obtain⟨v1,r1,rfl,rfl,v2,r2,rfl,rfl,rfl⟩:=hv
  cases hf:(List.range (⟨s.toArray⟩:ByteArray).size).find? fun i=>(⟨s.toArray⟩:ByteArray)[i]! ==c.toNat.toUInt8 with
  |some i=>
   refine⟨.int .i64 i,?_,by simp only[Rep]⟩
   show(match (List.range (⟨s.toArray⟩:ByteArray).size).find? fun i=>(⟨s.toArray⟩:ByteArray)[i]! ==c.toNat.toUInt8 with
    |some i=>(Pure.pure (goInt i):Sem Value)
    |none=>Pure.pure (goInt (-1))).run P w=_
   rw[hf];rfl
  |none=>
   refine⟨.int .i64 (-1),?_,by simp only[Rep]⟩
   show(match (List.range (⟨s.toArray⟩:ByteArray).size).find? fun i=>(⟨s.toArray⟩:ByteArray)[i]! ==c.toNat.toUInt8 with
    |some i=>(Pure.pure (goInt i):Sem Value)
    |none=>Pure.pure (goInt (-1))).run P w=_
   rw[hf];rfl
theorem aop_ext{T:Tys}(hTy:TOk T P) {c:Call}{f:FuncId}{k:ExK}{ds:List D}{d:D}(ho:o.op= .call c) (hc:callD T τ c=some (f,ds))
 (hk:lk T.ext f=some k) (hd:extD k ds=some d):AOp P N o τ σ (fun d' s=>d' =d∧s=σ):=by
 intro B G w a hR hT next Q hn
 obtain⟨vals,hall,hinv⟩:=callD_run hTy (w:=w) (ty:=o.type) hT hc
 rw[callFunc_ext (lk_of hTy.ext hk)]at hinv
 obtain⟨v,h1,h2⟩:=extD_ok (P:=P) (w:=w) hd hall
 rw[h1]at hinv
 have hrun:(execOp a.eval o).run P w= .ok (.value v) w:=by
  unfold execOp
  rw[ho]
  exact hinv
 unfold Oper.wp
 rw[hrun]
 exact hn v w G d σ (.refl G) hR h2 ⟨rfl,rfl⟩
theorem aop_nextM{it:Operand}{l:Nat}{ks vs:List D}{rem:List Nat}{cur:Option Nat}(ho:o.op= .next it false) (hit:ev τ it=some (.ptr l 0 0)) (hl:σ[l]? =some (.miter ks vs rem cur)):
 AOp P N o τ σ (fun d s=>(rem=[]∧d= .tuple [.bool false]∧s=σ)∨
  (∃i a b,i ∈ rem∧ks[i]? =some a∧vs[i]? =some b∧d= .tuple [.bool true,a,b]∧s=σ.set l (.miter ks vs (rem.filter (· !=i)) (some i)))):=by
 intro B G w a hR hT next Q hn
 obtain⟨u,w',hrun,h⟩:=nextMap_ok (P:=P) hR o.type hl (ev_ok hT hit)
 have hex:(execOp a.eval o).run P w= .ok (.value u) w' :=by
  obtain⟨dst,op,ty,pos,after,guard⟩:=o
  simp only at ho
  subst ho
  unfold execOp
  simp only[Sem.run_bind,hrun,Result.andThen_ok,Sem.run_pure]
 unfold Oper.wp
 rw[hex]
 rcases h with⟨h1,h2,h3⟩|⟨i,x,y,h1,h2,h3,h4,h5⟩
 ·exact hn u w' G _ _ (.refl G) h2 h3 (.inl ⟨h1,rfl,rfl⟩)
 ·exact hn u w' G _ _ (.refl G) h4 h5 (.inr ⟨i,x,y,h1,h2,h3,rfl,rfl⟩)
def KOk(P:Program) (K:FuncId→List D→Option D):Prop:=∀f ds d,K f ds=some d→FnOk P f∧PureOK P f ds d
def callE(T:Tys) (K:FuncId→List D→Option D) (τ:Env) (σ:Sto) (c:Call):Option (D×Sto):=
 match callD T τ c with
 |some (f,ds)=>match lk T.ext f with
  |some k=>match extD k ds with
   |some d=>some (d,σ)
   |none=>none
  |none=>match frzCs σ ds with
   |some (ds',σ1)=>match K f ds' with
    |some d=>some (d,σ1)
    |none=>none
   |none=>none
 |_=>none
def isBuiltin:Callee→Bool
 | .builtin _=>true
 |_=>false
def opE(T:Tys) (K:FuncId→List D→Option D) (τ:Env) (σ:Sto) (op:Op):Option (D×Sto):=
 match op with
 | .call c=>match isBuiltin c.callee with
   |true=>aop T τ σ op
   |false=>callE T K τ σ c
 |_=>aop T τ σ op
theorem aop_E(hTy:TOk T P) {K:FuncId→List D→Option D}(hK:KOk P K) {d:D}{σ' :Sto}(h:opE T K τ σ o.op=some (d,σ')):AOp P N o τ σ (fun d' s=>d' =d∧s=σ'):=by
 unfold opE at h
 split at h
 ·rename_i c hop
  split at h
  ·exact aop_aop hTy h
  ·unfold callE at h
   split at h<;>try (cases h;done)
   rename_i f ds hc
   split at h
   ·rename_i k hk
    split at h<;>try (cases h;done)
    rename_i d' hd
    cases h
    exact aop_ext hTy hop hc hk hd
   ·split at h<;>try (cases h;done)
    rename_i ds' σ1 hz
    split at h<;>try (cases h;done)
    rename_i d' hk
    cases h
    obtain⟨h1,h2⟩:=hK _ _ _ hk
    exact aop_call hTy hop hc hz h1 (h2.acall _)
 ·exact aop_aop hTy h
def wantD(all:Array Oper) (τ:Env) (o:Oper):Option Bool:=
 match o.guard with
 |none=>some true
 |some (j,want)=>match (all[j]?).bind (·.dst) with
  |some t=>match get τ t with
   |some (.bool b)=>some (b==want)
   |some (.tuple _)=>some false
   |_=>none
  |none=>none
def putD(N:Nat) (dst:Option Tmp) (d:D) (τ:Env):Option Env:=
 match dst with
 |none=>some τ
 |some t=>if t<N then some ((t,d)::τ) else none
theorem wantD_ok{G:Gh}{a:Act}{all:Array Oper}{b:Bool}(hT:TRel G N τ a) (h:wantD all τ o=some b):Region.wanted o (yielded all a.tmps)=b:=by
 unfold wantD at h
 unfold Region.wanted
 split at h
 ·rename_i hg;rw[hg];cases h;rfl
 ·rename_i j want hg
  rw[hg]
  simp only
  unfold yielded
  split at h<;>try (cases h;done)
  rename_i t ht
  simp only[ht,Option.bind_some]
  split at h<;>try (cases h;done)
  ·rename_i b' hb
   have hr:=hT.slot _ _ hb
   simp only[Rep]at hr
   have:a.tmps[t]? =some (.bool b'):=by
    rw[Array.getD_eq_getD_getElem?]at hr
    cases hx:a.tmps[t]? with
    |none=>rw[hx]at hr;simp[undef]at hr
    |some v=>rw[hx]at hr;simpa using hr
   rw[this]
   cases h
   cases b' <;>cases want<;>rfl
  ·rename_i vs hb
   have hr:=hT.slot _ _ hb
   simp only[Rep]at hr
   obtain⟨x,hx,_⟩:=hr
   have hno:∀b',a.tmps[t]?≠some (.bool b'):=by
    intro b' hb'
    rw[Array.getD_eq_getD_getElem?,hb']at hx
    simp at hx
   cases h
   cases hx' :a.tmps[t]? with
   |none=>rfl
   |some v=>
    cases v<;>first|rfl|exact absurd hx' (hno _)
theorem putD_ok{G:Gh}{a:Act}{dst:Option Tmp}{d:D}{v:Value}{τ' :Env}(hT:TRel G N τ a) (h:putD N dst d τ=some τ') (hv:Rep G d v):TRel G N τ' (a.put dst v):=by
 unfold putD at h
 split at h
 ·cases h;exact hT
 ·split at h<;>try (cases h;done)
  rename_i ht
  cases h
  exact hT.put ht hv
def AOps(P:Program) (N:Nat) (all:Array Oper):List Oper→Env→Sto→(Env→Sto→Prop)→Prop
 |[],τ,σ,K=>K τ σ
 |o::r,τ,σ,K=>
  (wantD all τ o=some true∧AOp P N o τ σ fun d σ' =>∃τ',putD N o.dst d τ=some τ'∧AOps P N all r τ' σ' K)∨
  (wantD all τ o=some false∧∃τ',putD N o.dst (.tuple []) τ=some τ'∧AOps P N all r τ' σ K)
theorem aops_wp{i:Nat}{B:Base P}{all:Array Oper}{Q:AEx→Env→Sto→Prop}{G0:Gh}:∀(l:List Oper) (is:List Nat) (τ:Env) (σ:Sto) (G:Gh) (a:Act) (w:World),G0.LeB i G→l.map some=is.map (all[·]?)→
 AOps P N all l τ σ (fun τ' σ' =>Q .normal τ' σ')→Rel B G σ w→TRel G N τ a→wpOps P all (liftQ i B G0 N Q) is a w
 |[],is,τ,σ,G,a,w,h0,hl,h,hR,hT=>by
  match is,hl with
  |[],_=>exact⟨G,τ,σ,h0,hR,hT,h⟩
 |o::r,is,τ,σ,G,a,w,h0,hl,h,hR,hT=>by
  match is,hl with
  |i::is,hl=>
   simp only[List.map_cons,List.cons.injEq]at hl
   obtain⟨ho,hl⟩:=hl
   simp only[wpOps,←ho]
   rcases h with⟨hw,hop⟩|⟨hw,τ',hp,hr⟩
   ·rw[if_pos (wantD_ok hT hw)]
    refine .inl (hop B G w a hR hT _ _ ?_)
    rintro v w' G' d σ' hle hR' hd ⟨τ',hp,hr⟩
    exact aops_wp r is τ' σ' G' _ w' (h0.trans hle.b) hl hr hR' (putD_ok (hT.mono hle) hp hd)
   ·rw[if_neg (by rw[wantD_ok hT hw];simp)]
    exact aops_wp r is τ' σ G _ w h0 hl hr hR (putD_ok hT hp (by simp only[Rep,undef];exact⟨#[],rfl,by simp[Reps]⟩))
theorem awp_region{i:Nat}{id:Nat}{ops:Array Oper}{Q:AEx→Env→Sto→Prop}(h:AOps P N ops ops.toList τ σ (fun τ' σ' =>Q .normal τ' σ')):AWp i P N (.region id ops false) τ σ Q:=by
 intro B G w a hR hT
 refine wp_region (aops_wp ops.toList (List.range ops.size) τ σ G a w (.refl G) ?_ h hR hT)
 apply List.ext_getElem?
 intro i
 simp only[List.getElem?_map,Array.getElem?_toList]
 by_cases hi:i<ops.size
 ·simp[List.getElem?_range hi,Array.getElem?_eq_getElem hi]
 ·rw[Array.getElem?_eq_none (by omega),List.getElem?_eq_none (by simp;omega)];rfl
def Gh.strip(G:Gh):Gh:={G with blk:=fun _ _=>none}
theorem pure_of_call{i:Nat}{f:FuncId}{ds:List D}{d:D}(hp:pureL ds=true) (h:ACallB i P f ds [] fun d' σ' =>∃σ'',frzR σ' d' =some (d,σ'')∧d.pure=true):PureOK P f ds d:=by
 intro G w vals hI hg hv
 let B0:Base P:=⟨w,G,hg,fun b o v h=>lt_of_cell (hI.imm b o v h),fun b es h=>lt_of_some (hI.mimm b es h).1⟩
 have hR:Rel B0 G.strip [] w:=by
  refine⟨Below.refl _ _,hI.imm,hI.mimm,hI.siz,?_,?_,?_,?_,?_,?_,?_,fun _ _ _=>rfl,fun _ _=>rfl⟩
  ·intro l u b hb;cases hb
  ·intro l u l' u' b hb;cases hb
  ·intro l ob b ho;simp at ho
  ·intro l cs frz u b ho;simp at ho
  ·intro l ks vs b ho;simp at ho
  ·intro l ob ho;simp at ho
  ·intro l ob ho;simp at ho
 refine(h B0 G.strip w vals hR (Reps.pure (G:=G) (G' :=G.strip) (fun _ _ _ x=>x) (fun _ _ x=>x) ds vals hp hv)).mono ?_
 rintro e w' ⟨v,G',d',σ',rfl,hle,hR',hd,σ'',hz,hpd⟩
 obtain⟨G2,l2,R2,r2⟩:=frzR_ok hR' hz hd
 let G3:Gh:={G2 with blk:=G.blk}
 refine⟨v,G3,rfl,?_,Rep.pure (G:=G2) (G' :=G3) (fun _ _ _ x=>x) (fun _ _ x=>x) d v hpd r2⟩
 have hle2:=hle.trans (l2.b (i:=i))
 exact {
  le:=⟨hle2.imm,hle2.mimm,fun _ _ _ x=>x,hle2.siz⟩
  below:=R2.below
  blk:=rfl
  imm:=R2.imm
  mimm:=R2.mimm
  siz:=R2.siz
  imm_new:=R2.bimm
  mimm_new:=R2.bmimm}
theorem pure_of_body{i:Nat}(hTy:TOk T P) {f:FuncId}{fn:Func}{c:Code}{ds:List D}{d:D}(hf:P.funcs[f]? =some fn) (hb:fn.body=some c) (hn:ds.length≤fn.ntmps) (hp:pureL ds=true)
 (h:AWp i P fn.ntmps c (env0 0 ds) [] fun e τ' σ' =>(e= .normal∨e= .ret)∧∃d',resD T fn.results.toList τ' σ' =some d'∧∃σ'',frzR σ' d' =some (d,σ'')∧d.pure=true):PureOK P f ds d:=
 pure_of_call hp (acall_body hTy hf hb hn h)
end
end Go.Fw
namespace Go.Fw
open Go.RowKit
section
variable {P:Program}{T:Tys}{K:FuncId→List D→Option D}{N:Nat}{all:Array Oper}{o:Oper}{r:List Oper}{τ τ' :Env}{σ σ' :Sto}{d:D}{Kt:Env→Sto→Prop}
theorem go1(tok:TOk T P) (kok:KOk P K) (h1:wantD all τ o=some true) (h2:opE T K τ σ o.op=some (d,σ')) (h3:putD N o.dst d τ=some τ') (h:AOps P N all r τ' σ' Kt):AOps P N all (o::r) τ σ Kt:=
 .inl ⟨h1,(aop_E tok kok h2).mono (by rintro d' s ⟨rfl,rfl⟩;exact⟨τ',h3,h⟩)⟩
def endQ(T:Tys) (rs:List ResultVar) (d:D):AEx→Env→Sto→Prop:=fun e τ' σ' =>
 (e= .normal∨e= .ret)∧∃d',resD T rs τ' σ' =some d'∧∃σ'',frzR σ' d' =some (d,σ'')∧d.pure=true
theorem body1{i:Nat}(tok:TOk T P) {f:FuncId}{fn:Func}{c:Code}{ds:List D}{d:D}(hf:P.funcs[f]? =some fn) (hb:fn.body=some c) (hn:Nat.ble ds.length fn.ntmps=true) (hp:pureL ds=true)
 (h:AWp i P fn.ntmps c (env0 0 ds) [] (endQ T fn.results.toList d)):PureOK P f ds d:=
 pure_of_body tok hf hb (Nat.le_of_ble_eq_true hn) hp h
theorem end_ret{rs:List ResultVar}{d d' :D}{σ'' :Sto}(h1:resD T rs τ σ=some d') (h2:frzR σ d' =some (d,σ'')) (h3:d.pure=true):endQ T rs d .ret τ σ:=
 ⟨.inr rfl,d',h1,σ'',h2,h3⟩
end
end Go.Fw
