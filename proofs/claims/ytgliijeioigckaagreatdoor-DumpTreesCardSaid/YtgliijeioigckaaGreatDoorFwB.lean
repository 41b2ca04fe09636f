/- A framework for proofs about Go programs in this model: part B. Everything is proved; no condition is added. -/
import Derived.Laws.StructEq
import Derived.Laws.Entries
import Derived.Laws.RangeString
import Derived.IntWalk
import Derived.Test.YtgliijeioigckaaGreatDoorFwA
set_option linter.unusedVariables false
set_option linter.unusedSimpArgs false
namespace Go.Fw
open Go.RowKit
section
variable {P:Program}{B:Base P}{G:Gh}{σ:List AObj}{w:World}
inductive LK where
 |b|i|s
 deriving DecidableEq,Inhabited
def cellEq:LK→D→D→Option Bool
 | .b,.bool a,.bool b=>some (a==b)
 | .i,.int k a,.int k' b=>if k=k' then some (a==b) else none
 | .s,.str a,.str b=>some (a==b)
 |_,_,_=>none
def cellsEq:List LK→List D→List D→Option Bool
 |[],[],[]=>some true
 |k::ks,a::as,b::bs=>match cellEq k a b with
  |some true=>cellsEq ks as bs
  |some false=>some false
  |none=>none
 |_,_,_=>none
theorem cellsEq_append:∀(ks ls:List LK) (a b:List D) (c d:List D),ks.length=a.length→ks.length=c.length→cellsEq (ks++ls) (a++b) (c++d)=match cellsEq ks a c with|some true=>cellsEq ls b d|x=>x
 |[],ls,[],b,[],d,_,_=>rfl
 |k::ks,ls,a::as,b,c::cs,d,h,h' =>by
  simp only[List.cons_append,cellsEq]
  cases cellEq k a c with
  |none=>rfl
  |some r=>cases r with
   |false=>rfl
   |true=>exact cellsEq_append ks ls as b cs d (by simpa using h) (by simpa using h')
def ftFields(P:Program) (g:TypeId→Option (List LK)):List Field→Nat→Option (List LK)
 |[],_=>some []
 |f::fs,off=>
  if f.name= "_" ∨f.offset≠off then none else
  match g f.type,tyLd P f.type with
  |some ks,some (n,_)=>if ks.length=n then(match ftFields P g fs (off+n) with|some r=>some (ks++r)|none=>none) else none
  |_,_=>none
def ftOf(P:Program):Nat→TypeId→Option (List LK)
 |0,_=>none
 |d+1,t=>match P.underlying t with
  |some .bool=>some [.b]
  |some (.int _)=>some [.i]
  |some .string=>some [.s]
  |some (.struct fs)=>if P.stoodInHeld t then none else ftFields P (ftOf P d) fs.toList 0
  |_=>none
def OfCells(agg:Bool) (vs:List Value) (v:Value):Prop:=if agg then v= .agg vs.toArray else vs=[v]
theorem one_eq{ks:LK}{a b:D}{r:Bool}(h:cellsEq [ks] [a] [b]=some r):cellEq ks a b=some r:=by
 simp only[cellsEq]at h
 split at h
 ·rename_i h';rw[h'];cases h;rfl
 ·rename_i h';rw[h'];cases h;rfl
 ·cases h
theorem reps_one{a:D}{vs:List Value}(h:Reps G [a] vs):∃v,vs=[v]∧Rep G a v:=by
 simp only[Reps]at h
 obtain⟨v,r,rfl,h1,rfl⟩:=h
 exact⟨v,rfl,h1⟩
theorem list_one{α:Type}{l:List α}(h:1=l.length):∃a,l=[a]:=by
 match l,h with
 |[a],_=>exact⟨a,rfl⟩
theorem part_of{t:TypeId}{n off:Nat}{b:Bool}(ht:tyLd P t=some (n,b)) (hb:b=true∨n=1) {a:Array Value}(hlen:off+n≤a.size):
 ∃u,(part t a off).run P w= .ok u w∧OfCells b ((a.toList.drop off).take n) u:=by
 obtain⟨i,ds,hi,hd,rfl,hbb⟩:=tyLd_inv ht
 unfold part
 simp only[Sem.run_bind,run_isAgg hd,hbb,Result.andThen_ok]
 cases b with
 |true=>
  refine⟨.agg (a.extract off (off+i.size)),by simp[sizeOf,typeInfo,hi],?_⟩
  simp only[OfCells,if_true]
  congr 1
  apply Array.ext'
  simp
 |false=>
  have hn:=hb.resolve_left (by simp)
  have hlt:off<a.size:=by omega
  refine⟨a[off],by rw[Array.getElem?_eq_getElem hlt];rfl,?_⟩
  simp only[OfCells,Bool.false_eq_true,if_false,hn]
  rw[List.drop_eq_getElem_cons (by simpa using hlt)]
  simp
theorem flat_ok:∀(d:Nat) (t:TypeId) (ks:List LK) (n:Nat) (b:Bool),ftOf P d t=some ks→tyLd P t=some (n,b)→ks.length=n→∀(cs ds:List D) (xs ys:List Value) (x y:Value) (r:Bool),
 cellsEq ks cs ds=some r→cs.length=n→ds.length=n→Reps G cs xs→Reps G ds ys→OfCells b xs x→OfCells b ys y→(Op.equalIn d t x y).run P w= .ok r w
 |0,_,_,_,_,h,_,_=>by simp[ftOf]at h
 |d+1,t,ks,n,b,h,ht,hk=>by
  intro cs ds xs ys x y r hc hcl hdl hcx hdy hx hy
  obtain⟨i,desc,hi,hd,rfl,hbb⟩:=tyLd_inv ht
  simp only[ftOf,hd]at h
  have leaf:∀(k:LK),ks=[k]→descAgg desc=false→∃a c u v,cs=[a]∧ds=[c]∧x=u∧y=v∧Rep G a u∧Rep G c v∧cellEq k a c=some r:=by
   intro k hks hag
   subst hks
   rw[hag]at hbb
   subst hbb
   simp only[List.length_singleton]at hk
   obtain⟨a,rfl⟩:=list_one (hk.trans hcl.symm)
   obtain⟨c,rfl⟩:=list_one (hk.trans hdl.symm)
   obtain⟨u,rfl,hu⟩:=reps_one hcx
   obtain⟨v,rfl,hv⟩:=reps_one hdy
   simp only[OfCells,Bool.false_eq_true,if_false,List.cons.injEq,and_true]at hx hy
   exact⟨a,c,u,v,rfl,rfl,hx.symm,hy.symm,hu,hv,one_eq hc⟩
  split at h
  ·rename_i e
   cases e
   simp only[Option.some.injEq]at h
   obtain⟨a,c,u,v,rfl,rfl,rfl,rfl,hu,hv,he⟩:=leaf .b h.symm rfl
   cases a<;>cases c<;>simp only[cellEq]at he<;>try (cases he;done)
   simp only[Rep]at hu hv
   subst hu hv
   rw[run_equalIn_bool' w d t _ _ hd];cases he;rfl
  ·rename_i e
   cases e
   simp only[Option.some.injEq]at h
   obtain⟨a,c,u,v,rfl,rfl,rfl,rfl,hu,hv,he⟩:=leaf .i h.symm rfl
   cases a<;>cases c<;>simp only[cellEq]at he<;>try (cases he;done)
   simp only[Rep]at hu hv
   subst hu hv
   split at he<;>try (cases he;done)
   rename_i hkk
   subst hkk
   rw[run_equalIn_int w d t _ _ _ _ hd];cases he;rfl
  ·rename_i e
   cases e
   simp only[Option.some.injEq]at h
   obtain⟨a,c,u,v,rfl,rfl,rfl,rfl,hu,hv,he⟩:=leaf .s h.symm rfl
   cases a<;>cases c<;>simp only[cellEq]at he<;>try (cases he;done)
   simp only[Rep]at hu hv
   subst hu hv
   rw[run_equalIn_string w d t _ _ hd,bytes_toList,bytes_toList];cases he;rfl
  ·rename_i fs e
   cases e
   split at h<;>try (cases h;done)
   rename_i hst
   have hag:b=true:=hbb.symm
   subst hag
   simp only[OfCells,if_true]at hx hy
   subst hx hy
   have hfo:P.fieldsOf t=fs:=by simp[Program.fieldsOf,hd]
   rw[run_equalIn_struct w d t _ _ (by rw[hfo];exact hd) (by simpa using hst),hfo]
   have hxl:=hcx.length
   have hyl:=hdy.length
   have key:∀(l:List Field) (off:Nat) (ks' :List LK),ftFields P (ftOf P d) l off=some ks'→off+ks'.length=i.size→cellsEq ks' (cs.drop off) (ds.drop off)=some r→
    (Op.eqFields d xs.toArray ys.toArray l).run P w= .ok r w:=by
    intro l
    induction l with
    |nil=>
     intro off ks' h1 h2 h3
     simp only[ftFields,Option.some.injEq]at h1
     subst h1
     have e1:cs.drop off=[]:=by apply List.drop_eq_nil_of_le;simp at h2;omega
     have e2:ds.drop off=[]:=by apply List.drop_eq_nil_of_le;simp at h2;omega
     rw[e1,e2]at h3
     simp only[cellsEq,Option.some.injEq]at h3
     subst h3
     simp[Op.eqFields]
    |cons f l ih=>
     intro off ks' h1 h2 h3
     simp only[ftFields]at h1
     split at h1<;>try (cases h1;done)
     rename_i hno
     simp only[not_or,Decidable.not_not]at hno
     obtain⟨hname,rfl⟩:=hno
     split at h1<;>try (cases h1;done)
     rename_i kf nf bf hg hld
     split at h1<;>try (cases h1;done)
     rename_i hkn
     split at h1<;>try (cases h1;done)
     rename_i kr hr
     simp only[Option.some.injEq]at h1
     subst h1
     simp only[List.length_append]at h2
     have hb' :bf=true∨nf=1:=by
      cases bf with
      |true=>exact .inl rfl
      |false=>
       right
       obtain⟨fi,fd,hfi,hfd,rfl,hfb⟩:=tyLd_inv hld
       cases d with
       |zero=>simp[ftOf]at hg
       |succ d=>
        simp only[ftOf,hfd]at hg
        split at hg<;>first|(cases hg;done)|(rename_i e;cases e;simp only[Option.some.injEq]at hg;subst hg;simpa using hkn.symm)|(rename_i e;cases e;simp[descAgg]at hfb)
     have splitc:cs.drop f.offset=(cs.drop f.offset).take nf++cs.drop (f.offset+nf):=by
      rw[←List.drop_drop];exact(List.take_append_drop _ _).symm
     have splitd:ds.drop f.offset=(ds.drop f.offset).take nf++ds.drop (f.offset+nf):=by
      rw[←List.drop_drop];exact(List.take_append_drop _ _).symm
     rw[splitc,splitd,cellsEq_append _ _ _ _ _ _ (by simp;omega) (by simp;omega)]at h3
     obtain⟨u,hu,hou⟩:=part_of (w:=w) hld hb' (a:=xs.toArray) (off:=f.offset) (by simp;omega)
     obtain⟨v,hv,hov⟩:=part_of (w:=w) hld hb' (a:=ys.toArray) (off:=f.offset) (by simp;omega)
     simp only[Op.eqFields,ne_eq,hname,not_false_eq_true,if_true,Sem.run_bind,hu,hv,Result.andThen_ok]
     have rec' :∀r',cellsEq kf ((cs.drop f.offset).take nf) ((ds.drop f.offset).take nf)=some r'→(Op.equalIn d f.type u v).run P w= .ok r' w:=fun r' hr' =>
      flat_ok d f.type kf nf bf hg hld hkn _ _ _ _ u v r' hr' (by simp;omega) (by simp;omega) ((hcx.drop _).take _) ((hdy.drop _).take _) hou hov
     cases hq:cellsEq kf ((cs.drop f.offset).take nf) ((ds.drop f.offset).take nf) with
     |none=>rw[hq]at h3;cases h3
     |some r' =>
      rw[rec' r' hq,Result.andThen_ok]
      rw[hq]at h3
      cases r' with
      |true=>simpa using ih (f.offset+nf) kr hr (by omega) h3
      |false=>simp only[Option.some.injEq]at h3;subst h3;simp
   exact key fs.toList 0 ks h (by omega) (by simpa using hc)
  ·cases h
end
end Go.Fw
namespace Go.Fw
open Go.RowKit
section
variable {P:Program}{B:Base P}{G:Gh}{σ:List AObj}{w:World}
def intD(op:BinOp) (k k' :IntKind) (a b:Int):Option D:=
 match op with
 | .shl=>if 0≤b then some (.int k (k.wrap (a*2 ^ min b.toNat k.bits))) else none
 | .shr=>if 0≤b then some (.int k (a.fdiv (2 ^ min b.toNat k.bits))) else none
 | .add=>if k=k' then some (.int k (k.wrap (a+b))) else none
 | .sub=>if k=k' then some (.int k (k.wrap (a-b))) else none
 | .mul=>if k=k' then some (.int k (k.wrap (a*b))) else none
 | .quo=>if k=k'∧b≠0 then some (.int k (k.wrap (a.tdiv b))) else none
 | .rem=>if k=k'∧b≠0 then some (.int k (a.tmod b)) else none
 | .and=>if k=k' then some (.int k (bits .and k a b)) else none
 | .or=>if k=k' then some (.int k (bits .or k a b)) else none
 | .xor=>if k=k' then some (.int k (bits .xor k a b)) else none
 | .andNot=>if k=k' then some (.int k (bits .andNot k a b)) else none
 | .eql=>if k=k' then some (.bool (a==b)) else none
 | .neq=>if k=k' then some (.bool (a !=b)) else none
 | .lss=>if k=k' then some (.bool (decide (a<b))) else none
 | .leq=>if k=k' then some (.bool (decide (a≤b))) else none
 | .gtr=>if k=k' then some (.bool (decide (a>b))) else none
 | .geq=>if k=k' then some (.bool (decide (a≥b))) else none
def strD(op:BinOp) (a b:List UInt8):Option D:=
 match op with
 | .add=>if a.length+b.length≤9223372036854775807 then some (.str (a++b)) else none
 | .eql=>some (.bool (a==b))
 | .neq=>some (.bool (!(a==b)))
 | .lss=>some (.bool (Op.bytesLess a b))
 | .leq=>some (.bool (Op.bytesLess a b||a==b))
 | .gtr=>some (.bool (!(Op.bytesLess a b||a==b)))
 | .geq=>some (.bool (!Op.bytesLess a b))
 |_=>none
inductive EK where
 |prim|bool|flat (ks:List LK)|iface|ptr|func|map
 deriving Inhabited
def tyEq(P:Program) (t:TypeId):Option EK:=
 match P.underlying t with
 |some .bool=>some .bool
 |some (.int _)=>some .prim
 |some .string=>some .prim
 |some (.struct _)=>if P.eqGuardType P.depth t=false then(match ftOf P 20 t,tyLd P t with
  |some ks,some (n,true)=>if ks.length=n then some (.flat ks) else none
  |_,_=>none) else none
 |some (.interface _)=>some .iface
 |some (.pointer _)=>some .ptr
 |some (.func _ _ _)=>some .func
 |some (.map _ _)=>some .map
 |_=>none
def eqD(cst:Bool):EK→D→D→Option Bool
 | .bool,.bool a,.bool b=>some (a==b)
 | .flat ks,.agg cs,.agg ds=>if cs.length=ks.length∧ds.length=ks.length then cellsEq ks cs ds else none
 | .iface,.nili,.nili=>if cst then some true else none
 | .iface,.nili,.iface _ _=>some false
 | .iface,.nili,.anyi=>some false
 | .iface,.iface _ _,.nili=>some false
 | .iface,.anyi,.nili=>some false
 | .ptr,.nilp,.nilp=>some true
 | .ptr,.nilp,.ptr _ _ _=>some false
 | .ptr,.nilp,.rptr _ _=>some false
 | .ptr,.ptr _ _ _,.nilp=>some false
 | .ptr,.rptr _ _,.nilp=>some false
 | .func,.nilf,.nilf=>some true
 | .func,.nilf,.func _ _ _=>some false
 | .func,.func _ _ _,.nilf=>some false
 | .map,.nilmap,.nilmap=>some true
 | .map,.nilmap,.map _=>some false
 | .map,.map _,.nilmap=>some false
 | .map,.nilmap,.cmap _ _=>some false
 | .map,.cmap _ _,.nilmap=>some false
 |_,_,_=>none
theorem int_ok{op:BinOp}{k k' :IntKind}{a b:Int}{d:D}(t:TypeId) (h:intD op k k' a b=some d):∃v,(binOp op t (.int k a) (.int k' b)).run P w= .ok v w∧Rep G d v:=by
 cases op<;>simp only[intD]at h<;>split at h<;>try (cases h;done)
 all_goals (rename_i hc;cases h)
 case shl=>exact⟨_,by simp[binOp,Op.shift,Int.not_lt.2 hc];rfl,by simp[Rep]⟩
 case shr=>exact⟨_,by simp[binOp,Op.shift,Int.not_lt.2 hc];rfl,by simp[Rep]⟩
 case quo=>obtain⟨rfl,hb⟩:=hc;exact⟨_,by simp[binOp,Op.intDiv,hb];rfl,by simp[Rep]⟩
 case rem=>obtain⟨rfl,hb⟩:=hc;exact⟨_,by simp[binOp,Op.intDiv,hb];rfl,by simp[Rep]⟩
 all_goals (subst hc)
 case add=>exact⟨_,by simp[binOp,Op.intArith];rfl,by simp[Rep]⟩
 case sub=>exact⟨_,by simp[binOp,Op.intArith];rfl,by simp[Rep]⟩
 case mul=>exact⟨_,by simp[binOp,Op.intArith];rfl,by simp[Rep]⟩
 case and=>exact⟨_,by simp[binOp,intBits_and];rfl,by simp[Rep]⟩
 case or=>exact⟨_,by simp[binOp,intBits_or];rfl,by simp[Rep]⟩
 case xor=>exact⟨_,by simp[binOp,intBits_xor];rfl,by simp[Rep]⟩
 case andNot=>exact⟨_,by simp[binOp,intBits_andNot];rfl,by simp[Rep]⟩
 case eql=>exact⟨_,by simp[binOp,Op.intCmp];rfl,by simp[Rep]⟩
 case neq=>exact⟨_,by simp[binOp,Op.intCmp];rfl,by simp[Rep]⟩
 case lss=>exact⟨_,by simp[binOp,Op.intCmp];rfl,by simp[Rep]⟩
 case leq=>exact⟨_,by simp[binOp,Op.intCmp];rfl,by simp[Rep]⟩
 case gtr=>exact⟨_,by simp[binOp,Op.intCmp];rfl,by simp[Rep]⟩
 case geq=>exact⟨_,by simp[binOp,Op.intCmp];rfl,by simp[Rep]⟩
theorem str_ok{op:BinOp}{a b:List UInt8}{d:D}(t:TypeId) (h:strD op a b=some d):∃v,(binOp op t (.string ⟨a.toArray⟩) (.string ⟨b.toArray⟩)).run P w= .ok v w∧Rep G d v:=by
 cases op<;>simp only[strD]at h<;>try (cases h;done)
 case add=>
  split at h<;>try (cases h;done)
  rename_i hc
  cases h
  refine⟨.string ⟨(a++b).toArray⟩,?_,by simp[Rep]⟩
  simp only[binOp,Op.stringOp,bytes_size,bytes_append]
  rw[if_neg (by simp[IntKind.max,IntKind.signed,IntKind.bits];omega)]
  rfl
 all_goals (cases h;exact⟨_,by simp only[binOp,Op.stringOp,bytes_toList];rfl,by simp[Rep]⟩)
def isCstB:Operand→Bool
 | .const _=>true
 |_=>false
theorem eqGuard_prim{op:BinOp}{t:TypeId}{x y:Operand}{a b:Value}(h:∀xs ys,a≠.agg xs∨b≠.agg ys) (h' :a≠.nilIface∨b≠.nilIface):(eqGuard op t x y a b).run P w= .ok () w:=by
 have key:(match a,b with
  |Value.nilIface,Value.nilIface=>if isCstB x||isCstB y then(pure ():Sem Unit) else do
   if ←Op.eqGuardIn Op.maxDepth t a b then unsupported (.noEntry "binop/eql: two nil values of an interface type with methods, neither of them the literal nil")
  |Value.agg _,Value.agg _=>do
   if !(←program).eqGuardType (←program).depth t then return
   if ←Op.eqGuardIn Op.maxDepth t a b then unsupported (.noEntry "binop/eql: two nil values of an interface type with methods, in a part of a struct or an array")
  |_,_=>pure ()).run P w= .ok () w:=by
  split
  ·rcases h' with h' |h' <;>exact absurd rfl h'
  ·rename_i xs ys;rcases h xs ys with h' |h' <;>exact absurd rfl h'
  ·rfl
 cases op<;>first|rfl|exact key
def isCst:Operand→Bool
 | .const _=>true
 |_=>false
def binD(ek? :Option EK) (op:BinOp) (cst:Bool) (x y:D):Option D:=
 match x,y with
 | .int k a,.int k' b=>intD op k k' a b
 | .str a,.str b=>strD op a b
 |x,y=>match op,ek? with
  | .eql,some ek=>(eqD cst ek x y).map .bool
  | .neq,some ek=>(eqD cst ek x y).map fun r=> .bool (!r)
  |_,_=>none
set_option maxHeartbeats 1000000 in
theorem eq_run{cst:Bool}{ek:EK}{t:TypeId}(ht:tyEq P t=some ek) {x y:D}{u v:Value}{r:Bool}(h:eqD cst ek x y=some r) (hx:Rep G x u) (hy:Rep G y v):
 (Op.equal t u v).run P w= .ok r w:=by
 unfold tyEq at ht
 show(Op.equalIn (9999+1) t u v).run P w= .ok r w
 generalize hdep:(9999:Nat)=dep
 split at ht<;>try (cases ht;done)
 ·rename_i hu
  cases ht
  cases x<;>cases y<;>simp only[eqD]at h<;>try (cases h;done)
  simp only[Rep]at hx hy;subst hx hy;cases h
  exact run_equalIn_bool' w _ t _ _ hu
 ·cases ht
  cases x<;>cases y<;>simp only[eqD]at h<;>cases h
 ·cases ht
  cases x<;>cases y<;>simp only[eqD]at h<;>cases h
 ·rename_i fs hu
  split at ht<;>try (cases ht;done)
  split at ht<;>try (cases ht;done)
  rename_i ks n hft hld
  split at ht<;>try (cases ht;done)
  rename_i hk
  cases ht
  cases x<;>cases y<;>simp only[eqD]at h<;>try (cases h;done)
  rename_i cs ds
  split at h<;>try (cases h;done)
  rename_i hc
  simp only[Rep]at hx hy
  obtain⟨xa,rfl,hxr⟩:=hx
  obtain⟨ya,rfl,hyr⟩:=hy
  have base:∀m,(Op.equalIn (20+m) t (.agg xa) (.agg ya)).run P w= .ok r w:=by
   intro m
   have mono:∀(d:Nat) (t' :TypeId) (ks' :List LK),ftOf P d t' =some ks'→ftOf P (d+1) t' =some ks' :=by
    intro d
    induction d with
    |zero=>intro t' ks' h';simp[ftOf]at h'
    |succ d ih=>
     intro t' ks' h'
     have hff:∀(l:List Field) (off:Nat) (r:List LK),ftFields P (ftOf P d) l off=some r→ftFields P (ftOf P (d+1)) l off=some r:=by
      intro l
      induction l with
      |nil=>intro off r hr;simpa[ftFields] using hr
      |cons f l ihl=>
       intro off r hr
       simp only[ftFields]at hr⊢
       split at hr<;>try (cases hr;done)
       rename_i hno
       rw[if_neg hno]
       split at hr<;>try (cases hr;done)
       rename_i kf nf bf hg hld'
       rw[ih _ _ hg,hld']
       split at hr<;>try (cases hr;done)
       rename_i hkn
       simp only[hkn,if_true]
       split at hr<;>try (cases hr;done)
       rename_i kr hkr
       rw[ihl _ _ hkr];exact hr
     rw[ftOf]at h'⊢
     split at h' <;>simp_all
   have mono' :∀m,ftOf P (20+m) t=some ks:=by
    intro m
    induction m with
    |zero=>exact hft
    |succ m ih=>exact mono _ _ _ ih
   exact flat_ok (20+m) t ks n true (mono' m) hld hk cs ds xa.toList ya.toList _ _ r h (by omega) (by omega) hxr hyr (by simp[OfCells]) (by simp[OfCells])
  subst hdep
  exact base 9980
 ·rename_i ms hu
  cases ht
  cases x<;>cases y<;>simp only[eqD]at h<;>try (cases h;done)
  all_goals (simp only[Rep]at hx hy)
  ·obtain⟨_,rfl,_⟩:=hx;subst hy;cases h
   simp[Op.equalIn,run_underlying hu]
  ·obtain⟨_,rfl,_⟩:=hy;subst hx;cases h
   simp[Op.equalIn,run_underlying hu]
  ·subst hx hy
   split at h<;>try (cases h;done)
   cases h
   simp[Op.equalIn,run_underlying hu]
  ·obtain⟨_,_,rfl⟩:=hy;subst hx;cases h
   simp[Op.equalIn,run_underlying hu]
  ·obtain⟨_,_,rfl⟩:=hx;subst hy;cases h
   simp[Op.equalIn,run_underlying hu]
 ·rename_i e hu
  cases ht
  cases x<;>cases y<;>simp only[eqD]at h<;>try (cases h;done)
  all_goals (simp only[Rep]at hx hy)
  ·subst hx hy;cases h;simp[Op.equalIn,run_underlying hu]
  ·obtain⟨_,_,rfl⟩:=hy;subst hx;cases h
   simp[Op.equalIn,run_underlying hu]
  ·obtain⟨_,_,rfl,_⟩:=hy;subst hx;cases h
   simp[Op.equalIn,run_underlying hu]
  ·obtain⟨_,_,rfl⟩:=hx;subst hy;cases h
   simp[Op.equalIn,run_underlying hu]
  ·obtain⟨_,_,rfl,_⟩:=hx;subst hy;cases h
   simp[Op.equalIn,run_underlying hu]
 ·rename_i hu
  cases ht
  cases x<;>cases y<;>simp only[eqD]at h<;>try (cases h;done)
  all_goals (simp only[Rep]at hx hy)
  ·obtain⟨_,_,rfl,_⟩:=hx;subst hy;cases h
   simp[Op.equalIn,run_underlying hu]
  ·obtain⟨_,_,rfl,_⟩:=hy;subst hx;cases h
   simp[Op.equalIn,run_underlying hu]
  ·subst hx hy;cases h;simp[Op.equalIn,run_underlying hu]
 ·rename_i hu
  cases ht
  cases x<;>cases y<;>simp only[eqD]at h<;>try (cases h;done)
  all_goals (simp only[Rep]at hx hy)
  ·obtain⟨_,_,rfl⟩:=hx;subst hy;cases h
   simp[Op.equalIn,run_underlying hu]
  ·obtain⟨_,_,rfl⟩:=hy;subst hx;cases h
   simp[Op.equalIn,run_underlying hu]
  ·subst hx hy;cases h;simp[Op.equalIn,run_underlying hu]
  ·obtain⟨_,_,rfl,_⟩:=hy;subst hx;cases h
   simp[Op.equalIn,run_underlying hu]
  ·obtain⟨_,_,rfl,_⟩:=hx;subst hy;cases h
   simp[Op.equalIn,run_underlying hu]
end
end Go.Fw
namespace Go.Fw
open Go.RowKit
section
variable {P:Program}{B:Base P}{G:Gh}{σ:List AObj}{w:World}
def srcD(σ:List AObj) (sz:Nat):D→Option (List D×Nat)
 | .list cs n _=>if cs.length=n*sz then some (cs,n) else none
 | .sl l u o n sz' _=>match σ[l]? with
   |some (.cells cs _ u')=>if u' =u∧sz' =sz∧o+n*sz≤cs.length then some ((cs.drop o).take (n*sz),n) else none
   |_=>none
 | .str s=>if sz=1 then some (s.map fun b=> .int .u8 b.toNat,s.length) else none
 |_=>none
theorem Rel.cells_of(hR:Rel B G σ w) {l u b o k:Nat}{cs:List D}{frz:Nat}(hl:σ[l]? =some (.cells cs frz u)) (hb:G.blk l u=some b) (hk:o+k≤cs.length):
 ∃vs:List Value,vs.length=k∧Reps G ((cs.drop o).take k) vs∧∀j v,vs[j]? =some v→w.cell? ⟨b,o+j,none⟩=some v:=by
 have hrd:readAt σ (.ptr l u o) k=some ((cs.drop o).take k):=by simp[readAt,hl,hk]
 obtain⟨b',o',vs,e,h1,h2,h3,h4⟩:=readAt_ok hR hrd (show Rep G (.ptr l u o) (.pointer (some ⟨b,o,none⟩)) by simp only[Rep];exact⟨b,hb,rfl⟩)
 cases e
 exact⟨vs,h1,h3,h4⟩
theorem src_ok(hR:Rel B G σ w) {tx:TypeId}{i:TypeInfo}{x:D}{v:Value}{new:List D}{m:Nat}(h:srcD σ i.size x=some (new,m)) (hv:Rep G x v) (hall:new.all D.isCell=true)
 (hk:(∃e',P.underlying tx=some (.slice e'))∨P.underlying tx=some .string):∃news,Src P i.size tx v m news w∧Reps G new news:=by
 cases x<;>simp only[srcD]at h<;>try (cases h;done)
 ·rename_i s
  split at h<;>try (cases h;done)
  rename_i hsz
  cases h
  simp only[Rep]at hv
  subst hv
  refine⟨s.map fun b=> .int .u8 b.toNat,?_,?_⟩
  ·have hx:∀w' :World,(Builtin.firstCells i.size s.length (.string ⟨s.toArray⟩)).run P w' = .ok (s.map fun b=>Value.int .u8 b.toNat).toArray w' :=by
    intro w'
    simp only[Builtin.firstCells,Sem.run_pure]
    congr 1
    rw[bytes_extract]
    simp
   exact⟨hk,fun w' =>by simp[Builtin.lenOf,bytes_size],hx w,hx _,by simp[hsz],by simp[Value.oneCell']⟩
  ·clear hall
   induction s with
   |nil=>simp[Reps]
   |cons a s ih=>simp only[List.map_cons,Reps];exact⟨_,_,rfl,by simp[Rep],ih⟩
 ·rename_i cs n full
  split at h<;>try (cases h;done)
  rename_i hlen
  cases h
  simp only[Rep]at hv
  obtain⟨a,cap,rfl,h1,h2,h3,h4⟩:=hv
  have key:∃news,Reps G new news∧∀w' :World,(∀b o u,G.imm b o=some u→w'.cell? ⟨b,o,none⟩=some u)→(Builtin.firstCells i.size m (.slice a m cap)).run P w' = .ok news.toArray w' :=by
   rcases h4 with⟨b,o,rfl,hc⟩|rfl
   ·obtain⟨vs,hr,hi'⟩:=hc.reps
    refine⟨vs,hr,fun w' hw' => ?_⟩
    have hl:=hr.length
    have:=run_loadCells_list (P:=P) w' ⟨b,o,none⟩ vs (fun j u hj=>by rw[addr_add];exact hw' _ _ _ (hi' j u hj))
    rw[←hl,hlen]at this
    exact this
   ·refine⟨[],by simp[Reps],fun w' _=> ?_⟩
    have hz:m*i.size=0:=by simpa using hlen.symm
    cases a with
    |none=>simp[Builtin.firstCells]
    |some a=>simp only[Builtin.firstCells,hz];rfl
  obtain⟨news,hr,hrun⟩:=key
  exact⟨news,⟨hk,fun w' =>by simp[Builtin.lenOf],hrun w hR.imm,hrun _ hR.drew.imm,by rw[←hr.length,hlen],hr.oneCell hall⟩,hr⟩
 ·rename_i l u o n sz' full
  split at h<;>try (cases h;done)
  rename_i cs frz u' hl
  split at h<;>try (cases h;done)
  rename_i hc
  obtain⟨rfl,rfl,hlen⟩:=hc
  cases h
  simp only[Rep]at hv
  rcases hv with⟨b,cap,tot,hb,rfl,h1,h2,h3,h4,h5⟩|⟨rfl,a,rfl⟩
  ·obtain⟨vs,hvl,hr,hcell⟩:=hR.cells_of hl hb hlen
   have hrun:∀w' :World,(∀j v,vs[j]? =some v→w'.cell? ⟨b,o+j,none⟩=some v)→(Builtin.firstCells i.size m (.slice (some ⟨b,o,none⟩) m cap)).run P w' = .ok vs.toArray w' :=by
    intro w' hw'
    have:=run_loadCells_list (P:=P) w' ⟨b,o,none⟩ vs (fun j u hj=>by rw[addr_add];exact hw' j u hj)
    rw[hvl]at this
    exact this
   exact⟨vs,⟨hk,fun w' =>by simp[Builtin.lenOf],hrun w hcell,hrun _ hcell,by rw[hvl],hr.oneCell hall⟩,hr⟩
  ·have hrun:∀w' :World,(Builtin.firstCells i.size 0 (.slice a 0 0)).run P w' = .ok ([]:List Value).toArray w' :=by
    intro w'
    cases a with
    |none=>simp[Builtin.firstCells]
    |some a=>simp only[Builtin.firstCells,Nat.zero_mul];rfl
   refine⟨[],⟨hk,fun w' =>by simp[Builtin.lenOf],hrun w,hrun _,by simp,by simp⟩,?_⟩
   simp[Reps]
def limit:Nat:=1099511627776
def isSeq:Option TypeDesc→Bool
 |some (.slice _)=>true
 |some .string=>true
 |_=>false
theorem isSeq_inv{d:Option TypeDesc}(h:isSeq d=true):(∃e',d=some (.slice e'))∨d=some .string:=by
 unfold isSeq at h
 split at h
 ·exact .inl ⟨_,rfl⟩
 ·exact .inr rfl
 ·cases h
def tyApp(P:Program) (t tx:TypeId):Option (Nat×Nat):=
 match P.underlying t with
 |some (.slice e)=>match P.info? e,tyZero P e with
  |some i,some z=>if z.length=i.size∧0<i.size∧isSeq (P.underlying tx)=true then some (i.size,i.bytes) else none
  |_,_=>none
 |_=>none
def appD(σ:List AObj) (sz by' :Nat) (s x:D):Option (D×List AObj):=
 match srcD σ sz x with
 |none=>none
 |some (new,m)=>
  if new.all D.isCell=true then
   match s with
   | .list cs n full=>
     if cs.length=n*sz then
      (if m=0 then some (.list cs n full,σ)
      else if full=true∧(n+m)*by'≤limit∧n+m≤limit then some (.sl σ.length 0 0 (n+m) sz false,σ++[.cells (cs++new) 0 0]) else none)
     else none
   | .sl l u o n sz' full=>
     match σ[l]? with
     |some (.cells cs frz u')=>
      if u' =u∧sz' =sz∧o+n*sz≤cs.length then
       (if m=0 then some (.sl l u o n sz' full,σ)
       else if (n+m)*by'≤limit∧n+m≤limit then
        (if full=true then some (.sl σ.length 0 0 (n+m) sz false,σ++[.cells ((cs.drop o).take (n*sz)++new) 0 0])
        else if o=0∧n*sz=cs.length then some (.sl l (cs++new).length 0 (n+m) sz false,σ.set l (.cells (cs++new) frz (cs++new).length))
        else none)
       else none)
      else none
     |_=>none
   |_=>none
  else none
theorem tyApp_inv{t tx:TypeId}{sz by' :Nat}(h:tyApp P t tx=some (sz,by')):∃e i zv z,P.underlying t=some (.slice e)∧P.info? e=some i∧i.size=sz∧i.bytes=by'∧0<sz∧
 i.zero=some zv∧cDs zv.cells.toList=some z∧z.length=sz∧((∃e',P.underlying tx=some (.slice e'))∨P.underlying tx=some .string):=by
 unfold tyApp at h
 split at h<;>try (cases h;done)
 rename_i e hu
 split at h<;>try (cases h;done)
 rename_i i z hi hz
 split at h<;>try (cases h;done)
 rename_i hc
 obtain⟨h1,h2,h3⟩:=hc
 cases h
 obtain⟨i',zv,hi',hzv,hcd⟩:=tyZero_inv hz
 rw[hi]at hi';cases hi'
 exact⟨e,i,zv,z,hu,hi,rfl,rfl,h2,hzv,hcd,h1,isSeq_inv h3⟩
theorem growBy_le(newLen:Nat):∀(r c:Nat),Builtin.growBy newLen r c≤max c (newLen+(newLen+768) / 4)
 |0,c=>by simp only[Builtin.growBy];omega
 |r+1,c=>by
  simp only[Builtin.growBy]
  split
  ·omega
  ·have:=growBy_le newLen r (c+(c+768) / 4)
   omega
theorem nextcap_le{need old:Nat}(h:old<need):Builtin.nextslicecap need old≤2*need+192:=by
 unfold Builtin.nextslicecap
 split
 ·omega
 ·split
  ·omega
  ·have:=growBy_le need 4 old
   omega
theorem nextcap_fit{need old by' :Nat}(h:old<need) (h1:need*by'≤limit):Builtin.nextslicecap need old*by'≤281474976710656:=by
 have h3:=nextcap_le h
 have h4:by'≤limit:=Nat.le_trans (Nat.le_mul_of_pos_left by' (show 0<need by omega)) h1
 have h5:Builtin.nextslicecap need old*by'≤(2*need+192)*by' :=Nat.mul_le_mul_right _ h3
 have h6:(2*need+192)*by' =2*(need*by')+192*by' :=by rw[Nat.add_mul,Nat.mul_assoc]
 unfold limit at h1 h4
 omega
theorem grow_ok(hR:Rel B G σ w) {t tx ty e:TypeId}{i:TypeInfo}{zv:Value}{z:List D}(hu:P.underlying t=some (.slice e)) (hi:P.info? e=some i) (hz:i.zero=some zv) (hcd:cDs zv.cells.toList=some z) (hzl:z.length=i.size)
 {σ' :List AObj}{l ver frz:Nat}{cs new:List D}{olds news:List Value}{base:Option Addr}{n cap m:Nat}{v:Value}(hsrc:Src P i.size tx v m news w) (hnew:Reps G new news) (hold:Reps G cs olds) (hcs:cs.length=n*i.size)
 (hfirst:(Builtin.firstCells i.size n (.slice base n cap)).run P w.drew= .ok olds.toArray w.drew) (hcap:cap<n+m) (hb1:(n+m)*i.bytes≤limit) (hb2:n+m≤limit)
 (hlen:σ.length≤σ'.length) (ho:∀l',l'≠l→σ'[l']? =σ[l']?) (hl:σ'[l]? =some (.cells (cs++new) frz ver)) (hf:G.blk l ver=none) (hvr:ver≤(cs++new).length∧∀u' b,G.blk l u' =some b→u'≤ver) (hfz:frz≤(cs++new).length):
 ∃u w' G',(Builtin.append_ #[t,tx] ty #[.slice base n cap,v]).run P w= .ok u w'∧G.Le G'∧Rel B G' σ' w'∧Rep G' (.sl l ver 0 (n+m) i.size false) u:=by
 have hnl:new.length=m*i.size:=by rw[hnew.length,hsrc.newsLen]
 have hrun:=run_append_grow_src (P:=P) w t tx ty e i zv hu hi hz base n cap olds hfirst v m news hsrc hcap (by unfold limit at hb2;omega) (nextcap_fit hcap hb1)
 have hge:=grownCap_ge w (n+m) cap e
 have hle:=grownCap_le_maxLen w (n+m) cap e (by unfold maxLen;unfold limit at hb2;omega)
 generalize hcp:grownCap w (n+m) cap e=gc at hrun hge hle
 obtain⟨h1,h2⟩:=hR.drew.bindCells (l:=l) (u:=ver) (frz:=frz) (cs:=cs++new) (σ' :=σ') (hd:=olds++news) (tl:=(Builtin.zeroCells zv.cells (gc-(n+m))).toList)
  (c:=(olds++news).toArray++Builtin.zeroCells zv.cells (gc-(n+m))) e hlen ho hl hf hvr hfz (by simp) (hold.append hnew)
 refine⟨_,_,_,hrun,h1,h2,?_⟩
 simp only[Rep]
 have hol:=hold.length
 have hnl' :=hnew.length
 have hzs:zv.cells.size=i.size:=by rw[←hzl,(cDs_rep G hcd).length];simp
 refine .inl ⟨w.heap.size,gc,_,by simp[Gh.bind],rfl,hge,by unfold maxLen at hle;exact hle,by simp,by simp[Gh.bind];rfl,?_⟩
 simp only[Array.size_append,size_zeroCells,hzs,Nat.zero_add,List.size_toArray,List.length_append]
 have e1:olds.length+news.length=(n+m)*i.size:=by rw[Nat.add_mul];omega
 rw[e1,←Nat.add_mul]
 exact Nat.mul_le_mul_right _ (by omega)
theorem setRow_ok(hR:Rel B G σ w) {l u b frz:Nat}{cs new:List D}{news:List Value}(hl:σ[l]? =some (.cells cs frz u)) (hb:G.blk l u=some b) (hn:new≠[]) (hr:Reps G new news) {tot:Nat}(hs:G.siz b=some tot) (hfit:cs.length+new.length≤tot) (hall:new.all D.isCell=true):
 ∃w' G',(storeCells ((⟨b,0,none⟩:Addr).add cs.length) news).run P w= .ok () w'∧G.Le G'∧Rel B G' (σ.set l (.cells (cs++new) frz (cs++new).length)) w'∧G'.blk l (cs++new).length=some b∧G'.siz b=some tot:=by
 obtain⟨vs,et,o1,o2,tl,hd,o3,o4⟩:=hR.obj _ _ b hl hb
 have hl4:=o4.length
 have hrl:=hr.length
 have hsz:vs.size=hd.length+tl.length:=by simpa using congrArg List.length o3
 rw[hs]at o2
 simp only[Option.some.injEq]at o2
 have hbB:=(hR.blk _ _ _ hb).2.1
 have hv:=hR.ver _ _ hl
 have hnpos:0<new.length:=List.length_pos_iff.2 hn
 have hrun:=run_storeCells_at (P:=P) b cs.length et news 0 vs w o1 (by omega) (hr.oneCell hall)
 simp only[Nat.add_zero]at hrun
 generalize hnew:(vs.toList.take cs.length++news++vs.toList.drop (cs.length+news.length)).toArray=nv at hrun
 have hnl:nv.toList=hd++news++tl.drop news.length:=by
  rw[←hnew,o3,hl4]
  simp[List.drop_append]
 have hns:nv.size=vs.size:=by
  have:=congrArg List.length hnl
  simp at this
  omega
 have hfresh:G.blk l (cs++new).length=none:=by
  cases hx:G.blk l (cs++new).length with
  |none=>rfl
  |some b' =>
   have h1:=hv.2 _ _ hx
   have h2:=hv.1
   simp only[AObj.ver,AObj.len,List.length_append]at h1 h2
   omega
 let G' :Gh:={G with blk:=fun l' u' =>if l' =l∧u' =(cs++new).length then some b else G.blk l' u'}
 have hle:G.Le G' :=by
  refine⟨fun _ _ _ x=>x,fun _ _ x=>x,fun l' u' b' hb' => ?_,fun _ _ x=>x⟩
  by_cases e:l' =l∧u' =(cs++new).length
  ·obtain⟨rfl,rfl⟩:=e;rw[hfresh]at hb';cases hb'
  ·simp only[G',e,if_false];exact hb'
 refine⟨w.setRow b nv,G',by rw[addr_add,Nat.zero_add];exact hrun,hle,?_,by simp[G'],hs⟩
 refine hR.update hl hb hle ?_ (by simp[G',AObj.ver]) ?_ rfl rfl (below_setRow hR.below hbB nv) (by simp) (fun k hk=>setRow_other w b k nv hk) ?_ ?_ ?_ ?_ ?_ (by have:=hR.frzle _ _ hl;simp only[AObj.frz,AObj.len,List.length_append]at this⊢;omega)
 ·intro l' u' b' hx
  by_cases e:l' =l∧u' =(cs++new).length
  ·simp only[G',e,and_self,if_true,Option.some.injEq]at hx
   exact .inr ⟨e.1,e.2,hx.symm⟩
  ·simp only[G',e,if_false]at hx;exact .inl hx
 ·intro b' o' x hi
  have hi' :G.imm b' o' =some x:=hi
  refine⟨?_,fun _=>hi'⟩
  by_cases e:b' =b
  ·subst e
   have hcl:=hR.imm _ _ _ hi'
   have hlt:o' <hd.length:=by
    have h1:=hR.own l _ _ _ _ hl hb o' x hi'
    have h2:=hR.frzle _ _ hl
    simp only[AObj.frz,AObj.len]at h2
    omega
   rw[cell_setRow_same w b' o' vs nv et (0,0) o1]
   unfold World.cell? at hcl
   rw[o1]at hcl
   have hcl' :vs[o']? =some x:=hcl
   have e1:nv[o']? =nv.toList[o']? :=by simp
   have e2:vs[o']? =vs.toList[o']? :=by simp
   rw[e2,o3,List.getElem?_append_left hlt]at hcl'
   rw[e1,hnl,List.append_assoc,List.getElem?_append_left hlt]
   exact hcl'
  ·rw[cell_setRow_other w b nv _ e];exact hR.imm _ _ _ hi'
 ·intro k hk
  rw[hs]at hk
  exact⟨nv,et,(0,0),setRow_heap w b vs nv et (0,0) o1,by cases hk;rw[hns];exact o2.symm⟩
 ·cases hm:G.mimm b with
  |none=>rfl
  |some es=>
   obtain⟨hc,_⟩:=hR.mimm _ _ hm
   rw[o1]at hc;cases hc
 ·refine⟨nv,et,setRow_heap w b vs nv et (0,0) o1,by rw[hns,←o2];exact hs,_,_,hnl,?_⟩
  exact(Reps.mono hle _ _ o4).append (Reps.mono hle _ _ hr)
 ·intro cs' frz' u'' e o' x hi
  cases e
  exact hR.own l _ _ _ _ hl hb o' x hi
 ·have:=hv.1
  simp only[AObj.ver,AObj.len,List.length_append]at this⊢
  omega
end
end Go.Fw
namespace Go.Fw
open Go.RowKit
section
variable {P:Program}{B:Base P}{G:Gh}{σ:List AObj}{w:World}
def Gh.bind0(G:Gh) (l b:Nat):Gh:={G with blk:=fun l' u' =>if l' =l∧u' =0 then some b else G.blk l' u'}
theorem Rel.bindOther(h:Rel B G σ w) (o:Obj) (ob:AObj) (hnc:∀cs f u,ob≠.cells cs f u) (hob:∀G',G.Le G'→∀w' :World,w'.heap[w.heap.size]? =some o→ObjAt G' w' w.heap.size ob):
 G.Le (G.bind0 σ.length w.heap.size)∧Rel B (G.bind0 σ.length w.heap.size) (σ++[ob]) (w.alloc o):=by
 have hf:∀u,G.blk σ.length u=none:=fun u=>by
  cases hx:G.blk σ.length u with
  |none=>rfl
  |some b=>exact absurd (h.blk _ _ _ hx).1 (Nat.lt_irrefl _)
 have hver:ob.ver=0:=by cases ob<;>first|rfl|exact absurd rfl (hnc _ _ _)
 have hlen:ob.len=0:=by cases ob<;>first|rfl|exact absurd rfl (hnc _ _ _)
 have hfrz:ob.frz=0:=by cases ob<;>first|rfl|exact absurd rfl (hnc _ _ _)
 have hle:G.Le (G.bind0 σ.length w.heap.size):=by
  refine⟨fun _ _ _ x=>x,fun _ _ x=>x,fun l' u' b hb=> ?_,fun _ _ x=>x⟩
  by_cases e:l' =σ.length∧u' =0
  ·obtain⟨rfl,rfl⟩:=e;rw[hf]at hb;cases hb
  ·simp[Gh.bind0,e,hb]
 have hold:∀k,k<w.heap.size→(w.alloc o).heap[k]? =w.heap[k]? :=fun k hk=>Below.heap_alloc _ _ _ hk
 have hnew:(w.alloc o).heap[w.heap.size]? =some o:=heap_new _ _
 have hget:∀l',l'≠σ.length→(σ++[ob])[l']? =σ[l']? :=fun l' hl' =>by
  rcases Nat.lt_or_ge l' σ.length with h|h
  ·rw[List.getElem?_append_left h]
  ·rw[List.getElem?_append_right h,List.getElem?_eq_none h]
   have:l' -σ.length≠0:=by omega
   cases hk:l' -σ.length with
   |zero=>exact absurd hk this
   |succ k=>simp
 have hself:(σ++[ob])[σ.length]? =some ob:=by simp
 refine⟨hle,?_⟩
 constructor
 ·exact h.below.alloc h.below.size _
 ·intro b o' v hi
  have hcl:=h.imm b o' v hi
  rw[World.cell?_alloc_lt _ _ _ (by simpa using lt_of_cell hcl)];exact hcl
 ·intro b es hm
  obtain⟨hk,hb2⟩:=h.mimm b es hm
  exact⟨(hold _ (lt_of_some hk)).trans hk,hb2⟩
 ·intro b n hs
  obtain⟨vs,et,f,h1,h2⟩:=h.siz b n hs
  exact⟨vs,et,f,(hold _ (lt_of_some h1)).trans h1,h2⟩
 ·intro l' u' b hb
  by_cases e:l' =σ.length∧u' =0
  ·obtain⟨rfl,rfl⟩:=e
   simp[Gh.bind0]at hb
   subst hb
   exact⟨by simp,h.below.size,by simp⟩
  ·simp[Gh.bind0,e]at hb
   obtain⟨h1,h2,h3⟩:=h.blk l' u' b hb
   exact⟨by simp;omega,h2,by simp;omega⟩
 ·intro l1 u1 l2 u2 b h1 h2
  by_cases e1:l1=σ.length∧u1=0
  ·by_cases e2:l2=σ.length∧u2=0
   ·exact e1.1.trans e2.1.symm
   ·simp[Gh.bind0,e1]at h1
    simp[Gh.bind0,e2]at h2
    subst h1
    exact absurd (h.blk _ _ _ h2).2.2 (Nat.lt_irrefl _)
  ·by_cases e2:l2=σ.length∧u2=0
   ·simp[Gh.bind0,e2]at h2
    simp[Gh.bind0,e1]at h1
    subst h2
    exact absurd (h.blk _ _ _ h1).2.2 (Nat.lt_irrefl _)
   ·simp[Gh.bind0,e1]at h1
    simp[Gh.bind0,e2]at h2
    exact h.inj _ _ _ _ _ h1 h2
 ·intro l' ob' b hob' hb
  by_cases e:l' =σ.length
  ·subst e
   rw[hself]at hob'
   cases hob'
   simp[Gh.bind0,hver]at hb
   subst hb
   exact hob _ hle _ hnew
  ·simp[Gh.bind0,e]at hb
   rw[hget l' e]at hob'
   have hk:=h.obj l' ob' b hob' hb
   exact hk.keep hle (hold _ hk.lt)
 ·intro l' cs' frz' u' b hob' hb o' v hi
  by_cases e:l' =σ.length
  ·subst e
   rw[hself]at hob'
   cases hob'
   exact absurd rfl (hnc _ _ _)
  ·rw[hget l' e]at hob'
   have hb' :G.blk l' u' =some b:=by simpa[Gh.bind0,e] using hb
   exact h.own l' cs' frz' u' b hob' hb' o' v hi
 ·intro l' ks vs b hob' hb
  by_cases e:l' =σ.length
  ·subst e
   simp[Gh.bind0]at hb
   subst hb
   exact h.mimm_new
  ·simp[Gh.bind0,e]at hb
   rw[hget l' e]at hob'
   exact h.ownm l' ks vs b hob' hb
 ·intro l' ob' hob'
  by_cases e:l' =σ.length
  ·subst e
   rw[hself]at hob'
   cases hob'
   refine⟨by omega,fun u b hb=> ?_⟩
   by_cases e' :u=0
   ·omega
   ·simp[Gh.bind0,e',hf]at hb
  ·rw[hget l' e]at hob'
   refine⟨(h.ver l' ob' hob').1,fun u b hb=> ?_⟩
   simp[Gh.bind0,e]at hb
   exact(h.ver l' ob' hob').2 u b hb
 ·intro l' ob' hob'
  by_cases e:l' =σ.length
  ·subst e
   rw[hself]at hob'
   cases hob'
   omega
  ·rw[hget l' e]at hob'
   exact h.frzle l' ob' hob'
 ·exact h.bimm
 ·exact h.bmimm
end
end Go.Fw
namespace Go.Fw
open Go.RowKit
section
variable {P:Program}{B:Base P}{G:Gh}{σ:List AObj}{w:World}
theorem append_ok(hR:Rel B G σ w) {t tx ty:TypeId}{sz by' :Nat}(ht:tyApp P t tx=some (sz,by')) {s x d:D}{sv xv:Value}{σ' :List AObj}(h:appD σ sz by' s x=some (d,σ')) (hs:Rep G s sv) (hx:Rep G x xv):
 ∃u w' G',(Builtin.append_ #[t,tx] ty #[sv,xv]).run P w= .ok u w'∧G.Le G'∧Rel B G' σ' w'∧Rep G' d u:=by
 obtain⟨e,i,zv,z,hu,hi,rfl,rfl,hpos,hz,hcd,hzl,hk⟩:=tyApp_inv ht
 unfold appD at h
 split at h<;>try (cases h;done)
 rename_i new m hsrc
 split at h<;>try (cases h;done)
 rename_i hall
 obtain⟨news,hS,hnew⟩:=src_ok (P:=P) hR hsrc hx hall hk
 have nothing:m=0→news=[]:=fun hm=>by
  have:=hS.newsLen
  rw[hm,Nat.zero_mul]at this
  exact List.eq_nil_of_length_eq_zero this
 split at h<;>try (cases h;done)
 ·rename_i cs n full
  split at h<;>try (cases h;done)
  rename_i hcs
  have hs0:=hs
  simp only[Rep]at hs
  obtain⟨a,cap,rfl,h1,h2,h3,h4⟩:=hs
  split at h
  ·rename_i hm
   cases h
   subst hm
   have:=nothing rfl
   subst this
   exact⟨_,w,G,run_append_nothing w t tx ty e i hu hi a n cap h1 xv hS,.refl G,hR,hs0⟩
  ·rename_i hm
   split at h<;>try (cases h;done)
   rename_i hc
   obtain⟨hfull,hb1,hb2⟩:=hc
   cases h
   have hcap:=h3 hfull
   subst hcap
   have hfirst:∃olds,Reps G cs olds∧(Builtin.firstCells i.size cap (.slice a cap cap)).run P w.drew= .ok olds.toArray w.drew:=by
    rcases h4 with⟨b,o,rfl,hc⟩|rfl
    ·obtain⟨vs,hr,hi'⟩:=hc.reps
     have hl:=hr.length
     refine⟨vs,hr,?_⟩
     have:=run_loadCells_list (P:=P) w.drew ⟨b,o,none⟩ vs (fun j u hj=>by rw[addr_add];exact hR.drew.imm _ _ _ (hi' j u hj))
     rw[←hl,hcs]at this
     exact this
    ·refine⟨[],by simp[Reps],?_⟩
     have hz0:cap*i.size=0:=by simpa using hcs.symm
     cases a with
     |none=>simp[Builtin.firstCells]
     |some a=>simp only[Builtin.firstCells,hz0];rfl
   obtain⟨olds,hold,hfirst⟩:=hfirst
   exact grow_ok hR hu hi hz hcd hzl (l:=σ.length) (ver:=0) (frz:=0) hS hnew hold hcs hfirst (by omega) hb1 hb2 (by simp) (fun l' hl' =>by
    rcases Nat.lt_or_ge l' σ.length with h|h
    ·rw[List.getElem?_append_left h]
    ·rw[List.getElem?_append_right h,List.getElem?_eq_none h]
     have:l' -σ.length≠0:=by omega
     cases hk:l' -σ.length with
     |zero=>exact absurd hk this
     |succ k=>simp) (by simp) (by
      cases h:G.blk σ.length 0 with
      |none=>rfl
      |some b=>exact absurd (hR.blk _ _ _ h).1 (Nat.lt_irrefl _)) ⟨Nat.zero_le _,fun u' b h=>absurd (hR.blk _ _ _ h).1 (Nat.lt_irrefl _)⟩ (Nat.zero_le _)
 ·rename_i l u o n sz' full
  split at h<;>try (cases h;done)
  rename_i cs frz u' hl
  split at h<;>try (cases h;done)
  rename_i hc
  obtain⟨rfl,rfl,hlen⟩:=hc
  have hs0:=hs
  simp only[Rep]at hs
  rcases hs with⟨b,cap,tot,hb,rfl,h1,h2,h3,h4,h5⟩|⟨rfl,a,rfl⟩
  ·split at h
   ·rename_i hm
    cases h
    subst hm
    have:=nothing rfl
    subst this
    exact⟨_,w,G,run_append_nothing w t tx ty e i hu hi _ n cap h1 xv hS,.refl G,hR,hs0⟩
   ·rename_i hm
    split at h<;>try (cases h;done)
    rename_i hbd
    obtain⟨hb1,hb2⟩:=hbd
    obtain⟨olds,holdl,hold,hcell⟩:=hR.cells_of hl hb hlen
    have hfirst:(Builtin.firstCells i.size n (.slice (some ⟨b,o,none⟩) n cap)).run P w.drew= .ok olds.toArray w.drew:=by
     have:=run_loadCells_list (P:=P) w.drew ⟨b,o,none⟩ olds (fun j u hj=>by rw[addr_add];exact hcell j u hj)
     rw[holdl]at this
     exact this
    split at h
    ·rename_i hfull
     cases h
     have hcap:=h3 hfull
     subst hcap
     exact grow_ok hR hu hi hz hcd hzl (l:=σ.length) (ver:=0) (frz:=0) hS hnew hold (by rw[hold.length,holdl]) hfirst (by omega) hb1 hb2 (by simp) (fun l' hl' =>by
      rcases Nat.lt_or_ge l' σ.length with h|h
      ·rw[List.getElem?_append_left h]
      ·rw[List.getElem?_append_right h,List.getElem?_eq_none h]
       have:l' -σ.length≠0:=by omega
       cases hk:l' -σ.length with
       |zero=>exact absurd hk this
       |succ k=>simp) (by simp) (by
        cases h:G.blk σ.length 0 with
        |none=>rfl
        |some b=>exact absurd (hR.blk _ _ _ h).1 (Nat.lt_irrefl _)) ⟨Nat.zero_le _,fun u' b h=>absurd (hR.blk _ _ _ h).1 (Nat.lt_irrefl _)⟩ (Nat.zero_le _)
    ·split at h<;>try (cases h;done)
     rename_i hc
     obtain⟨rfl,hn⟩:=hc
     cases h
     have hnewl:=hnew.length
     have hnl:=hS.newsLen
     have hmpos:0<m*i.size:=Nat.mul_pos (by omega) hpos
     have hnne:new≠[]:=by
      intro h0
      rw[h0]at hnewl
      simp at hnewl
      omega
     have hver:=hR.ver _ _ hl
     have hlt:σ.length>l:=by
      rcases Nat.lt_or_ge l σ.length with h' |h'
      ·exact h'
      ·rw[List.getElem?_eq_none h']at hl;cases hl
     by_cases hroom:n+m≤cap
     ·have hle:(n+m)*i.size≤cap*i.size:=Nat.mul_le_mul_right _ hroom
      have hfit:cs.length+new.length≤tot:=by
       rw[Nat.add_mul]at hle
       omega
      obtain⟨w',G',hrun,hle',hR',hb',hs'⟩:=setRow_ok (P:=P) hR hl hb hnne hnew h4 hfit hall
      refine⟨.slice (some ⟨b,0,none⟩) (n+m) cap,w',G',?_,hle',hR',?_⟩
      ·rw[←hn]at hrun
       have hfs:(Builtin.firstCells i.size m xv).run P w= .ok news.toArray w:=hS.cells
       rcases hk with⟨e',hk⟩|hk<;>simp[Builtin.append_,run_underlying hu,run_underlying hk,sizeOf,typeInfo,hi,hS.len,hroom,hfs,hrun]
      ·simp only[Rep]
       refine .inl ⟨b,cap,tot,hb',rfl,hroom,h2,by simp,hs',?_⟩
       simpa using h5
     ·have hold' :Reps G cs olds:=by
       have:(cs.drop 0).take (n*i.size)=cs:=by simp[hn]
       rwa[this]at hold
      have hlenset:∀l',l'≠l→(σ.set l (.cells (cs++new) frz (cs++new).length))[l']? =σ[l']? :=fun l' hl' =>by rw[List.getElem?_set_ne (Ne.symm hl')]
      refine grow_ok hR hu hi hz hcd hzl (l:=l) (ver:=(cs++new).length) (frz:=frz) hS hnew hold' (by omega) hfirst (by omega) hb1 hb2 (by simp) hlenset (by rw[List.getElem?_set_self hlt]) ?_ ?_ ?_
      ·cases hx:G.blk l (cs++new).length with
       |none=>rfl
       |some b' =>
        have h1:=hver.2 _ _ hx
        have h2:=hver.1
        simp only[AObj.ver,AObj.len,List.length_append]at h1 h2
        omega
      ·refine⟨Nat.le_refl _,fun u'' b'' hx=> ?_⟩
       have h1:=hver.2 _ _ hx
       have h2:=hver.1
       simp only[AObj.ver,AObj.len,List.length_append]at h1 h2⊢
       omega
      ·have:=hR.frzle _ _ hl
       simp only[AObj.frz,AObj.len,List.length_append]at this⊢
       omega
  ·have hfirst:(Builtin.firstCells i.size 0 (.slice a 0 0)).run P w.drew= .ok ([]:List Value).toArray w.drew:=by
    cases a with
    |none=>simp[Builtin.firstCells]
    |some a=>simp only[Builtin.firstCells,Nat.zero_mul];rfl
   have hnil:Reps G [] []:=by simp[Reps]
   split at h
   ·rename_i hm
    cases h
    subst hm
    have:=nothing rfl
    subst this
    exact⟨_,w,G,run_append_nothing w t tx ty e i hu hi a 0 0 (Nat.le_refl _) xv hS,.refl G,hR,hs0⟩
   ·rename_i hm
    split at h<;>try (cases h;done)
    rename_i hbd
    obtain⟨hb1,hb2⟩:=hbd
    have hver:=hR.ver _ _ hl
    have hlt:σ.length>l:=by
     rcases Nat.lt_or_ge l σ.length with h' |h'
     ·exact h'
     ·rw[List.getElem?_eq_none h']at hl;cases hl
    split at h
    ·cases h
     have e0:(cs.drop o).take (0*i.size)=[]:=by simp
     rw[e0]
     exact grow_ok hR hu hi hz hcd hzl (l:=σ.length) (ver:=0) (frz:=0) hS hnew hnil (by simp) hfirst (by omega) hb1 hb2 (by simp) (fun l' hl' =>by
      rcases Nat.lt_or_ge l' σ.length with h|h
      ·rw[List.getElem?_append_left h]
      ·rw[List.getElem?_append_right h,List.getElem?_eq_none h]
       have:l' -σ.length≠0:=by omega
       cases hk:l' -σ.length with
       |zero=>exact absurd hk this
       |succ k=>simp) (by simp) (by
        cases h:G.blk σ.length 0 with
        |none=>rfl
        |some b=>exact absurd (hR.blk _ _ _ h).1 (Nat.lt_irrefl _)) ⟨Nat.zero_le _,fun u' b h=>absurd (hR.blk _ _ _ h).1 (Nat.lt_irrefl _)⟩ (Nat.zero_le _)
    ·split at h<;>try (cases h;done)
     rename_i hc
     obtain⟨rfl,hn⟩:=hc
     have hcs0:cs=[]:=by simpa using hn.symm
     subst hcs0
     cases h
     have hnewl:=hnew.length
     have hnl:=hS.newsLen
     have hmpos:0<m*i.size:=Nat.mul_pos (by omega) hpos
     have hnpos:0<new.length:=by omega
     have hlenset:∀l',l'≠l→(σ.set l (.cells ([]++new) frz ([]++new).length))[l']? =σ[l']? :=fun l' hl' =>by rw[List.getElem?_set_ne (Ne.symm hl')]
     refine grow_ok hR hu hi hz hcd hzl (l:=l) (ver:=([]++new).length) (frz:=frz) hS hnew hnil (by simp) hfirst (by omega) hb1 hb2 (by simp) hlenset (by rw[List.getElem?_set_self hlt]) ?_ ?_ ?_
     ·cases hx:G.blk l ([]++new:List D).length with
      |none=>rfl
      |some b' =>
       have h1:=hver.2 _ _ hx
       have h2:=hver.1
       simp only[AObj.ver,AObj.len,List.length_append,List.length_nil]at h1 h2
       omega
     ·refine⟨Nat.le_refl _,fun u'' b'' hx=> ?_⟩
      have h1:=hver.2 _ _ hx
      have h2:=hver.1
      simp only[AObj.ver,AObj.len,List.length_append,List.length_nil]at h1 h2⊢
      omega
     ·have:=hR.frzle _ _ hl
      simp only[AObj.frz,AObj.len,List.length_append,List.length_nil]at this⊢
      omega
def unD:UnOp→D→Option D
 | .not,.bool b=>some (.bool (!b))
 | .neg,.int k n=>some (.int k (k.wrap (0-n)))
 | .xor,.int k n=>some (.int k (bits .xor k (if k.signed then-1 else k.max) n))
 |_,_=>none
theorem un_ok{op:UnOp}{x d:D}{v:Value}(h:unD op x=some d) (hv:Rep G x v):∃u,(Op.unary op v).run P w= .ok u w∧Rep G d u:=by
 cases op<;>cases x<;>simp only[unD]at h<;>try (cases h;done)
 all_goals (simp only[Rep]at hv;subst hv;cases h)
 ·exact⟨_,rfl,by simp[Rep]⟩
 ·refine⟨_,by simp only[Op.unary,intBits_xor];rfl,by simp[Rep]⟩
 ·exact⟨_,rfl,by simp[Rep]⟩
inductive CK where
 |int (k:IntKind)|idStr|toBytes|toStr
 deriving Inhabited
def tyConv(P:Program) (src dst:TypeId):Option CK:=
 match P.underlying src,P.underlying dst with
 |some (.int _),some (.int k)=>some (.int k)
 |some .string,some .string=>some .idStr
 |some .string,some (.slice e)=>match P.underlying e,P.info? e with
  |some (.int .u8),some i=>if i.size=1 then some .toBytes else none
  |_,_=>none
 |some (.slice e),some .string=>match P.underlying e with
  |some (.int .u8)=>some .toStr
  |_=>none
 |_,_=>none
def byteOfD:D→Option UInt8
 | .int .u8 n=>some (UInt8.ofNat n.toNat)
 |_=>none
def bytesOfD:List D→Option (List UInt8)
 |[]=>some []
 |d::ds=>match byteOfD d,bytesOfD ds with
  |some b,some bs=>some (b::bs)
  |_,_=>none
def convD(σ:List AObj):CK→D→Option D
 | .int k,.int _ n=>some (.int k (k.wrap n))
 | .idStr,.str s=>some (.str s)
 | .toBytes,.str s=>if s.length≤limit then some (.list (s.map fun b=> .int .u8 b.toNat) s.length false) else none
 | .toStr,.list cs' n' f=>match srcD σ 1 (.list cs' n' f) with
   |some (cs,_)=>(bytesOfD cs).map .str
   |none=>none
 | .toStr,.sl l u o n' z f=>match srcD σ 1 (.sl l u o n' z f) with
   |some (cs,_)=>(bytesOfD cs).map .str
   |none=>none
 |_,_=>none
theorem bytes_push(s:List UInt8) (b:UInt8):(⟨s.toArray⟩:ByteArray).push b=⟨(s++[b]).toArray⟩:=by
 show(⟨s.toArray.push b⟩:ByteArray)=_
 simp
theorem reps_bytes:∀{cs:List D}{vs:List Value}{bs:List UInt8},Reps G cs vs→bytesOfD cs=some bs→∃ns:List Int,vs=ns.map (fun n=> .int .u8 n)∧bs=ns.map fun n=>UInt8.ofNat n.toNat
 |[],_,_,h,hb=>by
  simp only[Reps]at h
  simp only[bytesOfD,Option.some.injEq]at hb
  subst h hb
  exact⟨[],rfl,rfl⟩
 |d::ds,_,_,h,hb=>by
  simp only[Reps]at h
  obtain⟨v,r,rfl,h1,h2⟩:=h
  simp only[bytesOfD]at hb
  split at hb<;>try (cases hb;done)
  rename_i b bs' hd hbs
  cases hb
  obtain⟨ns,rfl,rfl⟩:=reps_bytes h2 hbs
  cases d<;>simp only[byteOfD]at hd<;>try (cases hd;done)
  rename_i k n
  cases k<;>simp only[Option.some.injEq]at hd<;>try (cases hd;done)
  subst hd
  simp only[Rep]at h1
  subst h1
  exact⟨n::ns,rfl,rfl⟩
theorem conv_ok(hR:Rel B G σ w) {src dst:TypeId}{ck:CK}(ht:tyConv P src dst=some ck) {x d:D}{v:Value}(h:convD σ ck x=some d) (hv:Rep G x v):
 ∃u w' G',(convert src dst v).run P w= .ok u w'∧G.Le G'∧Rel B G' σ w'∧Rep G' d u:=by
 unfold tyConv at ht
 split at ht<;>try (cases ht;done)
 ·rename_i k0 k hs hd
  cases ht
  cases x<;>simp only[convD]at h<;>try (cases h;done)
  cases h
  simp only[Rep]at hv
  subst hv
  rename_i k1 n1
  refine⟨.int k (k.wrap n1),w,G,?_,.refl G,hR,by simp only[Rep]⟩
  unfold convert
  simp[run_underlying hs,run_underlying hd,Conv.intToInt]
 ·rename_i hs hd
  cases ht
  cases x<;>simp only[convD]at h<;>try (cases h;done)
  cases h
  have hv0:=hv
  simp only[Rep]at hv
  subst hv
  refine⟨_,w,G,?_,.refl G,hR,hv0⟩
  unfold convert
  simp[run_underlying hs,run_underlying hd]
 ·rename_i e hs hd
  split at ht<;>try (cases ht;done)
  rename_i i he hi
  split at ht<;>try (cases ht;done)
  rename_i hi1
  cases ht
  cases x<;>simp only[convD]at h<;>try (cases h;done)
  rename_i s
  split at h<;>try (cases h;done)
  rename_i hlim
  cases h
  simp only[Rep]at hv
  subst hv
  let c:=grownCap w s.length 0 e
  have hge:s.length≤c:=grownCap_ge w s.length 0 e
  have hle:c≤maxLen:=grownCap_le_maxLen w s.length 0 e (by unfold maxLen;unfold limit at hlim;omega)
  let cells:Array Value:=((s.toArray.map fun b=>(Value.int .u8 b.toNat))++Array.replicate (c-s.length) (.int .u8 0))
  have hgr:=grow_new hR.drew (s.map fun b=>Value.int .u8 b.toNat) (List.replicate (c-s.length) (.int .u8 0)) e (cells.size,cells.size+1) cells (by simp[cells])
  refine⟨.slice (some ⟨w.heap.size,0,none⟩) s.length c,w.drew.alloc (.cells cells e (cells.size,cells.size+1)),_,?_,hgr.le,hR.drew.grow hgr,?_⟩
  ·unfold convert
   simp only[Sem.run_bind,run_underlying hs,run_underlying hd,run_underlying he,Result.andThen_ok]
   unfold Conv.stringToBytes
   have hq:(Question.appendCap s.length 0 e).forced=false:=rfl
   simp only[bytes_size,Sem.run_bind,run_choose,hq,Bool.false_eq_true,if_false,Result.andThen_ok,newRow,run_newObj,Sem.run_pure]
   unfold markStringish
   have hsh:({w with heap:=w.heap.push (.cells cells e),drawn:=w.drawn+1}:World).shape? w.heap.size=some (e,cells.size):=by
    simp[World.shape?]
   show Result.andThen (Sem.run P (markStringish ⟨w.heap.size,0,none⟩) (w.drew.alloc (.cells cells e))) _=_
   have hsh' :(w.drew.alloc (.cells cells e)).shape? w.heap.size=some (e,cells.size):=by
    have:=heap_new w.drew (.cells cells e)
    unfold World.shape?
    have h2:(w.drew.alloc (.cells cells e)).heap[w.heap.size]? =some (.cells cells e):=this
    rw[h2]
   unfold markStringish
   simp only[Sem.run_bind,run_shape,Result.andThen_ok,hsh',run_freeze]
   congr 1
   unfold World.freeze
   rw[if_neg (by omega)]
   show World.mk _ _ _ _ _=World.mk _ _ _ _ _
   congr 1
   apply Array.ext_getElem?
   intro j
   show((w.heap.push (.cells cells e)).modify w.heap.size _)[j]? =(w.heap.push (.cells cells e (cells.size,cells.size+1)))[j]?
   rw[Array.getElem?_modify,Array.getElem?_push,Array.getElem?_push]
   by_cases hj:j=w.heap.size
   ·subst hj;simp
   ·simp[hj,Ne.symm hj]
  ·simp only[Rep]
   refine⟨_,c,rfl,hge,by unfold maxLen at hle;exact hle,by simp,.inl ⟨_,_,rfl,?_⟩⟩
   refine cells_addImm (b:=w.drew.heap.size) _ (s.map fun b=>D.int .u8 b.toNat) [] _ rfl ?_ hgr.le
   clear hgr hge hle hlim
   induction s with
   |nil=>simp[Reps]
   |cons a s ih=>simp only[List.map_cons,Reps];exact⟨_,_,rfl,by simp[Rep],ih⟩
 ·rename_i e hs hd
  split at ht<;>try (cases ht;done)
  rename_i he
  cases ht
  obtain⟨cs,n,hsrc,bs,hbs,rfl,hsh⟩:∃cs n,srcD σ 1 x=some (cs,n)∧∃bs,bytesOfD cs=some bs∧d= .str bs∧((∃a b c,x= .list a b c)∨∃a b c d e f,x= .sl a b c d e f):=by
   cases x<;>simp only[convD]at h<;>try (cases h;done)
   all_goals
    split at h<;>try (cases h;done)
    rename_i cs n hsrc
    simp only[Option.map_eq_some_iff]at h
    obtain⟨bs,hbs,rfl⟩:=h
   ·exact⟨cs,n,hsrc,bs,hbs,rfl,.inl ⟨_,_,_,rfl⟩⟩
   ·exact⟨cs,n,hsrc,bs,hbs,rfl,.inr ⟨_,_,_,_,_,_,rfl⟩⟩
  have hall:cs.all D.isCell=true:=by
   clear hsrc hsh h
   induction cs generalizing bs with
   |nil=>rfl
   |cons a cs ih=>
    simp only[bytesOfD]at hbs
    split at hbs<;>try (cases hbs;done)
    rename_i b bs' hd' hbs'
    simp only[List.all_cons,ih _ hbs',Bool.and_true]
    cases a<;>simp[byteOfD]at hd' <;>rfl
  have key:∀(a:Option Addr) (len cap:Nat) (vs:List Value),v= .slice a len cap→Reps G cs vs→(a=none→vs=[])→(∀x,a=some x→(loadCells x len).run P w= .ok vs.toArray w)→
   ∃u w' G',(convert src dst v).run P w= .ok u w'∧G.Le G'∧Rel B G' σ w'∧Rep G' (.str bs) u:=by
   intro a len cap vs hveq hr hn hl
   subst hveq
   obtain⟨ns,rfl,rfl⟩:=reps_bytes hr hbs
   refine⟨.string ⟨(ns.map fun n=>UInt8.ofNat n.toNat).toArray⟩,w,G,?_,.refl G,hR,by simp only[Rep]⟩
   unfold convert
   simp only[Sem.run_bind,run_underlying hs,run_underlying hd,Result.andThen_ok]
   cases a with
   |none=>
    have:=hn rfl
    simp only[List.map_eq_nil_iff]at this
    subst this
    simp only[run_underlying he,Result.andThen_ok]
    unfold Conv.bytesToString
    rfl
   |some x=>
    have:=hl x rfl
    simp only[run_underlying he,Result.andThen_ok]
    unfold Conv.bytesToString
    simp only[Sem.run_bind,this,Result.andThen_ok]
    have loop:∀(f:Value→ByteArray→Sem (ForInStep ByteArray)) (_:∀n r,f (.int .u8 n) r=pure (ForInStep.yield (r.push (UInt8.ofNat n.toNat)))) (ns:List Int) (acc:List UInt8),
     (ForIn.forIn (m:=Sem) (ns.map fun n=>Value.int .u8 n).toArray (⟨acc.toArray⟩:ByteArray) f).run P w= .ok ⟨(acc++ns.map fun n=>UInt8.ofNat n.toNat).toArray⟩ w:=by
     intro f hf ns
     induction ns with
     |nil=>intro acc;simp
     |cons n ns ih=>
      intro acc
      have:=ih (acc++[UInt8.ofNat n.toNat])
      simp only[List.map_cons,List.forIn_toArray,List.forIn_cons,Sem.run_bind,hf,Sem.run_pure,Result.andThen_ok,bytes_push]at this⊢
      rw[this]
      simp
    have e0:ByteArray.empty=(⟨([]:List UInt8).toArray⟩:ByteArray):=rfl
    rw[e0,loop _ (fun _ _=>rfl)]
    rfl
  cases x<;>simp only[srcD]at hsrc<;>try (cases hsrc;done)
  ·rcases hsh with⟨_,_,_,h⟩|⟨_,_,_,_,_,_,h⟩<;>cases h
  ·rename_i cs' n' full
   split at hsrc<;>try (cases hsrc;done)
   rename_i hlen
   cases hsrc
   simp only[Rep]at hv
   obtain⟨a,cap,rfl,h1,h2,h3,h4⟩:=hv
   rcases h4 with⟨b,o,rfl,hc⟩|rfl
   ·obtain⟨vs,hr,hi'⟩:=hc.reps
    have hl:=hr.length
    refine key _ _ cap vs rfl hr (by simp) (fun x hx=> ?_)
    cases hx
    have:=run_loadCells_list (P:=P) w ⟨b,o,none⟩ vs (fun j u hj=>by rw[addr_add];exact hR.imm _ _ _ (hi' j u hj))
    rw[←hl,hlen,Nat.mul_one]at this
    exact this
   ·have hn0:n=0:=by simpa using hlen.symm
    subst hn0
    exact key a 0 cap [] rfl (by simp[Reps]) (fun _=>rfl) (fun x hx=>rfl)
  ·rename_i l u o n' sz' full
   split at hsrc<;>try (cases hsrc;done)
   rename_i cs' frz u' hl
   split at hsrc<;>try (cases hsrc;done)
   rename_i hc
   obtain⟨rfl,rfl,hlen⟩:=hc
   cases hsrc
   simp only[Rep]at hv
   rcases hv with⟨b,cap,tot,hb,rfl,h1,h2,h3,h4,h5⟩|⟨rfl,a,rfl⟩
   ·obtain⟨vs,hvl,hr,hcell⟩:=hR.cells_of hl hb hlen
    refine key _ _ cap vs rfl hr (by simp) (fun x hx=> ?_)
    cases hx
    have:=run_loadCells_list (P:=P) w ⟨b,o,none⟩ vs (fun j u hj=>by rw[addr_add];exact hcell j u hj)
    rw[hvl,Nat.mul_one]at this
    exact this
   ·refine key a 0 0 [] rfl ?_ (fun _=>rfl) (fun x hx=>rfl)
    simp[Reps]
end
end Go.Fw
namespace Go.Fw
open Go.RowKit
section
variable {P:Program}{B:Base P}{G:Gh}{σ:List AObj}{w:World}
theorem extract_ok{ds:List D}{i:Nat}{d:D}{v:Value}(h:ds[i]? =some d) (hv:Rep G (.tuple ds) v):∃u,(Instr.extract v i).run P w= .ok u w∧Rep G d u:=by
 simp only[Rep]at hv
 obtain⟨a,rfl,hr⟩:=hv
 obtain⟨u,hu,hrep⟩:=hr.get i h
 refine⟨u,?_,hrep⟩
 unfold Instr.extract
 have:a[i]? =some u:=by simpa using hu
 simp[this]
def tyConcrete(P:Program) (t:TypeId):Bool:=
 match P.underlying t with
 |some (.interface _)=>false
 |some _=>true
 |none=>false
theorem mkIface_ok{t:TypeId}(h:tyConcrete P t=true) (v:Value):(Instr.makeInterface t v).run P w= .ok (.iface t v) w:=by
 unfold tyConcrete at h
 split at h<;>try (cases h;done)
 rename_i d hne hd
 unfold Instr.makeInterface
 simp only[Sem.run_bind,run_underlying hd,Result.andThen_ok]
 rfl
def mmD(mx:Bool):D→List D→Option D
 | .int k a,[]=>some (.int k a)
 | .int k a,.int k' b::r=>if k=k' then mmD mx (.int k (if mx=true then(if b>a then b else a) else(if b<a then b else a))) r else none
 |_,_=>none
def mmL(mx:Bool):List D→Option D
 |[]=>none
 |a::r=>mmD mx a r
theorem max_ok(ts:Array TypeId) (t:TypeId) {ds:List D}{vs:List Value}{d:D}(h:mmL true ds=some d) (hr:Reps G ds vs):∃u,(Builtin.max_ ts t vs.toArray).run P w= .ok u w∧Rep G d u:=by
 have key:∀(r:List D) (rv:List Value) (a:D) (av:Value) (d:D),mmD true a r=some d→Rep G a av→Reps G r rv→∃u,(rv.foldlM Builtin.max2 av).run P w= .ok u w∧Rep G d u:=by
  intro r
  induction r with
  |nil=>
   intro rv a av d h ha hr
   simp only[Reps]at hr
   subst hr
   cases a<;>simp only[mmD]at h<;>try (cases h;done)
   cases h
   exact⟨av,by simp,ha⟩
  |cons x r ih=>
   intro rv a av d h ha hr
   simp only[Reps]at hr
   obtain⟨v,r2,rfl,hv,hr2⟩:=hr
   cases a<;>cases x<;>simp only[mmD]at h<;>try (cases h;done)
   split at h<;>try (cases h;done)
   rename_i hk
   subst hk
   simp only[Rep]at ha hv
   subst ha hv
   obtain⟨u,hu,hrep⟩:=ih r2 _ _ d h (by simp only[Rep];rfl) hr2
   exact⟨u,by simpa[List.foldlM_cons,Builtin.max2] using hu,hrep⟩
 cases ds with
 |nil=>simp[mmL]at h
 |cons a r=>
  simp only[Reps]at hr
  obtain⟨v,r2,rfl,hv,hr2⟩:=hr
  obtain⟨u,hu,hrep⟩:=key r r2 a v d h hv hr2
  exact⟨u,by unfold Builtin.max_;simpa using hu,hrep⟩
theorem min_ok(ts:Array TypeId) (t:TypeId) {ds:List D}{vs:List Value}{d:D}(h:mmL false ds=some d) (hr:Reps G ds vs):∃u,(Builtin.min_ ts t vs.toArray).run P w= .ok u w∧Rep G d u:=by
 have key:∀(r:List D) (rv:List Value) (a:D) (av:Value) (d:D),mmD false a r=some d→Rep G a av→Reps G r rv→∃u,(rv.foldlM Builtin.min2 av).run P w= .ok u w∧Rep G d u:=by
  intro r
  induction r with
  |nil=>
   intro rv a av d h ha hr
   simp only[Reps]at hr
   subst hr
   cases a<;>simp only[mmD]at h<;>try (cases h;done)
   cases h
   exact⟨av,by simp,ha⟩
  |cons x r ih=>
   intro rv a av d h ha hr
   simp only[Reps]at hr
   obtain⟨v,r2,rfl,hv,hr2⟩:=hr
   cases a<;>cases x<;>simp only[mmD]at h<;>try (cases h;done)
   split at h<;>try (cases h;done)
   rename_i hk
   subst hk
   simp only[Rep]at ha hv
   subst ha hv
   obtain⟨u,hu,hrep⟩:=ih r2 _ _ d h (by simp only[Rep];rfl) hr2
   exact⟨u,by simpa[List.foldlM_cons,Builtin.min2] using hu,hrep⟩
 cases ds with
 |nil=>simp[mmL]at h
 |cons a r=>
  simp only[Reps]at hr
  obtain⟨v,r2,rfl,hv,hr2⟩:=hr
  obtain⟨u,hu,hrep⟩:=key r r2 a v d h hv hr2
  exact⟨u,by unfold Builtin.min_;simpa using hu,hrep⟩
theorem makeMap_ok(hR:Rel B G σ w) (t:TypeId):∃u w' G',(Instr.makeMap t none).run P w= .ok u w'∧G.Le G'∧Rel B G' (σ++[.map [] []]) w'∧Rep G' (.map σ.length) u:=by
 obtain⟨h1,h2⟩:=hR.bindOther (.map #[] 0) (.map [] []) (by simp) (fun G' _ w' hw' =>⟨#[],⟨hw',by simp⟩,by simp[Reps],by simp[Reps]⟩)
 refine⟨.map (some w.heap.size),_,_,?_,h1,h2,by simp only[Rep];exact⟨_,by simp[Gh.bind0],rfl⟩⟩
 unfold Instr.makeMap
 simp
def findD(lk:LK) (k:D):List D→Nat→Option (Option Nat)
 |[],_=>some none
 |a::as,i=>match cellEq lk k a with
  |some true=>some (some i)
  |some false=>findD lk k as (i+1)
  |none=>none
def tyMap(P:Program) (t:TypeId):Option (LK×D):=
 match P.underlying t with
 |some (.map k e)=>
  match (match P.underlying k with|some (.int _)=>some LK.i|some .string=>some LK.s|some .bool=>some LK.b|_=>none),(match P.info? e with|some i=>(match i.zero with|some v=>constD v|none=>none)|none=>none) with
  |some lk,some z=>some (lk,z)
  |_,_=>none
 |_=>none
def lkDesc:LK→TypeDesc→Prop
 | .i,.int _=>True
 | .s,.string=>True
 | .b,.bool=>True
 |_,_=>False
theorem tyMap_inv{t:TypeId}{lk:LK}{z:D}(h:tyMap P t=some (lk,z)):∃k e kd i v,P.underlying t=some (.map k e)∧P.underlying k=some kd∧lkDesc lk kd∧P.info? e=some i∧i.zero=some v∧constD v=some z:=by
 unfold tyMap at h
 split at h<;>try (cases h;done)
 rename_i k e hu
 split at h<;>try (cases h;done)
 rename_i lk' z' h1 h2
 cases h
 split at h2<;>try (cases h2;done)
 rename_i i hi
 split at h2<;>try (cases h2;done)
 rename_i v hv
 split at h1<;>try (cases h1;done)
 all_goals
  rename_i hk
  cases h1
  exact⟨k,e,_,i,v,hu,hk,by simp[lkDesc],hi,hv,h2⟩
theorem sameNow_ok{lk:LK}{kd:TypeDesc}(hl:lkDesc lk kd) {a b:D}{x y:Value}{r:Bool}(h:cellEq lk a b=some r) (ha:Rep G a x) (hb:Rep G b y):Instr.sameNow kd x y=some r:=by
 cases lk<;>cases a<;>cases b<;>simp only[cellEq]at h<;>try (cases h;done)
 all_goals
  simp only[Rep]at ha hb
  subst ha hb
  cases kd<;>simp only[lkDesc]at hl
 ·simpa[Instr.sameNow] using h
 ·split at h<;>try (cases h;done)
  rename_i hk
  subst hk
  simpa[Instr.sameNow] using h
 ·simp only[Instr.sameNow,beq_toListBytes,bytes_toList]
  exact h
theorem checkKey_ok{lk:LK}{kd:TypeDesc}{k:TypeId}(hl:lkDesc lk kd) (hk:P.underlying k=some kd) (e:Bool) (n:Nat) (x:Value):(Instr.checkKey e (n+1) k x).run P w= .ok () w:=by
 unfold Instr.checkKey
 simp only[Sem.run_bind,run_underlying hk,Result.andThen_ok]
 cases lk<;>cases kd<;>simp only[lkDesc]at hl<;>rfl
theorem findNow_ok{lk:LK}{kd:TypeDesc}(hl:lkDesc lk kd) {k:D}{kv:Value}(hk:Rep G k kv):∀(ks:List D) (es:List MapEntry) (i:Nat) (r:Option Nat),findD lk k ks i=some r→Reps G ks (es.map (·.key))→
 Instr.findNow kd kv es i=some (r.map fun j=>(j,((es[j-i]?).map (·.val)).getD undef))∧(∀j,r=some j→i≤j∧j-i<es.length)
 |[],es,i,r,h,hr=>by
  simp only[Reps,List.map_eq_nil_iff]at hr
  subst hr
  simp only[findD,Option.some.injEq]at h
  subst h
  exact⟨rfl,by simp⟩
 |a::as,es,i,r,h,hr=>by
  match es,hr with
  |[],hr=>simp only[Reps]at hr;obtain⟨_,_,h,_⟩:=hr;cases h
  |e::es,hr=>
   simp only[List.map_cons,Reps]at hr
   obtain⟨v,rr,he,h1,h2⟩:=hr
   cases he
   simp only[findD]at h
   split at h<;>try (cases h;done)
   ·rename_i hc
    cases h
    simp only[Instr.findNow,sameNow_ok hl hc hk h1,Option.map_some,Nat.sub_self,List.getElem?_cons_zero,Option.getD_some]
    exact⟨trivial,fun j hj=>by cases hj;simp⟩
   ·rename_i hc
    obtain⟨g1,g2⟩:=findNow_ok hl hk as es (i+1) r h h2
    simp only[Instr.findNow,sameNow_ok hl hc hk h1]
    refine⟨?_,fun j hj=> ?_⟩
    ·rw[g1]
     cases r with
     |none=>rfl
     |some j=>
      obtain⟨h3,h4⟩:=g2 j rfl
      simp only[Option.map_some,Option.some.injEq,Prod.mk.injEq,true_and]
      have:j-i=(j-(i+1))+1:=by omega
      rw[this,List.getElem?_cons_succ]
    ·obtain⟨h3,h4⟩:=g2 j hj
     simp only[List.length_cons]
     omega
def lookFin(z:D) (ok:Bool) (r:Option D):D:=match r with
 |some d=>if ok then .tuple [d,.bool true] else d
 |none=>if ok then .tuple [z,.bool false] else z
def lookKV(lk:LK) (z:D) (ok:Bool) (ks vs:List D) (k:D):Option D:=
 match findD lk k ks 0 with
 |some (some i)=>(vs[i]?).map fun d=>lookFin z ok (some d)
 |some none=>some (lookFin z ok none)
 |none=>none
def intKeys:List D→Bool
 |[]=>true
 | .int .i64 n::r=>(r.all fun d=>match d with| .int .i64 m=> !(decide (n=m))|_=>false)&&intKeys r
 |_::_=>false
def PReps(G:Gh) (ps:List (D×D)) (l:List MapEntry):Prop:=Reps G (ps.map (·.1)) (l.map (·.key))∧Reps G (ps.map (·.2)) (l.map (·.val))
theorem preps_perm{l l' :List MapEntry}(h:l.Perm l'):∀{ps:List (D×D)},PReps G ps l→∃ps',ps'.Perm ps∧PReps G ps' l' :=by
 induction h with
 |nil=>exact fun h=>⟨_,.refl _,h⟩
 |cons e _ ih=>
  intro ps h
  cases ps with
  |nil=>obtain⟨h1,_⟩:=h;simp[Reps]at h1
  |cons p ps=>
   obtain⟨h1,h2⟩:=h
   simp only[List.map_cons,Reps]at h1 h2
   obtain⟨v,r,e1,a1,a2⟩:=h1
   obtain⟨v2,r2,e2,b1,b2⟩:=h2
   cases e1;cases e2
   obtain⟨ps',k1,k2⟩:=ih ⟨a2,b2⟩
   exact⟨p::ps',k1.cons p,by simp only[List.map_cons,Reps];exact⟨_,_,rfl,a1,k2.1⟩,by simp only[List.map_cons,Reps];exact⟨_,_,rfl,b1,k2.2⟩⟩
 |swap e e' l=>
  intro ps h
  obtain⟨h1,h2⟩:=h
  match ps,h1,h2 with
  |[],h1,_=>simp[Reps]at h1
  |[_],h1,_=>simp[Reps]at h1
  |p::q::ps,h1,h2=>
   simp only[List.map_cons,Reps]at h1 h2
   obtain⟨v,r,e1,a1,v',r',e1',a1',a2⟩:=h1
   obtain⟨u,s,e2,b1,u',s',e2',b1',b2⟩:=h2
   cases e1;cases e1';cases e2;cases e2'
   refine⟨q::p::ps,.swap _ _ _,?_,?_⟩
   ·simp only[List.map_cons,Reps];exact⟨_,_,rfl,a1',_,_,rfl,a1,a2⟩
   ·simp only[List.map_cons,Reps];exact⟨_,_,rfl,b1',_,_,rfl,b1,b2⟩
 |trans _ _ ih1 ih2=>
  intro ps h
  obtain⟨p1,k1,k2⟩:=ih1 h
  obtain⟨p2,m1,m2⟩:=ih2 k2
  exact⟨p2,m1.trans k1,m2⟩
def isI64:D→Bool
 | .int .i64 _=>true
 |_=>false
def keyN:D→Int
 | .int _ n=>n
 |_=>0
def assocF(k:Int):List (D×D)→Option D
 |[]=>none
 |p::r=>if keyN p.1=k then some p.2 else assocF k r
theorem assocF_perm{k:Int}{ps ps' :List (D×D)}(h:ps.Perm ps') (hd:ps.Pairwise fun a b=>keyN a.1≠keyN b.1):assocF k ps=assocF k ps' :=by
 induction h with
 |nil=>rfl
 |cons p _ ih=>simp only[assocF];rw[ih (List.pairwise_cons.1 hd).2]
 |swap p q l=>
  have h1:=(List.pairwise_cons.1 hd).1 p (List.mem_cons_self ..)
  simp only[assocF]
  by_cases e1:keyN p.1=k<;>by_cases e2:keyN q.1=k
  ·exact absurd (e2.trans e1.symm) h1
  ·simp[e1,e2]
  ·simp[e1,e2]
  ·simp[e1,e2]
 |trans h1 _ ih1 ih2=>
  rw[ih1 hd]
  exact ih2 ((h1.pairwise_iff fun h e=>h e.symm).1 hd)
theorem findD_int{n:Int}:∀(ps:List (D×D)) (i:Nat),(∀p ∈ ps,isI64 p.1=true)→∃o,findD .i (.int .i64 n) (ps.map (·.1)) i=some o∧(∀j,o=some j→i≤j∧((ps.map (·.2))[j-i]? =assocF n ps)∧(assocF n ps).isSome=true)∧(o=none→assocF n ps=none)
 |[],i,_=>⟨none,rfl,fun j h=>(by cases h),fun _=>rfl⟩
 |p::ps,i,h=>by
  obtain⟨a,b⟩:=p
  have ha:=h (a,b) (List.mem_cons_self ..)
  simp only at ha
  cases a<;>try (cases ha;done)
  rename_i k m
  cases k<;>try (cases ha;done)
  obtain⟨o,h1,h2,h3⟩:=findD_int (n:=n) ps (i+1) fun p hp=>h p (List.mem_cons_of_mem _ hp)
  by_cases e:n=m
  ·subst e
   refine⟨some i,by simp[findD,cellEq],fun j hj=> ?_,fun h=>by cases h⟩
   cases hj
   simp[assocF,keyN]
  ·have e' :¬m=n:=fun h=>e h.symm
   have ea:assocF n ((D.int .i64 m,b)::ps)=assocF n ps:=by simp[assocF,keyN,e']
   refine⟨o,by simp only[List.map_cons,findD,cellEq,if_true,beq_eq_false_iff_ne.2 e];exact h1,fun j hj=> ?_,fun h=>by rw[ea];exact h3 h⟩
   obtain⟨k1,k2,k3⟩:=h2 j hj
   refine⟨by omega,?_,by rw[ea];exact k3⟩
   rw[ea,show j-i=(j-(i+1))+1 by omega,List.map_cons,List.getElem?_cons_succ]
   exact k2
theorem lookKV_int{z:D}{ok:Bool}{ps:List (D×D)}{n:Int}(h:∀p ∈ ps,isI64 p.1=true):lookKV .i z ok (ps.map (·.1)) (ps.map (·.2)) (.int .i64 n)=some (lookFin z ok (assocF n ps)):=by
 unfold lookKV
 obtain⟨o,h1,h2,h3⟩:=findD_int (n:=n) ps 0 h
 rw[h1]
 cases o with
 |none=>simp only;rw[h3 rfl]
 |some j=>
  obtain⟨_,k2,k3⟩:=h2 j rfl
  simp only
  rw[Nat.sub_zero]at k2
  rw[k2]
  obtain⟨x,hx⟩:=Option.isSome_iff_exists.1 k3
  rw[hx];rfl
theorem intKeys_ok:∀{ks:List D},intKeys ks=true→(∀k ∈ ks,isI64 k=true)∧ks.Pairwise fun a b=>keyN a≠keyN b
 |[],_=>⟨fun _ h=>by simp at h,.nil⟩
 |k::r,h=>by
  cases k<;>try (cases h;done)
  rename_i kk n
  cases kk<;>try (cases h;done)
  simp only[intKeys,Bool.and_eq_true,List.all_eq_true]at h
  obtain⟨h1,h2⟩:=intKeys_ok h.2
  refine⟨fun k hk=> ?_,List.pairwise_cons.2 ⟨fun d hd=> ?_,h2⟩⟩
  ·rcases List.mem_cons.1 hk with rfl|hk
   ·rfl
   ·exact h1 k hk
  ·have:=h.1 d hd
   split at this
   ·simpa[keyN] using this
   ·cases this
def lookP(lk:LK) (z:D) (ok:Bool) (ks vs:List D) (k:D):Option D:=match intKeys ks with
 |true=>match k with
  | .int .i64 n=>match lk with
    | .i=>lookKV .i z ok ks vs (.int .i64 n)
    |_=>none
  |_=>none
 |false=>none
def lookD(σ:List AObj) (lk:LK) (z:D) (ok:Bool) (m k:D):Option D:=
 match m with
 | .map l=>match σ[l]? with
   |some (.map ks vs)=>lookKV lk z ok ks vs k
   |_=>none
 | .cmap ks vs=>lookKV lk z ok ks vs k
 | .pmap ks vs=>lookP lk z ok ks vs k
 | .nilmap=>if (cellEq lk k k).isSome then some (lookFin z ok none) else none
 |_=>none
theorem look_fin{ok:Bool}{d:D}{v:Value}(b:Bool) (hv:Rep G d v):Rep G (if ok then .tuple [d,.bool b] else d) (if ok then .tuple #[v,.bool b] else v):=by
 cases ok
 ·exact hv
 ·simp only[if_true,Rep,Reps]
  exact⟨_,rfl,v,_,rfl,hv,_,_,rfl,rfl,rfl⟩
theorem lookKV_ok{t:TypeId}{lk:LK}{z:D}(ht:tyMap P t=some (lk,z)) {ok:Bool}{ks vs:List D}{k d:D}{b c:Nat}{es:Array MapEntry}{kv:Value}(h:lookKV lk z ok ks vs k=some d)
 (o1:w.heap[b]? =some (.map es c)) (o2:Reps G ks (es.toList.map (·.key))) (o3:Reps G vs (es.toList.map (·.val))) (hk:Rep G k kv):
 ∃u,(Instr.lookup t (.map (some b)) kv ok).run P w= .ok u w∧Rep G d u:=by
 obtain⟨kt,e,kd,i,zv,hu,hku,hl,hi,hz,hzd⟩:=tyMap_inv ht
 have hzr:Rep G z zv:=constD_rep G hzd
 have hgo:(getObj b).run P w= .ok (.map es c) w:=by simp[getObj,Sem.run,o1]
 unfold lookKV at h
 split at h<;>try (cases h;done)
 ·rename_i j hf
  obtain⟨g1,g2⟩:=findNow_ok hl hk ks es.toList 0 (some j) hf o2
  obtain⟨_,hlt⟩:=g2 j rfl
  simp only[Option.map_eq_some_iff]at h
  obtain⟨d',hd',rfl⟩:=h
  obtain⟨v,hv,hrep⟩:=o3.get j hd'
  have hv' :es[j]?.map (·.val)=some v:=by simpa using hv
  refine⟨_,?_,look_fin (ok:=ok) true hrep⟩
  unfold Instr.lookup Instr.findKey
  simp only[Sem.run_bind,run_underlying hu,Result.andThen_ok,hgo,Sem.run_pure,checkKey_ok hl hku,run_underlying hku,g1,Option.map_some,Nat.sub_zero]
  have:(es.toList[j]?.map (·.val)).getD undef=v:=by
   have h3:es.toList[j]? =es[j]? :=by simp
   rw[h3,hv'];rfl
  rw[this]
 ·rename_i hf
  obtain⟨g1,g2⟩:=findNow_ok hl hk ks es.toList 0 none hf o2
  cases h
  refine⟨_,?_,look_fin (ok:=ok) false hzr⟩
  unfold Instr.lookup Instr.findKey
  simp[run_underlying hu,hgo,checkKey_ok hl hku,run_underlying hku,g1,zeroValue,typeInfo,hi,hz]
theorem lookup_ok(hR:Rel B G σ w) {t:TypeId}{lk:LK}{z:D}(ht:tyMap P t=some (lk,z)) {ok:Bool}{m k d:D}{mv kv:Value}(h:lookD σ lk z ok m k=some d) (hm:Rep G m mv) (hk:Rep G k kv):
 ∃u,(Instr.lookup t mv kv ok).run P w= .ok u w∧Rep G d u:=by
 cases m<;>simp only[lookD]at h<;>try (cases h;done)
 ·rename_i l
  split at h<;>try (cases h;done)
  rename_i ks vs hob
  simp only[Rep]at hm
  obtain⟨b,hb,rfl⟩:=hm
  obtain⟨es,o1,o2,o3⟩:=hR.obj _ _ b hob hb
  exact lookKV_ok ht h o1.1 o2 o3 hk
 ·split at h<;>try (cases h;done)
  obtain⟨kt,e,kd,i,zv,hu,hku,hl,hi,hz,hzd⟩:=tyMap_inv ht
  have hzr:Rep G z zv:=constD_rep G hzd
  cases h
  simp only[Rep]at hm
  subst hm
  refine⟨_,?_,look_fin (ok:=ok) false hzr⟩
  unfold Instr.lookup Instr.findKey
  simp[run_underlying hu,checkKey_ok hl hku,run_underlying hku,Instr.findNow,zeroValue,typeInfo,hi,hz]
 ·simp only[Rep]at hm
  obtain⟨b,es,rfl,hm1,h1,h2⟩:=hm
  obtain⟨hc,_⟩:=hR.mimm _ _ hm1
  exact lookKV_ok ht h hc h1 h2 hk
 ·rename_i ks vs
  simp only[Rep]at hm
  obtain⟨b,es,π,rfl,hm1,hπ,h1,h2⟩:=hm
  obtain⟨hc,_⟩:=hR.mimm _ _ hm1
  unfold lookP at h
  split at h<;>try (cases h;done)
  rename_i hik
  split at h<;>try (cases h;done)
  split at h<;>try (cases h;done)
  obtain⟨hik,hpw⟩:=intKeys_ok hik
  have hlen:ks.length=vs.length:=by rw[h1.length,h2.length];simp
  have e1:(ks.zip vs).map (·.1)=ks:=List.map_fst_zip (by omega)
  have e2:(ks.zip vs).map (·.2)=vs:=List.map_snd_zip (by omega)
  have hpr:PReps G (ks.zip vs) π:=⟨by rw[e1];exact h1,by rw[e2];exact h2⟩
  obtain⟨ps',p1,p2,p3⟩:=preps_perm hπ hpr
  have hz:∀p ∈ ks.zip vs,isI64 p.1=true:=fun p hp=>hik _ (by rw[←e1];exact List.mem_map.2 ⟨p,hp,rfl⟩)
  have hz' :∀p ∈ ps',isI64 p.1=true:=fun p hp=>hz p (p1.subset hp)
  have hpw' :(ks.zip vs).Pairwise fun a b=>keyN a.1≠keyN b.1:=by
   have hpw2:((ks.zip vs).map (·.1)).Pairwise fun a b=>keyN a≠keyN b:=by rw[e1];exact hpw
   rw[List.pairwise_map]at hpw2
   exact hpw2
  have hh:=lookKV_int (z:=z) (ok:=ok) (n:=‹Int›) hz
  rw[e1,e2,h]at hh
  rw[assocF_perm p1.symm hpw',←lookKV_int hz']at hh
  exact lookKV_ok ht hh.symm hc p2 p3 hk
def updD(σ:List AObj) (lk:LK) (m k x:D):Option (List AObj):=
 match m with
 | .map l=>match σ[l]? with
   |some (.map ks vs)=>match findD lk k ks 0 with
    |some (some i)=>some (σ.set l (.map ks (vs.set i x)))
    |some none=>if k.isCell=true then some (σ.set l (.map (ks++[k]) (vs++[x]))) else none
    |none=>none
   |_=>none
 |_=>none
end
end Go.Fw
namespace Go.Fw
open Go.RowKit
section
variable {P:Program}{B:Base P}{G:Gh}{σ:List AObj}{w:World}
theorem findNow_key{lk:LK}{k:D}{kv:Value}(hk:Rep G k kv):∀(ks:List D) (es:List MapEntry) (i j:Nat),findD lk k ks i=some (some j)→Reps G ks (es.map (·.key))→
 ∃e,es[j-i]? =some e∧e.key=kv∧i≤j∧Instr.sameBits 10000 e.key kv=true
 |[],es,i,j,h,hr=>by simp[findD]at h
 |a::as,es,i,j,h,hr=>by
  match es,hr with
  |[],hr=>simp only[List.map_nil,Reps]at hr;obtain⟨_,_,h,_⟩:=hr;cases h
  |e::es,hr=>
   simp only[List.map_cons,Reps]at hr
   obtain⟨v,rr,he,h1,h2⟩:=hr
   cases he
   simp only[findD]at h
   split at h<;>try (cases h;done)
   ·rename_i hc
    simp only[Option.some.injEq]at h
    subst h
    refine⟨e,by simp,?_⟩
    cases lk<;>cases k<;>cases a<;>simp only[cellEq]at hc<;>try (cases hc;done)
    all_goals simp only[Rep]at hk h1
    ·subst hk
     rw[h1]
     simp only[Option.some.injEq,beq_iff_eq]at hc
     subst hc
     exact⟨rfl,Nat.le_refl _,by simp[Instr.sameBits]⟩
    ·subst hk
     rw[h1]
     split at hc<;>try (cases hc;done)
     rename_i hkk
     subst hkk
     simp only[Option.some.injEq,beq_iff_eq]at hc
     subst hc
     exact⟨rfl,Nat.le_refl _,by simp[Instr.sameBits]⟩
    ·subst hk
     rw[h1]
     simp only[Option.some.injEq,beq_iff_eq]at hc
     subst hc
     exact⟨rfl,Nat.le_refl _,by simp only[Instr.sameBits,beq_toListBytes,beq_self_eq_true]⟩
   ·obtain⟨e',g1,g2,g3,g4⟩:=findNow_key hk as es (i+1) j h h2
    refine⟨e',?_,g2,by omega,g4⟩
    have:j-i=(j-(i+1))+1:=by omega
    rw[this,List.getElem?_cons_succ];exact g1
theorem Reps.set{G:Gh}:∀{ds:List D}{vs:List Value}(i:Nat) {d:D}{v:Value},Reps G ds vs→Rep G d v→Reps G (ds.set i d) (vs.set i v)
 |[],_,_,_,_,h,_=>by simp only[Reps]at h;subst h;simp[Reps]
 |_::_,_,0,_,_,h,hd=>by
  simp only[Reps]at h
  obtain⟨_,r,rfl,_,h2⟩:=h
  simp only[List.set_cons_zero,Reps]
  exact⟨_,r,rfl,hd,h2⟩
 |_::_,_,i+1,_,_,h,hd=>by
  simp only[Reps]at h
  obtain⟨v,r,rfl,h1,h2⟩:=h
  simp only[List.set_cons_succ,Reps]
  exact⟨v,_,rfl,h1,Reps.set i h2 hd⟩
theorem setObj_rel(hR:Rel B G σ w) {l b:Nat}{ob ob' :AObj}(hl:σ[l]? =some ob) (hb:G.blk l 0=some b) {o o' :Obj}(ho:w.heap[b]? =some o) (hver:ob.ver=0) (hver' :ob'.ver=0) (hlen' :ob'.len=0) (hfrz' :ob'.frz=0)
 (hno:∀cs t f,o≠.cells cs t f) (hnc:∀cs f u,ob'≠.cells cs f u) (hmb:G.mimm b=none) (hobj:∀w' :World,w'.heap[b]? =some o'→ObjAt G w' b ob'):
 Rel B G (σ.set l ob') {w with heap:=w.heap.setIfInBounds b o'}:=by
 have hlt:=lt_of_some ho
 have hoth:∀k,k≠b→(w.heap.setIfInBounds b o')[k]? =w.heap[k]? :=fun k hk=>Array.getElem?_setIfInBounds_ne (Ne.symm hk)
 have hsame:(w.heap.setIfInBounds b o')[b]? =some o' :=by simp[hlt]
 have hbB:=(hR.blk _ _ _ hb).2.1
 refine hR.update hl (by rw[hver];exact hb) (.refl G) (fun _ _ _ x=> .inl x) (by rw[hver'];exact hb) ?_ rfl rfl ?_ (by simp) hoth ?_ hmb (hobj _ hsame) (fun cs frz u e=>absurd e (hnc _ _ _)) (by omega) (by omega)
 ·intro b' off v hi
  refine⟨?_,fun _=>hi⟩
  have hcl:=hR.imm _ _ _ hi
  have hne:b'≠b:=by
   rintro rfl
   unfold World.cell? at hcl
   rw[ho]at hcl
   cases o<;>first|exact absurd rfl (hno _ _ _)|simp at hcl
  unfold World.cell? at hcl⊢
  have:({w with heap:=w.heap.setIfInBounds b o'}:World).heap[b']? =w.heap[b']? :=hoth b' hne
  simp only[this];exact hcl
 ·exact hR.below.trans ⟨rfl,rfl,rfl,by simp,fun k hk=>hoth k (by omega)⟩
 ·intro n hn
  obtain⟨vs,et,f,h1,_⟩:=hR.siz _ _ hn
  rw[ho]at h1
  cases h1
  exact absurd rfl (hno _ _ _)
theorem upd_ok(hR:Rel B G σ w) {t:TypeId}{lk:LK}{z:D}(ht:tyMap P t=some (lk,z)) {m k x:D}{mv kv xv:Value}{σ' :List AObj}(h:updD σ lk m k x=some σ') (hm:Rep G m mv) (hk:Rep G k kv) (hx:Rep G x xv):
 ∃w',(Instr.mapUpdate t mv kv xv).run P w= .ok () w'∧Rel B G σ' w' :=by
 obtain⟨kt,e,kd,i,zv,hu,hku,hl,hi,hz,hzd⟩:=tyMap_inv ht
 cases m<;>simp only[updD]at h<;>try (cases h;done)
 rename_i l
 split at h<;>try (cases h;done)
 rename_i ks vs hob
 simp only[Rep]at hm
 obtain⟨b,hb,rfl⟩:=hm
 obtain⟨es,⟨o1,ob1⟩,o2,o3⟩:=hR.obj _ _ b hob hb
 generalize hc:es.size=c at o1
 have hgo:(getObj b).run P w= .ok (.map es c) w:=by simp[getObj,Sem.run,o1]
 have hso:∀o',(setObj b o').run P w= .ok () {w with heap:=w.heap.setIfInBounds b o'}:=fun o' =>by simp[setObj,Sem.run,o1]
 have hmb:G.mimm b=none:=hR.ownm _ _ _ _ hob hb
 split at h<;>try (cases h;done)
 ·rename_i j hf
  cases h
  obtain⟨g1,g2⟩:=findNow_ok hl hk ks es.toList 0 (some j) hf o2
  obtain⟨en,e1,e2,_,e4⟩:=findNow_key hk ks es.toList 0 j hf o2
  simp only[Nat.sub_zero]at e1
  have e1' :es[j]? =some en:=by simpa using e1
  have hstay:(Instr.keyThatStays (((es[j]?).map (·.key)).getD kv) kv).run P w= .ok kv w:=by
   rw[e1']
   simp only[Option.map_some,Option.getD_some]
   unfold Instr.keyThatStays
   rw[e4];rfl
  refine⟨_,?_,setObj_rel hR hob hb o1 rfl rfl rfl rfl (by simp) (by simp) hmb (o' := .map (es.modify j fun e=>{e with key:=kv,val:=xv}) c) ?_⟩
  ·unfold Instr.mapUpdate Instr.findKey
   simp only[Sem.run_bind,run_underlying hu,Result.andThen_ok,hgo,checkKey_ok hl hku,run_underlying hku,g1,Option.map_some,Sem.run_pure,hstay,hso]
  ·intro w' hw'
   refine⟨es.modify j fun e=>{e with key:=kv,val:=xv},⟨by rw[hw'];simp[hc],fun q eq hq=> ?_⟩,?_,?_⟩
   ·rw[Array.getElem?_modify]at hq
    by_cases e:j=q
    ·subst e
     simp only[if_true,e1',Option.map_some,Option.some.injEq]at hq
     rw[←hq];exact ob1 j en e1'
    ·simp only[e,if_false]at hq;exact ob1 q eq hq
   ·have:(es.modify j fun e=>{e with key:=kv,val:=xv}).toList.map (·.key)=es.toList.map (·.key):=by
     apply List.ext_getElem?
     intro q
     simp only[List.getElem?_map,Array.getElem?_toList,Array.getElem?_modify]
     by_cases hq:j=q
     ·subst hq
      simp[e1',e2]
     ·simp[hq]
    rw[this];exact o2
   ·have:(es.modify j fun e=>{e with key:=kv,val:=xv}).toList.map (·.val)=(es.toList.map (·.val)).set j xv:=by
     apply List.ext_getElem?
     intro q
     simp only[List.getElem?_map,Array.getElem?_toList,Array.getElem?_modify]
     by_cases hq:j=q
     ·subst hq
      have hjl:j<es.size:=by
       rcases Nat.lt_or_ge j es.size with h' |h'
       ·exact h'
       ·rw[Array.getElem?_eq_none h']at e1';cases e1'
      rw[List.getElem?_set_self (by simpa using hjl)]
      simp[e1']
     ·rw[List.getElem?_set_ne hq]
      simp[hq]
    rw[this];exact o3.set j hx
 ·rename_i hf
  split at h<;>try (cases h;done)
  cases h
  obtain⟨g1,g2⟩:=findNow_ok hl hk ks es.toList 0 none hf o2
  refine⟨_,?_,setObj_rel hR hob hb o1 rfl rfl rfl rfl (by simp) (by simp) hmb (o' := .map (es.push {key:=kv,val:=xv,born:=c}) (c+1)) ?_⟩
  ·unfold Instr.mapUpdate Instr.findKey
   simp only[Sem.run_bind,run_underlying hu,Result.andThen_ok,hgo,checkKey_ok hl hku,run_underlying hku,g1,Option.map_none,Sem.run_pure,hso]
  ·intro w' hw'
   refine⟨es.push {key:=kv,val:=xv,born:=c},⟨by rw[hw'];simp[hc],fun q eq hq=> ?_⟩,?_,?_⟩
   ·rw[Array.getElem?_push]at hq
    split at hq
    ·rename_i e;cases hq;rw[←hc];exact e.symm
    ·exact ob1 q eq hq
   ·simp only[Array.toList_push,List.map_append,List.map_cons,List.map_nil]
    exact o2.append (by simp only[Reps];exact⟨kv,[],rfl,hk,rfl⟩)
   ·simp only[Array.toList_push,List.map_append,List.map_cons,List.map_nil]
    exact o3.append (by simp only[Reps];exact⟨xv,[],rfl,hx,rfl⟩)
def mkSlD(bs? :Option (List D×Nat)) (mk? :Option (Nat×Nat)) (σ:List AObj) (l c:D):Option (D×List AObj):=
 match bs?,mk?,idxInt l,idxInt c with
 |some (z,sz),some (_,by'),some n,some m=>
  if 0≤n∧n≤m∧m≤limit∧m.toNat*by'≤limit then some (.sl σ.length 0 0 n.toNat sz (decide (n=m)),σ++[.cells (repZ z n.toNat) 0 0]) else none
 |_,_,_,_=>none
theorem repZ_add(z:List D):∀a b,repZ z (a+b)=repZ z a++repZ z b
 |0,b=>by simp[repZ]
 |a+1,b=>by rw[show a+1+b=(a+b)+1 from by omega,repZ,repZ,repZ_add z a b,List.append_assoc]
theorem Reps.split{G:Gh}:∀{ds es:List D}{vs:List Value},Reps G (ds++es) vs→∃a b,vs=a++b∧Reps G ds a∧Reps G es b
 |[],_,vs,h=>⟨[],vs,rfl,by simp[Reps],h⟩
 |d::ds,es,vs,h=>by
  simp only[List.cons_append,Reps]at h
  obtain⟨v,r,rfl,h1,h2⟩:=h
  obtain⟨a,b,rfl,h3,h4⟩:=Reps.split h2
  exact⟨v::a,b,rfl,by simp only[Reps];exact⟨v,a,rfl,h1,h3⟩,h4⟩
theorem makeSlice_ok(hR:Rel B G σ w) {t:TypeId}{l c d:D}{σ' :List AObj}{lv cv:Value}{bs? :Option (List D×Nat)}{mk? :Option (Nat×Nat)}(hbs? :∀x,bs? =some x→tyBS P t=some x) (hmk? :∀x,mk? =some x→tySl P t=some x) (h:mkSlD bs? mk? σ l c=some (d,σ')) (hl:Rep G l lv) (hc:Rep G c cv):
 ∃u w' G',(Instr.makeSlice t lv cv).run P w= .ok u w'∧G.Le G'∧Rel B G' σ' w'∧Rep G' d u:=by
 unfold mkSlD at h
 split at h<;>try (cases h;done)
 rename_i z sz by1 by' n m hn hm
 have hbs:=hbs? _ rfl
 have hsl:=hmk? _ rfl
 split at h<;>try (cases h;done)
 rename_i hcd
 obtain⟨h0,h1,h2,h3⟩:=hcd
 cases h
 obtain⟨k1,rfl⟩:=idxInt_ok hn hl
 obtain⟨k2,rfl⟩:=idxInt_ok hm hc
 obtain⟨e,i,hu,hi,_,hby⟩:=tySl_inv hsl
 unfold tyBS at hbs
 rw[hu]at hbs
 simp only at hbs
 split at hbs<;>try (cases hbs;done)
 rename_i z' i' hz hi'
 rw[hi]at hi'
 cases hi'
 split at hbs<;>try (cases hbs;done)
 rename_i hzc
 obtain⟨hzl,hpos⟩:=hzc
 cases hbs
 obtain⟨i'',v,hi'',hv,hcdv⟩:=tyZero_inv hz
 rw[hi]at hi''
 cases hi''
 have hzr:=cDs_rep G hcdv
 have hcs:=zeros_ok hzr m.toNat
 rw[hzl]at hcs
 have hsplit:repZ z m.toNat=repZ z n.toNat++repZ z (m.toNat-n.toNat):=by
  rw[←repZ_add];congr 1;omega
 rw[hsplit]at hcs
 obtain⟨hd,tl,hvs,hrd,_⟩:=hcs.split
 obtain⟨G',g1,g2,g3,g4⟩:=newObj_ok hR hrd tl e ((Array.range (m.toNat*i.size)).map (v.cells[· % v.cells.size]!)) hvs
 have hw1:IntKind.i64.wrap n=n:=IntWalk.i64_in n (by unfold limit at h2;omega)
 have hw2:IntKind.i64.wrap m=m:=IntWalk.i64_in m (by unfold limit at h2;omega)
 refine⟨.slice (some ⟨w.heap.size,0,none⟩) n.toNat m.toNat,_,G',?_,g1,g2,?_⟩
 ·unfold Instr.makeSlice
  have hmm:(m.toNat:Int)=m:=Int.toNat_of_nonneg (by omega)
  have hb1:¬((i.bytes:Int)*m>2 ^ 48):=by
   have:((m.toNat*i.bytes:Nat):Int)≤(limit:Int):=by
    rw[←hby]at h3
    exact Int.ofNat_le.2 h3
   rw[Int.natCast_mul,hmm,Int.mul_comm]at this
   unfold limit at this
   omega
  simp only[run_underlying hu,Sem.run_bind,asInt,asIntOf,Sem.run_pure,Result.andThen_ok,typeInfo,run_program,hi,hw1,hw2]
  have c1:((decide (m<0)||decide ((i.bytes:Int)*m>2 ^ 48))||decide (n<0)||decide (n>m))=false:=by
   simp only[Bool.or_eq_false_iff,decide_eq_false_iff_not]
   refine⟨⟨⟨by omega,hb1⟩,by omega⟩,by omega⟩
  rw[if_neg (by rw[c1];simp)]
  simp only[run_askRoom,Result.andThen_ok,sizeOf,typeInfo,Sem.run_bind,run_program,hi,Sem.run_pure]
  by_cases hz0:m.toNat*i.size=0
  ·have hm0:m.toNat=0:=by
    rcases Nat.mul_eq_zero.1 hz0 with h|h<;>omega
   have e0:∀f:Nat→Value,Array.map f (Array.range 0)= #[]:=by intro f;simp
   simp only[hz0,if_true,Sem.run_pure,Result.andThen_ok,e0,newRow,Sem.run_bind,run_newObj]
   rfl
  ·simp only[hz0,if_false,Sem.run_bind,zeroValue,typeInfo,run_program,Result.andThen_ok,hi,Sem.run_pure,hv,newRow,run_newObj]
   rfl
 ·simp only[Rep]
  refine .inl ⟨w.heap.size,m.toNat,_,g3,rfl,by omega,by unfold limit at h2;omega,?_,g4,?_⟩
  ·intro hf
   simp only[decide_eq_true_eq]at hf
   omega
  ·simp
theorem rangeStr_ok(hR:Rel B G σ w) {t:TypeId}(ht:P.underlying t=some .string) (s:List UInt8):
 ∃u w' G',(Instr.range t (.string ⟨s.toArray⟩)).run P w= .ok u w'∧G.Le G'∧Rel B G' (σ++[.siter s 0]) w'∧Rep G' (.ptr σ.length 0 0) u:=by
 obtain⟨h1,h2⟩:=hR.bindOther (.stringIter ⟨s.toArray⟩ 0) (.siter s 0) (by simp) (fun G' _ w' hw' =>hw')
 refine⟨.pointer (some ⟨w.heap.size,0,none⟩),_,_,?_,h1,h2,by simp only[Rep];exact⟨_,by simp[Gh.bind0],rfl⟩⟩
 unfold Instr.range
 simp[run_underlying ht]
def nextStrD(σ:List AObj) (it:D):Option (D×List AObj):=
 match it with
 | .ptr l 0 0=>match σ[l]? with
   |some (.siter s pos)=>
    if pos<s.length then
     some (.tuple [.bool true,.int .i64 pos,.int .i32 (Utf8.decode ⟨s.toArray⟩ pos).1],σ.set l (.siter s (pos+(Utf8.decode ⟨s.toArray⟩ pos).2)))
    else some (.tuple [.bool false],σ)
   |_=>none
 |_=>none
theorem nextStr_ok(hR:Rel B G σ w) {it d:D}{σ' :List AObj}{v:Value}(ty:TypeId) (h:nextStrD σ it=some (d,σ')) (hv:Rep G it v):
 ∃u w',(Instr.next v true ty).run P w= .ok u w'∧Rel B G σ' w'∧Rep G d u:=by
 unfold nextStrD at h
 split at h<;>try (cases h;done)
 rename_i l
 split at h<;>try (cases h;done)
 rename_i s pos hob
 simp only[Rep]at hv
 obtain⟨b,hb,rfl⟩:=hv
 have o1:w.heap[b]? =some (.stringIter ⟨s.toArray⟩ pos):=hR.obj _ _ b hob hb
 have hgo:(getObj b).run P w= .ok (.stringIter ⟨s.toArray⟩ pos) w:=by simp[getObj,Sem.run,o1]
 have hmb:G.mimm b=none:=by
  cases hm:G.mimm b with
  |none=>rfl
  |some es=>
   obtain⟨hc,_⟩:=hR.mimm _ _ hm
   rw[o1]at hc;cases hc
 split at h
 ·rename_i hlt
  cases h
  refine⟨.tuple #[.bool true,goInt pos,.int .i32 (Utf8.decode ⟨s.toArray⟩ pos).1],_,?_,setObj_rel hR hob hb o1 rfl rfl rfl rfl (by simp) (by simp) hmb (o' := .stringIter ⟨s.toArray⟩ (pos+(Utf8.decode ⟨s.toArray⟩ pos).2)) (fun w' hw' =>hw'),?_⟩
  ·unfold Instr.next
   simp only[Sem.run_bind,hgo,Result.andThen_ok,bytes_size,hlt,if_true]
   have:(setObj b (.stringIter ⟨s.toArray⟩ (pos+(Utf8.decode ⟨s.toArray⟩ pos).2))).run P w= .ok () {w with heap:=w.heap.setIfInBounds b (.stringIter ⟨s.toArray⟩ (pos+(Utf8.decode ⟨s.toArray⟩ pos).2))}:=by simp[setObj,Sem.run,o1]
   simp only[this,Result.andThen_ok,Sem.run_pure]
  ·simp only[Rep,Reps]
   exact⟨_,rfl,_,_,rfl,rfl,_,_,rfl,rfl,_,_,rfl,rfl,rfl⟩
 ·rename_i hlt
  cases h
  refine⟨.tuple #[.bool false],w,?_,hR,by simp only[Rep,Reps];exact⟨_,rfl,_,_,rfl,rfl,rfl⟩⟩
  unfold Instr.next
  simp only[Sem.run_bind,hgo,Result.andThen_ok,bytes_size,hlt,if_false,Sem.run_pure]
end
end Go.Fw
namespace Go.Fw
open Go.RowKit
section
variable {P:Program}{B:Base P}{G:Gh}{σ σ' :List AObj}{w:World}
theorem rangeMap_ok(hR:Rel B G σ w) {t k e:TypeId}(ht:P.underlying t=some (.map k e)) {ks vs:List D}{v:Value}(hv:Rep G (.cmap ks vs) v):
 ∃u w' G',(Instr.range t v).run P w= .ok u w'∧G.Le G'∧Rel B G' (σ++[.miter ks vs (List.range ks.length) none]) w'∧Rep G' (.ptr σ.length 0 0) u:=by
 simp only[Rep]at hv
 obtain⟨b,es,rfl,hm,h1,h2⟩:=hv
 obtain⟨hb,_⟩:=hR.mimm _ _ hm
 have hlen:ks.length=es.size:=by have:=h1.length;simpa using this
 obtain⟨g1,g2⟩:=hR.bindOther (.mapIter (some b) es.size #[] es.size) (.miter ks vs (List.range ks.length) none) (by simp)
  (fun G' hle w' hw' =>⟨b,es,#[],hw',hle.mimm _ _ hm,Reps.mono hle _ _ h1,Reps.mono hle _ _ h2,by simp[hlen],by simp⟩)
 refine⟨.pointer (some ⟨w.heap.size,0,none⟩),_,_,?_,g1,g2,by simp only[Rep];exact⟨_,by simp[Gh.bind0],rfl⟩⟩
 have hgo:(getObj b).run P w= .ok (.map es es.size) w:=by simp[getObj,Sem.run,hb]
 unfold Instr.range
 simp[run_underlying ht,hgo]
theorem choose_lt(n:Nat) (hn:0<n):∃k w',(choose (.mapNext n)).run P w= .ok k w'∧k<n∧(w' =w∨w' =w.drew):=by
 have h:(choose (.mapNext n)).run P w=if (Question.mapNext n).forced then .ok 0 w else .ok ((Question.mapNext n).cut (w.tape w.drawn (.mapNext n))) {w with drawn:=w.drawn+1}:=rfl
 by_cases hf:(Question.mapNext n).forced=true
 ·exact⟨0,w,by rw[h,if_pos hf],hn,.inl rfl⟩
 ·exact⟨(w.tape w.drawn (.mapNext n)) % n,w.drew,by rw[h,if_neg hf];rfl,Nat.mod_lt _ hn,.inr rfl⟩
theorem nextMap_ok(hR:Rel B G σ w) {l:Nat}{ks vs:List D}{rem:List Nat}{cur:Option Nat}{v:Value}(ty:TypeId) (hl:σ[l]? =some (.miter ks vs rem cur)) (hv:Rep G (.ptr l 0 0) v):
 ∃u w',(Instr.next v false ty).run P w= .ok u w'∧
  ((rem=[]∧Rel B G σ w'∧Rep G (.tuple [.bool false]) u)∨
   (∃i a b,i ∈ rem∧ks[i]? =some a∧vs[i]? =some b∧Rel B G (σ.set l (.miter ks vs (rem.filter (· !=i)) (some i))) w'∧Rep G (.tuple [.bool true,a,b]) u)):=by
 simp only[Rep]at hv
 obtain⟨b,hb,rfl⟩:=hv
 obtain⟨m,es,seen,o1,o2,o3,o4,o5,o6⟩:=hR.obj _ _ b hl hb
 obtain⟨hm,hborn⟩:=hR.mimm _ _ o2
 have hgo:(getObj b).run P w= .ok (.mapIter (some m) es.size seen es.size) w:=by simp[getObj,Sem.run,o1]
 have hgm:(getObj m).run P w= .ok (.map es es.size) w:=by simp[getObj,Sem.run,hm]
 have hguard:(!seen.isEmpty&& !es.isEmpty&&es.all (·.born≥es.size))=false:=by
  by_cases he:es.isEmpty=true
  ·simp[he]
  ·have hpos:0<es.size:=by
    rcases Nat.eq_zero_or_pos es.size with h|h
    ·exact absurd (by simp[Array.isEmpty,h]) he
    ·exact h
   have:es.all (·.born≥es.size)=false:=by
    rw[Array.all_eq_false]
    refine⟨0,hpos,?_⟩
    have:=hborn 0 es[0] (Array.getElem?_eq_getElem hpos)
    rw[decide_eq_true_eq,this];omega
   simp[this]
 have hold:∀(l:Array MapEntry),(∀e ∈ l,e ∈ es)→l.filter (·.born<es.size)=l∧l.filter (·.born≥es.size)= #[]:=by
  intro l hle
  have hlt:∀e ∈ l,e.born<es.size:=by
   intro e he
   obtain⟨i,hi,rfl⟩:=Array.getElem_of_mem (hle e he)
   rw[hborn i _ (Array.getElem?_eq_getElem hi)];exact hi
  constructor
  ·rw[Array.filter_eq_self];intro e he;simpa using hlt e he
  ·rw[Array.filter_eq_empty_iff];intro e he;simpa using hlt e he
 generalize hleft:(es.filter fun e=> !seen.contains e.born)=left
 have hsub:∀e ∈ left,e ∈ es∧seen.contains e.born=false:=by
  intro e he
  rw[←hleft,Array.mem_filter]at he
  exact⟨he.1,by simpa using he.2⟩
 obtain⟨hl1,hl2⟩:=hold left fun e he=>(hsub e he).1
 have hcand:0<((if left.isEmpty then #[none] else #[])++(left++ #[]).map some:Array (Option MapEntry)).size:=by
  by_cases he:left.isEmpty=true
  ·simp[he];omega
  ·have:0<left.size:=by
    rcases Nat.eq_zero_or_pos left.size with h|h
    ·exact absurd (by simp[Array.isEmpty,h]) he
    ·exact h
   simp[he];exact this
 obtain⟨k,w1,hk,hklt,hw1⟩:=choose_lt (P:=P) (w:=w) _ hcand
 have hR1:Rel B G σ w1:=by rcases hw1 with rfl|rfl;exact hR;exact hR.drew
 have hheap:w1.heap=w.heap:=by rcases hw1 with rfl|rfl<;>rfl
 have o1' :w1.heap[b]? =some (.mapIter (some m) es.size seen es.size):=by rw[hheap];exact o1
 have hmb:G.mimm b=none:=by
  cases hx:G.mimm b with
  |none=>rfl
  |some es' =>
   obtain⟨hc,_⟩:=hR.mimm _ _ hx
   rw[o1]at hc;cases hc
 obtain⟨c,hc⟩:∃c,((if left.isEmpty then #[none] else #[])++(left++ #[]).map some:Array (Option MapEntry))[k]? =some c:=⟨_,Array.getElem?_eq_getElem hklt⟩
 cases c with
 |none=>
  refine⟨.tuple #[.bool false],w1,?_,.inl ⟨?_,hR1,by simp only[Rep,Reps];exact⟨_,rfl,_,_,rfl,rfl,rfl⟩⟩⟩
  ·unfold Instr.next
   simp only[Sem.run_bind,hgo,Result.andThen_ok,hgm,hguard,Bool.false_eq_true,if_false,hleft,hl1,hl2,hk,hc,Sem.run_pure]
  ·have hemp:left= #[]:=by
    by_cases he:left.isEmpty=true
    ·simpa using he
    ·rw[if_neg he]at hc
     simp at hc
   rw[List.eq_nil_iff_forall_not_mem]
   intro i hi
   obtain⟨h1,h2⟩:=(o5 i).1 hi
   have:es[i] ∈ left:=by
    rw[←hleft,Array.mem_filter]
    exact⟨Array.getElem_mem _,by rw[hborn i _ (Array.getElem?_eq_getElem h1)];simpa using h2⟩
   rw[hemp]at this;simp at this
 |some e=>
  have hel:e ∈ left:=by
   have:=Array.mem_of_getElem? hc
   simp only[Array.mem_append,Array.mem_map,Option.some.injEq,exists_eq_right]at this
   rcases this with h|h
   ·split at h<;>simp at h
   ·simpa using h
  obtain⟨hes,hsn⟩:=hsub e hel
  obtain⟨i,hi,rfl⟩:=Array.getElem_of_mem hes
  have hbi:=hborn i _ (Array.getElem?_eq_getElem hi)
  rw[hbi]at hsn
  have hki:i<ks.length:=by have:=o3.length;simp at this;omega
  have hvi:i<vs.length:=by have:=o4.length;simp at this;omega
  obtain⟨kv,hkv,hkr⟩:=o3.get i (List.getElem?_eq_getElem hki)
  obtain⟨vv,hvv,hvr⟩:=o4.get i (List.getElem?_eq_getElem hvi)
  simp[hi]at hkv hvv
  subst hkv hvv
  refine⟨.tuple #[.bool true,es[i].key,es[i].val],_,?_,.inr ⟨i,ks[i],vs[i],(o5 i).2 ⟨hi,hsn⟩,List.getElem?_eq_getElem hki,List.getElem?_eq_getElem hvi,
   setObj_rel hR1 hl hb o1' rfl rfl rfl rfl (by simp) (by simp) hmb (o' := .mapIter (some m) es.size (seen.push i) es.size) (fun w' hw' =>⟨m,es,seen.push i,hw',o2,o3,o4,fun j=> ?_,fun j hj=> ?_⟩),
   by simp only[Rep,Reps];exact⟨_,rfl,_,_,rfl,rfl,_,_,rfl,hkr,_,_,rfl,hvr,rfl⟩⟩⟩
  ·unfold Instr.next
   have hso:(setObj b (.mapIter (some m) es.size (seen.push es[i].born) es.size)).run P w1= .ok () {w1 with heap:=w1.heap.setIfInBounds b (.mapIter (some m) es.size (seen.push i) es.size)}:=by
    rw[hbi];simp[setObj,Sem.run,o1']
   simp only[Sem.run_bind,hgo,Result.andThen_ok,hgm,hguard,Bool.false_eq_true,if_false,hleft,hl1,hl2,hk,hc,hso,Sem.run_pure]
  ·simp only[List.mem_filter,o5 j,bne_iff_ne,ne_eq]
   constructor
   ·rintro⟨⟨h1,h2⟩,h3⟩
    refine⟨h1,?_⟩
    simp at h2⊢
    exact⟨h2,h3⟩
   ·rintro⟨h1,h2⟩
    simp at h2⊢
    exact⟨⟨h1,h2.1⟩,h2.2⟩
  ·cases hj;simp
def entryD(σ:List AObj) (it:D):Option D:=
 match it with
 | .ptr l 0 0=>match σ[l]? with
   |some (.miter ks vs _ (some i))=>match ks[i]?,vs[i]? with
    |some a,some b=>some (.tuple [a,b])
    |_,_=>none
   |_=>none
 |_=>none
theorem entryMap_ok(hR:Rel B G σ w) {it d:D}{v:Value}(h:entryD σ it=some d) (hv:Rep G it v):∃u,(Instr.entry v).run P w= .ok u w∧Rep G d u:=by
 unfold entryD at h
 split at h<;>try (cases h;done)
 rename_i l
 split at h<;>try (cases h;done)
 rename_i ks vs rem i hl
 split at h<;>try (cases h;done)
 rename_i a c ha hc
 cases h
 simp only[Rep]at hv
 obtain⟨b,hb,rfl⟩:=hv
 obtain⟨m,es,seen,o1,o2,o3,o4,o5,o6⟩:=hR.obj _ _ b hl hb
 obtain⟨hm,hborn⟩:=hR.mimm _ _ o2
 have hgo:(getObj b).run P w= .ok (.mapIter (some m) es.size seen es.size) w:=by simp[getObj,Sem.run,o1]
 have hgm:(getObj m).run P w= .ok (.map es es.size) w:=by simp[getObj,Sem.run,hm]
 obtain⟨kv,hkv,hkr⟩:=o3.get i ha
 obtain⟨vv,hvv,hvr⟩:=o4.get i hc
 have hi:i<es.size:=by
  rcases Nat.lt_or_ge i es.size with h' |h'
  ·exact h'
  ·rw[List.getElem?_eq_none (by simpa using h')]at hkv;cases hkv
 simp[hi]at hkv hvv
 subst hkv hvv
 have hfind:es.find? (·.born==i)=some es[i]:=by
  rw[Array.find?_eq_some_iff_getElem]
  refine⟨by simp[hborn i _ (Array.getElem?_eq_getElem hi)],i,hi,rfl,fun j hj=> ?_⟩
  have:=hborn j es[j] (Array.getElem?_eq_getElem (by omega))
  simp[this];omega
 refine⟨.tuple #[es[i].key,es[i].val],?_,by simp only[Rep,Reps];exact⟨_,rfl,_,_,rfl,hkr,_,_,rfl,hvr,rfl⟩⟩
 unfold Instr.entry
 simp only[Sem.run_bind,hgo,Result.andThen_ok,o6 i rfl,hgm,bne_self_eq_false,Bool.false_eq_true,if_false,hfind,Sem.run_pure]
end
end Go.Fw
