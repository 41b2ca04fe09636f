/- A framework for proofs about Go programs in this model: part D. Everything is proved; no condition is added. -/
import Derived.ScopeJumps
import Derived.Test.YtgliijeioigckaaGreatDoorFwC
set_option linter.unusedVariables false
set_option linter.unusedSimpArgs false
namespace Go.Fw
open Go.RowKit
def mask1(acc:List Nat):List Edge→Nat
 |[]=>0
 |e::es=>match Region.binds .any e with
  |true=>Nat.lor (Nat.lor (Nat.pow 2 e.on) (acc.getD e.on 0)) (mask1 acc es)
  |false=>mask1 acc es
def masks:List Oper→List Nat→List Nat
 |[],acc=>acc
 |o::r,acc=>masks r (acc++[mask1 acc o.after.toList])
def NeedsL(L:Array Bool) (m:Nat):Prop:=∀j,m.testBit j=true→L.getD j false=true
def DownCl(ops:Array Oper) (L:Array Bool):Prop:=
 ∀j oj,ops[j]? =some oj→L.getD j false=true→∀e ∈ oj.after,Region.binds .any e=true→L.getD e.on false=true
theorem mask1_ok{L:Array Bool}{acc:List Nat}(hacc:∀j m,acc[j]? =some m→L.getD j false=true→NeedsL L m):∀(es:List Edge),
 (∀e ∈ es,Region.binds .any e=true→L.getD e.on false=true)→NeedsL L (mask1 acc es)
 |[],_,j,hj=>by simp[mask1]at hj
 |e::es,h,j,hj=>by
  have ih:=mask1_ok hacc es (fun x hx=>h x (List.mem_cons_of_mem _ hx))
  simp only[mask1]at hj
  split at hj
  ·rename_i hb
   have he:=h e (List.mem_cons_self ..) hb
   have e1:Nat.lor (Nat.lor (Nat.pow 2 e.on) (acc.getD e.on 0)) (mask1 acc es)=((2 ^ e.on|||acc.getD e.on 0)|||mask1 acc es):=rfl
   rw[e1,Nat.testBit_or,Nat.testBit_or,Nat.testBit_two_pow]at hj
   simp only[Bool.or_eq_true,decide_eq_true_eq]at hj
   rcases hj with(rfl|hj)|hj
   ·exact he
   ·cases hm:acc[e.on]? with
    |none=>rw[List.getD_eq_getElem?_getD,hm]at hj;simp at hj
    |some m=>
     rw[List.getD_eq_getElem?_getD,hm]at hj
     exact hacc _ _ hm he j hj
   ·exact ih j hj
  ·exact ih j hj
theorem masks_ok{ops:Array Oper}{L:Array Bool}(hd:DownCl ops L):∀(r pre:List Oper) (acc:List Nat),ops.toList=pre++r→acc.length=pre.length→
 (∀(j m:Nat) (oj:Oper),acc[j]? =some m→ops[j]? =some oj→(∀e ∈ oj.after,Region.binds .any e=true→L.getD e.on false=true)→NeedsL L m)→
 (∀(j m:Nat) (oj:Oper),(masks r acc)[j]? =some m→ops[j]? =some oj→(∀e ∈ oj.after,Region.binds .any e=true→L.getD e.on false=true)→NeedsL L m)
 |[],_,_,_,_,h=>h
 |o::r,pre,acc,hops,hlen,h=>by
  refine masks_ok hd r (pre++[o]) (acc++[mask1 acc o.after.toList]) (by simp[hops]) (by simp[hlen]) ?_
  intro j m oj hj hoj hall
  rcases Nat.lt_or_ge j acc.length with hlt|hge
  ·rw[List.getElem?_append_left hlt]at hj
   exact h j m oj hj hoj hall
  ·rw[List.getElem?_append_right hge]at hj
   have hj0:j=acc.length:=by
    cases hx:j-acc.length with
    |zero=>omega
    |succ k=>rw[hx]at hj;simp at hj
   subst hj0
   simp at hj
   subst hj
   have ho:ops[acc.length]? =some o:=by
    rw[←Array.getElem?_toList,hops,hlen];simp
   rw[ho]at hoj;cases hoj
   refine mask1_ok (fun j' m' hm' hL=> ?_) _ (fun e he hb=>hall e (by simpa using he) hb)
   have hlt' :j' <acc.length:=by
    rcases Nat.lt_or_ge j' acc.length with h' |h'
    ·exact h'
    ·rw[List.getElem?_eq_none h']at hm';cases hm'
   have:j' <ops.size:=by
    have:ops.toList.length=pre.length+(o::r).length:=by rw[hops];simp
    simp at this;omega
   exact h j' m' ops[j'] hm' (Array.getElem?_eq_getElem this) (fun e he hb=>hd j' _ (Array.getElem?_eq_getElem this) hL e he hb)
def AllP{α:Type}(f:α→Prop):List α→Prop
 |[]=>True
 |x::r=>f x∧AllP f r
theorem AllP.mem{α:Type}{f:α→Prop}:∀{l:List α},AllP f l→∀x ∈ l,f x
 |_::_,h,x,hx=>by
  rcases List.mem_cons.1 hx with rfl|hx
  ·exact h.1
  ·exact h.2.mem x hx
def hide:List Nat→Sto→Sto
 |[],σ=>σ
 |l::ls,σ=>(hide ls σ).set l .dead
theorem hide_len:∀(ls:List Nat) (σ:Sto),(hide ls σ).length=σ.length
 |[],_=>rfl
 |l::ls,σ=>by simp[hide,hide_len ls σ]
theorem hide_get:∀(ls:List Nat) (σ:Sto) (x:Nat),(hide ls σ)[x]? =if x ∈ ls∧x<σ.length then some .dead else σ[x]?
 |[],_,_=>by simp[hide]
 |l::ls,σ,x=>by
  simp only[hide,List.getElem?_set,hide_len,hide_get ls σ x,List.mem_cons]
  by_cases e:l=x
  ·subst e
   by_cases hx:l<σ.length
   ·simp[hx]
   ·simp only[hx,if_false]
    have h1:¬(l<σ.length):=hx
    simp[List.getElem?_eq_none (Nat.le_of_not_lt hx)]
  ·have e' :¬x=l:=fun h=>e h.symm
   simp[e,e']
abbrev Res:=List (Nat×Nat×List D)
def subsA:Res→Nat→List (List Nat)
 |[],_=>[[]]
 |(j,l,_)::A,m=>match Nat.testBit m j with
  |true=>subsA A m
  |false=>subsA A m++(subsA A m).map (l::·)
def hidden(L:Array Bool):Res→List Nat
 |[]=>[]
 |(j,l,_)::A=>match L.getD j false with
  |true=>hidden L A
  |false=>l::hidden L A
theorem hidden_mem{L:Array Bool}{m:Nat}(h:NeedsL L m):∀(A:Res),hidden L A ∈ subsA A m
 |[]=>by simp[hidden,subsA]
 |(j,l,_)::A=>by
  have ih:=hidden_mem h A
  simp only[hidden,subsA]
  cases hL:L.getD j false<;>cases hb:Nat.testBit m j<;>simp only
  ·exact List.mem_append_right _ (List.mem_map.2 ⟨_,ih,rfl⟩)
  ·rw[h j hb]at hL;cases hL
  ·exact List.mem_append_left _ ih
  ·exact ih
def keepS(m:Nat):List Sto→List Nat→List Sto
 |[],_=>[]
 |σ::r,C=>match C.all (fun c=> !Nat.testBit m c) with
  |true=>σ::keepS m r C.tail
  |false=>keepS m r C.tail
theorem keepS_mem{m:Nat}:∀{S:List Sto}{C:List Nat}{k:Nat}{σ:Sto},S[k]? =some σ→(∀k' c,C[k']? =some c→k≤k'→Nat.testBit m c=false)→σ ∈ keepS m S C
 |[],_,_,_,h,_=>by simp at h
 |s::S,C,0,σ,h,hc=>by
  simp at h
  subst h
  simp only[keepS]
  have:C.all (fun c=> !Nat.testBit m c)=true:=by
   rw[List.all_eq_true]
   intro c hcm
   obtain⟨k',hk'⟩:=List.getElem?_of_mem hcm
   simp[hc k' c hk' (Nat.zero_le _)]
  rw[this]
  exact List.mem_cons_self ..
 |s::S,C,k+1,σ,h,hc=>by
  simp only[List.getElem?_cons_succ]at h
  have ih:=keepS_mem (S:=S) (C:=C.tail) h (fun k' c hk' hle=>hc (k' +1) c (by rw[←hk',List.getElem?_tail]) (by omega))
  simp only[keepS]
  split
  ·exact List.mem_cons_of_mem _ ih
  ·exact ih
inductive Kd where
 |skip|read|chain (k:Nat)|alloc (l:Nat) (cs:List D)
structure Rc where
 o:Oper
 env:Env
 v:D
 kd:Kd
def rst(ops:Array Oper) (o:Oper) (τ:Env):Env:=τ.filter fun p=>(o.looksAt ops).contains p.1
def reS(A:Res) (M C:List Nat) (σ:Sto):Nat→List Rc→List (Rc×Sto)
 |_,[]=>[]
 |j,r::rs=>match r.kd with
  | .read=>match C.all (fun c=> !Nat.testBit (M.getD c 0) j) with
    |true=>((subsA A (M.getD j 0)).map fun ls=>(r,hide ls σ))++reS A M C σ (j+1) rs
    |false=>reS A M C σ (j+1) rs
  |_=>reS A M C σ (j+1) rs
def chOk(m:Nat) (C:List Nat):Bool:=match C.getLast? with
 |none=>true
 |some c=>Nat.testBit m c
def resOf?(A:Res) (i:Nat):Option (Nat×List D):=match A.find? (fun x=>x.1==i) with
 |some x=>some x.2
 |none=>none
def ADr(P:Program) (N:Nat) (ops:Array Oper) (A:Res) (M:List Nat):List Oper→Nat→Env→List Sto→List Nat→List Rc→(Env→Sto→Prop)→Prop
 |[],_,τ,S,_,tab,K=>AllP (fun(x:Nat×Nat×List D)=>∃r,tab[x.1]? =some r∧r.kd= .alloc x.2.1 x.2.2) A∧∃σ,S.getLast? =some σ∧K τ σ
 |o::r,i,τ,S,C,tab,K=>
  (wantD ops (rst ops o τ) o=some false∧∃τ2,putD N o.dst (.tuple []) τ=some τ2∧ADr P N ops A M r (i+1) τ2 S C (tab++[⟨o,rst ops o τ,.tuple [],.skip⟩]) K)∨
  (wantD ops (rst ops o τ) o=some true∧∃d τ2,
    AllP (fun s=>AOp P N o (rst ops o τ) s fun d' s' =>d' =d∧s' =s) ((keepS (M.getD i 0) S C).flatMap fun σ=>(subsA A (M.getD i 0)).map (hide · σ))∧
    putD N o.dst d τ=some τ2∧ADr P N ops A M r (i+1) τ2 S C (tab++[⟨o,rst ops o τ,d,.read⟩]) K)∨
  (wantD ops (rst ops o τ) o=some true∧chOk (M.getD i 0) C=true∧∃d τ2 σ σ',S.getLast? =some σ∧
    AllP (fun ls=>AOp P N o (rst ops o τ) (hide ls σ) fun d' s' =>d' =d∧s' =hide ls σ') (subsA A (M.getD i 0))∧
    AllP (fun(x:Rc×Sto)=>AOp P N x.1.o x.1.env x.2 fun d' s' =>d' =x.1.v∧s' =x.2) (reS A M (C++[i]) σ' 0 tab)∧
    AllP (fun(x:Nat×Nat×List D)=>match Nat.testBit (M.getD i 0) x.1 with|true=>True|false=>σ'[x.2.1]? =some (.cells x.2.2 0 0)) A∧
    putD N o.dst d τ=some τ2∧ADr P N ops A M r (i+1) τ2 (S++[σ']) (C++[i]) (tab++[⟨o,rst ops o τ,d,.chain C.length⟩]) K)∨
  (wantD ops (rst ops o τ) o=some true∧∃e l cs τ2,o.op= .alloc e∧resOf? A i=some (l,cs)∧tyZero P e=some cs∧
    putD N o.dst (.ptr l 0 0) τ=some τ2∧ADr P N ops A M r (i+1) τ2 S C (tab++[⟨o,rst ops o τ,.ptr l 0 0,.alloc l cs⟩]) K)
end Go.Fw
namespace Go.Fw
open Go.RowKit
def Win(M C:List Nat) (i k:Nat):Prop:=
 ∀(k' c:Nat),C[k']? =some c→(k' <k→Nat.testBit (M.getD c 0) i=false)∧(k≤k'→Nat.testBit (M.getD i 0) c=false)
def KdOk(P:Program) (N:Nat) (ops:Array Oper) (A:Res) (M:List Nat) (S:List Sto) (C:List Nat) (i:Nat) (r:Rc):Prop:=
 match r.kd with
 | .skip=>wantD ops r.env r.o=some false∧r.v= .tuple []
 | .read=>wantD ops r.env r.o=some true∧∀(k:Nat) (σ:Sto),S[k]? =some σ→Win M C i k→∀ls ∈ subsA A (M.getD i 0),AOp P N r.o r.env (hide ls σ) (fun d' s' =>d' =r.v∧s' =hide ls σ)
 | .chain k=>wantD ops r.env r.o=some true∧C[k]? =some i∧(∀(k1 c:Nat),k=k1+1→C[k1]? =some c→Nat.testBit (M.getD i 0) c=true)∧
  ∃(σ σ' :Sto),S[k]? =some σ∧S[k+1]? =some σ'∧∀ls ∈ subsA A (M.getD i 0),AOp P N r.o r.env (hide ls σ) (fun d' s' =>d' =r.v∧s' =hide ls σ')
 | .alloc l cs=>wantD ops r.env r.o=some true∧(i,l,cs) ∈ A∧r.v= .ptr l 0 0∧∃e,r.o.op= .alloc e∧tyZero P e=some cs
def EnvAt(tab:List Rc) (τ0:Env) (i t:Nat) (d:D):Prop:=
 (∃(j:Nat) (rj:Rc),j<i∧tab[j]? =some rj∧rj.o.dst=some t∧rj.v=d)∨((∀(j:Nat) (rj:Rc),j<i→tab[j]? =some rj→rj.o.dst≠some t)∧get τ0 t=some d)
structure TabOk (P:Program) (N:Nat) (ops:Array Oper) (A:Res) (M:List Nat) (τ0:Env) (s0:Sto) (tab:List Rc) (S:List Sto) (C:List Nat) (τ:Env):Prop where
 rc:∀(i:Nat) (r:Rc),tab[i]? =some r→ops[i]? =some r.o∧KdOk P N ops A M S C i r
 slen:S.length=C.length+1
 hd:S[0]? =some s0
 ch:∀(k c:Nat),C[k]? =some c→∃r:Rc,tab[c]? =some r∧r.kd= .chain k
 res:∀x ∈ A,∀(k:Nat) (σ:Sto),S[k]? =some σ→(∀(k' c:Nat),C[k']? =some c→k' <k→Nat.testBit (M.getD c 0) x.1=false)→σ[x.2.1]? =some (.cells x.2.2 0 0)
 env:∀(i:Nat) (r:Rc),tab[i]? =some r→∀t d,get r.env t=some d→(r.o.looksAt ops).contains t=true∧EnvAt tab τ0 i t d
 fin:∀t d,get τ t=some d→EnvAt tab τ0 tab.length t d
 dst:∀(i:Nat) (r:Rc) (t:Nat),tab[i]? =some r→r.o.dst=some t→t<N
theorem get_filter{p:Nat→Bool}:∀{τ:Env}{t:Nat}{d:D},get (τ.filter fun q=>p q.1) t=some d→p t=true∧get τ t=some d
 |[],_,_,h=>by simp[get]at h
 |(i,x)::τ,t,d,h=>by
  simp only[List.filter_cons]at h
  by_cases hp:p i=true
  ·simp only[hp,if_true,get]at h⊢
   by_cases e:i=t
   ·subst e;simp only[if_true]at h⊢;exact⟨hp,h⟩
   ·simp only[e,if_false]at h⊢;exact get_filter h
  ·simp only[hp]at h
   obtain⟨h1,h2⟩:=get_filter h
   refine⟨h1,?_⟩
   have:i≠t:=fun e=>by subst e;exact hp h1
   simp only[get,this,if_false];exact h2
theorem lt_of_getElem?{α:Type}{l:List α}{i:Nat}{x:α}(h:l[i]? =some x):i<l.length:=by
 rcases Nat.lt_or_ge i l.length with h' |h'
 ·exact h'
 ·rw[List.getElem?_eq_none h']at h;cases h
theorem push_get{α:Type}{l:List α}{x y:α}{i:Nat}(h:(l++[x])[i]? =some y):(i<l.length∧l[i]? =some y)∨(i=l.length∧y=x):=by
 have hl:=lt_of_getElem? h
 simp at hl
 rcases Nat.lt_or_ge i l.length with h' |h'
 ·rw[List.getElem?_append_left h']at h;exact .inl ⟨h',h⟩
 ·have:i=l.length:=by omega
  subst this
  simp at h
  exact .inr ⟨rfl,h.symm⟩
theorem push_old{α:Type}{l:List α}{x y:α}{i:Nat}(h:l[i]? =some y):(l++[x])[i]? =some y:=by
 rw[List.getElem?_append_left (lt_of_getElem? h)];exact h
section
variable {P:Program}{N:Nat}{ops:Array Oper}{A:Res}{M:List Nat}{τ0:Env}{s0:Sto}{tab:List Rc}{S:List Sto}{C:List Nat}{τ τ2:Env}
theorem EnvAt.push{r:Rc}{i t:Nat}{d:D}(h:EnvAt tab τ0 i t d) (hi:i≤tab.length):EnvAt (tab++[r]) τ0 i t d:=by
 rcases h with⟨j,rj,h1,h2,h3,h4⟩|⟨h1,h2⟩
 ·exact .inl ⟨j,rj,h1,push_old h2,h3,h4⟩
 ·refine .inr ⟨fun j rj hj hr=> ?_,h2⟩
  rcases push_get hr with⟨_,h⟩|⟨rfl,_⟩
  ·exact h1 j rj hj h
  ·omega
theorem env_push(h:TabOk P N ops A M τ0 s0 tab S C τ) {r:Rc}(hp:putD N r.o.dst r.v τ=some τ2) (he:r.env=rst ops r.o τ):
 (∀(i:Nat) (r' :Rc),(tab++[r])[i]? =some r'→∀t d,get r'.env t=some d→(r'.o.looksAt ops).contains t=true∧EnvAt (tab++[r]) τ0 i t d)∧
 (∀t d,get τ2 t=some d→EnvAt (tab++[r]) τ0 (tab++[r]).length t d)∧(∀(i:Nat) (r' :Rc) (t:Nat),(tab++[r])[i]? =some r'→r'.o.dst=some t→t<N):=by
 refine⟨fun i r' hi t d hg=> ?_,fun t d hg=> ?_,fun i r' t hi ht=> ?_⟩
 ·rcases push_get hi with⟨hl,h'⟩|⟨rfl,rfl⟩
  ·obtain⟨h1,h2⟩:=h.env i r' h' t d hg
   exact⟨h1,h2.push (Nat.le_of_lt hl)⟩
  ·rw[he]at hg
   obtain⟨h1,h2⟩:=get_filter (p:=fun x=>(r'.o.looksAt ops).contains x) hg
   exact⟨h1,(h.fin t d h2).push (Nat.le_refl _)⟩
 ·unfold putD at hp
  have hold:r.o.dst≠some t→get τ t=some d→EnvAt (tab++[r]) τ0 (tab++[r]).length t d:=by
   intro hne hg
   rcases h.fin t d hg with⟨j,rj,h1,h2,h3,h4⟩|⟨h1,h2⟩
   ·exact .inl ⟨j,rj,by simp;omega,push_old h2,h3,h4⟩
   ·refine .inr ⟨fun j rj hj hr=> ?_,h2⟩
    rcases push_get hr with⟨hl,h'⟩|⟨rfl,rfl⟩
    ·exact h1 j rj hl h'
    ·exact hne
  split at hp
  ·rename_i hd
   cases hp
   exact hold (by rw[hd];simp) hg
  ·rename_i t' hd
   split at hp<;>try (cases hp;done)
   cases hp
   simp only[get]at hg
   by_cases e:t' =t
   ·subst e
    simp only[if_true,Option.some.injEq]at hg
    exact .inl ⟨tab.length,r,by simp,by simp,hd,hg⟩
   ·simp only[e,if_false]at hg
    exact hold (by rw[hd];simpa using e) hg
 ·rcases push_get hi with⟨hl,h'⟩|⟨rfl,rfl⟩
  ·exact h.dst i r' t h' ht
  ·unfold putD at hp
   rw[ht]at hp
   simp only at hp
   split at hp
   ·assumption
   ·cases hp
theorem TabOk.push(h:TabOk P N ops A M τ0 s0 tab S C τ) {r:Rc}(ho:ops[tab.length]? =some r.o) (hk:KdOk P N ops A M S C tab.length r) (hp:putD N r.o.dst r.v τ=some τ2) (he:r.env=rst ops r.o τ):
 TabOk P N ops A M τ0 s0 (tab++[r]) S C τ2 where
 rc i r' hi:=by
  rcases push_get hi with⟨_,h'⟩|⟨rfl,rfl⟩
  ·exact h.rc i r' h'
  ·exact⟨ho,hk⟩
 slen:=h.slen
 hd:=h.hd
 ch k c hc:=by
  obtain⟨r',h1,h2⟩:=h.ch k c hc
  exact⟨r',push_old h1,h2⟩
 res:=h.res
 env:=(env_push h hp he).1
 fin:=(env_push h hp he).2.1
 dst:=(env_push h hp he).2.2
theorem reS_mem{σ:Sto}:∀{tab:List Rc}{j0 j:Nat}{r:Rc}{ls:List Nat},tab[j]? =some r→r.kd= .read→C.all (fun c=> !Nat.testBit (M.getD c 0) (j0+j))=true→ls ∈ subsA A (M.getD (j0+j) 0)→
 (r,hide ls σ) ∈ reS A M C σ j0 tab
 |[],_,_,_,_,h,_,_,_=>by simp at h
 |x::tab,j0,0,r,ls,h,hk,hc,hl=>by
  simp at h
  subst h
  simp only[Nat.add_zero]at hc hl
  simp only[reS,hk,hc]
  exact List.mem_append_left _ (List.mem_map.2 ⟨ls,hl,rfl⟩)
 |x::tab,j0,j+1,r,ls,h,hk,hc,hl=>by
  simp only[List.getElem?_cons_succ]at h
  have e:j0+(j+1)=(j0+1)+j:=by omega
  rw[e]at hc hl
  have ih:=reS_mem (σ:=σ) (j0:=j0+1) h hk hc hl
  simp only[reS]
  split
  ·split
   ·exact List.mem_append_right _ ih
   ·exact ih
  ·exact ih
theorem TabOk.pushC(h:TabOk P N ops A M τ0 s0 tab S C τ) {r:Rc}{σ' :Sto}(ho:ops[tab.length]? =some r.o) (hkd:r.kd= .chain C.length)
 (hk:KdOk P N ops A M (S++[σ']) (C++[tab.length]) tab.length r)
 (hre:∀x ∈ reS A M (C++[tab.length]) σ' 0 tab,AOp P N x.1.o x.1.env x.2 fun d' s' =>d' =x.1.v∧s' =x.2)
 (hres:∀x ∈ A,match Nat.testBit (M.getD tab.length 0) x.1 with|true=>True|false=>σ'[x.2.1]? =some (.cells x.2.2 0 0))
 (hp:putD N r.o.dst r.v τ=some τ2) (he:r.env=rst ops r.o τ):
 TabOk P N ops A M τ0 s0 (tab++[r]) (S++[σ']) (C++[tab.length]) τ2 where
 rc i r' hi:=by
  rcases push_get hi with⟨hlt,h'⟩|⟨rfl,rfl⟩
  ·obtain⟨h1,h2⟩:=h.rc i r' h'
   refine⟨h1,?_⟩
   unfold KdOk at h2⊢
   cases hkd' :r'.kd with
   |skip=>simp only[hkd']at h2⊢;exact h2
   |alloc l cs=>simp only[hkd']at h2⊢;exact h2
   |read=>
    simp only[hkd']at h2⊢
    refine⟨h2.1,fun k σ hk hw ls hls=> ?_⟩
    rcases push_get hk with⟨_,hk'⟩|⟨rfl,rfl⟩
    ·exact h2.2 k σ hk' (fun k' c hc=>hw k' c (push_old hc)) ls hls
    ·refine hre (r',hide ls σ) (reS_mem h' hkd' ?_ (by simpa using hls))
     rw[List.all_eq_true]
     intro c hc
     obtain⟨k',hk'⟩:=List.getElem?_of_mem hc
     have hlt:=lt_of_getElem? hk'
     have:=(hw k' c hk').1 (by rw[h.slen];simpa using hlt)
     rw[Nat.zero_add,this];rfl
   |chain k=>
    simp only[hkd']at h2⊢
    obtain⟨h3,h4,h5,σ,σ1,h6,h7,h8⟩:=h2
    refine⟨h3,push_old h4,fun k1 c hk1 hc=> ?_,σ,σ1,push_old h6,push_old h7,h8⟩
    subst hk1
    have:=lt_of_getElem? h4
    rw[List.getElem?_append_left (by omega)]at hc
    exact h5 k1 c rfl hc
  ·exact⟨ho,hk⟩
 slen:=by simp[h.slen]
 hd:=push_old h.hd
 ch k c hc:=by
  rcases push_get hc with⟨_,h'⟩|⟨rfl,rfl⟩
  ·obtain⟨r',h1,h2⟩:=h.ch k c h'
   exact⟨r',push_old h1,h2⟩
  ·exact⟨r,by simp,hkd⟩
 res x hx k σ hk hc:=by
  rcases push_get hk with⟨_,h'⟩|⟨rfl,rfl⟩
  ·exact h.res x hx k σ h' fun k' c hc' hlt=>hc k' c (push_old hc') hlt
  ·have h1:=hres x hx
   have h2:=hc C.length tab.length (by simp) (by rw[h.slen];omega)
   rw[h2]at h1
   exact h1
 env:=(env_push h hp he).1
 fin:=(env_push h hp he).2.1
 dst:=(env_push h hp he).2.2
theorem resOf_mem{i l:Nat}{cs:List D}(h:resOf? A i=some (l,cs)):(i,l,cs) ∈ A:=by
 unfold resOf? at h
 split at h
 ·rename_i x hx
  have h1:=List.find?_some hx
  have h2:=List.mem_of_find?_eq_some hx
  simp only[beq_iff_eq]at h1
  obtain⟨a,b⟩:=x
  simp only at h1 h
  cases h;subst h1;exact h2
 ·cases h
theorem adr_tab{K:Env→Sto→Prop}:∀(r:List Oper) (τ:Env) (S:List Sto) (C:List Nat) (tab:List Rc) (pre:List Oper),ops.toList=pre++r→tab.length=pre.length→
 TabOk P N ops A M τ0 s0 tab S C τ→ADr P N ops A M r tab.length τ S C tab K→
 ∃(tab' :List Rc) (S' :List Sto) (C' :List Nat) (τ' :Env) (σ' :Sto),tab'.length=ops.size∧TabOk P N ops A M τ0 s0 tab' S' C' τ'∧S'.getLast? =some σ'∧K τ' σ'∧(∀x ∈ A,∃r:Rc,tab'[x.1]? =some r∧r.kd= .alloc x.2.1 x.2.2)
 |[],τ,S,C,tab,pre,hops,hlen,hT,h=>by
  obtain⟨hal,σ,h1,h2⟩:=h
  have:ops.size=pre.length:=by have:=congrArg List.length hops;simpa using this
  exact⟨tab,S,C,τ,σ,by omega,hT,h1,h2,hal.mem⟩
 |o::r,τ,S,C,tab,pre,hops,hlen,hT,h=>by
  have ho:ops[tab.length]? =some o:=by rw[←Array.getElem?_toList,hops,hlen];simp
  have next:∀(r' :Rc) (τ2:Env) (S' :List Sto) (C' :List Nat),r'.o=o→TabOk P N ops A M τ0 s0 (tab++[r']) S' C' τ2→ADr P N ops A M r (tab.length+1) τ2 S' C' (tab++[r']) K→
   ∃(tab' :List Rc) (S' :List Sto) (C' :List Nat) (τ' :Env) (σ' :Sto),tab'.length=ops.size∧TabOk P N ops A M τ0 s0 tab' S' C' τ'∧S'.getLast? =some σ'∧K τ' σ'∧(∀x ∈ A,∃r:Rc,tab'[x.1]? =some r∧r.kd= .alloc x.2.1 x.2.2):=by
   intro r' τ2 S' C' hr hT' h'
   exact adr_tab r τ2 S' C' (tab++[r']) (pre++[o]) (by simp[hops]) (by simp[hlen]) hT' (by simpa using h')
  rcases h with⟨hw,τ2,hp,h⟩|⟨hw,d,τ2,hall,hp,h⟩|⟨hw,hch,d,τ2,σ,σ',hlast,hall,hre,hres,hp,h⟩|⟨hw,e,l,cs,τ2,hop,hA,hz,hp,h⟩
  ·exact next ⟨o,rst ops o τ,.tuple [],.skip⟩ τ2 S C rfl (hT.push ho ⟨hw,rfl⟩ hp rfl) h
  ·refine next ⟨o,rst ops o τ,d,.read⟩ τ2 S C rfl (hT.push ho ⟨hw,fun k σ hk hwin ls hls=> ?_⟩ hp rfl) h
   refine hall.mem _ (List.mem_flatMap.2 ⟨σ,keepS_mem hk fun k' c hc hle=>(hwin k' c hc).2 hle,List.mem_map.2 ⟨ls,hls,rfl⟩⟩)
  ·refine next ⟨o,rst ops o τ,d,.chain C.length⟩ τ2 (S++[σ']) (C++[tab.length]) rfl (hT.pushC ho rfl ⟨hw,by simp,fun k1 c hk1 hc=> ?_,σ,σ',?_,?_,fun ls hls=>hall.mem ls hls⟩ hre.mem hres.mem hp rfl) h
   ·have hc' :C.getLast? =some c:=by
     rw[List.getElem?_append_left (by omega)]at hc
     rw[List.getLast?_eq_getElem?,hk1];exact hc
    unfold chOk at hch
    rw[hc']at hch
    exact hch
   ·have:S[C.length]? =some σ:=by
     rw[List.getLast?_eq_getElem?,hT.slen]at hlast;exact hlast
    exact push_old this
   ·rw[←hT.slen];simp
  ·refine next ⟨o,rst ops o τ,.ptr l 0 0,.alloc l cs⟩ τ2 S C rfl (hT.push ho ⟨hw,resOf_mem hA,rfl,e,hop,hz⟩ hp rfl) h
end
end Go.Fw
namespace Go.Fw
open Go.RowKit
def mLt:List Nat→Nat→Bool
 |[],_=>true
 |m::r,i=>Nat.blt m (Nat.pow 2 i)&&mLt r (i+1)
def ordOk:List Oper→Nat→Bool
 |[],_=>true
 |o::r,i=>(o.after.toList.all fun e=> !Region.binds .any e||Nat.blt e.on i)&&ordOk r (i+1)
def slotOk(M:List Nat) (ops:Array Oper) (i:Nat) (o:Oper):Nat→List Oper→Bool
 |_,[]=>true
 |j,p::r=>(match p.dst with
  |none=>true
  |some t=>Nat.beq i j||((!(o.looksAt ops).contains t||Nat.testBit (M.getD i 0) j||Nat.testBit (M.getD j 0) i)&& !(o.dst==some t)))&&slotOk M ops i o (j+1) r
def slotsOk(M:List Nat) (ops:Array Oper):Nat→List Oper→Bool
 |_,[]=>true
 |i,o::r=>slotOk M ops i o 0 ops.toList&&slotsOk M ops (i+1) r
def planOk(ops:Array Oper) (M:List Nat):Bool:=mLt M 0&&ordOk ops.toList 0&&slotsOk M ops 0 ops.toList
theorem mLt_ok:∀{M:List Nat}{i0 i m:Nat},mLt M i0=true→M[i]? =some m→m<2 ^ (i0+i)
 |[],_,_,_,_,h=>by simp at h
 |x::M,i0,0,m,h,hm=>by
  simp at hm;subst hm
  simp only[mLt,Bool.and_eq_true]at h
  exact Nat.le_of_ble_eq_true h.1
 |x::M,i0,i+1,m,h,hm=>by
  simp only[mLt,Bool.and_eq_true]at h
  have:=mLt_ok h.2 (by simpa using hm)
  rwa[show i0+(i+1)=i0+1+i by omega]
theorem ordOk_ok:∀{l:List Oper}{i0 i:Nat}{o:Oper},ordOk l i0=true→l[i]? =some o→∀e ∈ o.after,Region.binds .any e=true→e.on<i0+i
 |[],_,_,_,_,h=>by simp at h
 |x::l,i0,0,o,h,ho=>by
  simp at ho;subst ho
  simp only[ordOk,Bool.and_eq_true,List.all_eq_true,Bool.or_eq_true,Bool.not_eq_true']at h
  intro e he hb
  rcases h.1 e (by simpa using he) with h1|h1
  ·rw[hb]at h1;cases h1
  ·exact Nat.le_of_ble_eq_true h1
 |x::l,i0,i+1,o,h,ho=>by
  simp only[ordOk,Bool.and_eq_true]at h
  have:=ordOk_ok h.2 (by simpa using ho)
  intro e he hb
  have:=this e he hb
  omega
theorem slotOk_ok{M:List Nat}{ops:Array Oper}{i:Nat}{o:Oper}:∀{l:List Oper}{j0 j:Nat}{p:Oper}{t:Nat},slotOk M ops i o j0 l=true→l[j]? =some p→p.dst=some t→i≠j0+j→
 ((o.looksAt ops).contains t=true→Nat.testBit (M.getD i 0) (j0+j)=true∨Nat.testBit (M.getD (j0+j) 0) i=true)∧o.dst≠some t
 |[],_,_,_,_,_,h,_,_=>by simp at h
 |x::l,j0,0,p,t,h,hp,hd,hne=>by
  simp at hp;subst hp
  simp only[slotOk,hd,Bool.and_eq_true,Bool.or_eq_true,Bool.not_eq_true']at h
  rcases h.1 with h1|⟨h1,h2⟩
  ·exact absurd (Nat.eq_of_beq_eq_true h1) hne
  ·refine⟨fun hc=> ?_,by simpa using h2⟩
   rcases h1 with(h1|h1)|h1
   ·rw[hc]at h1;cases h1
   ·exact .inl h1
   ·exact .inr h1
 |x::l,j0,j+1,p,t,h,hp,hd,hne=>by
  simp only[slotOk,Bool.and_eq_true]at h
  rw[show j0+(j+1)=j0+1+j by omega]at hne⊢
  exact slotOk_ok h.2 (by simpa using hp) hd hne
theorem slotsOk_ok{M:List Nat}{ops:Array Oper}:∀{l:List Oper}{i0 i:Nat}{o:Oper},slotsOk M ops i0 l=true→l[i]? =some o→slotOk M ops (i0+i) o 0 ops.toList=true
 |[],_,_,_,_,h=>by simp at h
 |x::l,i0,0,o,h,ho=>by
  simp at ho;subst ho
  simp only[slotsOk,Bool.and_eq_true]at h
  exact h.1
 |x::l,i0,i+1,o,h,ho=>by
  simp only[slotsOk,Bool.and_eq_true]at h
  rw[show i0+(i+1)=i0+1+i by omega]
  exact slotsOk_ok h.2 (by simpa using ho)
theorem mem_hidden{L:Array Bool}{y:Nat}:∀{A:Res},y ∈ hidden L A↔∃x ∈ A,L.getD x.1 false=false∧x.2.1=y
 |[]=>by simp[hidden]
 |(j,l,cs)::A=>by
  simp only[hidden]
  cases hL:L.getD j false<;>simp only[List.mem_cons,mem_hidden (A:=A)]
  ·constructor
   ·rintro(rfl|⟨x,h1,h2⟩)
    ·exact⟨_,.inl rfl,hL,rfl⟩
    ·exact⟨x,.inr h1,h2⟩
   ·rintro⟨x,rfl|h1,h2,h3⟩
    ·exact .inl h3.symm
    ·exact .inr ⟨x,h1,h2,h3⟩
  ·constructor
   ·rintro⟨x,h1,h2⟩
    exact⟨x,.inr h1,h2⟩
   ·rintro⟨x,rfl|h1,h2,h3⟩
    ·rw[hL]at h2;cases h2
    ·exact⟨x,h1,h2,h3⟩
theorem sto_ext{σ σ' :Sto}(h:∀x:Nat,σ[x]? =σ'[x]?):σ=σ' :=List.ext_getElem? h
theorem hide_congr{ls ls' :List Nat}{σ:Sto}(h:∀x,x ∈ ls↔x ∈ ls'):hide ls σ=hide ls' σ:=
 sto_ext fun x=>by simp only[hide_get,h x]
theorem hide_set{ls ls' :List Nat}{σ:Sto}{l:Nat}{ob:AObj}(h:∀x,x ∈ ls'↔(x ∈ ls∧x≠l)) (hl:σ[l]? =some ob):(hide ls σ).set l ob=hide ls' σ:=by
 refine sto_ext fun x=> ?_
 simp only[List.getElem?_set,hide_len,hide_get,h x]
 by_cases e:l=x
 ·subst e
  have:=lt_of_getElem? hl
  rw[List.getElem?_eq_getElem this]at hl
  simp[this,Option.some.inj hl]
 ·have e' :x≠l:=fun h=>e h.symm
  simp[e,e']
theorem Rel.drawn{P:Program}{B:Base P}{G:Gh}{σ:Sto}{w:World}(h:Rel B G σ w):Rel B G σ {w with drawn:=w.drawn+1}:=h.drew
theorem Rel.dead{P:Program}{B:Base P}{G:Gh}{σ:Sto}{w:World}(h:Rel B G σ w) (n:Nat):Rel B G (σ++List.replicate n .dead) w:=by
 have hg:∀(l:Nat) (ob:AObj),(σ++List.replicate n AObj.dead)[l]? =some ob→σ[l]? =some ob∨(σ.length≤l∧ob= .dead):=by
  intro l ob hl
  rcases Nat.lt_or_ge l σ.length with h' |h'
  ·rw[List.getElem?_append_left h']at hl;exact .inl hl
  ·rw[List.getElem?_append_right h',List.getElem?_replicate]at hl
   split at hl
   ·cases hl;exact .inr ⟨h',rfl⟩
   ·cases hl
 have hn:∀l u b,G.blk l u=some b→¬σ.length≤l:=fun l u b hb hle=>absurd (h.blk l u b hb).1 (by omega)
 refine⟨h.below,h.imm,h.mimm,h.siz,fun l u b hb=> ?_,h.inj,fun l ob b ho hb=> ?_,fun l cs frz u b ho hb=> ?_,fun l ks vs b ho hb=> ?_,fun l ob ho=> ?_,fun l ob ho=> ?_,h.bimm,h.bmimm⟩
 ·obtain⟨h1,h2⟩:=h.blk l u b hb
  exact⟨by simp;omega,h2⟩
 ·rcases hg l ob ho with h' |⟨hle,rfl⟩
  ·exact h.obj l ob b h' hb
  ·exact absurd hle (hn _ _ _ hb)
 ·rcases hg l _ ho with h' |⟨hle,h2⟩
  ·exact h.own l cs frz u b h' hb
  ·cases h2
 ·rcases hg l _ ho with h' |⟨hle,h2⟩
  ·exact h.ownm l ks vs b h' hb
  ·cases h2
 ·rcases hg l ob ho with h' |⟨hle,rfl⟩
  ·exact h.ver l ob h'
  ·exact⟨Nat.le_refl _,fun u b hb=>absurd hle (hn _ _ _ hb)⟩
 ·rcases hg l ob ho with h' |⟨hle,rfl⟩
  ·exact h.frzle l ob h'
  ·exact Nat.le_refl _
theorem alloc_at{P:Program}{B:Base P}{G:Gh}{σ:Sto}{w:World}(hR:Rel B G σ w) {l:Nat}(hl:σ[l]? =some .dead) {t:TypeId}{cs:List D}(h:tyZero P t=some cs):
 ∃w' G' v,(Instr.alloc t true (.tuple #[])).run P w= .ok v w'∧G.Le G'∧Rel B G' (σ.set l (.cells cs 0 0)) w'∧Rep G' (.ptr l 0 0) v:=by
 obtain⟨i,v,hi,hv,hz⟩:=tyZero_inv h
 have hlt:=lt_of_getElem? hl
 have hver:=(hR.ver l .dead hl).2
 have hf:G.blk l 0=none:=by
  cases hb:G.blk l 0 with
  |none=>rfl
  |some b=>exact(hR.obj l .dead b hl hb).elim
 obtain⟨h1,h2⟩:=hR.bindCells (l:=l) (u:=0) (frz:=0) (cs:=cs) (σ' :=σ.set l (.cells cs 0 0)) t (by simp) (fun l' hl' =>by rw[List.getElem?_set_ne (Ne.symm hl')])
  (by simp[hlt]) hf ⟨Nat.zero_le _,fun u' b hb=>hver u' b hb⟩ (Nat.zero_le _) (c:=v.cells) (hd:=v.cells.toList) (tl:=[]) (by simp) (cDs_rep G hz)
 refine⟨_,_,.pointer (some ⟨w.heap.size,0,none⟩),?_,h1,h2,?_⟩
 ·unfold Instr.alloc
  simp only[zeroValue,typeInfo,Sem.run_bind,run_program,Result.andThen_ok,hi,Sem.run_pure,hv,newVar,newRow,run_newObj]
  rfl
 ·simp only[Rep];exact⟨w.heap.size,by simp[Gh.bind],rfl⟩
end Go.Fw
namespace Go.Fw
open Go.RowKit
section
variable {fl:Nat}{P:Program}{N:Nat}{ops:Array Oper}{A:Res}{M:List Nat}{τ0:Env}{s0:Sto}{tab:List Rc}{S:List Sto}{C:List Nat}{τ:Env}
structure Inv (fl:Nat) (ops:Array Oper) (A:Res) (τ0:Env) (tab:List Rc) (S:List Sto) (C:List Nat) (N:Nat) (B:Base P) (G0:Gh) (L:Array Bool) (a:Act) (w:World):Prop where
 size:L.size=ops.size
 down:DownCl ops L
 st:∃G k σ,G0.LeB fl G∧S[k]? =some σ∧(∀(k' c:Nat),C[k']? =some c→(L.getD c false=true↔k' <k))∧Rel B G (hide (hidden L A) σ) w∧
  a.tmps.size=N∧a.defers=[]∧
  (∀(i:Nat) (r:Rc) (t:Nat),tab[i]? =some r→L.getD i false=true→r.o.dst=some t→Rep G r.v (a.tmps.getD t undef))∧
  (∀t d,get τ0 t=some d→(∀(i:Nat) (r:Rc),tab[i]? =some r→L.getD i false=true→r.o.dst≠some t)→Rep G d (a.tmps.getD t undef))
theorem getD_set_iff{L:Array Bool}{i j:Nat}(hi:i<L.size):(L.setIfInBounds i true).getD j false=true↔(j=i∨L.getD j false=true):=by
 by_cases e:i=j
 ·subst e;simp[hi]
 ·have e' :¬j=i:=fun h=>e h.symm
  rw[getD_set_ne false e];simp[e']
theorem getD_false_of{L:Array Bool}{i:Nat}(h:L.getD i true=false):i<L.size∧L.getD i false=false:=by
 rcases Nat.lt_or_ge i L.size with h' |h'
 ·refine⟨h',?_⟩
  simp[Array.getD_eq_getD_getElem?,h']at h⊢
  exact h
 ·simp[Array.getD_eq_getD_getElem?,Array.getElem?_eq_none h']at h
theorem put_getD{a:Act}{dst:Option Tmp}{v:Value}{t:Nat}(ht:t<a.tmps.size):(a.put dst v).tmps.getD t undef=if dst=some t then v else a.tmps.getD t undef:=by
 cases dst with
 |none=>simp[Act.put]
 |some d=>
  by_cases e:d=t
  ·subst e;simp[Act.put,Array.getD_eq_getD_getElem?,ht]
  ·have:¬(some d=some t):=fun h=>e (Option.some.inj h)
   simp[Act.put,Array.getD_eq_getD_getElem?,Array.getElem?_setIfInBounds_ne e,e]
theorem put_getD'{a:Act}{dst:Option Tmp}{v:Value}{t:Nat}(h:dst≠some t):(a.put dst v).tmps.getD t undef=a.tmps.getD t undef:=by
 cases dst with
 |none=>rfl
 |some d=>
  have:d≠t:=fun e=>h (by rw[e])
  simp[Act.put,Array.getD_eq_getD_getElem?,Array.getElem?_setIfInBounds_ne this]
theorem Inv.next(hT:TabOk P N ops A M τ0 s0 tab S C τ) (hp:planOk ops M=true) {B:Base P}{G0:Gh}{L:Array Bool}{a:Act}{w:World}(hI:Inv fl ops A τ0 tab S C N B G0 L a w)
 {i:Nat}{r:Rc}(hr:tab[i]? =some r) (hi:L.getD i true=false) (hall:∀e ∈ r.o.after,Region.binds .any e=true→L.getD e.on false=true)
 {G' :Gh}{k' :Nat}{σ' :Sto}{v:Value}{w' :World}
 (hle:∃G,G0.LeB fl G∧G.Le G'∧
   (∀(i:Nat) (r:Rc) (t:Nat),tab[i]? =some r→L.getD i false=true→r.o.dst=some t→Rep G r.v (a.tmps.getD t undef))∧
   (∀t d,get τ0 t=some d→(∀(i:Nat) (r:Rc),tab[i]? =some r→L.getD i false=true→r.o.dst≠some t)→Rep G d (a.tmps.getD t undef)))
 (hk' :S[k']? =some σ') (hC:∀(k1 c:Nat),C[k1]? =some c→((L.setIfInBounds i true).getD c false=true↔k1<k'))
 (hR:Rel B G' (hide (hidden (L.setIfInBounds i true) A) σ') w') (hv:Rep G' r.v v):Inv fl ops A τ0 tab S C N B G0 (L.setIfInBounds i true) (a.put r.o.dst v) w' :=by
 obtain⟨hilt,hif⟩:=getD_false_of hi
 obtain⟨G,h0,hGG,hnew,hold⟩:=hle
 obtain⟨_,_,_,_,_,_,_,hsz,hdf,_,_⟩:=hI.st
 refine⟨by simpa using hI.size,fun j oj hoj hL e he hb=> ?_,G',k',σ',h0.trans hGG.b,hk',hC,hR,?_,?_,fun j rj t hj hL ht=> ?_,fun t d hd hno=> ?_⟩
 ·have hnow:L.getD e.on false=true:=by
   rcases (getD_set_iff hilt).1 hL with rfl|hL
   ·have:=(hT.rc j r hr).1
    rw[hoj]at this;cases this
    exact hall e he hb
   ·exact hI.down j oj hoj hL e he hb
  exact getD_set_true hnow
 ·cases hd:r.o.dst<;>simp[Act.put,hsz]
 ·cases hd:r.o.dst<;>simp[Act.put,hdf]
 ·by_cases e:j=i
  ·subst e
   rw[hr]at hj;cases hj
   rw[put_getD (by rw[hsz];exact hT.dst _ _ _ hr ht),if_pos ht]
   exact hv
  ·have hLj:L.getD j false=true:=by
    rcases (getD_set_iff hilt).1 hL with h|h
    ·exact absurd h e
    ·exact h
   have hne:r.o.dst≠some t:=by
    unfold planOk at hp
    simp only[Bool.and_eq_true]at hp
    have hoj:=(hT.rc j rj hj).1
    have hoi:=(hT.rc i r hr).1
    have:=slotsOk_ok hp.2 (by rw[Array.getElem?_toList];exact hoi)
    exact(slotOk_ok (j:=j) this (by rw[Array.getElem?_toList];exact hoj) ht (by omega)).2
   rw[put_getD' hne]
   exact Rep.mono hGG _ _ (hnew j rj t hj hLj ht)
 ·have hne:r.o.dst≠some t:=hno i r hr ((getD_set_iff hilt).2 (.inl rfl))
  rw[put_getD' hne]
  exact Rep.mono hGG _ _ (hold t d hd fun j rj hj hL=>hno j rj hj ((getD_set_iff hilt).2 (.inr hL)))
theorem Inv.trel(hT:TabOk P N ops A M τ0 s0 tab S C τ) (hM:masks ops.toList []=M) (hp:planOk ops M=true) {B:Base P}{G0 G:Gh}{L:Array Bool}{a:Act}{w:World}(hI:Inv fl ops A τ0 tab S C N B G0 L a w)
 (hnew:∀(i:Nat) (r:Rc) (t:Nat),tab[i]? =some r→L.getD i false=true→r.o.dst=some t→Rep G r.v (a.tmps.getD t undef))
 (hold:∀t d,get τ0 t=some d→(∀(i:Nat) (r:Rc),tab[i]? =some r→L.getD i false=true→r.o.dst≠some t)→Rep G d (a.tmps.getD t undef))
 {i:Nat}{r:Rc}(hr:tab[i]? =some r) (hi:L.getD i true=false) (hn:NeedsL L (M.getD i 0)):TRel G N r.env a:=by
 obtain⟨_,_,_,_,_,_,_,hsz,hdf,_,_⟩:=hI.st
 obtain⟨hilt,hif⟩:=getD_false_of hi
 unfold planOk at hp
 simp only[Bool.and_eq_true]at hp
 obtain⟨⟨hp1,hp2⟩,hp3⟩:=hp
 refine⟨hsz,hdf,fun t d hg=> ?_⟩
 obtain⟨hrd,hat⟩:=hT.env i r hr t d hg
 have hoi:=(hT.rc i r hr).1
 have hslots:=slotsOk_ok hp3 (by rw[Array.getElem?_toList];exact hoi)
 rw[Nat.zero_add]at hslots
 rcases hat with⟨j,rj,hj,hrj,hdj,rfl⟩|⟨hno,hg0⟩
 ·have hoj:=(hT.rc j rj hrj).1
  have:=(slotOk_ok (j:=j) hslots (by rw[Array.getElem?_toList];exact hoj) hdj (by omega)).1 hrd
  rw[Nat.zero_add]at this
  rcases this with h|h
  ·exact hnew j rj t hrj (hn j h) hdj
  ·exfalso
   cases hm:M[j]? with
   |none=>rw[List.getD_eq_getElem?_getD,hm]at h;simp at h
   |some m=>
    have hlt:=mLt_ok hp1 hm
    rw[List.getD_eq_getElem?_getD,hm]at h
    have:=Nat.testBit_lt_two_pow (i:=i) (x:=m) (Nat.lt_of_lt_of_le hlt (Nat.pow_le_pow_right (by omega) (by omega)))
    simp[this]at h
 ·refine hold t d hg0 fun j rj hrj hL hdj=> ?_
  have hoj:=(hT.rc j rj hrj).1
  by_cases e:i=j
  ·subst e;rw[hif]at hL;cases hL
  ·have:=(slotOk_ok (j:=j) hslots (by rw[Array.getElem?_toList];exact hoj) hdj (by omega)).1 hrd
   rw[Nat.zero_add]at this
   rcases this with h|h
   ·refine hno j rj ?_ hrj hdj
    cases hm:M[i]? with
    |none=>rw[List.getD_eq_getElem?_getD,hm]at h;simp at h
    |some m=>
     have hlt:=mLt_ok hp1 hm
     rw[List.getD_eq_getElem?_getD,hm]at h
     rcases Nat.lt_or_ge j i with h' |h'
     ·exact h'
     ·have:=Nat.testBit_lt_two_pow (i:=j) (x:=m) (Nat.lt_of_lt_of_le hlt (Nat.pow_le_pow_right (by omega) (by omega)))
      simp[this]at h
   ·-- i lies ahead of j, and j has been
    have hd:=hI.down
    have hPM:=masks_ok (ops:=ops) (L:=L) hd ops.toList [] [] (by simp) rfl (fun j m oj h=>by simp at h)
    rw[hM]at hPM
    cases hm:M[j]? with
    |none=>rw[List.getD_eq_getElem?_getD,hm]at h;simp at h
    |some m=>
     rw[List.getD_eq_getElem?_getD,hm]at h
     have:=hPM j m _ hm hoj (fun e he hb=>hd j _ hoj hL e he hb) i h
     rw[hif]at this;cases this
theorem aop_alloc_at{o:Oper}{e:TypeId}{cs:List D}{σ:Sto}{l:Nat}{τ:Env}(ho:o.op= .alloc e) (hz:tyZero P e=some cs) (hl:σ[l]? =some .dead):
 AOp P N o τ σ fun d s=>d= .ptr l 0 0∧s=σ.set l (.cells cs 0 0):=by
 intro B G w a hR hT next Q hn
 obtain⟨w',G',v,h1,h2,h3,h4⟩:=alloc_at hR hl hz
 have hrun:(execOp a.eval o).run P w= .ok (.value v) w' :=by
  obtain⟨dst,op,ty,pos,after,guard⟩:=o
  simp only at ho
  subst ho
  unfold execOp
  simp[h1]
 unfold Oper.wp
 rw[hrun]
 exact hn v w' G' _ _ h2 h3 h4 ⟨rfl,rfl⟩
theorem hidden_same{L:Array Bool}{i:Nat}(hno:∀x ∈ A,x.1≠i) (y:Nat):y ∈ hidden (L.setIfInBounds i true) A↔y ∈ hidden L A:=by
 simp only[mem_hidden]
 constructor
 ·rintro⟨x,h1,h2,h3⟩
  refine⟨x,h1,?_,h3⟩
  rw[getD_set_ne false (Ne.symm (hno x h1))]at h2;exact h2
 ·rintro⟨x,h1,h2,h3⟩
  refine⟨x,h1,?_,h3⟩
  rw[getD_set_ne false (Ne.symm (hno x h1))];exact h2
theorem drawn_step(hT:TabOk P N ops A M τ0 s0 tab S C τ) (hM:masks ops.toList []=M) (hp:planOk ops M=true) (hlen:tab.length=ops.size)
 (hal:∀x ∈ A,∃r:Rc,tab[x.1]? =some r∧r.kd= .alloc x.2.1 x.2.2) (hinj:∀x ∈ A,∀y ∈ A,x.2.1=y.2.1→x.1=y.1)
 {B:Base P}{G0:Gh}{L:Array Bool}{a:Act}{w:World}(hI:Inv fl ops A τ0 tab S C N B G0 L a w) {i:Nat}(hi:i ∈ Region.ready .any ops L) {Q:Exit→Act→World→Prop}
 {K:Act→World→Prop}(hK:∀a' w',Inv fl ops A τ0 tab S C N B G0 (L.setIfInBounds i true) a' w'→K a' w'):wpOp P ops Q i K a w:=by
 obtain⟨hun,o,ho,hall⟩:=mem_ready.1 hi
 obtain⟨hilt,hif⟩:=getD_false_of hun
 have hir:i<tab.length:=by rw[hlen];exact(Array.getElem?_eq_some_iff.1 ho).1
 obtain⟨r,hr⟩:∃r,tab[i]? =some r:=⟨_,List.getElem?_eq_getElem hir⟩
 obtain⟨hor,hkd⟩:=hT.rc i r hr
 rw[ho]at hor;cases hor
 have hPM:=masks_ok (ops:=ops) (L:=L) hI.down ops.toList [] [] (by simp) rfl (fun j m oj h=>by simp at h)
 rw[hM]at hPM
 have hn:NeedsL L (M.getD i 0):=by
  intro j hj
  cases hm:M[i]? with
  |none=>rw[List.getD_eq_getElem?_getD,hm]at hj;simp at hj
  |some m=>
   rw[List.getD_eq_getElem?_getD,hm]at hj
   exact hPM i m _ hm ho hall j hj
 obtain⟨G,k,σ,h0,hS,hC,hR,hsz,hdf,hnew,hold⟩:=hI.st
 have htr:=hI.trel hT hM hp hnew hold hr hun hn
 have hwin:Win M C i k:=by
  intro k' c hc
  constructor
  ·intro hlt
   have hL:=(hC k' c hc).2 hlt
   cases hb:Nat.testBit (M.getD c 0) i with
   |false=>rfl
   |true=>
    obtain⟨rc,hrc,_⟩:=hT.ch k' c hc
    have hoc:=(hT.rc c rc hrc).1
    cases hm:M[c]? with
    |none=>rw[List.getD_eq_getElem?_getD,hm]at hb;simp at hb
    |some m=>
     rw[List.getD_eq_getElem?_getD,hm]at hb
     have:=hPM c m _ hm hoc (fun e he hbb=>hI.down c _ hoc hL e he hbb) i hb
     rw[hif]at this;cases this
  ·intro hle
   cases hb:Nat.testBit (M.getD i 0) c with
   |false=>rfl
   |true=>
    have:=(hC k' c hc).1 (hn c hb)
    omega
 have hw0:∀{b:Bool},wantD ops r.env r.o=some b→Region.wanted r.o (yielded ops a.tmps)=b:=fun h=>wantD_ok htr h
 have nochain:(∀k,r.kd≠.chain k)→∀(k1 c:Nat),C[k1]? =some c→((L.setIfInBounds i true).getD c false=true↔k1<k):=by
  intro hno k1 c hc
  have:c≠i:=by
   rintro rfl
   obtain⟨rc,hrc,hkk⟩:=hT.ch k1 c hc
   rw[hr]at hrc;cases hrc
   exact hno _ hkk
  rw[getD_set_ne false (Ne.symm this)]
  exact hC k1 c hc
 have noalloc:(∀l cs,r.kd≠.alloc l cs)→∀x ∈ A,x.1≠i:=by
  rintro hno x hx rfl
  obtain⟨r',hr',hkk⟩:=hal x hx
  rw[hr]at hr';cases hr'
  exact hno _ _ hkk
 have hmem:=hidden_mem hn A
 unfold KdOk at hkd
 unfold wpOp
 rw[ho]
 simp only
 cases hk:r.kd with
 |skip=>
  simp only[hk]at hkd
  rw[if_neg (by rw[hw0 hkd.1];simp)]
  refine hK _ _ (hI.next hT hp hr hun hall ⟨G,h0,.refl G,hnew,hold⟩ hS (nochain (by rw[hk];simp)) ?_ ?_)
  ·rw[hide_congr (hidden_same (noalloc (by rw[hk];simp)))];exact hR
  ·rw[hkd.2];simp only[Rep,undef];exact⟨#[],rfl,by simp[Reps]⟩
 |read=>
  simp only[hk]at hkd
  rw[if_pos (hw0 hkd.1)]
  refine .inl (hkd.2 k σ hS hwin _ hmem B G w a hR htr _ _ ?_)
  rintro v w' G' d s' hle hR' hd ⟨rfl,rfl⟩
  refine hK _ _ (hI.next hT hp hr hun hall ⟨G,h0,hle,hnew,hold⟩ hS (nochain (by rw[hk];simp)) ?_ hd)
  rw[hide_congr (hidden_same (noalloc (by rw[hk];simp)))];exact hR'
 |chain k0=>
  simp only[hk]at hkd
  obtain⟨hw,hci,hprev,σ1,σ2,hs1,hs2,hop⟩:=hkd
  rw[if_pos (hw0 hw)]
  have hk0:k0=k:=by
   have h1:¬k0<k:=fun h=>by
    have:=(hC k0 i hci).2 h
    rw[hif]at this;cases this
   rcases Nat.lt_or_ge k k0 with h2|h2
   ·exfalso
    obtain⟨k1,rfl⟩:∃k1,k0=k1+1:=⟨k0-1,by omega⟩
    have hlt:=lt_of_getElem? hci
    obtain⟨c,hc⟩:∃c,C[k1]? =some c:=⟨C[k1],List.getElem?_eq_getElem (by omega)⟩
    have:=(hC k1 c hc).1 (hn c (hprev k1 c rfl hc))
    omega
   ·omega
  subst hk0
  rw[hS]at hs1;cases hs1
  refine .inl (hop _ hmem B G w a hR htr _ _ ?_)
  rintro v w' G' d s' hle hR' hd ⟨rfl,rfl⟩
  refine hK _ _ (hI.next hT hp hr hun hall ⟨G,h0,hle,hnew,hold⟩ hs2 ?_ ?_ hd)
  ·intro k1 c hc
   rw[getD_set_iff hilt,hC k1 c hc]
   constructor
   ·rintro(rfl|h)
    ·obtain⟨rc,hrc,hkk⟩:=hT.ch k1 c hc
     rw[hr]at hrc;cases hrc
     rw[hk]at hkk;cases hkk;omega
    ·omega
   ·intro h
    rcases Nat.lt_or_ge k1 k0 with h' |h'
    ·exact .inr h'
    ·have:k1=k0:=by omega
     subst this
     rw[hci]at hc;cases hc;exact .inl rfl
  ·rw[hide_congr (hidden_same (noalloc (by rw[hk];simp)))];exact hR'
 |alloc l cs=>
  simp only[hk]at hkd
  obtain⟨hw,hAm,hv,e,hop,hz⟩:=hkd
  rw[if_pos (hw0 hw)]
  obtain⟨x,hx,rfl,hx2⟩:∃x ∈ A,x.1=i∧x.2=(l,cs):=⟨_,hAm,rfl,rfl⟩
  have hσl:σ[l]? =some (.cells cs 0 0):=by
   have:=hT.res x hx k σ hS fun k' c hc hlt=>(hwin k' c hc).1 hlt
   rw[hx2]at this;exact this
  have hin:l ∈ hidden L A:=mem_hidden.2 ⟨x,hx,hif,by rw[hx2]⟩
  have hdead:(hide (hidden L A) σ)[l]? =some .dead:=by
   rw[hide_get,if_pos ⟨hin,lt_of_getElem? hσl⟩]
  refine .inl (aop_alloc_at (N:=N) (τ:=r.env) hop hz hdead B G w a hR htr _ _ ?_)
  rintro v w' G' d s' hle hR' hd ⟨rfl,rfl⟩
  refine hK _ _ (hI.next hT hp hr hun hall ⟨G,h0,hle,hnew,hold⟩ hS (nochain (by rw[hk];simp)) ?_ (by rw[hv];exact hd))
  rw[←hide_set (ls:=hidden L A) (l:=l) ?_ hσl]
  ·exact hR'
  ·intro y
   simp only[mem_hidden]
   constructor
   ·rintro⟨z,h1,h2,h3⟩
    have hne:z.1≠x.1:=by
     intro e'
     rw[e',(getD_set_iff hilt).2 (.inl rfl)]at h2;cases h2
    rw[getD_set_ne false (Ne.symm hne)]at h2
    refine⟨⟨z,h1,h2,h3⟩,?_⟩
    rintro rfl
    exact hne (hinj z h1 x hx (by rw[h3,hx2]))
   ·rintro⟨⟨z,h1,h2,h3⟩,hne⟩
    refine⟨z,h1,?_,h3⟩
    have:z.1≠x.1:=by
     intro e'
     obtain⟨rz,hrz,hkz⟩:=hal z h1
     rw[e',hr]at hrz;cases hrz
     rw[hk]at hkz;cases hkz
     exact hne h3.symm
    rw[getD_set_ne false (Ne.symm this)];exact h2
end
end Go.Fw
namespace Go.Fw
open Go.RowKit
section
variable {fl:Nat}{P:Program}{N:Nat}{ops:Array Oper}{A:Res}{M:List Nat}{τ0:Env}{s0:Sto}{tab:List Rc}{S:List Sto}{C:List Nat}{τ:Env}
theorem count_false_set{l:List Bool}{i:Nat}(h:l[i]? =some false):(l.set i true).count false+1=l.count false:=by
 have hlt:=lt_of_getElem? h
 rw[List.getElem?_eq_getElem hlt]at h
 have h:=Option.some.inj h
 have hpos:0<l.count false:=List.count_pos_iff.2 (by rw[←h];exact List.getElem_mem _)
 rw[List.count_set hlt]
 simp[h]
 omega
theorem count_false_zero{l:List Bool}(h:l.count false=0) (i:Nat) (hi:i<l.length):l[i]? =some true:=by
 rw[List.getElem?_eq_getElem hi]
 have:=List.count_eq_zero.1 h
 cases hb:l[i] with
 |true=>rfl
 |false=>exact absurd (by rw[←hb];exact List.getElem_mem _) this
theorem ready_some(hp:planOk ops M=true) {L:Array Bool}(hs:L.size=ops.size):∀(n i:Nat),i≤n→L.getD i true=false→∃j,j ∈ Region.ready .any ops L:=by
 intro n
 induction n with
 |zero=>
  intro i hi hL
  have:i=0:=by omega
  subst this
  obtain⟨hlt,_⟩:=getD_false_of hL
  refine⟨0,mem_ready.2 ⟨hL,ops[0]'(by omega),Array.getElem?_eq_getElem (by omega),fun e he hb=> ?_⟩⟩
  unfold planOk at hp
  simp only[Bool.and_eq_true]at hp
  have:=ordOk_ok hp.1.2 (i:=0) (o:=ops[0]'(by omega)) (by rw[Array.getElem?_toList];exact Array.getElem?_eq_getElem (by omega)) e he hb
  omega
 |succ n ih=>
  intro i hi hL
  obtain⟨hlt,_⟩:=getD_false_of hL
  by_cases hx:∃e ∈ (ops[i]'(by omega)).after,Region.binds .any e=true∧L.getD e.on false=false
  ·obtain⟨e,he,hb,hf⟩:=hx
   unfold planOk at hp
   simp only[Bool.and_eq_true]at hp
   have hlt' :=ordOk_ok hp.1.2 (i:=i) (o:=ops[i]'(by omega)) (by rw[Array.getElem?_toList];exact Array.getElem?_eq_getElem (by omega)) e he hb
   refine ih e.on (by omega) ?_
   have:e.on<L.size:=by omega
   simp[Array.getD_eq_getD_getElem?,this]at hf⊢
   exact hf
  ·refine⟨i,mem_ready.2 ⟨hL,ops[i]'(by omega),Array.getElem?_eq_getElem (by omega),fun e he hb=> ?_⟩⟩
   cases hf:L.getD e.on false with
   |true=>rfl
   |false=>exact absurd ⟨e,he,hb,hf⟩ hx
theorem drawn_wp(hT:TabOk P N ops A M τ0 s0 tab S C τ) (hM:masks ops.toList []=M) (hp:planOk ops M=true) (hlen:tab.length=ops.size)
 (hal:∀x ∈ A,∃r:Rc,tab[x.1]? =some r∧r.kd= .alloc x.2.1 x.2.2) (hinj:∀x ∈ A,∀y ∈ A,x.2.1=y.2.1→x.1=y.1)
 {B:Base P}{G0:Gh}{Q:AEx→Env→Sto→Prop}{σ:Sto}(hlast:S.getLast? =some σ) (hQ:Q .normal τ σ):
 ∀(fuel:Nat) (L:Array Bool) (a:Act) (w:World),L.toList.count false≤fuel→Inv fl ops A τ0 tab S C N B G0 L a w→wpAny P .any ops (liftQ fl B G0 N Q) fuel L a w:=by
 have fin:∀(L:Array Bool) (a:Act) (w:World),Inv fl ops A τ0 tab S C N B G0 L a w→Region.ready .any ops L=[]→liftQ fl B G0 N Q .normal a w:=by
  intro L a w hI hr
  have hL:∀i,i<L.size→L.getD i false=true:=by
   intro i hi
   cases hb:L.getD i false with
   |true=>rfl
   |false=>
    have:L.getD i true=false:=by
     simp[Array.getD_eq_getD_getElem?,hi]at hb⊢
     exact hb
    obtain⟨j,hj⟩:=ready_some hp hI.size i i (Nat.le_refl _) this
    rw[hr]at hj;cases hj
  obtain⟨G,k,σ',h0,hS,hC,hR,hsz,hdf,hnew,hold⟩:=hI.st
  have hk:k=C.length:=by
   have h1:k<S.length:=lt_of_getElem? hS
   rw[hT.slen]at h1
   rcases Nat.lt_or_ge k C.length with h2|h2
   ·exfalso
    obtain⟨c,hc⟩:∃c,C[k]? =some c:=⟨C[k],List.getElem?_eq_getElem h2⟩
    obtain⟨rc,hrc,_⟩:=hT.ch k c hc
    have hlt:=lt_of_getElem? hrc
    have:=(hC k c hc).1 (hL c (by rw[hI.size,←hlen];exact hlt))
    omega
   ·omega
  have hσ:σ' =σ:=by
   rw[List.getLast?_eq_getElem?,hT.slen]at hlast
   subst hk
   have hlast' :S[C.length]? =some σ:=hlast
   rw[hS]at hlast';exact Option.some.inj hlast'
  subst hσ
  have hh:hide (hidden L A) σ' =σ' :=by
   rw[hide_congr (ls' :=[]) ?_]
   ·rfl
   ·intro x
    simp only[mem_hidden,List.not_mem_nil,iff_false]
    rintro⟨y,hy,hf,_⟩
    obtain⟨r,hr',_⟩:=hal y hy
    have hlt:=lt_of_getElem? hr'
    rw[hL y.1 (by rw[hI.size,←hlen];exact hlt)]at hf;cases hf
  rw[hh]at hR
  refine⟨G,τ,σ',h0,hR,⟨hsz,hdf,fun t d hg=> ?_⟩,hQ⟩
  rcases hT.fin t d hg with⟨j,rj,hj,hrj,hdj,rfl⟩|⟨hno,hg0⟩
  ·exact hnew j rj t hrj (hL j (by rw[hI.size,←hlen];exact hj)) hdj
  ·exact hold t d hg0 fun j rj hrj _=>hno j rj (lt_of_getElem? hrj) hrj
 intro fuel
 induction fuel with
 |zero=>
  intro L a w hc hI
  have hr:Region.ready .any ops L=[]:=by
   rw[List.eq_nil_iff_forall_not_mem]
   intro i hi
   obtain⟨hun,_⟩:=mem_ready.1 hi
   obtain⟨hlt,hf⟩:=getD_false_of hun
   have:=count_false_zero (Nat.le_zero.1 hc) i (by simpa using hlt)
   simp[Array.getD_eq_getD_getElem?,hlt]at hf
   simp[hlt,hf]at this
  exact⟨hr,fin L a w hI hr⟩
 |succ fuel ih=>
  intro L a w hc hI
  refine⟨fun hr=>fin L a w hI hr,fun i hi=> ?_⟩
  refine drawn_step hT hM hp hlen hal hinj hI hi fun a' w' hI' =>ih _ a' w' ?_ hI'
  obtain⟨hun,_⟩:=mem_ready.1 hi
  obtain⟨hlt,hf⟩:=getD_false_of hun
  have h1:L.toList[i]? =some false:=by
   simp[Array.getD_eq_getD_getElem?,hlt]at hf
   simp[hlt,hf]
  have:=count_false_set h1
  rw[Array.toList_setIfInBounds]
  omega
end
theorem awp_drawn{fl:Nat}{P:Program}{N:Nat}{τ:Env}{σ:Sto}{id:Nat}{ops:Array Oper}{Q:AEx→Env→Sto→Prop}(hm:P.follows .mixedOrders=true) (A:Res) {M:List Nat}
 (hM:masks ops.toList []=M) (hp:planOk ops M=true) (hA:A.map (·.2.1)=List.range' σ.length A.length)
 (h:ADr P N ops A M ops.toList 0 τ [σ++A.map fun x=>AObj.cells x.2.2 0 0] [] [] (fun τ' σ' =>Q .normal τ' σ')):AWp fl P N (.region id ops true) τ σ Q:=by
 intro B G w a hR hT
 have hget:∀x ∈ A,(σ++A.map fun x=>AObj.cells x.2.2 0 0)[x.2.1]? =some (.cells x.2.2 0 0)∧∃n,A[n]? =some x∧x.2.1=σ.length+n:=by
  intro x hx
  obtain⟨n,hn⟩:=List.getElem?_of_mem hx
  have h1:(A.map (·.2.1))[n]? =some x.2.1:=by simp[hn]
  rw[hA]at h1
  have hlt:=lt_of_getElem? hn
  rw[List.getElem?_range' hlt]at h1
  simp at h1
  refine⟨?_,n,hn,h1.symm⟩
  rw[←h1,List.getElem?_append_right (by omega)]
  simp[hn]
 have hinj:∀x ∈ A,∀y ∈ A,x.2.1=y.2.1→x.1=y.1:=by
  intro x hx y hy e
  obtain⟨_,n,hn,h1⟩:=hget x hx
  obtain⟨_,m,hm',h2⟩:=hget y hy
  have:n=m:=by omega
  subst this
  rw[hn]at hm';cases hm';rfl
 obtain⟨tab',S',C',τ',σ',hlen,hTab,hlast,hK,hal⟩:=adr_tab (τ0:=τ) (s0:=σ++A.map fun x=>AObj.cells x.2.2 0 0) ops.toList τ _ [] [] [] (by simp) rfl ⟨fun i r h=>by simp at h,rfl,rfl,fun k c h=>by simp at h,
  fun x hx k s hs _=>by
   have:s=σ++A.map fun x=>AObj.cells x.2.2 0 0:=by
    cases k with
    |zero=>simp at hs;exact hs.symm
    |succ k=>simp at hs
   subst this
   exact(hget x hx).1,fun i r h=>by simp at h,fun t d hg=> .inr ⟨fun j rj hj _=>absurd hj (Nat.not_lt_zero _),hg⟩,fun i r t h=>by simp at h⟩ h
 refine wp_region_any hm (drawn_wp hTab hM hp hlen hal hinj hlast hK ops.size _ a _ (by simp) ⟨by simp,fun j oj hoj hL=> ?_,?_⟩)
 ·exfalso
  rcases Nat.lt_or_ge j ops.size with h' |h'
  ·simp[Array.getD_eq_getD_getElem?,h']at hL
  ·simp[Array.getD_eq_getD_getElem?,h']at hL
 ·have hrep:∀j,(Array.replicate ops.size false).getD j false=false:=by
   intro j
   rcases Nat.lt_or_ge j ops.size with h' |h'
   ·simp[Array.getD_eq_getD_getElem?,h']
   ·simp[Array.getD_eq_getD_getElem?,h']
  refine⟨G,0,_,.refl G,hTab.hd,fun k' c hc=> ?_,?_,hT.size,hT.defers,fun i r t _ hL _=> ?_,fun t d hg _=>hT.slot t d hg⟩
  ·rw[hrep c];simp
  ·have:hide (hidden (Array.replicate ops.size false) A) (σ++A.map fun x=>AObj.cells x.2.2 0 0)=σ++List.replicate A.length .dead:=by
    refine sto_ext fun x=> ?_
    rw[hide_get]
    have hin:x ∈ hidden (Array.replicate ops.size false) A↔(σ.length≤x∧x<σ.length+A.length):=by
     rw[mem_hidden]
     constructor
     ·rintro⟨y,hy,_,rfl⟩
      obtain⟨_,n,hn,h1⟩:=hget y hy
      have:=lt_of_getElem? hn
      omega
     ·rintro⟨h1,h2⟩
      have hlt:x-σ.length<A.length:=by omega
      refine⟨A[x-σ.length],List.getElem_mem _,hrep _,?_⟩
      obtain⟨_,n,hn,h3⟩:=hget _ (List.getElem_mem hlt)
      have h4:(A.map (·.2.1))[x-σ.length]? =some (A[x-σ.length]).2.1:=by simp[hlt]
      rw[hA,List.getElem?_range' hlt]at h4
      simp at h4
      omega
    by_cases hx:σ.length≤x∧x<σ.length+A.length
    ·rw[if_pos ⟨hin.2 hx,by simp;exact hx.2⟩,List.getElem?_append_right hx.1,List.getElem?_replicate,if_pos (by omega)]
    ·rw[if_neg (fun h=>hx (hin.1 h.1))]
     rcases Nat.lt_or_ge x σ.length with h' |h'
     ·rw[List.getElem?_append_left h',List.getElem?_append_left h']
     ·rw[List.getElem?_eq_none (by simp;omega),List.getElem?_eq_none (by simp;omega)]
   rw[this]
   exact(hR.dead _).drawn
  ·rw[hrep i]at hL;cases hL
end Go.Fw
namespace Go.Fw
open Go.RowKit
theorem nbeq{a b:Nat}(h:Nat.beq a b=true):a=b:=Nat.eq_of_beq_eq_true h
mutual
def D.beq:D→D→Bool
 | .bool a,e=>match e with| .bool b=>a==b|_=>false
 | .int k a,e=>match e with| .int l b=>decide (k=l)&&decide (a=b)|_=>false
 | .str a,e=>match e with| .str b=>decide (a=b)|_=>false
 | .nilp,e=>match e with| .nilp=>true|_=>false
 | .ptr l u o,e=>match e with| .ptr l' u' o' =>Nat.beq l l' &&Nat.beq u u' &&Nat.beq o o' |_=>false
 | .rptr cs o,e=>match e with| .rptr cs' o' =>Nat.beq o o' &&D.beqs cs cs' |_=>false
 | .list cs n f,e=>match e with| .list cs' n' f' =>Nat.beq n n' &&f==f' &&D.beqs cs cs' |_=>false
 | .sl l u o n z f,e=>match e with| .sl l' u' o' n' z' f' =>Nat.beq l l' &&Nat.beq u u' &&Nat.beq o o' &&Nat.beq n n' &&Nat.beq z z' &&f==f' |_=>false
 | .map l,e=>match e with| .map l' =>Nat.beq l l' |_=>false
 | .nilmap,e=>match e with| .nilmap=>true|_=>false
 | .cmap ks vs,e=>match e with| .cmap ks' vs' =>D.beqs ks ks' &&D.beqs vs vs' |_=>false
 | .pmap ks vs,e=>match e with| .pmap ks' vs' =>D.beqs ks ks' &&D.beqs vs vs' |_=>false
 | .func fn a b,e=>match e with| .func fn' a' b' =>decide (fn=fn')&&D.beqs a a' &&D.beqs b b' |_=>false
 | .nilf,e=>match e with| .nilf=>true|_=>false
 | .iface t v,e=>match e with| .iface t' v' =>Nat.beq t t' &&D.beq v v' |_=>false
 | .nili,e=>match e with| .nili=>true|_=>false
 | .anyi,e=>match e with| .anyi=>true|_=>false
 | .agg cs,e=>match e with| .agg cs' =>D.beqs cs cs' |_=>false
 | .tuple cs,e=>match e with| .tuple cs' =>D.beqs cs cs' |_=>false
 | .junk,e=>match e with| .junk=>true|_=>false
def D.beqs:List D→List D→Bool
 |[],l=>match l with|[]=>true|_=>false
 |x::r,l=>match l with|y::s=>D.beq x y&&D.beqs r s|[]=>false
end
mutual
theorem D.beq_eq:∀(a b:D),D.beq a b=true→a=b
 | .bool a,e,h=>by cases e<;>simp only[D.beq]at h<;>first|(cases h;done)|simp_all
 | .int k a,e,h=>by cases e<;>simp only[D.beq]at h<;>first|(cases h;done)|simp_all
 | .str a,e,h=>by cases e<;>simp only[D.beq]at h<;>first|(cases h;done)|simp_all
 | .nilp,e,h=>by cases e<;>simp only[D.beq]at h<;>first|(cases h;done)|rfl
 | .ptr l u o,e,h=>by cases e<;>simp only[D.beq]at h<;>first|(cases h;done)|simp_all
 | .rptr cs o,e,h=>by
   cases e<;>simp only[D.beq]at h<;>first|(cases h;done)|skip
   simp only[Bool.and_eq_true]at h
   rw[nbeq h.1,D.beqs_eq _ _ h.2]
 | .list cs n f,e,h=>by
   cases e<;>simp only[D.beq]at h<;>first|(cases h;done)|skip
   simp only[Bool.and_eq_true,beq_iff_eq]at h
   rw[nbeq h.1.1,h.1.2,D.beqs_eq _ _ h.2]
 | .sl l u o n z f,e,h=>by cases e<;>simp only[D.beq]at h<;>first|(cases h;done)|simp_all
 | .map l,e,h=>by cases e<;>simp only[D.beq]at h<;>first|(cases h;done)|simp_all
 | .nilmap,e,h=>by cases e<;>simp only[D.beq]at h<;>first|(cases h;done)|rfl
 | .cmap ks vs,e,h=>by
   cases e<;>simp only[D.beq]at h<;>first|(cases h;done)|skip
   simp only[Bool.and_eq_true]at h
   rw[D.beqs_eq _ _ h.1,D.beqs_eq _ _ h.2]
 | .pmap ks vs,e,h=>by
   cases e<;>simp only[D.beq]at h<;>first|(cases h;done)|skip
   simp only[Bool.and_eq_true]at h
   rw[D.beqs_eq _ _ h.1,D.beqs_eq _ _ h.2]
 | .func fn a b,e,h=>by
   cases e<;>simp only[D.beq]at h<;>first|(cases h;done)|skip
   simp only[Bool.and_eq_true,decide_eq_true_eq]at h
   rw[h.1.1,D.beqs_eq _ _ h.1.2,D.beqs_eq _ _ h.2]
 | .nilf,e,h=>by cases e<;>simp only[D.beq]at h<;>first|(cases h;done)|rfl
 | .iface t v,e,h=>by
   cases e<;>simp only[D.beq]at h<;>first|(cases h;done)|skip
   simp only[Bool.and_eq_true]at h
   rw[nbeq h.1,D.beq_eq _ _ h.2]
 | .nili,e,h=>by cases e<;>simp only[D.beq]at h<;>first|(cases h;done)|rfl
 | .anyi,e,h=>by cases e<;>simp only[D.beq]at h<;>first|(cases h;done)|rfl
 | .agg cs,e,h=>by
   cases e<;>simp only[D.beq]at h<;>first|(cases h;done)|skip
   rw[D.beqs_eq _ _ h]
 | .tuple cs,e,h=>by
   cases e<;>simp only[D.beq]at h<;>first|(cases h;done)|skip
   rw[D.beqs_eq _ _ h]
 | .junk,e,h=>by cases e<;>simp only[D.beq]at h<;>first|(cases h;done)|rfl
theorem D.beqs_eq:∀(a b:List D),D.beqs a b=true→a=b
 |[],e,h=>by cases e<;>simp only[D.beqs]at h<;>first|(cases h;done)|rfl
 |x::r,e,h=>by
  cases e<;>simp only[D.beqs]at h<;>first|(cases h;done)|skip
  simp only[Bool.and_eq_true]at h
  rw[D.beq_eq _ _ h.1,D.beqs_eq _ _ h.2]
end
def AObj.beq:AObj→AObj→Bool
 | .cells cs f v,e=>match e with| .cells cs' f' v' =>Nat.beq f f' &&Nat.beq v v' &&D.beqs cs cs' |_=>false
 | .map ks vs,e=>match e with| .map ks' vs' =>D.beqs ks ks' &&D.beqs vs vs' |_=>false
 | .siter s p,e=>match e with| .siter s' p' =>decide (s=s')&&Nat.beq p p' |_=>false
 | .miter a b r c,e=>match e with| .miter a' b' r' c' =>D.beqs a a' &&D.beqs b b' &&decide (r=r')&&decide (c=c')|_=>false
 | .dead,e=>match e with| .dead=>true|_=>false
 | .gone,e=>match e with| .gone=>true|_=>false
theorem AObj.beq_eq(a b:AObj) (h:a.beq b=true):a=b:=by
 cases a<;>cases b<;>simp only[AObj.beq]at h<;>first|(cases h;done)|skip
 ·simp only[Bool.and_eq_true]at h
  rw[nbeq h.1.1,nbeq h.1.2,D.beqs_eq _ _ h.2]
 ·simp only[Bool.and_eq_true]at h
  rw[D.beqs_eq _ _ h.1,D.beqs_eq _ _ h.2]
 ·simp_all
 ·simp only[Bool.and_eq_true,decide_eq_true_eq]at h
  rw[D.beqs_eq _ _ h.1.1.1,D.beqs_eq _ _ h.1.1.2,h.1.2,h.2]
 ·rfl
 ·rfl
def stoBeq:Sto→Sto→Bool
 |[],l=>match l with|[]=>true|_=>false
 |x::r,l=>match l with|y::s=>x.beq y&&stoBeq r s|[]=>false
theorem stoBeq_eq:∀(a b:Sto),stoBeq a b=true→a=b
 |[],e,h=>by cases e<;>simp only[stoBeq]at h<;>first|(cases h;done)|rfl
 |x::r,e,h=>by
  cases e<;>simp only[stoBeq]at h<;>first|(cases h;done)|skip
  simp only[Bool.and_eq_true]at h
  rw[AObj.beq_eq _ _ h.1,stoBeq_eq _ _ h.2]
abbrev CallF:=FuncId→List D→Sto→Option (D×Sto)
def CallsOk(P:Program) (call:CallF):Prop:=∀f ds σ d σ',call f ds σ=some (d,σ')→FnOk P f∧ACall P f ds σ (fun d' s=>d' =d∧s=σ')
def xop(call:CallF) (T:Tys) (τ:Env) (σ:Sto) (op:Op):Option (D×Sto):=
 match op with
 | .call c=>match isBuiltin c.callee with
   |true=>aop T τ σ op
   |false=>match callD T τ c with
    |some (f,ds)=>match lk T.ext f with
     |some k=>match extD k ds with
      |some d=>some (d,σ)
      |none=>none
     |none=>call f ds σ
    |none=>none
 |_=>aop T τ σ op
section
variable {P:Program}{σ:Sto}
theorem aop_callL{T:Tys}(hTy:TOk T P) {N:Nat}{o:Oper}{τ:Env}{c:Call}{f:FuncId}{ds:List D}{K:D→Sto→Prop}(ho:o.op= .call c) (hc:callD T τ c=some (f,ds)) (hf:FnOk P f) (h:ACall P f ds σ K):AOp P N o τ σ K:=by
 intro B G w a hR hT next Q hn
 obtain⟨vals,hall,hinv⟩:=callD_run hTy (w:=w) (ty:=o.type) hT hc
 rw[callFunc_run hf]at hinv
 have hrun:(execOp a.eval o).run P w= .ok (.enter f vals.toArray) w:=by
  unfold execOp
  rw[ho]
  exact hinv
 unfold Oper.wp
 rw[hrun,Oper.upon_enter]
 refine(h B G w _ hR hall).mono ?_
 rintro e w' ⟨v,G',d,σ',rfl,h1,h2,h3,h4⟩
 exact hn v w' G' d σ' (h1.le hR) h2 h3 h4
theorem acall_frz{f:FuncId}{ds ds' :List D}{σ1:Sto}{K:D→Sto→Prop}(hz:frzCs σ ds=some (ds',σ1)) (h:ACall P f ds' σ1 K):ACall P f ds σ K:=by
 intro B G w vals hR hv
 obtain⟨G1,l1,R1,r1⟩:=frzCs_ok hR hz hv
 refine(h B G1 w vals R1 r1).mono ?_
 rintro e w' ⟨v,G',d,σ',rfl,h1,h2,h3,h4⟩
 exact⟨v,G',d,σ',rfl,(l1.trans (h1.le R1)).b,h2,h3,h4⟩
end
section
variable {P:Program}{T:Tys}{call:CallF}{N:Nat}{o:Oper}{τ:Env}{σ:Sto}
theorem aop_X(hTy:TOk T P) (hC:CallsOk P call) {d:D}{σ' :Sto}(h:xop call T τ σ o.op=some (d,σ')):AOp P N o τ σ (fun d' s=>d' =d∧s=σ'):=by
 unfold xop at h
 split at h
 ·rename_i c hop
  split at h
  ·exact aop_aop hTy h
  ·split at h<;>try (cases h;done)
   rename_i f ds hc
   split at h
   ·rename_i k hk
    split at h<;>try (cases h;done)
    rename_i d' hd
    cases h
    exact aop_ext hTy hop hc hk hd
   ·obtain⟨h1,h2⟩:=hC _ _ _ _ _ h
    exact aop_callL hTy hop hc h1 h2
 ·exact aop_aop hTy h
def xops(call:CallF) (T:Tys) (N:Nat) (all:Array Oper):List Oper→Env→Sto→Option (Env×Sto)
 |[],τ,σ=>some (τ,σ)
 |o::r,τ,σ=>match wantD all τ o with
  |some true=>match xop call T τ σ o.op with
   |some (d,σ')=>match putD N o.dst d τ with
    |some τ' =>xops call T N all r τ' σ'
    |none=>none
   |none=>none
  |some false=>match putD N o.dst (.tuple []) τ with
   |some τ' =>xops call T N all r τ' σ
   |none=>none
  |none=>none
theorem xops_ok(hTy:TOk T P) (hC:CallsOk P call) {all:Array Oper}{Kt:Env→Sto→Prop}:∀(l:List Oper) (τ:Env) (σ:Sto) (τ' :Env) (σ' :Sto),xops call T N all l τ σ=some (τ',σ')→Kt τ' σ'→AOps P N all l τ σ Kt
 |[],τ,σ,τ',σ',h,hk=>by
  simp only[xops,Option.some.injEq,Prod.mk.injEq]at h
  obtain⟨rfl,rfl⟩:=h
  exact hk
 |o::r,τ,σ,τ',σ',h,hk=>by
  simp only[xops]at h
  split at h<;>try (cases h;done)
  ·rename_i hw
   split at h<;>try (cases h;done)
   rename_i d σ1 hop
   split at h<;>try (cases h;done)
   rename_i τ1 hp
   refine .inl ⟨hw,(aop_X hTy hC hop).mono ?_⟩
   rintro d' s ⟨rfl,rfl⟩
   exact⟨τ1,hp,xops_ok hTy hC r τ1 _ τ' σ' h hk⟩
  ·rename_i hw
   split at h<;>try (cases h;done)
   rename_i τ1 hp
   exact .inr ⟨hw,τ1,hp,xops_ok hTy hC r τ1 _ τ' σ' h hk⟩
def isX(call:CallF) (T:Tys) (τ:Env) (σ:Sto) (op:Op) (d:D) (σ' :Sto):Bool:=
 match xop call T τ σ op with
 |some (d',s)=>D.beq d' d&&stoBeq s σ'
 |none=>false
theorem isX_ok(hTy:TOk T P) (hC:CallsOk P call) {d:D}{σ' :Sto}(h:isX call T τ σ o.op d σ' =true):AOp P N o τ σ (fun d' s=>d' =d∧s=σ'):=by
 unfold isX at h
 split at h
 ·rename_i d' s hx
  simp only[Bool.and_eq_true]at h
  rw[←D.beq_eq _ _ h.1,←stoBeq_eq _ _ h.2]
  exact aop_X hTy hC hx
 ·cases h
def noRes(M:List Nat) (i:Nat) (σ' :Sto):Res→Bool
 |[]=>true
 |x::A=>(Nat.testBit (M.getD i 0) x.1||match σ'[x.2.1]? with
   |some ob=>ob.beq (.cells x.2.2 0 0)
   |none=>false)&&noRes M i σ' A
def resDone(tab:List Rc):Res→Bool
 |[]=>true
 |x::A=>(match tab[x.1]? with
   |some r=>match r.kd with
    | .alloc l cs=>Nat.beq l x.2.1&&D.beqs cs x.2.2
    |_=>false
   |none=>false)&&resDone tab A
def isAlloc:Op→Option TypeId
 | .alloc e=>some e
 |_=>none
def xdr(call:CallF) (T:Tys) (N:Nat) (ops:Array Oper) (A:Res) (M:List Nat):List Oper→Nat→Env→Sto→List Sto→List Nat→List Rc→Option (Env×Sto)
 |[],_,τ,σ,_,_,tab=>match resDone tab A with
  |true=>some (τ,σ)
  |false=>none
 |o::r,i,τ,σ,S,C,tab=>match wantD ops (rst ops o τ) o with
  |none=>none
  |some false=>match putD N o.dst (.tuple []) τ with
   |some τ2=>xdr call T N ops A M r (i+1) τ2 σ S C (tab++[⟨o,rst ops o τ,.tuple [],.skip⟩])
   |none=>none
  |some true=>match isAlloc o.op with
   |some e=>match resOf? A i,lk T.zero e with
    |some (l,cs),some cs' =>match D.beqs cs cs',putD N o.dst (.ptr l 0 0) τ with
     |true,some τ2=>xdr call T N ops A M r (i+1) τ2 σ S C (tab++[⟨o,rst ops o τ,.ptr l 0 0,.alloc l cs⟩])
     |_,_=>none
    |_,_=>none
   |none=>match xop call T (rst ops o τ) σ o.op with
    |some (d,σ')=>match putD N o.dst d τ with
     |some τ2=>match stoBeq σ' σ with
      |true=>match ((keepS (M.getD i 0) S C).flatMap fun σ=>(subsA A (M.getD i 0)).map (hide · σ)).all fun s=>isX call T (rst ops o τ) s o.op d s with
       |true=>xdr call T N ops A M r (i+1) τ2 σ S C (tab++[⟨o,rst ops o τ,d,.read⟩])
       |false=>none
      |false=>match chOk (M.getD i 0) C&&((subsA A (M.getD i 0)).all fun ls=>isX call T (rst ops o τ) (hide ls σ) o.op d (hide ls σ'))&&
       ((reS A M (C++[i]) σ' 0 tab).all fun x=>isX call T x.1.env x.2 x.1.o.op x.1.v x.2)&&noRes M i σ' A with
        |true=>xdr call T N ops A M r (i+1) τ2 σ' (S++[σ']) (C++[i]) (tab++[⟨o,rst ops o τ,d,.chain C.length⟩])
        |false=>none
     |none=>none
    |none=>none
theorem allP_of{α:Type}{f:α→Prop}:∀{l:List α},(∀x ∈ l,f x)→AllP f l
 |[],_=>trivial
 |x::_,h=>⟨h x (List.mem_cons_self ..),allP_of fun y hy=>h y (List.mem_cons_of_mem _ hy)⟩
theorem noRes_ok{M:List Nat}{i:Nat}{σ' :Sto}:∀{A:Res},noRes M i σ' A=true→∀x ∈ A,match Nat.testBit (M.getD i 0) x.1 with|true=>True|false=>σ'[x.2.1]? =some (.cells x.2.2 0 0)
 |y::A,h,x,hx=>by
  simp only[noRes,Bool.and_eq_true]at h
  rcases List.mem_cons.1 hx with rfl|hx
  ·split
   ·trivial
   ·rename_i hb
    have h1:=h.1
    rw[hb,Bool.false_or]at h1
    split at h1
    ·rename_i ob ho
     rw[ho,AObj.beq_eq _ _ h1]
    ·cases h1
  ·exact noRes_ok h.2 x hx
theorem resDone_ok{tab:List Rc}:∀{A:Res},resDone tab A=true→∀x ∈ A,∃r:Rc,tab[x.1]? =some r∧r.kd= .alloc x.2.1 x.2.2
 |y::A,h,x,hx=>by
  simp only[resDone,Bool.and_eq_true]at h
  rcases List.mem_cons.1 hx with rfl|hx
  ·have h1:=h.1
   split at h1
   ·rename_i r hr
    split at h1
    ·rename_i l cs hk
     simp only[Bool.and_eq_true]at h1
     exact⟨r,hr,by rw[hk,nbeq h1.1,D.beqs_eq _ _ h1.2]⟩
    ·cases h1
   ·cases h1
  ·exact resDone_ok h.2 x hx
theorem xdr_ok(hTy:TOk T P) (hC:CallsOk P call) {ops:Array Oper}{A:Res}{M:List Nat}{K:Env→Sto→Prop}:∀(l:List Oper) (i:Nat) (τ:Env) (σ:Sto) (S:List Sto) (C:List Nat) (tab:List Rc) (τ' :Env) (σ' :Sto),
 S.getLast? =some σ→xdr call T N ops A M l i τ σ S C tab=some (τ',σ')→K τ' σ'→ADr P N ops A M l i τ S C tab K
 |[],i,τ,σ,S,C,tab,τ',σ',hS,h,hk=>by
  simp only[xdr]at h
  split at h<;>try (cases h;done)
  rename_i hr
  cases h
  exact⟨allP_of (resDone_ok hr),_,hS,hk⟩
 |o::r,i,τ,σ,S,C,tab,τ',σ',hS,h,hk=>by
  simp only[xdr]at h
  split at h<;>try (cases h;done)
  ·rename_i hw
   split at h<;>try (cases h;done)
   rename_i τ2 hp
   exact .inl ⟨hw,τ2,hp,xdr_ok hTy hC r _ τ2 σ S C _ τ' σ' hS h hk⟩
  ·rename_i hw
   split at h
   ·rename_i e he
    split at h<;>try (cases h;done)
    rename_i l cs cs' hA hz
    split at h<;>try (cases h;done)
    rename_i τ2 hcs hp
    have hop:o.op= .alloc e:=by
     unfold isAlloc at he
     split at he
     ·rename_i e' ho;cases he;exact ho
     ·cases he
    refine .inr (.inr (.inr ⟨hw,e,l,cs,τ2,hop,hA,?_,hp,xdr_ok hTy hC r _ τ2 σ S C _ τ' σ' hS h hk⟩))
    rw[D.beqs_eq _ _ hcs];exact lk_of hTy.zero hz
   ·split at h<;>try (cases h;done)
    rename_i d σ1 hop
    split at h<;>try (cases h;done)
    rename_i τ2 hp
    split at h
    ·split at h<;>try (cases h;done)
     rename_i hall
     refine .inr (.inl ⟨hw,d,τ2,allP_of fun s hs=> ?_,hp,xdr_ok hTy hC r _ τ2 σ S C _ τ' σ' hS h hk⟩)
     exact isX_ok hTy hC (List.all_eq_true.1 hall s hs)
    ·split at h<;>try (cases h;done)
     rename_i hall
     simp only[Bool.and_eq_true]at hall
     obtain⟨⟨⟨h1,h2⟩,h3⟩,h4⟩:=hall
     refine .inr (.inr (.inl ⟨hw,h1,d,τ2,σ,σ1,hS,allP_of fun ls hls=> ?_,allP_of fun x hx=> ?_,allP_of (noRes_ok h4),hp,xdr_ok hTy hC r _ τ2 σ1 _ _ _ τ' σ' (by simp) h hk⟩))
     ·exact isX_ok hTy hC (List.all_eq_true.1 h2 ls hls)
     ·exact isX_ok hTy hC (List.all_eq_true.1 h3 x hx)
def mkRes(T:Tys):List Oper→Nat→Nat→Option Res
 |[],_,_=>some []
 |o::r,i,l=>match isAlloc o.op with
  |some e=>match lk T.zero e,mkRes T r (i+1) (l+1) with
   |some cs,some A=>some ((i,l,cs)::A)
   |_,_=>none
  |none=>mkRes T r (i+1) l
theorem mkRes_ok:∀{l:List Oper}{i n:Nat}{A:Res},mkRes T l i n=some A→A.map (·.2.1)=List.range' n A.length
 |[],_,_,_,h=>by simp only[mkRes,Option.some.injEq]at h;subst h;rfl
 |o::r,i,n,A,h=>by
  simp only[mkRes]at h
  split at h
  ·split at h<;>try (cases h;done)
   rename_i cs A' hz hA
   cases h
   simp[mkRes_ok hA,List.range'_succ]
  ·exact mkRes_ok h
def xdraw(call:CallF) (T:Tys) (N:Nat) (ops:Array Oper) (τ:Env) (σ:Sto):Option (Env×Sto):=
 match mkRes T ops.toList 0 σ.length with
 |some A=>match planOk ops (masks ops.toList []) with
  |true=>xdr call T N ops A (masks ops.toList []) ops.toList 0 τ (σ++A.map fun x=>AObj.cells x.2.2 0 0) [σ++A.map fun x=>AObj.cells x.2.2 0 0] [] []
  |false=>none
 |none=>none
theorem xdraw_ok{i:Nat}(hTy:TOk T P) (hC:CallsOk P call) (hm:P.follows .mixedOrders=true) {id:Nat}{ops:Array Oper}{τ' :Env}{σ' :Sto}{Q:AEx→Env→Sto→Prop}
 (h:xdraw call T N ops τ σ=some (τ',σ')) (hQ:Q .normal τ' σ'):AWp i P N (.region id ops true) τ σ Q:=by
 unfold xdraw at h
 split at h<;>try (cases h;done)
 rename_i A hA
 split at h<;>try (cases h;done)
 rename_i hp
 exact awp_drawn hm A rfl hp (mkRes_ok hA) (xdr_ok hTy hC _ _ _ _ _ _ _ _ _ (by simp) h hQ)
end
end Go.Fw
namespace Go.Fw
open Go.RowKit
def LWp(i:Nat) (P:Program) (N:Nat) (c:Code) (τ:Env) (σ:Sto) (Q:AEx→Env→Sto→Prop):Prop:=
 ∀(B:Base P) (G:Gh) (w:World) (a:Act),Rel B G σ w→TRel G N τ a→∀b k cs,
  ∃e a' w',liftQ i B G N Q e a' w'∧Arrives P (lone (b.at a (.code c:: .inLoop c::k)) cs w) b k cs e a' w'
section
variable {i:Nat}{P:Program}{N:Nat}{c:Code}{τ τ' :Env}{σ σ' :Sto}{Q:AEx→Env→Sto→Prop}
theorem awp_loop1(h:LWp i P N c τ σ Q):AWp i P N (.loop c) τ σ Q:=by
 intro B G w a hR hT b k cs
 obtain⟨e,a',w',hq,harr⟩:=h B G w a hR hT b k cs
 exact⟨e,a',w',hq,.of_steps (.one step_loop) harr⟩
theorem lwp_round(h:AWp i P N c τ σ (thenQ (fun τ' σ' =>LWp i P N c τ' σ' Q) Q)):LWp i P N c τ σ Q:=by
 intro B G w a hR hT b k cs
 obtain⟨e,a₁,w₁,hq,harr⟩:=h B G w a hR hT b (.inLoop c::k) cs
 cases e with
 |normal=>
  obtain⟨G',τ1,σ1,h1,h2,h3,h4⟩:=hq
  obtain⟨e₂,a₂,w₂,hq₂,harr₂⟩:=h4 B G' w₁ a₁ h2 h3 b k cs
  exact⟨e₂,a₂,w₂,liftQ_le h1 (fun _ _ _ y=>y) e₂ a₂ w₂ hq₂,.of_steps (Steps.trans harr (.one step_inLoop)) harr₂⟩
 |exit id=>exact⟨.exit id,a₁,w₁,(show liftQ i B G N Q (.exit id) a₁ w₁ from hq),.pass (x:= .inLoop c) rfl (fun _ _=> .inl (by simp)) harr⟩
 |goto l=>exact⟨.goto l,a₁,w₁,(show liftQ i B G N Q (.goto l) a₁ w₁ from hq),.pass (x:= .inLoop c) rfl (fun _ _=> .inl (by simp)) harr⟩
 |ret=>exact⟨.ret,a₁,w₁,(show liftQ i B G N Q .ret a₁ w₁ from hq),.pass (x:= .inLoop c) rfl (fun _ _=> .inl (by simp)) harr⟩
 |panic ch=>exact hq.elim
 |outgrown=>exact hq.elim
theorem LWp.mono{Q' :AEx→Env→Sto→Prop}(h:LWp i P N c τ σ Q) (hq:∀e τ σ,Q e τ σ→Q' e τ σ):LWp i P N c τ σ Q' :=by
 intro B G w a hR hT b k cs
 obtain⟨e,a',w',h1,h2⟩:=h B G w a hR hT b k cs
 exact⟨e,a',w',liftQ_le (.refl G) hq e a' w' h1,h2⟩
def noGotoQ(Q:AEx→Env→Sto→Prop):AEx→Env→Sto→Prop
 | .goto _,_,_=>False
 | .normal,τ,σ=>Q .normal τ σ
 | .exit id,τ,σ=>Q (.exit id) τ σ
 | .ret,τ,σ=>Q .ret τ σ
theorem awp_scope(h:AWp i P N c τ σ (noGotoQ Q)):AWp i P N (.scope c) τ σ Q:=by
 intro B G w a hR hT
 refine wp_scope_straight (wp_mono (h B G w a hR hT) fun e a' w' x=> ?_)
 cases e with
 |normal=>exact x
 |exit id=>exact x
 |goto l=>obtain⟨_,_,_,_,_,_,h⟩:=x;exact h.elim
 |ret=>exact x
 |panic ch=>exact x
 |outgrown=>exact x
theorem awp_condT{x:Operand}{c1 c2:Code}(hc:ev τ x=some (.bool true)) (h:AWp i P N c1 τ σ Q):AWp i P N (.cond x c1 c2) τ σ Q:=awp_cond hc h
theorem awp_condF{x:Operand}{c1 c2:Code}(hc:ev τ x=some (.bool false)) (h:AWp i P N c2 τ σ Q):AWp i P N (.cond x c1 c2) τ σ Q:=awp_cond hc h
end
def okF(P:Program) (f:FuncId):Option Func:=
 match P.funcs[f]? with
 |some fn=>if fn.body.isSome=true∧(fn.name== "runtime.NumGoroutine")=false then some fn else none
 |none=>none
theorem fok_of{P:Program}{f:FuncId}{fn:Func}(this:okF P f=some fn):P.funcs[f]? =some fn∧FnOk P f:=by
 unfold okF at this
 split at this<;>try (cases this;done)
 rename_i fn' hfn
 split at this<;>try (cases this;done)
 rename_i hb
 cases this
 exact⟨hfn,fn,hfn,hb.1,hb.2⟩
def tidy:Env→List Nat→Env
 |[],_=>[]
 |(t,d)::r,seen=>match seen.any (Nat.beq t) with
  |true=>tidy r seen
  |false=>(t,d)::tidy r (t::seen)
theorem get_tidy:∀(τ:Env) (seen:List Nat) (t:Nat) (d:D),get (tidy τ seen) t=some d→seen.any (Nat.beq t)=false∧get τ t=some d
 |[],_,_,_,h=>by simp[tidy,get]at h
 |(i,x)::r,seen,t,d,h=>by
  simp only[tidy]at h
  split at h
  ·rename_i hs
   obtain⟨h1,h2⟩:=get_tidy r seen t d h
   refine⟨h1,?_⟩
   have:i≠t:=fun e=>by subst e;rw[hs]at h1;cases h1
   simp only[get,this,if_false];exact h2
  ·rename_i hs
   simp only[get]at h⊢
   by_cases e:i=t
   ·subst e;simp only[if_true]at h⊢;exact⟨hs,h⟩
   ·simp only[e,if_false]at h⊢
    obtain⟨h1,h2⟩:=get_tidy r (i::seen) t d h
    simp only[List.any_cons,Bool.or_eq_false_iff]at h1
    exact⟨h1.2,h2⟩
def xcode(call:CallF) (T:Tys) (N:Nat):Nat→Code→Env→Sto→Option (AEx×Env×Sto)
 |0,_,_,_=>none
 |n+1,c,τ,σ=>match c with
  | .skip=>some (.normal,τ,σ)
  | .label _=>some (.normal,τ,σ)
  | .ret=>some (.ret,τ,σ)
  | .exit id=>some (.exit id,τ,σ)
  | .seq a b=>match xcode call T N n a τ σ with
    |some (.normal,τ',σ')=>xcode call T N n b τ' σ'
    |r=>r
  | .cond x a b=>match ev τ x with
    |some (.bool true)=>xcode call T N n a τ σ
    |some (.bool false)=>xcode call T N n b τ σ
    |_=>none
  | .block id b=>match xcode call T N n b τ σ with
    |some (.exit id',τ',σ')=>match Nat.beq id' id with
     |true=>some (.normal,τ',σ')
     |false=>some (.exit id',τ',σ')
    |r=>r
  | .loop b=>match xcode call T N n b (tidy τ []) σ with
    |some (.normal,τ',σ')=>xcode call T N n (.loop b) τ' σ'
    |r=>r
  | .scope b=>match xcode call T N n b τ σ with
    |some (.goto _,_,_)=>none
    |r=>r
  | .region _ ops false=>match xops call T N ops ops.toList τ σ with
    |some (τ',σ')=>some (.normal,τ',σ')
    |none=>none
  | .region _ ops true=>match xdraw call T N ops τ σ with
    |some (τ',σ')=>some (.normal,τ',σ')
    |none=>none
  |_=>none
section
variable {i:Nat}{P:Program}{T:Tys}{call:CallF}{N:Nat}
theorem xcode_ok(hTy:TOk T P) (hC:CallsOk P call) (hm:P.follows .mixedOrders=true):∀(n:Nat),
 (∀(c:Code) (τ:Env) (σ:Sto) (e:AEx) (τ' :Env) (σ' :Sto),xcode call T N n c τ σ=some (e,τ',σ')→AWp i P N c τ σ (fun e' τ'' σ'' =>e' =e∧τ'' =τ'∧σ'' =σ'))∧
 (∀(c:Code) (τ:Env) (σ:Sto) (e:AEx) (τ' :Env) (σ' :Sto),xcode call T N n (.loop c) τ σ=some (e,τ',σ')→LWp i P N c τ σ (fun e' τ'' σ'' =>e' =e∧τ'' =τ'∧σ'' =σ'))
 |0=>⟨fun _ _ _ _ _ _ h=>by simp[xcode]at h,fun _ _ _ _ _ _ h=>by simp[xcode]at h⟩
 |n+1=>by
  obtain⟨ih1,ih2⟩:=xcode_ok hTy hC hm n
  have loop:∀(c:Code) (τ:Env) (σ:Sto) (e:AEx) (τ' :Env) (σ' :Sto),xcode call T N (n+1) (.loop c) τ σ=some (e,τ',σ')→LWp i P N c τ σ (fun e' τ'' σ'' =>e' =e∧τ'' =τ'∧σ'' =σ'):=by
   intro c τ σ e τ' σ' h
   simp only[xcode]at h
   refine lwp_round (AWp.sub (τ' :=tidy τ []) ?_ (fun t d hg=>(get_tidy τ [] t d hg).2))
   split at h
   ·rename_i τ1 σ1 h1
    refine(ih1 c _ σ _ _ _ h1).mono ?_
    rintro e' τ2 σ2 ⟨rfl,rfl,rfl⟩
    exact ih2 c _ _ e τ' σ' h
   ·rename_i hno
    refine(ih1 c _ σ _ _ _ h).mono ?_
    rintro e' τ2 σ2 ⟨rfl,rfl,rfl⟩
    cases e' with
    |normal=>exact absurd h (hno _ _)
    |exit id=>exact⟨rfl,rfl,rfl⟩
    |goto l=>exact⟨rfl,rfl,rfl⟩
    |ret=>exact⟨rfl,rfl,rfl⟩
  refine⟨fun c τ σ e τ' σ' h=> ?_,loop⟩
  cases c<;>(try (simp only[xcode]at h;cases h;done))
  case skip=>simp only[xcode,Option.some.injEq,Prod.mk.injEq]at h;exact awp_skip ⟨h.1▸rfl,h.2.1▸rfl,h.2.2▸rfl⟩
  case label=>simp only[xcode,Option.some.injEq,Prod.mk.injEq]at h;exact awp_label ⟨h.1▸rfl,h.2.1▸rfl,h.2.2▸rfl⟩
  case ret=>simp only[xcode,Option.some.injEq,Prod.mk.injEq]at h;exact awp_ret ⟨h.1▸rfl,h.2.1▸rfl,h.2.2▸rfl⟩
  case exit id=>simp only[xcode,Option.some.injEq,Prod.mk.injEq]at h;exact awp_exit ⟨h.1▸rfl,h.2.1▸rfl,h.2.2▸rfl⟩
  case seq a b=>
   simp only[xcode]at h
   refine awp_seq ?_
   split at h
   ·rename_i τ1 σ1 h1
    refine(ih1 a τ σ _ _ _ h1).mono ?_
    rintro e' τ2 σ2 ⟨rfl,rfl,rfl⟩
    exact ih1 b _ _ e τ' σ' h
   ·rename_i hno
    refine(ih1 a τ σ _ _ _ h).mono ?_
    rintro e' τ2 σ2 ⟨rfl,rfl,rfl⟩
    cases e' with
    |normal=>exact absurd h (hno _ _)
    |exit id=>exact⟨rfl,rfl,rfl⟩
    |goto l=>exact⟨rfl,rfl,rfl⟩
    |ret=>exact⟨rfl,rfl,rfl⟩
  case cond x a b=>
   simp only[xcode]at h
   split at h<;>try (cases h;done)
   ·rename_i hx;exact awp_condT hx (ih1 a τ σ _ _ _ h)
   ·rename_i hx;exact awp_condF hx (ih1 b τ σ _ _ _ h)
  case block id b=>
   simp only[xcode]at h
   refine awp_block ?_
   split at h
   ·rename_i id' τ1 σ1 h1
    refine(ih1 b τ σ _ _ _ h1).mono ?_
    rintro e' τ2 σ2 ⟨rfl,rfl,rfl⟩
    simp only[blockQ]
    split at h
    ·rename_i he
     have he:=nbeq he
     cases h
     rw[if_pos he];exact⟨rfl,rfl,rfl⟩
    ·rename_i he
     cases h
     rw[if_neg (fun e=>by subst e;rw[Nat.beq_refl]at he;cases he)];exact⟨rfl,rfl,rfl⟩
   ·rename_i hno
    refine(ih1 b τ σ _ _ _ h).mono ?_
    rintro e' τ2 σ2 ⟨rfl,rfl,rfl⟩
    cases e' with
    |normal=>exact⟨rfl,rfl,rfl⟩
    |exit id=>exact absurd h (hno _ _ _)
    |goto l=>exact⟨rfl,rfl,rfl⟩
    |ret=>exact⟨rfl,rfl,rfl⟩
  case scope b=>
   simp only[xcode]at h
   refine awp_scope ?_
   split at h
   ·cases h
   ·rename_i hno
    refine(ih1 b τ σ _ _ _ h).mono ?_
    rintro e' τ2 σ2 ⟨rfl,rfl,rfl⟩
    cases e' with
    |normal=>exact⟨rfl,rfl,rfl⟩
    |exit id=>exact⟨rfl,rfl,rfl⟩
    |goto l=>exact absurd h (hno _ _ _)
    |ret=>exact⟨rfl,rfl,rfl⟩
  case loop b=>exact awp_loop1 (loop b τ σ e τ' σ' h)
  case region id ops draw=>
   cases draw with
   |false=>
    simp only[xcode]at h
    split at h<;>try (cases h;done)
    rename_i τ1 σ1 h1
    cases h
    exact awp_region (xops_ok hTy hC _ _ _ _ _ h1 ⟨rfl,rfl,rfl⟩)
   |true=>
    simp only[xcode]at h
    split at h<;>try (cases h;done)
    rename_i τ1 σ1 h1
    cases h
    exact xdraw_ok hTy hC hm h1 ⟨rfl,rfl,rfl⟩
def xret(T:Tys) (rs:List ResultVar):Option (AEx×Env×Sto)→Option (D×Sto)
 |some (.normal,τ,σ)=>match resD T rs τ σ with
  |some d=>some (d,σ)
  |none=>none
 |some (.ret,τ,σ)=>match resD T rs τ σ with
  |some d=>some (d,σ)
  |none=>none
 |_=>none
theorem xret_ok{rs:List ResultVar}{r:Option (AEx×Env×Sto)}{d:D}{σ' :Sto}(h:xret T rs r=some (d,σ')):∃e τ,r=some (e,τ,σ')∧(e= .normal∨e= .ret)∧resD T rs τ σ' =some d:=by
 unfold xret at h
 split at h
 ·split at h<;>try (cases h;done)
  rename_i d' hd
  cases h
  exact⟨_,_,rfl,.inl rfl,hd⟩
 ·split at h<;>try (cases h;done)
  rename_i d' hd
  cases h
  exact⟨_,_,rfl,.inr rfl,hd⟩
 ·cases h
def xfn(call:CallF) (T:Tys) (fn:Func) (ds:List D) (σ:Sto):Option (D×Sto):=
 match fn.body,Nat.ble ds.length fn.ntmps with
 |some c,true=>xret T fn.results.toList (xcode call T fn.ntmps 100000 c (env0 0 ds) σ)
 |_,_=>none
theorem xfn_ok(hTy:TOk T P) (hC:CallsOk P call) (hm:P.follows .mixedOrders=true) {f:FuncId}{fn:Func}{ds:List D}{σ σ' :Sto}{d:D}(hf:P.funcs[f]? =some fn)
 (h:xfn call T fn ds σ=some (d,σ')):ACall P f ds σ (fun d' s=>d' =d∧s=σ'):=by
 unfold xfn at h
 split at h<;>try (cases h;done)
 rename_i c hb hn
 obtain⟨e,τ,hr,he,hd⟩:=xret_ok h
 refine acall_body hTy hf hb (Nat.le_of_ble_eq_true hn) (((xcode_ok hTy hC hm _).1 c _ σ e τ σ' hr).mono ?_)
 rintro e' τ' s ⟨rfl,rfl,rfl⟩
 exact⟨he,d,hd,rfl,rfl⟩
def xcallO(O:FuncId→Bool) (K:FuncId→List D→Option D) (P:Program) (T:Tys):Nat→CallF
 |0=>fun _ _ _=>none
 |n+1=>fun f ds σ=>match O f with
  |true=>match okF P f with
   |some fn=>xfn (xcallO O K P T n) T fn ds σ
   |none=>none
  |false=>match frzCs σ ds with
   |some (ds',σ1)=>match K f ds' with
    |some d=>some (d,σ1)
    |none=>match okF P f with
     |some fn=>match pureL ds' with
      |true=>match xfn (xcallO O K P T n) T fn ds' [] with
       |some (d,σ')=>match frzR σ' d with
        |some (d',_)=>match d'.pure with
         |true=>some (d',σ1)
         |false=>none
        |none=>none
       |none=>none
      |false=>xfn (xcallO O K P T n) T fn ds' σ1
     |none=>none
   |none=>none
abbrev xcall(K:FuncId→List D→Option D) (P:Program) (T:Tys):Nat→CallF:=xcallO (fun _=>false) K P T
theorem xcallO_ok{O:FuncId→Bool}{K:FuncId→List D→Option D}(hTy:TOk T P) (hK:KOk P K) (hm:P.follows .mixedOrders=true):∀n,CallsOk P (xcallO O K P T n)
 |0=>fun _ _ _ _ _ h=>by simp[xcallO]at h
 |n+1=>by
  have ih:=xcallO_ok (O:=O) hTy hK hm n
  intro f ds σ d σ' h
  simp only[xcallO]at h
  split at h
  ·split at h<;>try (cases h;done)
   rename_i fn hfn
   obtain⟨h1,h2⟩:=fok_of hfn
   exact⟨h2,xfn_ok hTy ih hm h1 h⟩
  ·split at h<;>try (cases h;done)
   rename_i ds' σ1 hfz
   have key:FnOk P f∧ACall P f ds' σ1 (fun d' s=>d' =d∧s=σ'):=by
    split at h
    ·rename_i d' hk
     cases h
     obtain⟨h1,h2⟩:=hK _ _ _ hk
     exact⟨h1,h2.acall _⟩
    ·split at h<;>try (cases h;done)
     rename_i fn hfn
     obtain⟨h1,h2⟩:=fok_of hfn
     refine⟨h2,?_⟩
     split at h
     ·rename_i hp
      split at h<;>try (cases h;done)
      rename_i d1 σ2 hx
      split at h<;>try (cases h;done)
      rename_i d2 σ3 hz
      split at h<;>try (cases h;done)
      rename_i hpd
      cases h
      have:=pure_of_call (P:=P) (f:=f) (d:=d) hp ((xfn_ok hTy ih hm h1 hx).mono (by rintro d' s ⟨rfl,rfl⟩;exact⟨_,hz,hpd⟩))
      exact this.acall _
     ·exact xfn_ok hTy ih hm h1 h
   exact⟨key.1,acall_frz hfz key.2⟩
theorem pure_of_run{K:FuncId→List D→Option D}(hTy:TOk T P) (hK:KOk P K) (hm:P.follows .mixedOrders=true) {n:Nat}{f:FuncId}{ds:List D}{d:D}
 (hp:pureL ds=true) (hpd:d.pure=true) (hz:frzR [] d=some (d,[])) (h:xcall K P T n f ds []=some (d,[])):PureOK P f ds d:=by
 obtain⟨h1,h2⟩:=xcallO_ok hTy hK hm n _ _ _ _ _ h
 exact pure_of_call hp (h2.mono (by rintro d' s ⟨rfl,rfl⟩;exact⟨_,hz,hpd⟩))
end
end Go.Fw
