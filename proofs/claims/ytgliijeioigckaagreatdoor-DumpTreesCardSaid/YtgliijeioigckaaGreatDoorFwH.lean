/- A framework for proofs about Go programs in this model: part H. Everything is proved; no condition is added. -/
import Derived.Test.YtgliijeioigckaaGreatDoorFwG
import Derived.Test.YtgliijeioigckaaGreatDoorFwE
set_option linter.unusedVariables false
set_option linter.unusedSimpArgs false
namespace Go.Fw
open Go.RowKit
def memN(x:Nat) (l:List Nat):Bool:=l.any (Nat.beq x)
theorem memN_iff{x:Nat}{l:List Nat}:memN x l=true↔x ∈ l:=by
 unfold memN
 rw[List.any_eq_true]
 constructor
 ·rintro⟨y,hy,h⟩;rw[nbeq h];exact hy
 ·intro h;exact⟨x,h,Nat.beq_refl x⟩
theorem memN_false{x:Nat}{l:List Nat}:memN x l=false↔x ∉ l:=by
 rw[←memN_iff];simp
def disjN(a b:List Nat):Bool:=a.all fun x=> !memN x b
theorem disjN_ok{a b:List Nat}(h:disjN a b=true):∀x ∈ a,x ∉ b:=by
 intro x hx
 have:=List.all_eq_true.1 h x hx
 simp only[Bool.not_eq_true']at this
 exact memN_false.1 this
def hidOk(A:Res) (m:Nat) (fp:List Nat):Bool:=A.all fun x=>Nat.testBit m x.1|| !memN x.2.1 fp
theorem subsA_mem{m:Nat}:∀{A:Res}{ls:List Nat},ls ∈ subsA A m→∀l ∈ ls,∃x ∈ A,x.2.1=l∧Nat.testBit m x.1=false
 |[],ls,h,l,hl=>by simp[subsA]at h;subst h;simp at hl
 |(j,a,cs)::A,ls,h,l,hl=>by
  simp only[subsA]at h
  split at h
  ·obtain⟨x,hx,h1⟩:=subsA_mem h l hl
   exact⟨x,List.mem_cons_of_mem _ hx,h1⟩
  ·rename_i hb
   rcases List.mem_append.1 h with h|h
   ·obtain⟨x,hx,h1⟩:=subsA_mem h l hl
    exact⟨x,List.mem_cons_of_mem _ hx,h1⟩
   ·obtain⟨ls',h1,rfl⟩:=List.mem_map.1 h
    rcases List.mem_cons.1 hl with rfl|hl
    ·exact⟨_,List.mem_cons_self ..,rfl,hb⟩
    ·obtain⟨x,hx,h2⟩:=subsA_mem h1 l hl
     exact⟨x,List.mem_cons_of_mem _ hx,h2⟩
theorem hidOk_ok{A:Res}{m:Nat}{fp ls:List Nat}(h:hidOk A m fp=true) (hl:ls ∈ subsA A m):∀l ∈ fp,l ∉ ls:=by
 intro l hf hm
 obtain⟨x,hx,rfl,hb⟩:=subsA_mem hl l hm
 have:=List.all_eq_true.1 h x hx
 simp only[hb,Bool.false_or,Bool.not_eq_true']at this
 exact memN_false.1 this hf
theorem keepS_sub{m:Nat}{s:Sto}:∀{S:List Sto}{C:List Nat},s ∈ keepS m S C→∃k:Nat,S[k]? =some s∧∀(k' c:Nat),k≤k'→C[k']? =some c→Nat.testBit m c=false
 |[],_,h=>by simp[keepS]at h
 |a::S,C,h=>by
  have rest:s ∈ keepS m S C.tail→∃k:Nat,(a::S)[k]? =some s∧∀(k' c:Nat),k≤k'→C[k']? =some c→Nat.testBit m c=false:=by
   intro h
   obtain⟨k,h1,h2⟩:=keepS_sub h
   refine⟨k+1,by simpa using h1,fun k' c hk hc=> ?_⟩
   match k',hk with
   |k' +1,hk=>exact h2 k' c (by omega) (by rw[List.getElem?_tail];exact hc)
  simp only[keepS]at h
  split at h
  ·rename_i ha
   rcases List.mem_cons.1 h with rfl|h
   ·refine⟨0,rfl,fun k' c _ hc=> ?_⟩
    have:=List.all_eq_true.1 ha c (List.mem_of_getElem? hc)
    simpa using this
   ·exact rest h
  ·exact rest h
theorem AllP.mk{α:Type}{f:α→Prop}:∀{l:List α},(∀x ∈ l,f x)→AllP f l
 |[],_=>trivial
 |x::l,h=>⟨h x (List.mem_cons_self ..),AllP.mk fun y hy=>h y (List.mem_cons_of_mem _ hy)⟩
theorem hide_keep{ls:List Nat}{σ:Sto}{l:Nat}(h:l ∉ ls):(hide ls σ)[l]? =σ[l]? :=by
 rw[hide_get,if_neg (fun x=>h x.1)]
theorem hide_upd{ls fp:List Nat}{σ:Sto}{up:Upd}(hf:up.inFp fp) (h:∀l ∈ fp,l ∉ ls) (hl:∀l ∈ ls,l<σ.length):up.ap (hide ls σ)=hide ls (up.ap σ):=by
 cases up with
 |same=>rfl
 |set l ob=>
  simp only[Upd.inFp]at hf
  simp only[Upd.ap]
  refine List.ext_getElem? fun x=> ?_
  rw[hide_get,List.getElem?_set,hide_len,hide_get,List.length_set,List.getElem?_set]
  by_cases e:l=x
  ·subst e
   have:¬(l ∈ ls∧l<σ.length):=fun y=>h l hf y.1
   simp[this]
  ·simp[e]
 |push ob=>
  simp only[Upd.ap]
  refine List.ext_getElem? fun x=> ?_
  rw[hide_get,List.length_append,List.length_singleton]
  rcases Nat.lt_or_ge x σ.length with hx|hx
  ·rw[List.getElem?_append_left (by rw[hide_len];exact hx),hide_get,List.getElem?_append_left hx]
   by_cases hm:x ∈ ls
   ·rw[if_pos ⟨hm,hx⟩,if_pos ⟨hm,by omega⟩]
   ·rw[if_neg (fun y=>hm y.1),if_neg (fun y=>hm y.1)]
  ·rw[List.getElem?_append_right (by rw[hide_len];exact hx),hide_len,if_neg (fun y=>by have:=hl x y.1;omega),List.getElem?_append_right hx]
theorem upd_keep{fp:List Nat}{σ:Sto}{up:Upd}(hf:up.inFp fp) {l:Nat}(h:l ∉ fp) (hl:l≠σ.length):(up.ap σ)[l]? =σ[l]? :=by
 cases up with
 |same=>rfl
 |set k ob=>
  simp only[Upd.inFp]at hf
  simp only[Upd.ap]
  rw[List.getElem?_set,if_neg (fun e=>h (by rw[←e];exact hf))]
 |push ob=>
  simp only[Upd.ap]
  rcases Nat.lt_or_ge l σ.length with hx|hx
  ·rw[List.getElem?_append_left hx]
  ·rw[List.getElem?_eq_none hx,List.getElem?_eq_none (by simp;omega)]
theorem upd_len{σ:Sto}(up:Upd):σ.length≤(up.ap σ).length:=by
 cases up<;>simp[Upd.ap]
def srst(ops:Array Oper) (o:Oper) (τ:SEnv):SEnv:=τ.filter fun p=>(o.looksAt ops).contains p.1
theorem sget_filter{p:Nat→Bool}:∀{τ:SEnv}{t:Nat}{v:SV},sget (τ.filter fun q=>p q.1) t=some v→p t=true∧sget τ t=some v
 |[],_,_,h=>by simp[sget]at h
 |(i,x)::r,t,v,h=>by
  rw[List.filter_cons]at h
  split at h
  ·rename_i hp
   rw[sget_cons]at h⊢
   split at h
   ·rename_i e;subst e;rw[if_pos rfl];exact⟨hp,h⟩
   ·rename_i e;rw[if_neg e];exact sget_filter h
  ·rename_i hp
   obtain⟨h1,h2⟩:=sget_filter h
   rw[sget_cons,if_neg (fun e=>hp (by rw[show i=t from e];exact h1))]
   exact⟨h1,h2⟩
theorem get_filter'{p:Nat→Bool}:∀{τ:Env}{t:Nat}{d:D},p t=true→get τ t=some d→get (τ.filter fun q=>p q.1) t=some d
 |[],_,_,_,h=>by simp[get]at h
 |(i,x)::r,t,d,hp,h=>by
  rw[List.filter_cons]
  simp only[get]at h
  split at h
  ·rename_i e
   split
   ·simp only[get,if_pos e];exact h
   ·rename_i hn;exact absurd (by rw[show i=t from e];exact hp) hn
  ·rename_i e
   have ih:=get_filter' hp h
   split
   ·simp only[get,if_neg e];exact ih
   ·exact ih
theorem ER.rst{S:SSto}{σ:Sto}{τ:SEnv}{τ' :Env}(h:ER S σ τ τ') (ops:Array Oper) (o:Oper):ER S σ (srst ops o τ) (rst ops o τ'):=by
 intro t v hv
 obtain⟨h1,h2⟩:=sget_filter (p:=fun t=>(o.looksAt ops).contains t) hv
 obtain⟨d,h3,h4⟩:=h t v h2
 exact⟨d,get_filter' (p:=fun t=>(o.looksAt ops).contains t) h1 h3,h4⟩
end Go.Fw
namespace Go.Fw
open Go.RowKit
abbrev DCh:=List (Nat×List Nat)
structure DI (P:Program) (N:Nat) (A:Res) (M:List Nat) (i:Nat) (σ:Sto) (Ss:List Sto) (tab:List Rc) (done rest:Res) (Rd Ch:DCh):Prop where
 last:Ss.getLast? =some σ
 len:Ss.length=Ch.length+1
 old:∀(k:Nat) s,Ss[k]? =some s→∀l,(∀(m:Nat) c,Ch[m]? =some c→k≤m→l ∉ c.2)→s[l]? =σ[l]?
 ini:∀x ∈ A,(∀c ∈ Ch,x.2.1 ∉ c.2)→σ[x.2.1]? =some (.cells x.2.2 0 0)
 alt:∀x ∈ A,x.2.1<σ.length
 rd:∀(j:Nat) rc,tab[j]? =some rc→rc.kd= .read→(∀c ∈ Ch,Nat.testBit (M.getD c.1 0) j=false)→
  ∃fp,(j,fp) ∈ Rd∧(∀s:Sto,(∀l ∈ fp,s[l]? =σ[l]?)→AOp P N rc.o rc.env s fun d' s' =>d' =rc.v∧s' =s)∧hidOk A (M.getD j 0) fp=true
 all:A=done++rest
 dn:∀x ∈ done,x.1<i∧∃r,tab[x.1]? =some r∧r.kd= .alloc x.2.1 x.2.2
 tl:tab.length=i
section
variable {P:Program}{N i:Nat}{A:Res}{M:List Nat}{σ:Sto}{Ss:List Sto}{tab:List Rc}{done rest:Res}{Rd Ch:DCh}{o:Oper}{env:Env}{d:D}
theorem tab_push{rc:Rc}{x:Rc}{j:Nat}(h:(tab++[rc])[j]? =some x):tab[j]? =some x∨(j=tab.length∧x=rc):=by
 rcases push_get h with h|h
 ·exact .inl h.2
 ·exact .inr h
theorem DI.dn'(h:DI P N A M i σ Ss tab done rest Rd Ch) (rc:Rc):∀x ∈ done,x.1<i+1∧∃r,(tab++[rc])[x.1]? =some r∧r.kd= .alloc x.2.1 x.2.2:=by
 intro x hx
 obtain⟨h1,r,h2,h3⟩:=h.dn x hx
 exact⟨by omega,r,push_old h2,h3⟩
theorem DI.skip(h:DI P N A M i σ Ss tab done rest Rd Ch):DI P N A M (i+1) σ Ss (tab++[⟨o,env,d,.skip⟩]) done rest Rd Ch where
 last:=h.last
 len:=h.len
 old:=h.old
 ini:=h.ini
 alt:=h.alt
 rd:=fun j rc hj hk hc=>by
  rcases tab_push hj with hj|⟨_,rfl⟩
  ·exact h.rd j rc hj hk hc
  ·cases hk
 all:=h.all
 dn:=h.dn' _
 tl:=by simp[h.tl]
theorem DI.alloc{l:Nat}{cs:List D}(h:DI P N A M i σ Ss tab done ((i,l,cs)::rest) Rd Ch):DI P N A M (i+1) σ Ss (tab++[⟨o,env,d,.alloc l cs⟩]) (done++[(i,l,cs)]) rest Rd Ch where
 last:=h.last
 len:=h.len
 old:=h.old
 ini:=h.ini
 alt:=h.alt
 rd:=fun j rc hj hk hc=>by
  rcases tab_push hj with hj|⟨_,rfl⟩
  ·exact h.rd j rc hj hk hc
  ·cases hk
 all:=by rw[h.all];simp
 dn:=fun x hx=>by
  rcases List.mem_append.1 hx with hx|hx
  ·exact h.dn' _ x hx
  ·simp at hx
   subst hx
   exact⟨by simp,⟨o,env,d,.alloc l cs⟩,by rw[List.getElem?_append_right (by simp[h.tl])];simp[h.tl],rfl⟩
 tl:=by simp[h.tl]
theorem DI.res{l:Nat}{cs:List D}(h:DI P N A M i σ Ss tab done ((i,l,cs)::rest) Rd Ch):resOf? A i=some (l,cs):=by
 unfold resOf?
 have:A.find? (fun x=>x.1==i)=some (i,l,cs):=by
  rw[h.all,List.find?_append]
  have:done.find? (fun x=>x.1==i)=none:=by
   rw[List.find?_eq_none]
   intro x hx
   have:=(h.dn x hx).1
   simp
   omega
  rw[this]
  simp
 rw[this]
theorem DI.read{fp:List Nat}(h:DI P N A M i σ Ss tab done rest Rd Ch) (hop:∀s:Sto,(∀l ∈ fp,s[l]? =σ[l]?)→AOp P N o env s fun d' s' =>d' =d∧s' =s) (hh:hidOk A (M.getD i 0) fp=true):
 DI P N A M (i+1) σ Ss (tab++[⟨o,env,d,.read⟩]) done rest (Rd++[(i,fp)]) Ch where
 last:=h.last
 len:=h.len
 old:=h.old
 ini:=h.ini
 alt:=h.alt
 rd:=fun j rc hj hk hc=>by
  rcases tab_push hj with hj|⟨hjl,rfl⟩
  ·obtain⟨fp,h1,h2⟩:=h.rd j rc hj hk hc
   exact⟨fp,List.mem_append_left _ h1,h2⟩
  ·have e:=hjl.trans h.tl
   subst e
   exact⟨fp,by simp,hop,hh⟩
 all:=h.all
 dn:=h.dn' _
 tl:=by simp[h.tl]
theorem DI.reads{fp:List Nat}(h:DI P N A M i σ Ss tab done rest Rd Ch) (hop:∀s:Sto,(∀l ∈ fp,s[l]? =σ[l]?)→AOp P N o env s fun d' s' =>d' =d∧s' =s) (hh:hidOk A (M.getD i 0) fp=true)
 (hc:(Ch.all fun c=>Nat.testBit (M.getD i 0) c.1||disjN fp c.2)=true):
 AllP (fun s=>AOp P N o env s fun d' s' =>d' =d∧s' =s) ((keepS (M.getD i 0) Ss (Ch.map (·.1))).flatMap fun σ=>(subsA A (M.getD i 0)).map (hide · σ)):=by
 refine AllP.mk fun s hs=> ?_
 obtain⟨s0,h0,hs⟩:=List.mem_flatMap.1 hs
 obtain⟨ls,hls,rfl⟩:=List.mem_map.1 hs
 obtain⟨k,hk,hm⟩:=keepS_sub h0
 refine hop _ fun l hl=> ?_
 rw[hide_keep (hidOk_ok hh hls l hl)]
 refine h.old k s0 hk l fun m c hcm hkm=> ?_
 have h1:=List.all_eq_true.1 hc c (List.mem_of_getElem? hcm)
 have h2:=hm m c.1 hkm (by simp[hcm])
 rw[h2,Bool.false_or]at h1
 exact disjN_ok h1 l hl
def chChk(A:Res) (m:Nat) (fp:List Nat) (n:Nat) (Rd Ch:DCh):Bool:=
 chOk m (Ch.map (·.1))&&(hidOk A m fp&&((Rd.all fun q=>Nat.testBit m q.1||disjN q.2 (fp++[n]))&&A.all fun x=>Nat.testBit m x.1||(!memN x.2.1 fp&&Ch.all fun c=> !memN x.2.1 c.2)))
theorem DI.agree{fp:List Nat}{up:Upd}(hf:up.inFp fp) {l:Nat}(hl:l ∉ fp++[σ.length]):(up.ap σ)[l]? =σ[l]? :=by
 simp only[List.mem_append,List.mem_singleton,not_or]at hl
 exact upd_keep hf hl.1 hl.2
theorem DI.chain{fp:List Nat}{up:Upd}(h:DI P N A M i σ Ss tab done rest Rd Ch) (hf:up.inFp fp) (hc:chChk A (M.getD i 0) fp σ.length Rd Ch=true) (k:Nat):
 DI P N A M (i+1) (up.ap σ) (Ss++[up.ap σ]) (tab++[⟨o,env,d,.chain k⟩]) done rest Rd (Ch++[(i,fp++[σ.length])]):=by
 unfold chChk at hc
 simp only[Bool.and_eq_true,List.all_eq_true,Bool.or_eq_true]at hc
 obtain⟨_,_,hR,_⟩:=hc
 refine⟨by simp,by simp[h.len],?_,?_,?_,?_,h.all,h.dn' _,by simp[h.tl]⟩
 ·intro k s hk l hl
  rcases push_get hk with⟨h1,hk⟩|⟨h1,rfl⟩
  ·rw[DI.agree hf]
   ·exact h.old k s hk l fun m c hm hkm=>hl m c (push_old hm) hkm
   ·exact hl Ch.length (i,fp++[σ.length]) (by simp) (by have:=h.len;omega)
  ·rfl
 ·intro x hx hl
  rw[DI.agree hf (hl _ (List.mem_append_right _ (List.mem_singleton.2 rfl)))]
  exact h.ini x hx fun c hc=>hl c (List.mem_append_left _ hc)
 ·intro x hx
  exact Nat.lt_of_lt_of_le (h.alt x hx) (upd_len up)
 ·intro j rc hj hk hcc
  rcases tab_push hj with hj|⟨_,rfl⟩
  ·obtain⟨fp',h1,h2,h3⟩:=h.rd j rc hj hk fun c hc=>hcc c (List.mem_append_left _ hc)
   refine⟨fp',h1,fun s hs=>h2 s fun l hl=> ?_,h3⟩
   rw[hs l hl]
   refine DI.agree hf ?_
   have h4:=hR _ h1
   have h5:=hcc (i,fp++[σ.length]) (List.mem_append_right _ (List.mem_singleton.2 rfl))
   simp only at h4 h5
   rcases h4 with h4|h4
   ·rw[h4]at h5;cases h5
   ·exact disjN_ok h4 l hl
  ·cases hk
theorem reS_sub{C:List Nat}{σ:Sto}{q:Rc×Sto}:∀{tab:List Rc}{j0:Nat},q ∈ reS A M C σ j0 tab→∃(j:Nat) (ls:List Nat),tab[j]? =some q.1∧q.1.kd= .read∧(∀c ∈ C,Nat.testBit (M.getD c 0) (j0+j)=false)∧ls ∈ subsA A (M.getD (j0+j) 0)∧q.2=hide ls σ
 |[],_,h=>by simp[reS]at h
 |r::rs,j0,h=>by
  have rest:q ∈ reS A M C σ (j0+1) rs→∃(j:Nat) (ls:List Nat),(r::rs)[j]? =some q.1∧q.1.kd= .read∧(∀c ∈ C,Nat.testBit (M.getD c 0) (j0+j)=false)∧ls ∈ subsA A (M.getD (j0+j) 0)∧q.2=hide ls σ:=by
   intro h
   obtain⟨j,ls,h1,h2,h3,h4,h5⟩:=reS_sub h
   exact⟨j+1,ls,by simpa using h1,h2,by rw[show j0+(j+1)=j0+1+j from by omega];exact h3,by rw[show j0+(j+1)=j0+1+j from by omega];exact h4,h5⟩
  simp only[reS]at h
  split at h
  ·rename_i hk
   split at h
   ·rename_i hall
    rcases List.mem_append.1 h with h|h
    ·obtain⟨ls,h1,rfl⟩:=List.mem_map.1 h
     exact⟨0,ls,rfl,hk,fun c hc=>by simpa using List.all_eq_true.1 hall c hc,h1,rfl⟩
    ·exact rest h
   ·exact rest h
  ·exact rest h
theorem DI.chains{fp:List Nat}{up:Upd}(h:DI P N A M i σ Ss tab done rest Rd Ch) (hf:up.inFp fp) (hc:chChk A (M.getD i 0) fp σ.length Rd Ch=true)
 (hop:∀s:Sto,(∀l ∈ fp,s[l]? =σ[l]?)→s.length=σ.length→AOp P N o env s fun d' s' =>d' =d∧s' =Upd.ap up s):
 chOk (M.getD i 0) (Ch.map (·.1))=true∧AllP (fun ls=>AOp P N o env (hide ls σ) fun d' s' =>d' =d∧s' =hide ls (up.ap σ)) (subsA A (M.getD i 0))∧
  AllP (fun(x:Rc×Sto)=>AOp P N x.1.o x.1.env x.2 fun d' s' =>d' =x.1.v∧s' =x.2) (reS A M (Ch.map (·.1)++[i]) (up.ap σ) 0 tab)∧
  AllP (fun(x:Nat×Nat×List D)=>match Nat.testBit (M.getD i 0) x.1 with|true=>True|false=>(up.ap σ)[x.2.1]? =some (.cells x.2.2 0 0)) A:=by
 have hc0:=hc
 unfold chChk at hc
 simp only[Bool.and_eq_true,List.all_eq_true,Bool.or_eq_true,Bool.not_eq_true']at hc
 obtain⟨h1,h2,h3,h4⟩:=hc
 have halt:∀ls,ls ∈ subsA A (M.getD i 0)→∀l ∈ ls,l<σ.length:=by
  intro ls hls l hl
  obtain⟨x,hx,rfl,_⟩:=subsA_mem hls l hl
  exact h.alt x hx
 refine⟨h1,AllP.mk fun ls hls=> ?_,AllP.mk fun q hq=> ?_,AllP.mk fun x hx=> ?_⟩
 ·rw[←hide_upd hf (hidOk_ok h2 hls) (halt ls hls)]
  exact hop _ (fun l hl=>hide_keep (hidOk_ok h2 hls l hl)) (hide_len _ _)
 ·obtain⟨j,ls,k1,k2,k3,k4,k5⟩:=reS_sub hq
  simp only[Nat.zero_add]at k3 k4
  have hD:=h.chain (o:=o) (env:=env) (d:=d) hf hc0 0
  obtain⟨fp',m1,m2,m3⟩:=hD.rd j q.1 (push_old k1) k2 (fun c hcm=>k3 c.1 (by
   rcases List.mem_append.1 hcm with hcm|hcm
   ·exact List.mem_append_left _ (List.mem_map.2 ⟨c,hcm,rfl⟩)
   ·simp at hcm;subst hcm;exact List.mem_append_right _ (List.mem_singleton.2 rfl)))
  rw[k5]
  exact m2 _ fun l hl=>hide_keep (hidOk_ok m3 k4 l hl)
 ·split
  ·trivial
  ·rename_i hb
   have h5:=h4 x hx
   rw[hb]at h5
   simp only[Bool.false_eq_true,false_or]at h5
   rw[upd_keep hf (memN_false.1 h5.1) (by have:=h.alt x hx;omega)]
   exact h.ini x hx fun c hcm=>memN_false.1 (h5.2 c hcm)
end
end Go.Fw
namespace Go.Fw
open Go.RowKit
def isW(own:Option OH):Op→Bool
 | .alloc _=>true
 | .box _ _=>true
 | .store _ _ _=>true
 | .call c=>match c.callee with
   | .builtin .append=>true
   | .builtin _=>false
   |_=>match own with
    |some .res=>true
    |_=>false
 |_=>false
def sCtrOD{α:Type}(f:FuncId) (S:SSto) (vs:List SV) (K:SV→SSto→Option α):List (FuncId×CtrO)→Option α
 |[]=>none
 |(g,c)::r=>match Nat.beq g f with
  |false=>sCtrOD f S vs K r
  |true=>match (PV.gets S c.ap vs).bind (toTup _) with
   |some x=>(c.fn x).bind fun y=>K (.own S.length 0) (S++[.arr c.t y false 0])
   |none=>sCtrOD f S vs K r
def isCall:Op→Option Call
 | .call c=>match c.callee with
   | .builtin _=>none
   |_=>some c
 |_=>none
def fpW(τ:SEnv):Op→List Nat
 | .store _ p _=>fpO τ p
 | .call c=>match c.args.toList with
   |[x,y]=>fpO τ x++fpO τ y
   |_=>[]
 |_=>[]
section
variable {α:Type}
def sW(T:Tys) (H:Tr TC) (CO:List (FuncId×CtrO)) (own:Option OH) (τ:SEnv) (S:SSto) (op:Op) (K:SV→SSto→Option α):Option α:=match op with
 | .alloc e=>sAlloc T S e K
 | .box _ x=>withV τ x fun v=>sBox S v K
 | .store t p x=>withV τ p fun vp=>withV τ x fun vx=>sStore T S t vp vx K
 | .call c=>match c.callee with
   | .builtin .append=>match c.args.toList,c.argTypes.toList with
     |[x,y],[t,tx]=>withV τ x fun v=>withV τ y fun w=>sApp T H S t tx v w K
     |_,_=>none
   | .builtin _=>none
   |_=>match own with
    |some .res=>(sCallee T τ c).bind fun p=>sCtrOD p.1 S p.2 K CO
    |_=>none
 |_=>none
def sCtrD(f:FuncId) (S:SSto) (vs:List SV) (K:SV→Option α):List (FuncId×Ctr)→Option α
 |[]=>none
 |(g,c)::r=>match Nat.beq g f with
  |false=>sCtrD f S vs K r
  |true=>match (PV.gets S c.ap vs).bind (toTup _) with
   |some x=>(c.fn x).bind fun y=>(c.rp.put (fun _=>0) (fromTup _ y)).bind fun w=>K w.1
   |none=>sCtrD f S vs K r
end
section
variable {α:Type}{P:Program}{T:Tys}{N:Nat}{o:Oper}{S:SSto}{σ:Sto}{τ:SEnv}{τ' :Env}{r:α}
theorem fpO_eq{x:Operand}{v:SV}(h:sev τ x=some v):fpO τ x=fpV v:=by unfold fpO;rw[h]
theorem sCtrOD_ok(tok:TOk T P) {f:FuncId}{vs:List SV}{ds:List D}{cl:Call}{fp:List Nat}{K:SV→SSto→Option α}(ho:o.op= .call cl) (hc:callD T τ' cl=some (f,ds)) (hS:StR S σ) (hv:VRs S σ vs ds):
 ∀(C:List (FuncId×CtrO)),(∀g c,(g,c) ∈ C→CtrOOk P g c)→sCtrOD f S vs K C=some r→WOk P N o S σ τ' fp K r
 |[],_,h=>by simp[sCtrOD]at h
 |(g,c)::C,hC,h=>by
  simp only[sCtrOD]at h
  split at h
  ·exact sCtrOD_ok tok ho hc hS hv C (fun g c hm=>hC g c (List.mem_cons_of_mem _ hm)) h
  ·rename_i hg
   have hg:=nbeq hg
   subst hg
   split at h
   ·rename_i x hx
    obtain⟨l,hl,hx⟩:=bind_inv hx
    obtain⟨y,hy,h4⟩:=bind_inv h
    obtain⟨hf,hca,hC⟩:=hC g c (List.mem_cons_self ..)
    have hC:=hC x y hy
    have hfrom:=toTup_from _ hx
    obtain⟨ds',k2,k3,kG⟩:=PV.gets_ok (objs:=[]) _ _ l ds hl hca hv
    obtain⟨vs',k1,k4⟩:=kG fun _=>0
    have k1:=k1 []
    rw[List.append_nil,←hfrom]at k1
    have hP:=hC vs' k1 ds' (k4 [] [] (HO_nil _ _ _ _ _))
    refine⟨_,_,.sl σ.length (c.t.flat y).length 0 y.length c.t.sz false,.push (.cells (c.t.flat y) 0 (c.t.flat y).length),h4,fun s _ hsl=> ?_,?_,hS.push ⟨0,_,rfl,fun _=>rfl⟩,Pres.push hS.len _ _,trivial⟩
    ·rw[←hsl]
     exact aop_callG tok ho hc (Ghos.weak k2) hf (hP s)
    ·simp only[VR]
     exact .mk (t:=c.t) (xs:=y) (fz:=false) (fr:=0) (u:=(c.t.flat y).length) (by simp) (by rw[hS.len];simp[Upd.ap]) (by rw[hS.len])
   ·exact sCtrOD_ok tok ho hc hS hv C (fun g c hm=>hC g c (List.mem_cons_of_mem _ hm)) h
theorem sW_ok(tok:TOk T P) {H:Tr TC}{CO:List (FuncId×CtrO)}(hCO:∀g c,(g,c) ∈ CO→CtrOOk P g c) {own:Option OH}(hS:StR S σ) (hE:ER S σ τ τ') {op:Op}(ho:o.op=op) {K:SV→SSto→Option α}(h:sW T H CO own τ S op K=some r):WOk P N o S σ τ' (fpW τ op) K r:=by
 cases op<;>simp only[sW]at h<;>try (cases h;done)
 case alloc e=>exact sAlloc_ok tok hS ho h
 case box t x=>
  obtain⟨v,hv,h⟩:=withV_inv h
  exact sBox_ok tok hS hE ho hv h
 case store t p x=>
  obtain⟨vp,hvp,h⟩:=withV_inv h
  obtain⟨vx,hvx,h⟩:=withV_inv h
  have:=sStore_ok (N:=N) tok hS hE ho hvp hvx h
  simp only[fpW,fpO_eq hvp]
  exact this
 case call c=>
  split at h<;>try (cases h;done)
  rotate_left
  ·split at h<;>try (cases h;done)
   obtain⟨p,hp,h⟩:=bind_inv h
   obtain⟨ds,h1,h2⟩:=sCallee_ok hE hp
   exact sCtrOD_ok tok ho h1 hS h2 CO hCO h
  rename_i hb
  split at h<;>try (cases h;done)
  rename_i x y t tx hxs hts
  obtain⟨v,hv,h⟩:=withV_inv h
  obtain⟨w,hw,h⟩:=withV_inv h
  simp only[fpW,hxs,fpO_eq hv,fpO_eq hw]
  refine sApp_ok tok hS hE (a:=x) (b:=y) ?_ hv hw h
  obtain⟨ce,ar,at'⟩:=c
  simp only at hb hxs hts
  subst hb
  have e1:ar= #[x,y]:=Array.ext' (by simpa using hxs)
  have e2:at' = #[t,tx]:=Array.ext' (by simpa using hts)
  rw[ho,e1,e2]
theorem sCtrD_ok(tok:TOk T P) {f:FuncId}{vs:List SV}{ds:List D}{cl:Call}{K:SV→Option α}(ho:o.op= .call cl) (hc:callD T τ' cl=some (f,ds)) (hv:VRs S σ vs ds):
 ∀(C:List (FuncId×Ctr)),(∀g c,(g,c) ∈ C→CtrOk P g c)→sCtrD f S vs K C=some r→∃v d,K v=some r∧VR S σ v d∧∀s,AOp P N o τ' s fun d' s' =>d' =d∧s' =s
 |[],_,h=>by simp[sCtrD]at h
 |(g,c)::C,hC,h=>by
  simp only[sCtrD]at h
  split at h
  ·exact sCtrD_ok tok ho hc hv C (fun g c hm=>hC g c (List.mem_cons_of_mem _ hm)) h
  ·rename_i hg
   have hg:=nbeq hg
   subst hg
   split at h
   ·rename_i x hx
    obtain⟨l,hl,hx⟩:=bind_inv hx
    obtain⟨y,hy,h4⟩:=bind_inv h
    obtain⟨w,hw,h5⟩:=bind_inv h4
    obtain⟨hf,hca,hcr,hC⟩:=hC g c (List.mem_cons_self ..)
    obtain⟨v,hv1,hvp,hC⟩:=hC x y hy
    have hfrom:=toTup_from _ hx
    obtain⟨ds',k2,k3,kG⟩:=PV.gets_ok (objs:=[]) _ _ l ds hl hca hv
    obtain⟨vs',k1,k4⟩:=kG fun _=>0
    have k1:=k1 []
    rw[List.append_nil,←hfrom]at k1
    have hP:=hC vs' k1 ds' (k4 [] [] (HO_nil _ _ _ _ _))
    rw[hv1]at hw
    cases hw
    exact⟨v,v.can,h5,hvp _ _,fun s=>aop_callG tok ho hc (Ghos.weak k2) hf (hP.acall s)⟩
   ·exact sCtrD_ok tok ho hc hv C (fun g c hm=>hC g c (List.mem_cons_of_mem _ hm)) h
end
def mkResS(T:Tys):List Oper→Nat→Nat→Option Res
 |[],_,_=>some []
 |o::r,i,l=>match o.guard with
  |some _=>mkResS T r (i+1) l
  |none=>match o.op with
   | .alloc e=>(lk T.zero e).bind fun z=>(mkResS T r (i+1) (l+1)).bind fun A=>some ((i,l,z)::A)
   |_=>mkResS T r (i+1) l
theorem mkResS_rng{T:Tys}:∀{ops:List Oper}{i l:Nat}{A:Res},mkResS T ops i l=some A→A.map (·.2.1)=List.range' l A.length
 |[],_,_,A,h=>by cases h;rfl
 |o::r,i,l,A,h=>by
  simp only[mkResS]at h
  split at h
  ·exact mkResS_rng h
  ·split at h
   ·obtain⟨z,_,h⟩:=bind_inv h
    obtain⟨A',h1,h⟩:=bind_inv h
    cases h
    simp only[List.map_cons,List.length_cons,mkResS_rng h1]
    rfl
   ·exact mkResS_rng h
theorem mkResS_at{T:Tys}{x:Nat×Nat×List D}:∀{ops:List Oper}{i l:Nat}{A:Res},mkResS T ops i l=some A→x ∈ A→∃(k:Nat) (o:Oper) (e:TypeId),x.1=i+k∧ops[k]? =some o∧o.op= .alloc e∧lk T.zero e=some x.2.2
 |[],_,_,A,h,hx=>by cases h;simp at hx
 |o::r,i,l,A,h,hx=>by
  have rest:∀{l:Nat}{A:Res},mkResS T r (i+1) l=some A→x ∈ A→∃(k:Nat) (o' :Oper) (e:TypeId),x.1=i+k∧(o::r)[k]? =some o'∧o'.op= .alloc e∧lk T.zero e=some x.2.2:=by
   intro l A h hx
   obtain⟨k,o',e,h1,h2,h3⟩:=mkResS_at h hx
   exact⟨k+1,o',e,by omega,by simpa using h2,h3⟩
  simp only[mkResS]at h
  split at h
  ·exact rest h hx
  ·split at h
   ·rename_i e he
    obtain⟨z,hz,h⟩:=bind_inv h
    obtain⟨A',h1,h⟩:=bind_inv h
    cases h
    rcases List.mem_cons.1 hx with rfl|hx
    ·exact⟨0,o,e,rfl,rfl,he,hz⟩
    ·exact rest h1 hx
   ·exact rest h hx
def isRes(o:Oper) (i:Nat) (rest:Res):Bool:=match o.guard,o.op,rest with
 |none,.alloc _,(j,_,_)::_=>Nat.beq j i
 |_,_,_=>false
section
variable {α:Type}
def sdX(cx:Cx) (fid N:Nat) (A:Res) (m:Nat) (o:Oper) (i:Nat) (τr τ:SEnv) (S:SSto) (rest:Res) (Rd Ch:DCh) (next:SEnv→SSto→Res→DCh→DCh→Option α):Option α:=
 match isRes o i rest with
 |true=>match rest with
  |(_,l,_)::rest' =>sput N o.dst (.raw (.ptr l 0 0)) τ fun τ2=>next τ2 S rest' Rd Ch
  |[]=>none
 |false=>match isW (hintOf cx fid o.dst) o.op with
  |true=>match chChk A m (fpW τr o.op) S.length Rd Ch with
   |true=>sW cx.T cx.H cx.CO (hintOf cx fid o.dst) τr S o.op fun v S' =>sput N o.dst v τ fun τ2=>next τ2 S' rest Rd (Ch++[(i,fpW τr o.op++[S.length])])
   |false=>none
  |false=>match isCall o.op with
   |some c=>(sCallee cx.T τr c).bind fun p=>match lk cx.T.ext p.1 with
    |some k=>sExtF k p.2 fun v=>sput N o.dst v τ fun τ2=>next τ2 S rest (Rd++[(i,[])]) Ch
    |none=>sCtrD p.1 S p.2 (fun v=>sput N o.dst v τ fun τ2=>next τ2 S rest (Rd++[(i,[])]) Ch) cx.C
   |none=>match hidOk A m (fpOp τr o.op)&&Ch.all (fun c=>Nat.testBit m c.1||disjN (fpOp τr o.op) c.2) with
    |true=>sR cx.T cx.H τr S o.op fun v=>sput N o.dst v τ fun τ2=>next τ2 S rest (Rd++[(i,fpOp τr o.op)]) Ch
    |false=>none
def sdr(cx:Cx) (fid N:Nat) (all:Array Oper) (A:Res) (M:List Nat):List Oper→Nat→SEnv→SSto→Res→DCh→DCh→(SEnv→SSto→Option α)→Option α
 |[],_,τ,S,rest,_,_,K=>match rest with
  |[]=>K τ S
  |_::_=>none
 |o::r,i,τ,S,rest,Rd,Ch,K=>match o.guard with
  |none=>sdX cx fid N A (M.getD i 0) o i (srst all o τ) τ S rest Rd Ch fun τ2 S2 rest2 Rd2 Ch2=>sdr cx fid N all A M r (i+1) τ2 S2 rest2 Rd2 Ch2 K
  |some (j,want)=>match (all[j]?).bind (·.dst) with
   |none=>none
   |some t=>match sget (srst all o τ) t with
    |some (.bool b)=>match want with
     |true=>cond b (sdX cx fid N A (M.getD i 0) o i (srst all o ((t,.bool true)::τ)) ((t,.bool true)::τ) S rest Rd Ch fun τ2 S2 rest2 Rd2 Ch2=>sdr cx fid N all A M r (i+1) τ2 S2 rest2 Rd2 Ch2 K)
      (sput N o.dst (.tup []) ((t,.bool false)::τ) fun τ2=>sdr cx fid N all A M r (i+1) τ2 S rest Rd Ch K)
     |false=>cond b (sput N o.dst (.tup []) ((t,.bool true)::τ) fun τ2=>sdr cx fid N all A M r (i+1) τ2 S rest Rd Ch K)
      (sdX cx fid N A (M.getD i 0) o i (srst all o ((t,.bool false)::τ)) ((t,.bool false)::τ) S rest Rd Ch fun τ2 S2 rest2 Rd2 Ch2=>sdr cx fid N all A M r (i+1) τ2 S2 rest2 Rd2 Ch2 K)
    |some (.tup _)=>sput N o.dst (.tup []) τ fun τ2=>sdr cx fid N all A M r (i+1) τ2 S rest Rd Ch K
    |_=>none
def sDraw(cx:Cx) (fid N:Nat) (ops:Array Oper) (τ:SEnv) (S:SSto) (K:SEnv→SSto→Option α):Option α:=
 (mkResS cx.T ops.toList 0 S.length).bind fun A=>match planOk ops (masks ops.toList []) with
   |true=>sdr cx fid N ops A (masks ops.toList []) ops.toList 0 τ (S++A.map fun x=>SObj.cells (ofDs x.2.2) false) A [] [] K
   |false=>none
end
section
variable {α:Type}{cx:Cx}{fid N:Nat}{all:Array Oper}{A:Res}{M:List Nat}{r:α}
theorem sdX_ok(hcx:CxOk cx) {o:Oper}{l l' pre:List Oper}{i:Nat}{τ:SEnv}{τ' :Env}{S:SSto}{σ:Sto}{rest done:Res}{Rd Ch:DCh}{Ss:List Sto}{tab:List Rc}{next:SEnv→SSto→Res→DCh→DCh→Option α}{Kt:Env→Sto→Prop}
 (hall:all.toList=pre++o::l') (hpre:pre.length=i) (hA:∀x ∈ A,∃(k:Nat) (o:Oper) (e:TypeId),x.1=k∧all.toList[k]? =some o∧o.op= .alloc e∧lk cx.T.zero e=some x.2.2)
 (hD:DI cx.P N A M i σ Ss tab done rest Rd Ch) (hS:StR S σ) (hE:ER S σ τ τ') (hw:wantD all (rst all o τ') o=some true)
 (h:sdX cx fid N A (M.getD i 0) o i (srst all o τ) τ S rest Rd Ch next=some r)
 (hk:∀τ2 τs S2 σ2 rest2 done2 Rd2 Ch2 Ss2 tab2,DI cx.P N A M (i+1) σ2 Ss2 tab2 done2 rest2 Rd2 Ch2→StR S2 σ2→ER S2 σ2 τs τ2→Pres S σ S2 σ2→next τs S2 rest2 Rd2 Ch2=some r→ADr cx.P N all A M l (i+1) τ2 Ss2 (Ch2.map (·.1)) tab2 Kt):
 ADr cx.P N all A M (o::l) i τ' Ss (Ch.map (·.1)) tab Kt:=by
 have hEr:=hE.rst all o
 unfold sdX at h
 split at h
 ·rename_i hr
  split at h<;>try (cases h;done)
  rename_i j lo z rest'
  unfold isRes at hr
  split at hr<;>try (cases hr;done)
  rename_i e _ _ _ _ _ hop hrest
  cases hrest
  have hj:=nbeq hr
  subst hj
  obtain⟨k,o',e',h1,h2,h3,h4⟩:=hA (j,lo,z) (by rw[hD.all];simp)
  simp only at h1 h4
  subst h1
  have ho:o' =o:=by
   rw[hall,←hpre,List.getElem?_append_right (Nat.le_refl _)]at h2
   simp at h2
   exact h2.symm
  subst ho
  rw[hop]at h3
  cases h3
  obtain⟨τ2,τs,k1,k2,k3⟩:=sput_ok (d:= .ptr lo 0 0) hE (by simp only[VR]) h
  exact dr_alloc hcx.tok hw hop hD.res h4 k1 (hk _ _ _ _ _ _ _ _ _ _ hD.alloc hS k2 (.refl _ _) k3)
 ·split at h
  ·split at h<;>try (cases h;done)
   rename_i hc
   obtain⟨v,S',d,up,h1,h2,h3,h4,h5,h6⟩:=sW_ok (N:=N) hcx.tok hcx.ctrO hS hEr rfl h
   obtain⟨τ2,τs,k1,k2,k3⟩:=sput_ok (hE.pres h5) h3 h1
   rw[hS.len]at hc k3
   obtain⟨g1,g2,g3,g4⟩:=hD.chains h6 hc h2
   have hD2:=hD.chain (o:=o) (env:=rst all o τ') (d:=d) h6 hc (Ch.map (·.1)).length
   have:=hk _ _ _ _ _ _ _ _ _ _ hD2 h4 k2 h5 k3
   rw[List.map_append]at this
   exact .inr (.inr (.inl ⟨hw,g1,d,τ2,σ,up.ap σ,hD.last,g2,g3,g4,k1,this⟩))
  ·split at h
   ·rename_i c hc
    obtain⟨p,hp,h⟩:=bind_inv h
    obtain⟨ds,h1,h2⟩:=sCallee_ok hEr hp
    have ho:o.op= .call c:=by
     unfold isCall at hc
     split at hc<;>try (cases hc;done)
     rename_i hop
     split at hc<;>cases hc
     exact hop
    have hh0:∃v d,(sput N o.dst v τ fun τ2=>next τ2 S rest (Rd++[(i,[])]) Ch)=some r∧VR S σ v d∧∀s,AOp cx.P N o (rst all o τ') s fun d' s' =>d' =d∧s' =s:=by
     split at h
     ·rename_i k hk
      exact sExtF_ok (N:=N) hcx.tok ho h1 hk h2 h
     ·exact sCtrD_ok (N:=N) hcx.tok ho h1 h2 cx.C hcx.ctr h
    obtain⟨v,d,k1,k2,k3⟩:=hh0
    obtain⟨τ2,τs,m1,m2,m3⟩:=sput_ok hE k2 k1
    have hh:hidOk A (M.getD i 0) []=true:=by unfold hidOk memN;simp
    have hop:∀s:Sto,(∀l ∈ ([]:List Nat),s[l]? =σ[l]?)→AOp cx.P N o (rst all o τ') s fun d' s' =>d' =d∧s' =s:=fun s _=>k3 s
    exact dr_read hw (hD.reads hop hh (by simp[disjN])) m1 (hk _ _ _ _ _ _ _ _ _ _ (hD.read hop hh) hS m2 (.refl _ _) m3)
   ·split at h<;>try (cases h;done)
    rename_i hc
    simp only[Bool.and_eq_true]at hc
    obtain⟨v,d0,d,h1,h2,h3,h4⟩:=sR_ok hS hEr h
    obtain⟨τ2,τs,m1,m2,m3⟩:=sput_ok hE h2 h1
    have hop:∀s:Sto,(∀l ∈ fpOp (srst all o τ) o.op,s[l]? =σ[l]?)→AOp cx.P N o (rst all o τ') s fun d' s' =>d' =d∧s' =s:=fun s hs=>(aop_aop hcx.tok (h4 s hs)).weak h3
    exact dr_read hw (hD.reads hop hc.1 hc.2) m1 (hk _ _ _ _ _ _ _ _ _ _ (hD.read hop hc.1) hS m2 (.refl _ _) m3)
theorem sdr_ok(hcx:CxOk cx) {suf:List Oper}{K:SEnv→SSto→Option α}(hA:∀x ∈ A,∃(k:Nat) (o:Oper) (e:TypeId),x.1=k∧all.toList[k]? =some o∧o.op= .alloc e∧lk cx.T.zero e=some x.2.2):∀(l pre:List Oper) (i:Nat) (τ:SEnv) (τ' :Env) (S:SSto) (σ:Sto) (rest done:Res) (Rd Ch:DCh) (Ss:List Sto) (tab:List Rc) (Kt:Env→Sto→Prop),
 all.toList=pre++(l++suf)→pre.length=i→DI cx.P N A M i σ Ss tab done rest Rd Ch→StR S σ→ER S σ τ τ'→sdr cx fid N all A M l i τ S rest Rd Ch K=some r→(∀τ2 σ2,RPost S σ K r τ2 σ2→Kt τ2 σ2)→ADr cx.P N all A M l i τ' Ss (Ch.map (·.1)) tab Kt
 |[],pre,i,τ,τ',S,σ,rest,done,Rd,Ch,Ss,tab,Kt,_,_,hD,hS,hE,h,hk=>by
  simp only[sdr]at h
  split at h<;>try (cases h;done)
  refine dr_end (AllP.mk fun x hx=> ?_) hD.last (hk _ _ ⟨τ,S,hE,hS,.refl _ _,h⟩)
  rw[hD.all,List.append_nil]at hx
  exact(hD.dn x hx).2
 |o::l,pre,i,τ,τ',S,σ,rest,done,Rd,Ch,Ss,tab,Kt,hall,hpre,hD,hS,hE,h,hk=>by
  have exec:∀{τ:SEnv},ER S σ τ τ'→wantD all (rst all o τ') o=some true→(sdX cx fid N A (M.getD i 0) o i (srst all o τ) τ S rest Rd Ch fun τ2 S2 rest2 Rd2 Ch2=>sdr cx fid N all A M l (i+1) τ2 S2 rest2 Rd2 Ch2 K)=some r→ADr cx.P N all A M (o::l) i τ' Ss (Ch.map (·.1)) tab Kt:=by
   intro τ hE hw h
   refine sdX_ok (l' :=l++suf) hcx hall hpre hA hD hS hE hw h ?_
   intro τ2 τs S2 σ2 rest2 done2 Rd2 Ch2 Ss2 tab2 hD2 hS2 hE2 hp2 h2
   exact sdr_ok (suf:=suf) hcx hA l (pre++[o]) (i+1) τs τ2 S2 σ2 rest2 done2 Rd2 Ch2 Ss2 tab2 Kt (by simp[hall]) (by simp[hpre]) hD2 hS2 hE2 h2 fun τ3 σ3 x=>hk _ _ (x.trans hp2)
  have skip:∀{τ:SEnv},ER S σ τ τ'→wantD all (rst all o τ') o=some false→(sput N o.dst (.tup []) τ fun τ2=>sdr cx fid N all A M l (i+1) τ2 S rest Rd Ch K)=some r→ADr cx.P N all A M (o::l) i τ' Ss (Ch.map (·.1)) tab Kt:=by
   intro τ hE hw h
   obtain⟨τ2,τs,k1,k2,k3⟩:=sput_ok (d:= .tuple []) hE (by simp only[VR,VRs];exact⟨[],rfl,rfl⟩) h
   exact dr_no hw k1 (sdr_ok (suf:=suf) hcx hA l (pre++[o]) (i+1) τs τ2 S σ rest done Rd Ch Ss _ Kt (by simp[hall]) (by simp[hpre]) hD.skip hS k2 k3 hk)
  simp only[sdr]at h
  split at h
  ·rename_i hg
   exact exec hE (by unfold wantD;rw[hg]) h
  ·rename_i j want hg
   split at h<;>try (cases h;done)
   rename_i t ht
   split at h<;>try (cases h;done)
   ·rename_i b hb
    obtain⟨d,hd,hvd⟩:=hE.rst all o t _ hb
    simp only[VR]at hvd
    subst hvd
    have hd' :=(get_filter (p:=fun t=>(o.looksAt all).contains t) hd).2
    have hw:wantD all (rst all o τ') o=some (b==want):=by unfold wantD;rw[hg];simp only[ht,hd]
    cases want
    ·rcases cond_inv h with⟨rfl,h⟩|⟨rfl,h⟩
     ·exact skip (hE.setB hd') hw h
     ·exact exec (hE.setB hd') hw h
    ·rcases cond_inv h with⟨rfl,h⟩|⟨rfl,h⟩
     ·exact exec (hE.setB hd') hw h
     ·exact skip (hE.setB hd') hw h
   ·rename_i vs hb
    obtain⟨d,hd,hvd⟩:=hE.rst all o t _ hb
    simp only[VR]at hvd
    obtain⟨ds,rfl,_⟩:=hvd
    exact skip hE (by unfold wantD;rw[hg];simp only[ht,hd]) h
theorem StR.pushes:∀(B:Res) {S:SSto}{σ:Sto},StR S σ→StR (S++B.map fun x=>SObj.cells (ofDs x.2.2) false) (σ++B.map fun x=>AObj.cells x.2.2 0 0)∧Pres S σ (S++B.map fun x=>SObj.cells (ofDs x.2.2) false) (σ++B.map fun x=>AObj.cells x.2.2 0 0)
 |[],S,σ,h=>by simp only[List.map_nil,List.append_nil];exact⟨h,.refl _ _⟩
 |x::B,S,σ,h=>by
  have h1:StR (S++[SObj.cells (ofDs x.2.2) false]) (σ++[AObj.cells x.2.2 0 0]):=h.push ⟨x.2.2,0,rfl,fun _=>rfl,ofDs_ok _ _ x.2.2⟩
  have h2:=Pres.push h.len (SObj.cells (ofDs x.2.2) false) (AObj.cells x.2.2 0 0)
  obtain⟨h3,h4⟩:=StR.pushes B h1
  simp only[List.append_assoc,List.singleton_append]at h3 h4
  exact⟨h3,h2.trans h4⟩
theorem sDraw_ok(hcx:CxOk cx) {i id:Nat}{ops:Array Oper}{τ:SEnv}{τ' :Env}{S:SSto}{σ:Sto}{K:SEnv→SSto→Option α}(hS:StR S σ) (hE:ER S σ τ τ') (h:sDraw cx fid N ops τ S K=some r):
 AWp i cx.P N (.region id ops true) τ' σ fun e τ2 σ2=>e= .normal∧RPost S σ K r τ2 σ2:=by
 unfold sDraw at h
 obtain⟨A,hA,h⟩:=bind_inv h
 split at h<;>try (cases h;done)
 rename_i hp
 obtain⟨hS2,hP⟩:=StR.pushes A hS
 have hrng:=mkResS_rng hA
 have hget:∀x ∈ A,∃n:Nat,n<A.length∧x.2.1=σ.length+n∧A[n]? =some x:=by
  intro x hx
  obtain⟨n,hn⟩:=List.getElem?_of_mem hx
  have h1:(A.map (·.2.1))[n]? =some x.2.1:=by simp[hn]
  rw[hrng,List.getElem?_range' (lt_of_getElem? hn)]at h1
  simp at h1
  exact⟨n,lt_of_getElem? hn,by rw[←hS.len];exact h1.symm,hn⟩
 refine awp_drawn (hcx.mix) A rfl hp (by rw[hrng,hS.len]) ?_
 refine sdr_ok (A:=A) (M:=masks ops.toList []) (done:=[]) (suf:=[]) hcx (fun x hx=> ?_) ops.toList [] 0 τ τ' _ _ A [] [] _ [] _ (by simp) rfl ?_ hS2 (hE.pres hP) h ?_
 ·obtain⟨k,o,e,h1,h2,h3,h4⟩:=mkResS_at hA hx
  exact⟨k,o,e,by omega,h2,h3,h4⟩
 ·refine⟨rfl,rfl,?_,?_,?_,?_,rfl,?_,rfl⟩
  ·intro k s hk l _
   cases k with
   |zero=>simp at hk;subst hk;rfl
   |succ k=>simp at hk
  ·intro x hx _
   obtain⟨n,h1,h2,h3⟩:=hget x hx
   rw[h2,List.getElem?_append_right (by omega)]
   simp[h3]
  ·intro x hx
   obtain⟨n,h1,h2,h3⟩:=hget x hx
   simp;omega
  ·intro j rc hj;simp at hj
  ·intro x hx;simp at hx
 ·intro τ2 σ2 x
  exact⟨rfl,x.trans hP⟩
end
end Go.Fw
namespace Go.Fw
open Go.RowKit
def isBld(h:Option OH) (o:Oper):Bool:=match o.op with
 | .buildSlice _ _ _=>(match h with
   |some (.build _)=>true
   |_=>false)
 |_=>false
def splitT(cx:Cx) (fid:Nat):List Oper→List Oper→Option (List Oper×Oper×List Oper)
 |_,[]=>none
 |pre,o::r=>match isBld (hintOf cx fid o.dst) o with
  |true=>some (pre.reverse,o,r)
  |false=>splitT cx fid (o::pre) r
def tailFull(M:List Nat) (n c:Nat):Bool:=(List.range n).all fun j=>cond (Nat.ble c j) (fullM j (M.getD j 0)) true
def lastT(cx:Cx) (fid:Nat) (ops:Array Oper):Option (List Oper×Oper×List Oper):=match splitT cx fid [] ops.toList with
 |some q=>match tailFull (masks ops.toList []) ops.size q.1.length with
  |true=>some q
  |false=>none
 |none=>none
theorem splitT_ok{cx:Cx}{fid:Nat}(r:List Oper):∀(pre:List Oper) (q:List Oper×Oper×List Oper),splitT cx fid pre r=some q→pre.reverse++r=q.1++(q.2.1::q.2.2):=by
 induction r with
 |nil=>
  intro pre q h
  have h:(none:Option (List Oper×Oper×List Oper))=some q:=h
  cases h
 |cons o r ih=>
  intro pre q h
  have h:(match isBld (hintOf cx fid o.dst) o with
   |true=>some (pre.reverse,o,r)
   |false=>splitT cx fid (o::pre) r)=some q:=h
  generalize isBld (hintOf cx fid o.dst) o=b at h
  cases b with
  |true=>
   have h:=Option.some.inj h
   subst h
   rfl
  |false=>
   have:=ih (o::pre) q h
   rw[←this,List.reverse_cons,List.append_assoc]
   rfl
theorem lastT_ok{cx:Cx}{fid:Nat}{ops:Array Oper}{q:List Oper×Oper×List Oper}(h:lastT cx fid ops=some q):ops.toList=q.1++(q.2.1::q.2.2)∧∀j,q.1.length≤j→j<ops.size→fullM j ((masks ops.toList []).getD j 0)=true:=by
 unfold lastT at h
 split at h<;>try (cases h;done)
 rename_i q' hq
 split at h<;>try (cases h;done)
 rename_i hf
 cases h
 refine⟨by simpa using splitT_ok _ _ _ hq,fun j h1 h2=> ?_⟩
 have:=List.all_eq_true.1 hf j (List.mem_range.2 h2)
 rw[Nat.ble_eq_true_of_le h1]at this
 exact this
def sDrawT{α:Type}(cx:Cx) (fid N:Nat) (call:CallS α) (ops:Array Oper) (pre:List Oper) (l:List Oper) (τ:SEnv) (S:SSto) (K:SEnv→SSto→Option α):Option α:=
 (mkResS cx.T ops.toList 0 S.length).bind fun A=>match planOk ops (masks ops.toList []) with
   |true=>sdr cx fid N ops A (masks ops.toList []) pre 0 τ (S++A.map fun x=>SObj.cells (ofDs x.2.2) false) A [] [] fun τ' S' =>sops cx fid N call ops l τ' S' K
   |false=>none
section
variable {α:Type}{cx:Cx}{fid N:Nat}{r:α}
theorem sDrawT_ok(hcx:CxOk cx) {call:CallS α}(hcall:CallSOk cx.P call) {i id:Nat}{ops:Array Oper}{τ:SEnv}{τ' :Env}{S:SSto}{σ:Sto}{K:SEnv→SSto→Option α}(hS:StR S σ) (hE:ER S σ τ τ') {q:List Oper×Oper×List Oper}(hl:lastT cx fid ops=some q) (h:sDrawT cx fid N call ops q.1 (q.2.1::q.2.2) τ S K=some r):
 AWp i cx.P N (.region id ops true) τ' σ fun e τ2 σ2=>e= .normal∧RPost S σ K r τ2 σ2:=by
 obtain⟨hops,hfull⟩:=lastT_ok hl
 obtain⟨pre,o,rr⟩:=q
 dsimp only at h hops hfull
 unfold sDrawT at h
 obtain⟨A,hA,h⟩:=bind_inv h
 split at h<;>try (cases h;done)
 rename_i hp
 obtain⟨hS2,hP⟩:=StR.pushes A hS
 have hrng:=mkResS_rng hA
 have hget:∀x ∈ A,∃n:Nat,n<A.length∧x.2.1=σ.length+n∧A[n]? =some x:=by
  intro x hx
  obtain⟨n,hn⟩:=List.getElem?_of_mem hx
  have h1:(A.map (·.2.1))[n]? =some x.2.1:=by simp[hn]
  rw[hrng,List.getElem?_range' (lt_of_getElem? hn)]at h1
  simp at h1
  exact⟨n,lt_of_getElem? hn,by rw[←hS.len];exact h1.symm,hn⟩
 refine awp_drawnT (pre:=pre) (o:=o) (r:=rr) (hcx.mix) A hops hfull rfl hp (by rw[hrng,hS.len]) ?_
 refine sdr_ok (A:=A) (M:=masks ops.toList []) (done:=[]) (suf:=o::rr) hcx (fun x hx=> ?_) pre [] 0 τ τ' _ _ A [] [] _ [] _ (by simp[hops]) rfl ?_ hS2 (hE.pres hP) h ?_
 ·obtain⟨k,o,e,h1,h2,h3,h4⟩:=mkResS_at hA hx
  exact⟨k,o,e,by omega,h2,h3,h4⟩
 ·refine⟨rfl,rfl,?_,?_,?_,?_,rfl,?_,rfl⟩
  ·intro k s hk l _
   cases k with
   |zero=>simp at hk;subst hk;rfl
   |succ k=>simp at hk
  ·intro x hx _
   obtain⟨n,h1,h2,h3⟩:=hget x hx
   rw[h2,List.getElem?_append_right (by omega)]
   simp[h3]
  ·intro x hx
   obtain⟨n,h1,h2,h3⟩:=hget x hx
   simp;omega
  ·intro j rc hj;simp at hj
  ·intro x hx;simp at hx
 ·rintro τ2 σ2 ⟨τs,S2,h1,h2,hp2,h3⟩
  refine AOps.monoK ?_ _ _ _ (sops_ok hcx hcall _ _ _ _ _ h2 h1 h3)
  intro τ3 σ3 x
  exact⟨rfl,x.trans (hP.trans hp2)⟩
end
end Go.Fw
namespace Go.Fw
open Go.RowKit
def sresV{α:Type}(T:Tys) (τ:SEnv) (S:SSto) (r:ResultVar) (K:SV→Option α):Option α:=match r with
 | .tmp t=>(sget τ t).bind K
 | .cell t ty=>sLoad T τ S ty (.tmp t) K
def sresL{α:Type}(T:Tys) (τ:SEnv) (S:SSto):List ResultVar→(List SV→Option α)→Option α
 |[],K=>K []
 |r::rs,K=>sresV T τ S r fun v=>sresL T τ S rs fun vs=>K (v::vs)
def sres{α:Type}(T:Tys) (τ:SEnv) (S:SSto) (rs:List ResultVar) (K:SV→Option α):Option α:=sresL T τ S rs fun vs=>match vs with
 |[v]=>K v
 |vs=>K (.tup vs)
section
variable {α:Type}{T:Tys}{S:SSto}{σ:Sto}{τ:SEnv}{τ' :Env}{r:α}
theorem sresV_ok(hS:StR S σ) (hE:ER S σ τ τ') {x:ResultVar}{K:SV→Option α}(h:sresV T τ S x K=some r):∃v d0 d,K v=some r∧VR S σ v d∧Weak d0 d∧resVar T τ' σ x=some d0:=by
 unfold sresV at h
 cases x with
 |tmp t=>
  obtain⟨v,hv,h⟩:=bind_inv h
  obtain⟨d,h1,h2⟩:=hE t v hv
  exact⟨v,d,d,h,h2,Weak.refl _,h1⟩
 |cell t ty=>
  obtain⟨v,d0,d,h1,h2,h3,h4⟩:=sLoad_ok hS hE h
  have h5:=h4 σ fun _ _=>rfl
  refine⟨v,d0,d,h1,h2,h3,?_⟩
  simp only[aop,Option.map_eq_some_iff,Prod.mk.injEq]at h5
  obtain⟨a,h6,h7,_⟩:=h5
  subst h7
  exact h6
theorem sresL_ok(hS:StR S σ) (hE:ER S σ τ τ'):∀{rs:List ResultVar}{K:List SV→Option α},sresL T τ S rs K=some r→∃vs ds0 ds,K vs=some r∧VRs S σ vs ds∧Weaks ds0 ds∧resVars T τ' σ rs=some ds0
 |[],K,h=>⟨[],[],[],h,by simp only[VRs],rfl,rfl⟩
 |x::rs,K,h=>by
  simp only[sresL]at h
  obtain⟨v,d0,d,h1,h2,h3,h4⟩:=sresV_ok hS hE h
  obtain⟨vs,ds0,ds,k1,k2,k3,k4⟩:=sresL_ok hS hE h1
  exact⟨v::vs,d0::ds0,d::ds,k1,by simp only[VRs];exact⟨d,ds,rfl,h2,k2⟩,⟨h3,k3⟩,by simp only[resVars,h4,k4]⟩
theorem sres_ok(hS:StR S σ) (hE:ER S σ τ τ') {rs:List ResultVar}{K:SV→Option α}(h:sres T τ S rs K=some r):∃v d0 d,K v=some r∧VR S σ v d∧Weak d0 d∧resD T rs τ' σ=some d0:=by
 unfold sres at h
 obtain⟨vs,ds0,ds,k1,k2,k3,k4⟩:=sresL_ok hS hE h
 have hl:=k2.length
 have hl' :=k3.length
 split at k1
 ·rename_i v
  simp only[VRs]at k2
  obtain⟨e,es,rfl,h1,rfl⟩:=k2
  match ds0,k3 with
  |[d0],k3=>exact⟨v,d0,e,k1,h1,k3.1,by simp only[resD,k4]⟩
 ·rename_i hne
  refine⟨.tup vs,.tuple ds0,.tuple ds,k1,by simp only[VR];exact⟨ds,rfl,k2⟩,Weak.tuple k3,?_⟩
  unfold resD
  rw[k4]
  match ds0,hl' with
  |[],_=>rfl
  |[d],hl' =>
   exfalso
   have:vs.length=1:=by rw[←hl,←hl'];rfl
   match vs,this with
   |[v],_=>exact hne v rfl
  |_::_::_,_=>rfl
end
def aexEq:AEx→AEx→Bool
 | .normal,.normal=>true
 | .exit a,.exit b=>Nat.beq a b
 | .goto a,.goto b=>Nat.beq a b
 | .ret,.ret=>true
 |_,_=>false
theorem aexEq_eq{a b:AEx}(h:aexEq a b=true):a=b:=by
 cases a<;>cases b<;>simp only[aexEq]at h<;>first|rfl|(cases h;done)|(rw[nbeq h])
def exFind:Exits→AEx→Nat→Option (Nat×Pat)
 |[],_,_=>none
 |(e,p)::r,e',m=>match aexEq e e' with
  |true=>some (m,p)
  |false=>exFind r e' (m+1)
theorem exFind_ok:∀{x:Exits}{e:AEx}{m n:Nat}{p:Pat},exFind x e m=some (n,p)→∃k,n=m+k∧x[k]? =some (e,p)
 |[],_,_,_,_,h=>by simp[exFind]at h
 |(e0,p0)::r,e,m,n,p,h=>by
  simp only[exFind]at h
  split at h
  ·rename_i he
   have:=aexEq_eq he
   subst this
   cases h
   exact⟨0,rfl,rfl⟩
  ·obtain⟨k,h1,h2⟩:=exFind_ok h
   exact⟨k+1,by omega,by simpa using h2⟩
def maxG:SSto→Nat
 |[]=>0
 |o::S=>match o with
  | .arr _ _ _ g=>max (g+1) (maxG S)
  |_=>maxG S
theorem maxG_ok:∀{S:SSto}{l:Nat}{t:TC}{xs:List t.Den}{fz:Bool}{g:Nat},S[l]? =some (.arr t xs fz g)→g<maxG S
 |[],l,_,_,_,_,h=>by simp at h
 |o::S,0,t,xs,fz,g,h=>by
  simp at h
  subst h
  simp only[maxG]
  omega
 |o::S,l+1,t,xs,fz,g,h=>by
  have:=maxG_ok (S:=S) (l:=l) (by simpa using h)
  cases o<;>simp only[maxG]<;>omega
def chkArr:SSto→List PO→Bool
 |_,[]=>true
 |[],p::ps=>(match p with| .arr _ _ _=>false|_=>true)&&chkArr [] ps
 |o::S,p::ps=>(match p with| .arr _ _ _=>(match o with| .arr _ _ _ _=>true|_=>false)|_=>true)&&chkArr S ps
def PresI(i:Nat) (S:SSto) (σ:Sto) (S' :SSto) (σ' :Sto):Prop:=(∀l g d,l<i→OwnR S σ l g d→OwnR S' σ' l g d)∧∀l g k o d,l<i→ApR S σ l g k o d→ApR S' σ' l g k o d
theorem PresI.trans{i:Nat}{S S1 S2:SSto}{σ σ1 σ2:Sto}(h:PresI i S σ S1 σ1) (k:PresI i S1 σ1 S2 σ2):PresI i S σ S2 σ2:=
 ⟨fun l g d hl x=>k.1 l g d hl (h.1 l g d hl x),fun l g j o d hl x=>k.2 l g j o d hl (h.2 l g j o d hl x)⟩
theorem Pres.i{i:Nat}{S S1:SSto}{σ σ1:Sto}(h:Pres S σ S1 σ1):PresI i S σ S1 σ1:=⟨fun l g d _ x=>h.own l g d x,fun l g j o d _ x=>h.ap l g j o d x⟩
theorem PresI.full{S S1:SSto}{σ σ1:Sto}(h:PresI S.length S σ S1 σ1):Pres S σ S1 σ1:=⟨fun l g d x=>h.1 l g d x.1 x,fun l g j o d x=>h.2 l g j o d x.1 x⟩
theorem PO.put_arr{G:Nat→Nat}{j:Nat}{p:PO}{l r:List DV}{o:SObj}(h:p.put G j l=some (o,r)) {t:TC}{xs:List t.Den}{fz:Bool}{g:Nat}(e:o= .arr t xs fz g):g=G j∧∃t0 f0 k0,p= .arr t0 f0 k0:=by
 cases p<;>simp only[PO.put]at h
 case cells=>split at h<;>cases h;cases e
 case arr=>split at h<;>cases h;cases e;exact⟨rfl,_,_,_,rfl⟩
 case it=>split at h<;>cases h;cases e
 case smap=>split at h<;>cases h;cases e
 case dead=>cases h;cases e
 case junk=>cases h;cases e
theorem PO.puts_arr{G:Nat→Nat}:∀{ps:List PO}{i:Nat}{l r:List DV}{os:SSto}{S:SSto},PO.puts G i ps l=some (os,r)→chkArr S ps=true→∀{j:Nat}{t:TC}{xs:List t.Den}{fz:Bool}{g:Nat},os[j]? =some (.arr t xs fz g)→g=G (i+j)∧(∃t0 x0 f0 g0,S[j]? =some (.arr t0 x0 f0 g0))∧∃t1 f1 k1,ps[j]? =some (.arr t1 f1 k1)
 |[],i,l,r,os,S,h,_,j,t,xs,fz,g,hj=>by
  simp only[PO.puts,Option.some.injEq,Prod.mk.injEq]at h
  rw[←h.1]at hj
  simp at hj
 |p::ps,i,l,r,os,S,h,hc,j,t,xs,fz,g,hj=>by
  simp only[PO.puts]at h
  split at h<;>try (cases h;done)
  rename_i o r1 h1
  split at h<;>try (cases h;done)
  rename_i os1 r2 h2
  cases h
  cases j with
  |zero=>
   simp at hj
   obtain⟨h3,t0,f0,k0,rfl⟩:=PO.put_arr h1 hj
   refine⟨h3,?_,_,_,_,rfl⟩
   cases S with
   |nil=>simp[chkArr]at hc
   |cons o1 S=>
    cases o1<;>simp[chkArr]at hc
    exact⟨_,_,_,_,rfl⟩
  |succ j=>
   cases S with
   |nil=>
    simp only[chkArr,Bool.and_eq_true]at hc
    obtain⟨h3,⟨t0,x0,f0,g0,h4⟩,_⟩:=PO.puts_arr h2 hc.2 (j:=j) (by simpa using hj)
    simp at h4
   |cons o1 S=>
    simp only[chkArr,Bool.and_eq_true]at hc
    obtain⟨h3,⟨t0,x0,f0,g0,h4⟩,t1,f1,k1,h5⟩:=PO.puts_arr h2 hc.2 (j:=j) (by simpa using hj)
    exact⟨by rw[show i+(j+1)=i+1+j from by omega];exact h3,⟨t0,x0,f0,g0,by simpa using h4⟩,t1,f1,k1,by simpa using h5⟩
def genOf(S0:SSto) (objs:List PO) (l:Nat):Nat:=match objs[l]? with
 |some (.arr _ _ true)=>match S0[l]? with
  |some (.arr _ _ _ g)=>g
  |_=>maxG S0
 |_=>maxG S0
def KpO(p:Pat) (S0:SSto) (σ0:Sto) (S:SSto) (σ:Sto):Prop:=∀(l:Nat) t0 f0,p.objs[l]? =some (.arr t0 f0 true)→∀g t1 x1 f1,S0[l]? =some (.arr t1 x1 f1 g)→
 ∃t xs fz g',S[l]? =some (.arr t xs fz g')∧(∀d,OwnR S0 σ0 l g d→OwnR S σ l g' d)∧∀k o d,ApR S0 σ0 l g k o d→ApR S σ l g' k o d
theorem Pat.put_pres{i:Nat}{p:Pat}{l:List DV}{τ:SEnv}{S S2:SSto}{σ σ2:Sto}(h:p.put (genOf S p.objs) l=some (τ,S2)) (hc:chkArr S p.objs=true) (hi:i≤S2.length) (hk:KpO p S σ S2 σ2):PresI i S σ S2 σ2:=by
 unfold Pat.put at h
 split at h<;>try (cases h;done)
 split at h<;>try (cases h;done)
 rename_i S3 hp
 cases h
 have key:∀{j:Nat}{t:TC}{xs:List t.Den}{fz:Bool}{g' :Nat},S2[j]? =some (.arr t xs fz g')→∃t0 x0 f0 g0,S[j]? =some (.arr t0 x0 f0 g0)∧((g' =g0∧∃t1 f1,p.objs[j]? =some (.arr t1 f1 true))∨g0<g'):=by
  intro j t xs fz g' h1
  obtain⟨hg,⟨t0,x0,f0,g0,h2⟩,t1,f1,k1,h3⟩:=PO.puts_arr hp hc h1
  rw[Nat.zero_add]at hg
  refine⟨t0,x0,f0,g0,h2,?_⟩
  unfold genOf at hg
  rw[h3]at hg
  cases k1
  ·exact .inr (by rw[hg];exact maxG_ok h2)
  ·simp only[h2]at hg
   exact .inl ⟨hg,t1,f1,h3⟩
 refine⟨fun j g d hj hr=>⟨by omega,fun t xs fz g' h1=> ?_⟩,fun j g k o d hj hr=>⟨by omega,fun t xs fz g' h1=> ?_⟩⟩
 ·obtain⟨t0,x0,f0,g0,h2,h3⟩:=key h1
  have h4:=(hr.2 _ _ _ _ h2).1
  rcases h3 with⟨rfl,t1,f1,h5⟩|h3
  ·refine⟨h4,fun hg=> ?_⟩
   subst hg
   obtain⟨t2,x2,f2,g2,h6,h7,_⟩:=hk j t1 f1 h5 g t0 x0 f0 h2
   rw[h1]at h6
   cases h6
   exact((h7 d hr).2 _ _ _ _ h1).2 rfl
  ·exact⟨by omega,fun hg=>by omega⟩
 ·obtain⟨t0,x0,f0,g0,h2,h3⟩:=key h1
  have h4:=(hr.2 _ _ _ _ h2).1
  rcases h3 with⟨rfl,t1,f1,h5⟩|h3
  ·refine⟨h4,fun hg=> ?_⟩
   subst hg
   obtain⟨t2,x2,f2,g2,h6,_,h7⟩:=hk j t1 f1 h5 g t0 x0 f0 h2
   rw[h1]at h6
   cases h6
   exact((h7 k o d hr).2 _ _ _ _ h1).2 rfl
  ·exact⟨by omega,fun hg=>by omega⟩
def sexit{α:Type}(S0:SSto) (x:Exits) (m:Nat) (l:List DV) (k:AEx→SEnv→SSto→Option α):Option α:=(x[m]?).bind fun q=>match chkArr S0 q.2.objs with
 |true=>(q.2.put (genOf S0 q.2.objs) l).bind fun w=>k q.1 w.1 w.2
 |false=>none
def sleave(x:Exits) (i:Nat) (S0:SSto) (e:AEx) (τ:SEnv) (S:SSto):Option (XS x.tcs):=(exFind x e 0).bind fun q=>(q.2.get i S0 τ S).bind fun l=>xinj x.tcs q.1 l
def sgo{α:Type}(S0:SSto) (x:Exits) (y:XS x.tcs) (k:AEx→SEnv→SSto→Option α):Option α:=xelim x.tcs y fun m l=>sexit S0 x m l k
def SPost{α:Type}(i:Nat) (S0:SSto) (σ0:Sto) (k:AEx→SEnv→SSto→Option α) (r:α):AEx→Env→Sto→Prop:=fun e τ' σ' =>∃τ S,ER S σ' τ τ'∧StR S σ'∧PresI i S0 σ0 S σ'∧k e τ S=some r
def XPost(i:Nat) (x:Exits) (y:XS x.tcs) (S0:SSto) (σ0:Sto):AEx→Env→Sto→Prop:=fun e τ' σ' =>∃m p l,x[m]? =some (e,p)∧(∀(α:Type) (f:Nat→List DV→Option α),xelim x.tcs y f=f m l)∧∀G,∃τ S,p.put G l=some (τ,S)∧i≤S.length∧ER S σ' τ τ'∧StR S σ'∧KpO p S0 σ0 S σ'
theorem KpR.o{i:Nat}{p:Pat}{S0 S S2:SSto}{σ0 σ σ2:Sto}{G:Nat→Nat}(hk:KpR p S0 S σ σ2) (hp:PresI i S0 σ0 S σ) (hi:∀(l:Nat) t0 f0,p.objs[l]? =some (.arr t0 f0 true)→l<i)
 (hG:∀(j:Nat) t0 f0,p.objs[j]? =some (.arr t0 f0 true)→∀t xs fz g,S[j]? =some (.arr t xs fz g)→∃fz',S2[j]? =some (.arr t xs fz' (G j))):KpO p S0 σ0 S2 σ2:=by
 intro l t0 f0 hl g t1 x1 f1 h0
 obtain⟨t,xs,fz,g',h1,h2,h3⟩:=hk l t0 f0 hl
 unfold sameGen at h2
 rw[h0]at h2
 have h2:=nbeq h2
 subst h2
 obtain⟨fz',h4⟩:=hG l t0 f0 hl t xs fz g' h1
 refine⟨t,xs,fz',G l,h4,fun d hr=> ?_,fun k o d hr=> ?_⟩
 ·have h5:=hp.1 l g' d (hi l t0 f0 hl) hr
  obtain⟨fr,u,h6,h7⟩:=(h5.2 _ _ _ _ h1).2 rfl
  exact .mk h4 (by rw[h3];exact h6) h7
 ·have h5:=hp.2 l g' k o d (hi l t0 f0 hl) hr
  obtain⟨fr,u,h6,h7⟩:=(h5.2 _ _ _ _ h1).2 rfl
  exact .mk h4 (by rw[h3];exact h6) h7
def kpLo(i:Nat):Nat→List PO→Bool
 |_,[]=>true
 |j,p::ps=>(match p with| .arr _ _ true=>Nat.blt j i|_=>true)&&kpLo i (j+1) ps
theorem kpLo_ok{i:Nat}:∀{j:Nat}{ps:List PO},kpLo i j ps=true→∀(l:Nat) t0 f0,ps[l]? =some (.arr t0 f0 true)→j+l<i
 |j,[],_,l,t0,f0,h=>by simp at h
 |j,p::ps,hc,0,t0,f0,h=>by
  simp at h
  subst h
  simp only[kpLo,Bool.and_eq_true]at hc
  exact Nat.le_of_ble_eq_true hc.1
 |j,p::ps,hc,l+1,t0,f0,h=>by
  simp only[kpLo,Bool.and_eq_true]at hc
  have:=kpLo_ok hc.2 l t0 f0 (by simpa using h)
  omega
theorem sleave_ok{P:Program}{x:Exits}{i j N:Nat}{e:AEx}{τ:SEnv}{S0 S:SSto}{τ' :Env}{σ0 σ:Sto}{y:XS x.tcs}(h:sleave x i S0 e τ S=some y) (hE:ER S σ τ τ') (hS:StR S σ) (hp:PresI j S0 σ0 S σ) (hx:∀q ∈ x,kpLo j 0 q.2.objs=true):
 ∃τ2 σ2,SGho P i N τ' σ τ2 σ2∧XPost i x y S0 σ0 e τ2 σ2:=by
 unfold sleave at h
 obtain⟨q,hq,h⟩:=bind_inv h
 obtain⟨l,hl,h⟩:=bind_inv h
 obtain⟨m,p⟩:=q
 obtain⟨k,hk,hxk⟩:=exFind_ok hq
 rw[Nat.zero_add]at hk
 subst hk
 obtain⟨τ2,σ2,h1,h2,hG⟩:=Pat.norm (N:=N) hl hE hS
 refine⟨τ2,σ2,h1,m,p,l,hxk,fun α f=>xinj_elim _ h,fun G=> ?_⟩
 obtain⟨τs,S2,k1,k2,k3,k4,k5⟩:=hG G
 have hlo:=hx _ (List.mem_of_getElem? hxk)
 exact⟨τs,S2,k1,k2,k3,k4,h2.o hp (fun l t0 f0 hl=>by have:=kpLo_ok hlo l t0 f0 hl;omega) k5⟩
theorem XPost.go{α:Type}{i j:Nat}{S0:SSto}{σ0:Sto}{x:Exits}{y:XS x.tcs}{e:AEx}{τ' :Env}{σ:Sto}{k:AEx→SEnv→SSto→Option α}{r:α}(h:XPost j x y S0 σ0 e τ' σ) (hij:i≤j) (hk:sgo S0 x y k=some r):SPost i S0 σ0 k r e τ' σ:=by
 obtain⟨m,p,l,h1,h2,h3⟩:=h
 unfold sgo at hk
 rw[h2 α]at hk
 unfold sexit at hk
 rw[h1]at hk
 obtain⟨q,hq,hk⟩:=bind_inv hk
 cases hq
 split at hk<;>try (cases hk;done)
 rename_i hc
 obtain⟨w,hw,hk⟩:=bind_inv hk
 obtain⟨τ,S,h4,h5,h6,h7,h8⟩:=h3 (genOf S0 p.objs)
 simp only at hw hc
 rw[h4]at hw
 cases hw
 exact⟨τ,S,h6,h7,Pat.put_pres h4 hc (by omega) h8,hk⟩
def LOk(P:Program) (e:LoopC):Prop:=∀fn c,P.funcs[e.fid]? =some fn→fn.body=some c→∀b ∈ loopsOf e.key c,∀x y,e.fn x=some y→∀τ S,e.head.put (fun _=>0) (fromTup _ x)=some (τ,S)→
 ∀τ' σ,ER S σ τ τ'→StR S σ→LWp e.i P fn.ntmps b τ' σ (XPost e.i e.exits y S σ)
def kpSub(head:List PO) (objs:List PO):Bool:=match objs,head with
 |[],_=>true
 |p::ps,[]=>(match p with| .arr _ _ true=>false|_=>true)&&kpSub [] ps
 |p::ps,q::qs=>(match p with| .arr _ _ true=>(match q with| .arr _ _ true=>true|_=>false)|_=>true)&&kpSub qs ps
theorem kpSub_ok:∀{ps qs:List PO},kpSub qs ps=true→∀(l:Nat) t0 f0,ps[l]? =some (.arr t0 f0 true)→∃t1 f1,qs[l]? =some (.arr t1 f1 true)
 |[],_,_,l,t0,f0,h=>by simp at h
 |p::ps,[],hc,l,t0,f0,h=>by
  simp only[kpSub,Bool.and_eq_true]at hc
  cases l with
  |zero=>simp at h;subst h;simp at hc
  |succ l=>
   obtain⟨t1,f1,h1⟩:=kpSub_ok hc.2 l t0 f0 (by simpa using h)
   simp at h1
 |p::ps,q::qs,hc,l,t0,f0,h=>by
  simp only[kpSub,Bool.and_eq_true]at hc
  cases l with
  |zero=>
   simp at h
   subst h
   cases q with
   |arr t f kp=>cases kp<;>simp at hc;exact⟨t,f,rfl⟩
   |cells _ _=>simp at hc
   |it=>simp at hc
   |smap=>simp at hc
   |dead=>simp at hc
   |junk=>simp at hc
  |succ l=>
   obtain⟨t1,f1,h1⟩:=kpSub_ok hc.2 l t0 f0 (by simpa using h)
   exact⟨t1,f1,by simpa using h1⟩
theorem acall_gho{P:Program}{T:Tys}{i:Nat}{σ:Sto}(hTy:TOk T P) {f:FuncId}{fn:Func}{c:Code}{ds:List D}{R:D→Sto→Prop}(hf:P.funcs[f]? =some fn) (hb:fn.body=some c) (hn:ds.length≤fn.ntmps)
 (h:AWp i P fn.ntmps c (env0 0 ds) σ fun e τ' σ' =>(e= .normal∨e= .ret)∧∃d,resD T fn.results.toList τ' σ' =some d∧∃d' s',R d' s'∧Gho P σ' s' d d'):ACallB i P f ds σ R:=by
 have key:=acall_body (R:=fun d s=>∃d' s',R d' s'∧Gho P s s' d d') hTy hf hb hn h
 intro B G w vals hR hv
 refine(key B G w vals hR hv).mono ?_
 rintro e w' ⟨v,G',d,σ',rfl,h1,h2,h3,d',s',h4,h5⟩
 obtain⟨G2,k1,k2,k3⟩:=h5 B G' w' v h2 h3
 exact⟨v,G2,d',s',rfl,h1.trans k1.b,k2,k3,h4⟩
def stidy:SEnv→List Nat→SEnv
 |[],_=>[]
 |(t,d)::r,seen=>match seen.any (Nat.beq t) with
  |true=>stidy r seen
  |false=>(t,d)::stidy r (t::seen)
theorem sget_stidy:∀(τ:SEnv) (seen:List Nat) (t:Nat) (d:SV),sget (stidy τ seen) t=some d→seen.any (Nat.beq t)=false∧sget τ t=some d
 |[],_,_,_,h=>by simp[stidy,sget]at h
 |(i,x)::r,seen,t,d,h=>by
  simp only[stidy]at h
  split at h
  ·rename_i hs
   obtain⟨h1,h2⟩:=sget_stidy r seen t d h
   refine⟨h1,?_⟩
   have:i≠t:=fun e=>by subst e;rw[hs]at h1;cases h1
   rw[sget_cons,if_neg this];exact h2
  ·rename_i hs
   rw[sget_cons]at h⊢
   by_cases e:i=t
   ·subst e;rw[if_pos rfl]at h⊢;exact⟨hs,h⟩
   ·rw[if_neg e]at h⊢
    obtain⟨h1,h2⟩:=sget_stidy r (i::seen) t d h
    simp only[List.any_cons,Bool.or_eq_false_iff]at h1
    exact⟨h1.2,h2⟩
theorem ER.tidy{S:SSto}{σ:Sto}{τ:SEnv}{τ' :Env}(h:ER S σ τ τ'):ER S σ (stidy τ []) τ' :=fun t v hv=>h t v (sget_stidy τ [] t v hv).2
def loopTry{α:Type}(fid key i:Nat):List LoopC→SEnv→SSto→(AEx→SEnv→SSto→Option α)→Option α→Option α
 |[],_,_,_,no=>no
 |e::es,τ,S,k,no=>match Nat.beq e.fid fid&&Nat.beq e.key key&&Nat.ble i e.i with
  |true=>match (e.head.get e.i S τ S).bind (toTup e.head.tcs) with
   |some x=>match e.exits.all fun q=>kpSub e.head.objs q.2.objs with
    |true=>(e.fn x).bind fun y=>sgo S e.exits y k
    |false=>none
   |none=>loopTry fid key i es τ S k no
  |false=>loopTry fid key i es τ S k no
def condT(x:Operand) (b:Bool) (τ:SEnv):SEnv:=match x with
 | .tmp t=>(t,.bool b)::τ
 |_=>τ
def senv0:Nat→List SV→SEnv
 |_,[]=>[]
 |i,v::vs=>(i,v)::senv0 (i+1) vs
def isEnd:AEx→Bool
 | .normal=>true
 | .ret=>true
 |_=>false
def callW(cx:Cx) (run:(β:Type)→Nat→Nat→Nat→Code→SEnv→SSto→(AEx→SEnv→SSto→Option β)→Option β) {α:Type}:CallS α:=fun f vs S K=>match okF cx.P f with
 |some fn=>match fn.body,Nat.ble vs.length fn.ntmps with
  |some c,true=>match lk cx.J (Nat.add 2199023255552 (Nat.add (Nat.mul f 4096) S.length)) with
   |some ex=>match ex.all fun q=>kpLo S.length 0 q.2.objs with
    |true=>(run (XS ex.tcs) f fn.ntmps S.length c (senv0 0 vs) S fun e τ' S' =>sleave ex S.length S e τ' S').bind fun y=>sgo S ex y fun e τ' S' =>match isEnd e with
     |true=>sres cx.T τ' S' fn.results.toList fun v=>K v S'
     |false=>none
    |false=>none
   |none=>run α f fn.ntmps S.length c (senv0 0 vs) S fun e τ' S' =>match isEnd e with
    |true=>sres cx.T τ' S' fn.results.toList fun v=>K v S'
    |false=>none
  |_,_=>none
 |none=>none
noncomputable def scode(cx:Cx):Nat→{α:Type}→Nat→Nat→Nat→Nat→Code→SEnv→SSto→(AEx→SEnv→SSto→Option α)→Option α
 |0,_,_,_,_,_,_,_,_,_=>none
 |n+1,α,fid,N,i,lr,c,τ,S,k=>match c with
  | .skip=>k .normal τ S
  | .label _=>k .normal τ S
  | .ret=>k .ret τ S
  | .exit id=>k (.exit id) τ S
  | .seq a b=>scode cx n fid N i lr a τ S fun e τ' S' =>match e with
    | .normal=>scode cx n fid N i (lastR lr a) b τ' S' k
    |e=>k e τ' S'
  | .cond x a b=>match sev τ x with
    |some (.bool t)=>match lk cx.J (Nat.add (Nat.mul (Nat.add (Nat.mul fid 65536) lr) 1024) S.length) with
     |some ex=>match ex.all fun q=>kpLo i 0 q.2.objs with
      |true=>(cond t (scode cx n fid N i lr a (condT x true τ) S fun e τ' S' =>sleave ex i S e τ' S') (scode cx n fid N i lr b (condT x false τ) S fun e τ' S' =>sleave ex i S e τ' S')).bind fun y=>sgo S ex y k
      |false=>none
     |none=>cond t (scode cx n fid N i lr a (condT x true τ) S k) (scode cx n fid N i lr b (condT x false τ) S k)
    |_=>none
  | .block id b=>scode cx n fid N i lr b τ S fun e τ' S' =>match e with
    | .exit id' =>match Nat.beq id' id with
      |true=>k .normal τ' S'
      |false=>k (.exit id') τ' S'
    |e=>k e τ' S'
  | .loop b=>loopTry fid (firstR b) i cx.L τ S k (scode cx n fid N i lr b (stidy τ []) S fun e τ' S' =>match e with
    | .normal=>scode cx n fid N i lr (.loop b) τ' S' k
    |e=>k e τ' S')
  | .scope b=>scode cx n fid N i lr b τ S fun e τ' S' =>match e with
    | .goto _=>none
    |e=>k e τ' S'
  | .region _ ops false=>sops cx fid N (callW cx fun β f N i c τ S k=>scode cx n f N i 65535 c τ S k) ops ops.toList τ S fun τ' S' =>k .normal τ' S'
  | .region _ ops true=>match lastT cx fid ops with
    |some q=>sDrawT cx fid N (callW cx fun β f N i c τ S k=>scode cx n f N i 65535 c τ S k) ops q.1 (q.2.1::q.2.2) τ S fun τ' S' =>k .normal τ' S'
    |none=>sDraw cx fid N ops τ S fun τ' S' =>k .normal τ' S'
  |_=>none
theorem ER.env0{S:SSto}{σ:Sto}:∀{vs:List SV}{ds:List D}{i:Nat},VRs S σ vs ds→ER S σ (senv0 i vs) (env0 i ds)
 |[],_,_,h=>fun t v hv=>by simp[senv0,sget]at hv
 |v::vs,_,i,h=>by
  simp only[VRs]at h
  obtain⟨e,es,rfl,h1,h2⟩:=h
  exact(ER.env0 h2).push h1
def SubL(c body:Code):Prop:=∀key b,b ∈ loopsOf key c→b ∈ loopsOf key body
theorem LWp.low{i j N:Nat}{P:Program}{c:Code}{τ:Env}{σ:Sto}{Q:AEx→Env→Sto→Prop}(hij:i≤j) (h:LWp j P N c τ σ Q):LWp i P N c τ σ Q:=by
 intro B G w a hR hT b k cs
 obtain⟨e,a',w',x,h2⟩:=h B G w a hR hT b k cs
 refine⟨e,a',w',?_,h2⟩
 have low:∀{G G' :Gh},G.LeB j G'→G.LeB i G' :=fun h=>⟨h.imm,h.mimm,h.siz,fun l u b hl=>h.blk l u b (Nat.lt_of_lt_of_le hl hij)⟩
 cases e<;>simp only[liftQ]at x⊢<;>first
  |exact x
  |(obtain⟨G',τ',σ',h1,h2⟩:=x;exact⟨G',τ',σ',low h1,h2⟩)
theorem XPost.back{i:Nat}{x:Exits}{y:XS x.tcs}{head:Pat}{S S2:SSto}{σ σ2:Sto}{e:AEx}{τ' :Env}{σ' :Sto}(h:XPost i x y S2 σ2 e τ' σ') (hK:KpR head S S σ σ2) (hx:∀q ∈ x,kpSub head.objs q.2.objs=true)
 (hG:∀(j:Nat) t0 f0,head.objs[j]? =some (.arr t0 f0 true)→∀t xs fz g,S[j]? =some (.arr t xs fz g)→∃fz',S2[j]? =some (.arr t xs fz' 0)):XPost i x y S σ e τ' σ' :=by
 obtain⟨m,p,l,h1,h2,h3⟩:=h
 refine⟨m,p,l,h1,h2,fun G=> ?_⟩
 obtain⟨τ,S3,k1,k2,k3,k4,k5⟩:=h3 G
 refine⟨τ,S3,k1,k2,k3,k4,fun j t0 f0 hj g t1 x1 f1 hs=> ?_⟩
 obtain⟨t2,f2,hh⟩:=kpSub_ok (hx _ (List.mem_of_getElem? h1)) j t0 f0 hj
 obtain⟨t3,x3,f3,g3,a1,_,a3⟩:=hK j t2 f2 hh
 rw[hs]at a1
 cases a1
 obtain⟨fz',b1⟩:=hG j t2 f2 hh _ _ _ _ hs
 obtain⟨t4,x4,f4,g4,c1,c2,c3⟩:=k5 j t0 f0 hj 0 _ _ _ b1
 refine⟨t4,x4,f4,g4,c1,fun d hr=>c2 d ?_,fun k o d hr=>c3 k o d ?_⟩
 ·obtain⟨fr,u,h6,h7⟩:=(hr.2 _ _ _ _ hs).2 rfl
  exact .mk b1 (by rw[a3];exact h6) h7
 ·obtain⟨fr,u,h6,h7⟩:=(hr.2 _ _ _ _ hs).2 rfl
  exact .mk b1 (by rw[a3];exact h6) h7
theorem loopTry_ok{α:Type}{P:Program}{fid key i:Nat}{S:SSto}{σ:Sto}{τ:SEnv}{τ' :Env}{k:AEx→SEnv→SSto→Option α}{no:Option α}{r:α}{fn:Func}{body b:Code}(hfn:P.funcs[fid]? =some fn) (hb:fn.body=some body) (hm:b ∈ loopsOf key body) (hE:ER S σ τ τ') (hS:StR S σ):
 ∀(L:List LoopC),(∀e ∈ L,LOk P e)→loopTry fid key i L τ S k no=some r→no=some r∨LWp i P fn.ntmps b τ' σ (SPost i S σ k r)
 |[],_,h=> .inl h
 |e::es,hL,h=>by
  have rest:loopTry fid key i es τ S k no=some r→no=some r∨LWp i P fn.ntmps b τ' σ (SPost i S σ k r):=fun h=>loopTry_ok hfn hb hm hE hS es (fun e he=>hL e (List.mem_cons_of_mem _ he)) h
  simp only[loopTry]at h
  split at h
  ·rename_i hc
   simp only[Bool.and_eq_true]at hc
   have e1:=nbeq hc.1.1
   have e2:=nbeq hc.1.2
   have hi:=Nat.le_of_ble_eq_true hc.2
   split at h
   ·rename_i x hx
    obtain⟨l,hl,hx⟩:=bind_inv hx
    split at h<;>try (cases h;done)
    rename_i hall
    obtain⟨y,hy,h⟩:=bind_inv h
    have hfrom:=toTup_from _ hx
    obtain⟨τ2,σ2,h5,hK,hG⟩:=Pat.norm (N:=fn.ntmps) hl hE hS
    obtain⟨τs,S2,h1,h2,h3,h4,h6⟩:=hG fun _=>0
    refine .inr (LWp.low hi (LWp.sgho h5 (LWp.mono (hL e (List.mem_cons_self ..) fn body (by rw[e1];exact hfn) hb b (by rw[e2];exact hm) x y hy τs S2 (by rw[hfrom];exact h1) τ2 σ2 h3 h4) ?_)))
    exact fun e' τ3 σ3 hp=>(hp.back hK (List.all_eq_true.1 hall) h6).go hi h
   ·exact rest h
  ·exact rest h
theorem SPost.trans{α:Type}{i:Nat}{S0 S1:SSto}{σ0 σ1:Sto}{k:AEx→SEnv→SSto→Option α}{r:α}(h:PresI i S0 σ0 S1 σ1) {e:AEx}{τ' :Env}{σ' :Sto}(x:SPost i S1 σ1 k r e τ' σ'):SPost i S0 σ0 k r e τ' σ' :=by
 obtain⟨τ,S,h1,h2,h3,h4⟩:=x
 exact⟨τ,S,h1,h2,h.trans h3,h4⟩
theorem PresI.refl(i:Nat) (S:SSto) (σ:Sto):PresI i S σ S σ:=(Pres.refl S σ).i
def COk(cx:Cx) (n:Nat):Prop:=∀(α:Type) (fid i lr:Nat) (c:Code) (τ:SEnv) (S:SSto) (k:AEx→SEnv→SSto→Option α) (r:α) (fn:Func) (body:Code),
    cx.P.funcs[fid]? =some fn→fn.body=some body→SubL c body→scode cx n fid fn.ntmps i lr c τ S k=some r→∀(τ' :Env) (σ:Sto),ER S σ τ τ'→StR S σ→
    AWp i cx.P fn.ntmps c τ' σ (SPost i S σ k r)∧∀b,c= .loop b→LWp i cx.P fn.ntmps b τ' σ (SPost i S σ k r)
theorem callW_ok{cx:Cx}(hcx:CxOk cx) {n:Nat}(ih:COk cx n) {α:Type}:CallSOk cx.P (α:=α) (callW cx fun β f N i c τ S k=>scode cx n f N i 65535 c τ S k):=by
 intro f vs S K r h
 unfold callW at h
 split at h<;>try (cases h;done)
 rename_i fn2 hfn2
 obtain⟨g1,g2⟩:=fok_of hfn2
 split at h<;>try (cases h;done)
 rename_i c2 hb2 hn
 refine⟨g2,fun σ ds hS hv=> ?_⟩
 have hl:=hv.length
 have fin:∀{e:AEx}{τ2:Env}{σ2:Sto},SPost S.length S σ (fun e τ' S' =>match isEnd e with|true=>sres cx.T τ' S' fn2.results.toList fun v=>K v S' |false=>none) r e τ2 σ2→
  (e= .normal∨e= .ret)∧∃d,resD cx.T fn2.results.toList τ2 σ2=some d∧∃d' s',Post S σ K r d' s'∧Gho cx.P σ2 s' d d' :=by
  rintro e τ2 σ2 ⟨τs,S2,h1,h2,hp,h3⟩
  simp only at h3
  split at h3<;>try (cases h3;done)
  rename_i he
  refine⟨by cases e<;>first|exact .inl rfl|exact .inr rfl|(simp[isEnd]at he),?_⟩
  obtain⟨v,d0,d,k1,k2,k3,k4⟩:=sres_ok h2 h1 h3
  exact⟨d0,k4,d,σ2,⟨v,S2,k1,k2,h2,hp.full⟩,Gho.weak k3⟩
 split at h
 ·rename_i ex hex
  split at h<;>try (cases h;done)
  rename_i hall
  have hall:=List.all_eq_true.1 hall
  obtain⟨y,hy,hgo⟩:=bind_inv h
  have hw:=(ih _ f S.length 65535 c2 (senv0 0 vs) S _ y fn2 c2 g1 hb2 (fun _ _ hx=>hx) hy (env0 0 ds) σ (ER.env0 hv) hS).1
  have hw2:AWp S.length cx.P fn2.ntmps c2 (env0 0 ds) σ (SPost S.length S σ (fun e τ' S' =>match isEnd e with|true=>sres cx.T τ' S' fn2.results.toList fun v=>K v S' |false=>none) r):=by
   refine AWp.post (hw.mono ?_)
   rintro e τ2 σ2 ⟨τs,S2,h1,h2,hp,h3⟩
   obtain⟨τ3,σ3,h4,h5⟩:=sleave_ok (N:=fn2.ntmps) h3 h1 h2 hp hall
   exact⟨τ3,σ3,h4,h5.go (Nat.le_refl _) hgo⟩
  rw[hS.len]at hw2
  exact acall_gho hcx.tok g1 hb2 (by rw[hl];exact Nat.le_of_ble_eq_true hn) (hw2.mono fun e τ2 σ2 x=>by rw[←hS.len]at x;exact fin x)
 ·have hw:=(ih _ f S.length 65535 c2 (senv0 0 vs) S _ r fn2 c2 g1 hb2 (fun _ _ hx=>hx) h (env0 0 ds) σ (ER.env0 hv) hS).1
  rw[hS.len]at hw
  exact acall_gho hcx.tok g1 hb2 (by rw[hl];exact Nat.le_of_ble_eq_true hn) (hw.mono fun e τ2 σ2 x=>by rw[←hS.len]at x;exact fin x)
theorem loop_step{cx:Cx}(hL:∀e ∈ cx.L,LOk cx.P e) {n:Nat}(ih:COk cx n) {α:Type}{fid i lr:Nat}{b:Code}{τ:SEnv}{S:SSto}{k:AEx→SEnv→SSto→Option α}{r:α}{fn:Func}{body:Code}
 (hfn:cx.P.funcs[fid]? =some fn) (hb:fn.body=some body) (hsub:SubL (.loop b) body) (h:scode cx (n+1) fid fn.ntmps i lr (.loop b) τ S k=some r) {τ' :Env}{σ:Sto}(hE:ER S σ τ τ') (hS:StR S σ):LWp i cx.P fn.ntmps b τ' σ (SPost i S σ k r):=by
 simp only[scode]at h
 have hm:b ∈ loopsOf (firstR b) body:=hsub _ b (by simp[loopsOf])
 have sb:SubL b body:=fun key x hx=>hsub key x (by simp[loopsOf,hx])
 rcases loopTry_ok hfn hb hm hE hS cx.L hL h with h|h
 ·refine lwp_round ((ih _ fid i lr b _ S _ r fn body hfn hb sb h τ' σ hE.tidy hS).1.mono ?_)
  rintro e τ2 σ2 ⟨τs,S2,h1,h2,hp,h3⟩
  cases e with
  |normal=>exact((ih _ fid i lr (.loop b) τs S2 k r fn body hfn hb hsub h3 τ2 σ2 h1 h2).2 b rfl).mono fun e τ σ x=>x.trans hp
  |exit id=>exact⟨τs,S2,h1,h2,hp,h3⟩
  |goto l=>exact⟨τs,S2,h1,h2,hp,h3⟩
  |ret=>exact⟨τs,S2,h1,h2,hp,h3⟩
 ·exact h
theorem scode_ok{cx:Cx}(hcx:CxOk cx) (hL:∀e ∈ cx.L,LOk cx.P e):∀(n:Nat),COk cx n
 |0=>fun α fid i lr c τ S k r fn body _ _ _ h _ _ _ _=>by simp[scode]at h
 |n+1=>by
  have ih:=scode_ok hcx hL n
  intro α fid i lr c τ S k r fn body hfn hb hsub h τ' σ hE hS
  refine⟨?_,fun b e=>by subst e;exact loop_step hL ih hfn hb hsub h hE hS⟩
  cases c<;>(try (simp[scode]at h;done))
  case skip=>exact awp_skip ⟨τ,S,hE,hS,.refl _ _ _,h⟩
  case label=>exact awp_label ⟨τ,S,hE,hS,.refl _ _ _,h⟩
  case ret=>exact awp_ret ⟨τ,S,hE,hS,.refl _ _ _,h⟩
  case exit id=>exact awp_exit ⟨τ,S,hE,hS,.refl _ _ _,h⟩
  case seq a b=>
   simp only[scode]at h
   refine awp_seq ((ih _ fid i lr a τ S _ r fn body hfn hb (fun key x hx=>hsub key x (by simp[loopsOf,hx])) h τ' σ hE hS).1.mono ?_)
   rintro e τ2 σ2 ⟨τs,S2,h1,h2,hp,h3⟩
   cases e with
   |normal=>exact(ih _ fid i _ b τs S2 k r fn body hfn hb (fun key x hx=>hsub key x (by simp[loopsOf,hx])) h3 τ2 σ2 h1 h2).1.mono fun e τ σ x=>x.trans hp
   |exit id=>exact⟨τs,S2,h1,h2,hp,h3⟩
   |goto l=>exact⟨τs,S2,h1,h2,hp,h3⟩
   |ret=>exact⟨τs,S2,h1,h2,hp,h3⟩
  case cond x a b=>
   simp only[scode]at h
   split at h<;>try (cases h;done)
   rename_i t ht
   obtain⟨d,hd,hvd⟩:=sev_ok hE ht
   simp only[VR]at hvd
   subst hvd
   have hcT:ER S σ (condT x t τ) τ' :=by
    unfold condT
    split
    ·exact hE.setB hd
    ·exact hE
   have sa:SubL a body:=fun key x hx=>hsub key x (by simp[loopsOf,hx])
   have sb:SubL b body:=fun key x hx=>hsub key x (by simp[loopsOf,hx])
   split at h
   ·rename_i ex hex
    split at h<;>try (cases h;done)
    rename_i hall
    have hall:=List.all_eq_true.1 hall
    obtain⟨y,hy,hk⟩:=bind_inv h
    clear h
    refine AWp.post ?_
    rcases cond_inv hy with⟨rfl,hy⟩|⟨rfl,hy⟩
    ·refine awp_condT hd ((ih _ fid i lr a _ S _ y fn body hfn hb sa hy τ' σ hcT hS).1.mono ?_)
     rintro e τ2 σ2 ⟨τs,S2,h1,h2,hp,h3⟩
     obtain⟨τ3,σ3,h4,h5⟩:=sleave_ok (N:=fn.ntmps) h3 h1 h2 hp hall
     exact⟨τ3,σ3,h4,h5.go (Nat.le_refl _) hk⟩
    ·refine awp_condF hd ((ih _ fid i lr b _ S _ y fn body hfn hb sb hy τ' σ hcT hS).1.mono ?_)
     rintro e τ2 σ2 ⟨τs,S2,h1,h2,hp,h3⟩
     obtain⟨τ3,σ3,h4,h5⟩:=sleave_ok (N:=fn.ntmps) h3 h1 h2 hp hall
     exact⟨τ3,σ3,h4,h5.go (Nat.le_refl _) hk⟩
   ·rcases cond_inv h with⟨rfl,h⟩|⟨rfl,h⟩
    ·exact awp_condT hd (ih _ fid i lr a _ S k r fn body hfn hb sa h τ' σ hcT hS).1
    ·exact awp_condF hd (ih _ fid i lr b _ S k r fn body hfn hb sb h τ' σ hcT hS).1
  case block id b=>
   simp only[scode]at h
   refine awp_block ((ih _ fid i lr b τ S _ r fn body hfn hb (fun key x hx=>hsub key x (by simpa[loopsOf] using hx)) h τ' σ hE hS).1.mono ?_)
   rintro e τ2 σ2 ⟨τs,S2,h1,h2,hp,h3⟩
   cases e with
   |normal=>exact⟨τs,S2,h1,h2,hp,h3⟩
   |exit id' =>
    simp only[blockQ]
    simp only at h3
    split at h3
    ·rename_i he
     rw[if_pos (nbeq he)];exact⟨τs,S2,h1,h2,hp,h3⟩
    ·rename_i he
     rw[if_neg (fun e=>by subst e;rw[Nat.beq_refl]at he;cases he)];exact⟨τs,S2,h1,h2,hp,h3⟩
   |goto l=>exact⟨τs,S2,h1,h2,hp,h3⟩
   |ret=>exact⟨τs,S2,h1,h2,hp,h3⟩
  case scope b=>
   simp only[scode]at h
   refine awp_scope ((ih _ fid i lr b τ S _ r fn body hfn hb (fun key x hx=>hsub key x (by simpa[loopsOf] using hx)) h τ' σ hE hS).1.mono ?_)
   rintro e τ2 σ2 ⟨τs,S2,h1,h2,hp,h3⟩
   cases e with
   |normal=>exact⟨τs,S2,h1,h2,hp,h3⟩
   |exit id=>exact⟨τs,S2,h1,h2,hp,h3⟩
   |goto l=>cases h3
   |ret=>exact⟨τs,S2,h1,h2,hp,h3⟩
  case loop b=>exact awp_loop1 (loop_step hL ih hfn hb hsub h hE hS)
  case region id ops draw=>
   cases draw with
   |true=>
    simp only[scode]at h
    split at h
    ·rename_i q hq
     refine(sDrawT_ok hcx (callW_ok hcx ih) hS hE hq h).mono ?_
     rintro e τ2 σ2 ⟨rfl,τs,S2,h1,h2,hp,h3⟩
     exact⟨τs,S2,h1,h2,hp.i,h3⟩
    ·refine(sDraw_ok hcx hS hE h).mono ?_
     rintro e τ2 σ2 ⟨rfl,τs,S2,h1,h2,hp,h3⟩
     exact⟨τs,S2,h1,h2,hp.i,h3⟩
   |false=>
    simp only[scode]at h
    refine awp_region (AOps.monoK ?_ _ _ _ (sops_ok hcx (callW_ok hcx ih) _ _ _ _ _ hS hE h))
    rintro τ2 σ2 ⟨τs,S2,h1,h2,hp,h3⟩
    exact⟨τs,S2,h1,h2,hp.i,h3⟩
end Go.Fw
