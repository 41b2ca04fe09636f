/- A framework for proofs about Go programs in this model: part G. Everything is proved; no condition is added. -/
import Derived.Test.YtgliijeioigckaaGreatDoorFwF
set_option linter.unusedVariables false
set_option linter.unusedSimpArgs false
namespace Go.Fw
open Go.RowKit
def Gho(P:Program) (σ σ' :Sto) (d d' :D):Prop:=∀(B:Base P) (G:Gh) (w:World) (v:Value),Rel B G σ w→Rep G d v→∃G',G.Le G'∧Rel B G' σ' w∧Rep G' d' v
def Ghos(P:Program) (σ σ' :Sto) (d d' :List D):Prop:=∀(B:Base P) (G:Gh) (w:World) (v:List Value),Rel B G σ w→Reps G d v→∃G',G.Le G'∧Rel B G' σ' w∧Reps G' d' v
theorem Gho.refl{P:Program}(σ:Sto) (d:D):Gho P σ σ d d:=fun _ G _ _ hR hv=>⟨G,.refl G,hR,hv⟩
theorem Gho.weak{P:Program}{σ:Sto}{d e:D}(h:Weak d e):Gho P σ σ d e:=fun _ G _ _ hR hv=>⟨G,.refl G,hR,h _ _ hv⟩
theorem Gho.trans{P:Program}{σ σ1 σ2:Sto}{d e f:D}(h:Gho P σ σ1 d e) (k:Gho P σ1 σ2 e f):Gho P σ σ2 d f:=fun B G w v hR hv=>by
 obtain⟨G1,l1,R1,r1⟩:=h B G w v hR hv
 obtain⟨G2,l2,R2,r2⟩:=k B G1 w v R1 r1
 exact⟨G2,l1.trans l2,R2,r2⟩
theorem AOp.ghost{P:Program}{N:Nat}{o:Oper}{τ:Env}{σ:Sto}{K K' :D→Sto→Prop}(h:AOp P N o τ σ K) (hg:∀d s,K d s→∃d' s',K' d' s'∧Gho P s s' d d'):AOp P N o τ σ K' :=by
 intro B G w a hR hT next Q hn
 refine h B G w a hR hT next Q ?_
 intro v w' G' d s h1 h2 h3 h4
 obtain⟨d',s',h5,h6⟩:=hg d s h4
 obtain⟨G2,k1,k2,k3⟩:=h6 B G' w' v h2 h3
 exact hn v w' G2 d' s' (h1.trans k1) k2 k3 h5
def Post{α:Type}(S:SSto) (σ:Sto) (K:SV→SSto→Option α) (r:α):D→Sto→Prop:=fun d s=>∃v S',K v S' =some r∧VR S' s v d∧StR S' s∧Pres S σ S' s
def GOk{α:Type}(P:Program) (N:Nat) (o:Oper) (S:SSto) (σ:Sto) (τ' :Env) (K:SV→SSto→Option α) (r:α):Prop:=AOp P N o τ' σ (Post S σ K r)
section
variable {α:Type}{P:Program}{T:Tys}{N:Nat}{o:Oper}{S:SSto}{σ:Sto}{τ:SEnv}{τ' :Env}{K:SV→SSto→Option α}{r:α}
theorem ROk.g(tok:TOk T P) {fp:List Nat}(hS:StR S σ) (h:ROk T S σ τ' o.op fp (fun v=>K v S) r):GOk P N o S σ τ' K r:=by
 obtain⟨v,d0,d,h1,h2,h3,h4⟩:=h
 refine((aop_aop tok (h4 σ fun _ _=>rfl)).weak h3).mono ?_
 rintro d' s ⟨rfl,rfl⟩
 exact⟨v,S,h1,h2,hS,.refl _ _⟩
theorem WOk.g{fp:List Nat}(h:WOk P N o S σ τ' fp K r):GOk P N o S σ τ' K r:=by
 obtain⟨v,S',d,up,h1,h2,h3,h4,h5,_⟩:=h
 refine(h2 σ (fun _ _=>rfl) rfl).mono ?_
 rintro d' s ⟨rfl,rfl⟩
 exact⟨v,S',h1,h3,h4,h5⟩
inductive OH where
 |val (tc:TC)|cells (l:List (Nat×TC))|build (tc:TC)|frz|res|frzv|agg (l:List (Nat×TC))
 deriving Inhabited
def ownCells(i:Nat):List (Nat×TC)→SSto→(SSto→Option α)→Option α
 |[],S,K=>K S
 |(o,tc)::r,S,K=>match S[i]? with
  |some (.cells cs fz)=>match cs[o]? with
   |some .nils=>ownCells i r ((S.set i (.cells (cs.set o (.own S.length 0)) fz))++[.arr tc [] false 0]) K
   |_=>none
  |_=>none
theorem VRs.set{S:SSto}{σ:Sto}{v:SV}{d:D}(h:VR S σ v d):∀{cs:List SV}{ds:List D}{o:Nat},VRs S σ cs ds→VRs S σ (cs.set o v) (ds.set o d)
 |[],_,_,hv=>by simp only[VRs]at hv;subst hv;simp[VRs]
 |c::cs,_,0,hv=>by
  simp only[VRs]at hv
  obtain⟨e,es,rfl,h1,h2⟩:=hv
  simp only[List.set_cons_zero,VRs]
  exact⟨d,es,rfl,h,h2⟩
 |c::cs,_,o+1,hv=>by
  simp only[VRs]at hv
  obtain⟨e,es,rfl,h1,h2⟩:=hv
  simp only[List.set_cons_succ,VRs]
  exact⟨e,es.set o d,rfl,h1,VRs.set h h2⟩
theorem own_new{S:SSto}{σ:Sto}(hS:StR S σ) (tc:TC):StR (S++[.arr tc [] false 0]) (σ++[.cells [] 0 0])∧Pres S σ (S++[.arr tc [] false 0]) (σ++[.cells [] 0 0])∧VR (S++[.arr tc [] false 0]) (σ++[.cells [] 0 0]) (.own S.length 0) (.sl σ.length 0 0 0 tc.sz false):=by
 have e:tc.flat []=[]:=flatE_nil _
 refine⟨hS.push ⟨0,0,by rw[e],fun _=>rfl⟩,Pres.push hS.len _ _,?_⟩
 simp only[VR]
 exact .mk (t:=tc) (xs:=[]) (fz:=false) (fr:=0) (u:=0) (by simp) (by rw[e,hS.len];simp) (by rw[hS.len];rfl)
theorem ownCells_ok{i:Nat}{K:SSto→Option α}:∀{l:List (Nat×TC)}{S:SSto}{σ:Sto},ownCells i l S K=some r→StR S σ→∃S' σ',K S' =some r∧StR S' σ'∧Pres S σ S' σ'∧∀d,(∀v,d= .ptr i 0 0→Gho P σ σ' d v→True)∧Gho P σ σ' d d
 |[],S,σ,h,hS=>⟨S,σ,h,hS,.refl _ _,fun d=>⟨fun _ _ _=>trivial,.refl _ _⟩⟩
 |(o,tc)::l,S,σ,h,hS=>by
  simp only[ownCells]at h
  split at h<;>try (cases h;done)
  rename_i cs fz hl
  split at h<;>try (cases h;done)
  rename_i hc
  obtain⟨a,ha,ds,fr,rfl,hfr,hds⟩:=hS.obj _ _ hl
  obtain⟨n1,n2,n3⟩:=own_new hS tc
  obtain⟨e,he,hev⟩:=hds.get hc
  simp only[VR]at hev
  subst hev
  have hlt:=lt_of_getElem? hl
  have hlt' :=lt_of_getElem? ha
  have h1:(S++[SObj.arr tc [] false 0])[i]? =some (.cells cs fz):=by rw[List.getElem?_append_left hlt];exact hl
  have hpr:=Pres.setCells n1 (cs' :=cs.set o (.own S.length 0)) (fz' :=fz) (a:= .cells (ds.set o (.sl σ.length 0 0 0 tc.sz false)) fr 0) h1
  have hS2:=n1.set h1 hpr ⟨_,fr,rfl,hfr,VRs.set (VR.pres hpr _ _ n3) (VRs.pres (n2.trans hpr) _ _ hds)⟩
  have e1:(S++[SObj.arr tc [] false 0]).set i (.cells (cs.set o (.own S.length 0)) fz)=(S.set i (.cells (cs.set o (.own S.length 0)) fz))++[.arr tc [] false 0]:=by rw[List.set_append_left _ _ hlt]
  have e2:(σ++[AObj.cells [] 0 0]).set i (.cells (ds.set o (.sl σ.length 0 0 0 tc.sz false)) fr 0)=(σ.set i (.cells (ds.set o (.sl σ.length 0 0 0 tc.sz false)) fr 0))++[.cells [] 0 0]:=by rw[List.set_append_left _ _ hlt']
  rw[e1,e2]at hS2 hpr
  obtain⟨S',σ',h2,h3,h4,h5⟩:=ownCells_ok h hS2
  refine⟨S',σ',h2,h3,(n2.trans hpr).trans h4,fun d=>⟨fun _ _ _=>trivial,Gho.trans ?_ (h5 d).2⟩⟩
  intro B G w v hR hv
  have hR2:=(hR.weakObj ha (cs' :=ds.set o (.sl σ.length 0 0 0 tc.sz false)) (by simp) fun vs hv=>Reps.set_weak (fun v hv=>nil_own hv) he hv).newObj
  exact⟨G,.refl G,hR2,hv⟩
def ownAgg:List (Nat×TC)→List SV→SSto→(List SV→SSto→Option α)→Option α
 |[],cs,S,K=>K cs S
 |(o,tc)::r,cs,S,K=>match cs[o]? with
  |some .nils=>ownAgg r (cs.set o (.own S.length 0)) (S++[.arr tc [] false 0]) K
  |_=>none
theorem ownAgg_ok{K:List SV→SSto→Option α}:∀{l:List (Nat×TC)}{cs:List SV}{ds:List D}{S:SSto}{σ:Sto},ownAgg l cs S K=some r→StR S σ→VRs S σ cs ds→∃cs' ds' S' σ',K cs' S' =some r∧StR S' σ'∧Pres S σ S' σ'∧VRs S' σ' cs' ds'∧Ghos P σ σ' ds ds'
 |[],cs,ds,S,σ,h,hS,hv=>⟨cs,ds,S,σ,h,hS,.refl _ _,hv,fun _ G _ _ hR hr=>⟨G,.refl G,hR,hr⟩⟩
 |(o,tc)::l,cs,ds,S,σ,h,hS,hv=>by
  simp only[ownAgg]at h
  split at h<;>try (cases h;done)
  rename_i hc
  obtain⟨n1,n2,n3⟩:=own_new hS tc
  obtain⟨e,he,hev⟩:=hv.get hc
  simp only[VR]at hev
  subst hev
  obtain⟨cs',ds',S',σ',h2,h3,h4,h5,h6⟩:=ownAgg_ok h n1 (VRs.set n3 (VRs.pres n2 _ _ hv))
  refine⟨cs',ds',S',σ',h2,h3,n2.trans h4,h5,?_⟩
  intro B G w v hR hr
  exact h6 B G w v hR.newObj (Reps.set_weak (fun v hv=>nil_own hv) he hr)
mutual
def sFrz(S:SSto):SV→Option (SV×SSto)
 | .own l g=>match S[l]? with
   |some (.arr tc xs _ g')=>match Nat.beq g g' with
    |true=>some (.sl tc xs false,S.set l (.arr tc xs true g'))
    |false=>none
   |_=>none
 | .agg cs=>match sFrzs S cs with
   |some (cs',S')=>some (.agg cs',S')
   |none=>none
 | .tup cs=>match sFrzs S cs with
   |some (cs',S')=>some (.tup cs',S')
   |none=>none
 |v=>some (v,S)
def sFrzs(S:SSto):List SV→Option (List SV×SSto)
 |[]=>some ([],S)
 |v::vs=>match sFrz S v with
  |some (v',S1)=>match sFrzs S1 vs with
   |some (vs',S2)=>some (v' ::vs',S2)
   |none=>none
  |none=>none
end
mutual
theorem sFrz_ok:∀(v:SV) {S S' :SSto}{σ:Sto}{v' :SV}{d:D},sFrz S v=some (v',S')→StR S σ→VR S σ v d→∃d' σ',VR S' σ' v' d'∧StR S' σ'∧Pres S σ S' σ'∧Gho P σ σ' d d'
 | .own l g,S,S',σ,v',d,h,hS,hv=>by
   simp only[sFrz]at h
   split at h<;>try (cases h;done)
   rename_i tc xs fz g' hl
   split at h<;>try (cases h;done)
   rename_i hg
   have hg:=nbeq hg
   subst hg
   cases h
   simp only[VR]at hv
   obtain⟨fr,u,k4,rfl⟩:=(hv.2 _ _ _ _ hl).2 rfl
   have hfl:(tc.flat xs).length=xs.length*tc.sz:=flatE_len _ _
   have hpr:Pres S σ (S.set l (.arr tc xs true g)) (σ.set l (.cells (tc.flat xs) (tc.flat xs).length u)):=Pres.setSame hS hl k4 rfl
   refine⟨.list (tc.flat xs) xs.length false,_,by simp only[VR];exact⟨false,rfl,fun h=>by cases h⟩,hS.set hl hpr ⟨_,u,rfl,fun h=>by cases h⟩,hpr,?_⟩
   intro B G w v hR hv
   obtain⟨G',h1,h2,h3⟩:=freeze_ok hR k4 (by rw[hfl];omega) hv
   refine⟨G',h1,h2,?_⟩
   rw[List.drop_zero,List.take_of_length_le (by rw[hfl];exact Nat.le_refl _)]at h3
   exact h3
 | .agg cs,S,S',σ,v',d,h,hS,hv=>by
   simp only[sFrz]at h
   split at h<;>try (cases h;done)
   rename_i cs' S1 hc
   cases h
   simp only[VR]at hv
   obtain⟨ds,rfl,hv⟩:=hv
   obtain⟨ds',σ',h1,h2,h3,h4⟩:=sFrzs_ok cs hc hS hv
   refine⟨.agg ds',σ',by simp only[VR];exact⟨ds',rfl,h1⟩,h2,h3,?_⟩
   intro B G w v hR hr
   simp only[Rep]at hr
   obtain⟨a,rfl,hr⟩:=hr
   obtain⟨G',k1,k2,k3⟩:=h4 B G w _ hR hr
   exact⟨G',k1,k2,by simp only[Rep];exact⟨a,rfl,k3⟩⟩
 | .tup cs,S,S',σ,v',d,h,hS,hv=>by
   simp only[sFrz]at h
   split at h<;>try (cases h;done)
   rename_i cs' S1 hc
   cases h
   simp only[VR]at hv
   obtain⟨ds,rfl,hv⟩:=hv
   obtain⟨ds',σ',h1,h2,h3,h4⟩:=sFrzs_ok cs hc hS hv
   refine⟨.tuple ds',σ',by simp only[VR];exact⟨ds',rfl,h1⟩,h2,h3,?_⟩
   intro B G w v hR hr
   simp only[Rep]at hr
   obtain⟨a,rfl,hr⟩:=hr
   obtain⟨G',k1,k2,k3⟩:=h4 B G w _ hR hr
   exact⟨G',k1,k2,by simp only[Rep];exact⟨a,rfl,k3⟩⟩
 | .int _ _,S,S',σ,v',d,h,hS,hv=>by simp only[sFrz]at h;cases h;exact⟨d,σ,hv,hS,.refl _ _,.refl _ _⟩
 | .bool _,S,S',σ,v',d,h,hS,hv=>by simp only[sFrz]at h;cases h;exact⟨d,σ,hv,hS,.refl _ _,.refl _ _⟩
 | .str _,S,S',σ,v',d,h,hS,hv=>by simp only[sFrz]at h;cases h;exact⟨d,σ,hv,hS,.refl _ _,.refl _ _⟩
 | .sl _ _ _,S,S',σ,v',d,h,hS,hv=>by simp only[sFrz]at h;cases h;exact⟨d,σ,hv,hS,.refl _ _,.refl _ _⟩
 | .nils,S,S',σ,v',d,h,hS,hv=>by simp only[sFrz]at h;cases h;exact⟨d,σ,hv,hS,.refl _ _,.refl _ _⟩
 | .lst _ _ _,S,S',σ,v',d,h,hS,hv=>by simp only[sFrz]at h;cases h;exact⟨d,σ,hv,hS,.refl _ _,.refl _ _⟩
 | .func _ _ _,S,S',σ,v',d,h,hS,hv=>by simp only[sFrz]at h;cases h;exact⟨d,σ,hv,hS,.refl _ _,.refl _ _⟩
 | .iface _ _,S,S',σ,v',d,h,hS,hv=>by simp only[sFrz]at h;cases h;exact⟨d,σ,hv,hS,.refl _ _,.refl _ _⟩
 | .ap _ _ _ _,S,S',σ,v',d,h,hS,hv=>by simp only[sFrz]at h;cases h;exact⟨d,σ,hv,hS,.refl _ _,.refl _ _⟩
 | .rp _ _ _,S,S',σ,v',d,h,hS,hv=>by simp only[sFrz]at h;cases h;exact⟨d,σ,hv,hS,.refl _ _,.refl _ _⟩
 | .rc _ _,S,S',σ,v',d,h,hS,hv=>by simp only[sFrz]at h;cases h;exact⟨d,σ,hv,hS,.refl _ _,.refl _ _⟩
 | .raw _,S,S',σ,v',d,h,hS,hv=>by simp only[sFrz]at h;cases h;exact⟨d,σ,hv,hS,.refl _ _,.refl _ _⟩
theorem sFrzs_ok:∀(vs:List SV) {S S' :SSto}{σ:Sto}{vs' :List SV}{ds:List D},sFrzs S vs=some (vs',S')→StR S σ→VRs S σ vs ds→∃ds' σ',VRs S' σ' vs' ds'∧StR S' σ'∧Pres S σ S' σ'∧Ghos P σ σ' ds ds'
 |[],S,S',σ,vs',ds,h,hS,hv=>by
  simp only[sFrzs,Option.some.injEq,Prod.mk.injEq]at h
  obtain⟨rfl,rfl⟩:=h
  exact⟨ds,σ,hv,hS,.refl _ _,fun _ G _ _ hR hr=>⟨G,.refl G,hR,hr⟩⟩
 |v::vs,S,S',σ,vs',ds,h,hS,hv=>by
  simp only[sFrzs]at h
  split at h<;>try (cases h;done)
  rename_i v1 S1 h1
  split at h<;>try (cases h;done)
  rename_i vs1 S2 h2
  cases h
  simp only[VRs]at hv
  obtain⟨e,es,rfl,hve,hvs⟩:=hv
  obtain⟨d',σ1,a1,a2,a3,a4⟩:=sFrz_ok v h1 hS hve
  obtain⟨ds',σ2,b1,b2,b3,b4⟩:=sFrzs_ok vs h2 a2 (VRs.pres a3 _ _ hvs)
  refine⟨d' ::ds',σ2,by simp only[VRs];exact⟨d',ds',rfl,VR.pres b3 _ _ a1,b1⟩,b2,a3.trans b3,?_⟩
  intro B G w xs hR hr
  simp only[Reps]at hr
  obtain⟨x,xr,rfl,hx,hxr⟩:=hr
  obtain⟨G1,l1,R1,r1⟩:=a4 B G w x hR hx
  obtain⟨G2,l2,R2,r2⟩:=b4 B G1 w xr R1 (Reps.mono l1 _ _ hxr)
  exact⟨G2,l1.trans l2,R2,by simp only[Reps];exact⟨x,xr,rfl,Rep.mono l2 _ _ r1,r2⟩⟩
end
end
end Go.Fw
namespace Go.Fw
open Go.RowKit
def Gh.cutTo(G:Gh) (m:Nat):Gh:={G with blk:=fun l u=>if l<m then G.blk l u else none}
mutual
theorem Rep.cutTo{G:Gh}{m:Nat}:∀(d:D) (v:Value),D.lo m d=true→Rep G d v→Rep (G.cutTo m) d v
 | .bool _,_,_,x=>by simpa only[Rep] using x
 | .int _ _,_,_,x=>by simpa only[Rep] using x
 | .str _,_,_,x=>by simpa only[Rep] using x
 | .nilp,_,_,x=>by simpa only[Rep] using x
 | .ptr l _ _,_,h,x=>by
   have h:l<m:=Nat.le_of_ble_eq_true h
   simp only[Rep,Gh.cutTo,if_pos h]at x⊢;exact x
 | .rptr cs _,_,h,x=>by
   simp only[Rep]at x⊢
   obtain⟨b,o',e,r⟩:=x
   exact⟨b,o',e,Cells.cutTo b _ cs h r⟩
 | .list cs _ _,_,h,x=>by
   simp only[Rep]at x⊢
   obtain⟨a,cap,e,h1,h2,h3,h4⟩:=x
   refine⟨a,cap,e,h1,h2,h3,h4.imp ?_ id⟩
   rintro⟨b,o,ha,hc⟩
   exact⟨b,o,ha,Cells.cutTo b _ cs h hc⟩
 | .sl l _ _ _ _ _,_,h,x=>by
   have h:l<m:=Nat.le_of_ble_eq_true h
   simp only[Rep,Gh.cutTo,if_pos h]at x⊢;exact x
 | .map l,_,h,x=>by
   have h:l<m:=Nat.le_of_ble_eq_true h
   simp only[Rep,Gh.cutTo,if_pos h]at x⊢;exact x
 | .nilmap,_,_,x=>by simpa only[Rep] using x
 | .cmap ks vs,_,h,x=>by
   simp only[D.lo,Bool.and_eq_true]at h
   simp only[Rep]at x⊢
   obtain⟨b,es,e,hm,h1,h2⟩:=x
   exact⟨b,es,e,hm,Reps.cutTo ks _ h.1 h1,Reps.cutTo vs _ h.2 h2⟩
 | .pmap ks vs,_,h,x=>by
   simp only[D.lo,Bool.and_eq_true]at h
   simp only[Rep]at x⊢
   obtain⟨b,es,π,e,hm,hπ,h1,h2⟩:=x
   exact⟨b,es,π,e,hm,hπ,Reps.cutTo ks _ h.1 h1,Reps.cutTo vs _ h.2 h2⟩
 | .func _ a b,_,h,x=>by
   simp only[D.lo,Bool.and_eq_true]at h
   simp only[Rep]at x⊢
   obtain⟨f,c,e,h1,h2⟩:=x
   exact⟨f,c,e,Reps.cutTo a _ h.1 h1,Reps.cutTo b _ h.2 h2⟩
 | .nilf,_,_,x=>by simpa only[Rep] using x
 | .iface _ d,_,h,x=>by
   simp only[Rep]at x⊢
   obtain⟨y,e,h1⟩:=x
   exact⟨y,e,Rep.cutTo d _ h h1⟩
 | .nili,_,_,x=>by simpa only[Rep] using x
 | .anyi,_,_,x=>by simpa only[Rep] using x
 | .agg cs,_,h,x=>by
   simp only[Rep]at x⊢
   obtain⟨a,e,h1⟩:=x
   exact⟨a,e,Reps.cutTo cs _ h h1⟩
 | .tuple cs,_,h,x=>by
   simp only[Rep]at x⊢
   obtain⟨a,e,h1⟩:=x
   exact⟨a,e,Reps.cutTo cs _ h h1⟩
 | .junk,_,_,_=>by simp only[Rep]
theorem Cells.cutTo{G:Gh}{m:Nat}(b:Nat):∀(o:Nat) (ds:List D),D.los m ds=true→Cells G b o ds→Cells (G.cutTo m) b o ds
 |_,[],_,_=>by simp only[Cells]
 |o,d::ds,h,x=>by
  simp only[D.los,Bool.and_eq_true]at h
  simp only[Cells]at x⊢
  obtain⟨⟨v,e,r⟩,hs⟩:=x
  exact⟨⟨v,e,Rep.cutTo d v h.1 r⟩,Cells.cutTo b _ ds h.2 hs⟩
theorem Reps.cutTo{G:Gh}{m:Nat}:∀(ds:List D) (vs:List Value),D.los m ds=true→Reps G ds vs→Reps (G.cutTo m) ds vs
 |[],_,_,x=>by simpa only[Reps] using x
 |d::ds,_,h,x=>by
  simp only[D.los,Bool.and_eq_true]at h
  simp only[Reps]at x⊢
  obtain⟨v,r,e,h1,h2⟩:=x
  exact⟨v,r,e,Rep.cutTo d v h.1 h1,Reps.cutTo ds r h.2 h2⟩
end
theorem ObjAt.cutTo{G:Gh}{m:Nat}{w:World}{b:Nat}{ob:AObj}(hk:ob.lo m=true) (h:ObjAt G w b ob):ObjAt (G.cutTo m) w b ob:=by
 cases ob with
 |cells cs f v=>
  obtain⟨vs,et,h1,h2,tl,hd,h3,h4⟩:=h
  exact⟨vs,et,h1,h2,tl,hd,h3,Reps.cutTo _ _ hk h4⟩
 |map a c=>
  simp only[AObj.lo,Bool.and_eq_true]at hk
  obtain⟨es,h1,h2,h3⟩:=h
  exact⟨es,h1,Reps.cutTo _ _ hk.1 h2,Reps.cutTo _ _ hk.2 h3⟩
 |siter s p=>exact h
 |miter a c r cur=>
  simp only[AObj.lo,Bool.and_eq_true]at hk
  obtain⟨m,es,seen,h1,h2,h3,h4,h5,h6⟩:=h
  exact⟨m,es,seen,h1,h2,Reps.cutTo _ _ hk.1 h3,Reps.cutTo _ _ hk.2 h4,h5,h6⟩
 |dead=>exact h
 |gone=>exact h
theorem Rel.cutTo{P:Program}{B:Base P}{G:Gh}{σ g:Sto}{w:World}(hR:Rel B G (σ++g) w) (hl:∀ob ∈ σ,ob.lo σ.length=true):Rel B (G.cutTo σ.length) σ w:=by
 have hb:∀{l u b:Nat},(G.cutTo σ.length).blk l u=some b→l<σ.length∧G.blk l u=some b:=by
  intro l u b h
  simp only[Gh.cutTo]at h
  split at h
  ·exact⟨by assumption,h⟩
  ·cases h
 have up:∀{l:Nat}{ob:AObj},σ[l]? =some ob→(σ++g)[l]? =some ob:=fun h=>by rw[List.getElem?_append_left (lt_of_getElem? h)];exact h
 refine⟨hR.below,hR.imm,hR.mimm,hR.siz,fun l u b h=>⟨(hb h).1,(hR.blk _ _ _ (hb h).2).2⟩,fun l u l' u' b h h' =>hR.inj _ _ _ _ _ (hb h).2 (hb h').2,fun l ob b ho h=>(hR.obj l ob b (up ho) (hb h).2).cutTo (hl _ (List.mem_of_getElem? ho)),
  fun l cs f u b ho h=>hR.own l cs f u b (up ho) (hb h).2,fun l a c b ho h=>hR.ownm l a c b (up ho) (hb h).2,fun l ob ho=>⟨(hR.ver l ob (up ho)).1,fun u b h=>(hR.ver l ob (up ho)).2 u b (hb h).2⟩,fun l ob ho=>hR.frzle l ob (up ho),hR.bimm,hR.bmimm⟩
def SGho(P:Program) (i N:Nat) (τ:Env) (σ:Sto) (τ' :Env) (σ' :Sto):Prop:=∀(B:Base P) (G:Gh) (w:World) (a:Act),Rel B G σ w→TRel G N τ a→∃G',G.LeB i G'∧Rel B G' σ' w∧TRel G' N τ' a
section
variable {i N:Nat}{P:Program}{c:Code}{τ τ2:Env}{σ σ2:Sto}{Q:AEx→Env→Sto→Prop}
theorem LWp.sgho(hg:SGho P i N τ σ τ2 σ2) (h:LWp i P N c τ2 σ2 Q):LWp i P N c τ σ Q:=by
 intro B G w a hR hT b k cs
 obtain⟨G',hle,hR',hT'⟩:=hg B G w a hR hT
 obtain⟨e,a',w',h1,h2⟩:=h B G' w a hR' hT' b k cs
 exact⟨e,a',w',liftQ_le hle (fun _ _ _ y=>y) e a' w' h1,h2⟩
theorem AWp.post(h:AWp i P N c τ σ fun e τ' σ' =>∃τ2 σ2,SGho P i N τ' σ' τ2 σ2∧Q e τ2 σ2):AWp i P N c τ σ Q:=by
 intro B G w a hR hT
 refine wp_mono (h B G w a hR hT) fun e a w x=> ?_
 cases e<;>simp only[liftQ]at x⊢<;>first
  |exact x
  |(obtain⟨G',τ',σ',h1,h2,h3,τ2,σ2,h4,h5⟩:=x
    obtain⟨G2,k1,k2,k3⟩:=h4 B G' w a h2 h3
    exact⟨G2,τ2,σ2,h1.trans k1,k2,k3,h5⟩)
end
structure DV where
 t:TC
 x:t.Den
@[reducible] def Tup:List TC→Type
  |[]=>Unit
  |[t]=>t.Den
  |t::u::ts=>t.Den×Tup (u::ts)
def toTup:(ts:List TC)→List DV→Option (Tup ts)
 |[],[]=>some ()
 |[t],[v]=>match decEq v.t t with
  |isTrue h=>some (h▸v.x)
  |isFalse _=>none
 |t::u::ts,v::vs=>match decEq v.t t with
  |isTrue h=>match toTup (u::ts) vs with
   |some y=>some (h▸v.x,y)
   |none=>none
  |isFalse _=>none
 |_,_=>none
def fromTup:(ts:List TC)→Tup ts→List DV
 |[],_=>[]
 |[t],x=>[⟨t,x⟩]
 |t::u::ts,x=>⟨t,x.1⟩::fromTup (u::ts) x.2
theorem toTup_from:∀(ts:List TC) {l:List DV}{x:Tup ts},toTup ts l=some x→fromTup ts x=l
 |[],l,x,h=>by
  cases l with
  |nil=>rfl
  |cons _ _=>simp[toTup]at h
 |[t],l,x,h=>by
  match l,h with
  |[v],h=>
   obtain⟨tv,xv⟩:=v
   simp only[toTup]at h
   split at h<;>try (cases h;done)
   rename_i e _
   subst e
   cases h;rfl
  |[],h=>simp[toTup]at h
  |_::_::_,h=>simp[toTup]at h
 |t::u::ts,l,x,h=>by
  match l,h with
  |v::vs,h=>
   obtain⟨tv,xv⟩:=v
   simp only[toTup]at h
   split at h<;>try (cases h;done)
   rename_i e _
   subst e
   split at h<;>try (cases h;done)
   rename_i y hy
   cases h
   simp only[fromTup,toTup_from (u::ts) hy]
  |[],h=>simp[toTup]at h
@[reducible] def XS:List (List TC)→Type
  |[]=>Empty
  |[a]=>Tup a
  |a::b::r=>Tup a⊕XS (b::r)
def xinj:(ls:List (List TC))→Nat→List DV→Option (XS ls)
 |[],_,_=>none
 |[a],0,l=>toTup a l
 |[_],_+1,_=>none
 |a::b::r,0,l=>match toTup a l with
  |some x=>some (.inl x)
  |none=>none
 |a::b::r,n+1,l=>match xinj (b::r) n l with
  |some x=>some (.inr x)
  |none=>none
def xelim{α:Type}:(ls:List (List TC))→XS ls→(Nat→List DV→Option α)→Option α
 |[],_,_=>none
 |[a],x,f=>f 0 (fromTup a x)
 |a::b::r,x,f=>match x with
  | .inl y=>f 0 (fromTup a y)
  | .inr z=>xelim (b::r) z fun n=>f (n+1)
theorem xinj_elim{α:Type}:∀(ls:List (List TC)) {n:Nat}{l:List DV}{x:XS ls}{f:Nat→List DV→Option α},xinj ls n l=some x→xelim ls x f=f n l
 |[],n,l,x,f,h=>by simp[xinj]at h
 |[a],n,l,x,f,h=>by
  cases n with
  |zero=>simp only[xinj]at h;simp only[xelim,toTup_from _ h]
  |succ n=>simp[xinj]at h
 |a::b::r,n,l,x,f,h=>by
  cases n with
  |zero=>
   simp only[xinj]at h
   split at h<;>try (cases h;done)
   rename_i y hy
   cases h
   simp only[xelim,toTup_from _ hy]
  |succ n=>
   simp only[xinj]at h
   split at h<;>try (cases h;done)
   rename_i y hy
   cases h
   simp only[xelim]
   exact xinj_elim (b::r) hy
end Go.Fw
namespace Go.Fw
open Go.RowKit
def beqB:Bool→Bool→Bool
 |true,b=>b
 |false,b=> !b
inductive PV where
 |hole (t:TC)
 |raw (d:D)
 |ptr (l o:Nat)
 |nils
 |own (l:Nat)
 |agg (ps:List PV)
 |tup (ps:List PV)
 |func (fn:Fn) (a b:List PV)
 |iface (t:TypeId) (p:PV)
 |rc (ps:List PV) (o:Nat)
 |rp (t:TC) (o:Nat)
 |ilit (k:IntKind) (n:Int)
 |slit (s:List UInt8)
 |blit (b:Bool)
 |mp (l:Nat)
 |junk
 deriving Inhabited
inductive PO where
 |cells (ps:List PV) (fz:Bool)
 |arr (t:TC) (fz:Bool) (kp:Bool)
 |it
 |smap
 |dead
 |junk
 deriving Inhabited
mutual
def PV.tcs:PV→List TC
 | .hole t=>[t]
 | .agg ps=>PV.tcss ps
 | .tup ps=>PV.tcss ps
 | .func _ a b=>PV.tcss a++PV.tcss b
 | .iface _ p=>p.tcs
 | .rc ps _=>PV.tcss ps
 | .rp t _=>[t]
 |_=>[]
def PV.tcss:List PV→List TC
 |[]=>[]
 |p::ps=>p.tcs++PV.tcss ps
end
def PO.tcs:PO→List TC
 | .cells ps _=>PV.tcss ps
 | .arr t _ _=>[.sl t]
 | .it=>[.str,.int .i64]
 | .smap=>[.sl .str]
 | .dead=>[]
 | .junk=>[]
mutual
def PV.chk(objs:List PO):PV→Bool
 | .raw d=>D.lo 0 d
 | .ptr l _=>Nat.blt l objs.length
 | .mp l=>Nat.blt l objs.length
 | .own l=>match objs[l]? with
   |some (.arr _ _ _)=>true
   |_=>false
 | .agg ps=>PV.chks objs ps
 | .tup ps=>PV.chks objs ps
 | .func _ a b=>PV.chks objs a&&PV.chks objs b
 | .iface _ p=>p.chk objs
 | .rc ps _=>PV.chks objs ps
 |_=>true
def PV.chks(objs:List PO):List PV→Bool
 |[]=>true
 |p::ps=>p.chk objs&&PV.chks objs ps
end
def TC.takeO:(t:TC)→List SV→Option (t.Den×List SV)
 | .byte,_=>none
 | .int k,cs=>match cs with
   | .int k' n::r=>match decEq k' k with
     |isTrue _=>some (n,r)
     |isFalse _=>none
   |_=>none
 | .bool,cs=>match cs with
   | .bool b::r=>some (b,r)
   |_=>none
 | .str,cs=>match cs with
   | .str s::r=>some (s,r)
   |_=>none
 | .sl t,cs=>match cs with
   |v::r=>match asList t v with
    |some xs=>some (xs,r)
    |none=>none
   |_=>none
 | .pair a b,cs=>match a.takeO cs with
   |some (x,r)=>match b.takeO r with
    |some (y,r')=>some ((x,y),r')
    |none=>none
   |none=>none
 | .unit,cs=>some ((),cs)
 | .node,cs=>match cs with
   | .int .i64 c:: .int .i64 m:: .bool k::v::w::r=>match asList .byte v,asList .node w with
     |some b,some ks=>some (.mk c m k b ks,r)
     |_,_=>none
   |_=>none
 | .spot,cs=>match cs with
   | .int .i64 a:: .int .i64 e:: .int .i64 c:: .int .i64 m:: .bool k::v::w::u::r=>match asList .byte v,asList .node w,asList .spot u with
     |some b,some ks,some ss=>some (.mk a e (.mk c m k b ks) ss,r)
     |_,_,_=>none
   |_=>none
theorem TC.takeO_take{α:Type}:∀(t:TC) (cs:List SV) (K:t.Den→List SV→Option α) {x:t.Den}{r:List SV},t.takeO cs=some (x,r)→t.take cs K=K x r
 | .byte,_,_,_,_,h=>by simp[TC.takeO]at h
 | .int k,cs,K,x,r,h=>by
   simp only[TC.takeO]at h
   split at h<;>try (cases h;done)
   split at h<;>try (cases h;done)
   rename_i e he
   subst e
   cases h
   simp only[TC.take,he]
 | .bool,cs,K,x,r,h=>by
   simp only[TC.takeO]at h
   split at h<;>try (cases h;done)
   cases h;rfl
 | .str,cs,K,x,r,h=>by
   simp only[TC.takeO]at h
   split at h<;>try (cases h;done)
   cases h;rfl
 | .sl t,cs,K,x,r,h=>by
   simp only[TC.takeO]at h
   split at h<;>try (cases h;done)
   split at h<;>try (cases h;done)
   rename_i hx
   cases h
   simp only[TC.take,hx]
 | .pair a b,cs,K,x,r,h=>by
   simp only[TC.takeO]at h
   split at h<;>try (cases h;done)
   rename_i hx
   split at h<;>try (cases h;done)
   rename_i hy
   cases h
   simp only[TC.take,TC.takeO_take a _ _ hx,TC.takeO_take b _ _ hy]
 | .unit,cs,K,x,r,h=>by
   simp only[TC.takeO]at h
   cases h
   rfl
 | .node,cs,K,x,r,h=>by
   simp only[TC.takeO]at h
   split at h<;>try (cases h;done)
   split at h<;>try (cases h;done)
   rename_i hb hk
   cases h
   simp only[TC.take,hb,hk]
 | .spot,cs,K,x,r,h=>by
   simp only[TC.takeO]at h
   split at h<;>try (cases h;done)
   split at h<;>try (cases h;done)
   rename_i hb hk hs
   cases h
   simp only[TC.take,hb,hk,hs]
def holeOf(t:TC) (v:SV):Option DV:=match t with
 | .int k=>match v with
   | .int k' n=>match decEq k' k with
     |isTrue _=>some ⟨.int k,n⟩
     |isFalse _=>none
   |_=>none
 | .bool=>match v with
   | .bool b=>some ⟨.bool,b⟩
   |_=>none
 | .str=>match v with
   | .str s=>some ⟨.str,s⟩
   |_=>none
 | .sl u=>match asList u v with
   |some xs=>some ⟨.sl u,xs⟩
   |none=>none
 |t=>match v with
  | .agg cs=>match t.takeO cs with
    |some (x,[])=>some ⟨t,x⟩
    |_=>none
  |_=>none
def svOf(v:DV):SV:=match v with
 |⟨.int k,n⟩=> .int k n
 |⟨.bool,b⟩=> .bool b
 |⟨.str,s⟩=> .str s
 |⟨.sl t,xs⟩=> .sl t xs false
 |⟨t,x⟩=> .agg (t.scells x)
theorem TC.pure_lo(m:Nat):∀{d:D},d.pure=true→D.lo m d=true:=by
 intro d
 exact D.rec (motive_1:=fun d=>d.pure=true→D.lo m d=true) (motive_2:=fun ds=>pureL ds=true→D.los m ds=true)
  (fun _ _=>rfl) (fun _ _ _=>rfl) (fun _ _=>rfl) (fun _=>rfl) (fun _ _ _ h=>by simp[D.pure]at h) (fun cs o ih h=>ih h) (fun cs n f ih h=>ih h)
  (fun _ _ _ _ _ _ h=>by simp[D.pure]at h) (fun _ h=>by simp[D.pure]at h) (fun _=>rfl) (fun a b iha ihb h=>by simp only[D.pure,Bool.and_eq_true]at h;simp[D.lo,iha h.1,ihb h.2]) (fun a b iha ihb h=>by simp only[D.pure,Bool.and_eq_true]at h;simp[D.lo,iha h.1,ihb h.2])
  (fun fn a b iha ihb h=>by simp only[D.pure,Bool.and_eq_true]at h;simp[D.lo,iha h.1,ihb h.2]) (fun _=>rfl) (fun t v ih h=>ih h) (fun _=>rfl) (fun _=>rfl) (fun cs ih h=>ih h) (fun cs ih h=>ih h) (fun _=>rfl)
  (fun _=>rfl) (fun d ds ih1 ih2 h=>by simp only[pureL,Bool.and_eq_true]at h;simp[D.los,ih1 h.1,ih2 h.2]) d
theorem holeOf_ok{S:SSto}{σ:Sto}{t:TC}{v:SV}{x:DV}{d:D}(h:holeOf t v=some x) (hv:VR S σ v d):∃d',Weak d d'∧d'.pure=true∧∀(S2:SSto) (σ2:Sto),VR S2 σ2 (svOf x) d' :=by
 have gen:∀(t:TC) (cs:List SV),(∀y:t.Den,svOf ⟨t,y⟩= .agg (t.scells y))→v= .agg cs→(match t.takeO cs with
  |some (y,[])=>some (⟨t,y⟩:DV)
  |_=>none)=some x→∃d',Weak d d'∧d'.pure=true∧∀(S2:SSto) (σ2:Sto),VR S2 σ2 (svOf x) d' :=by
  intro t cs hsv e hm
  subst e
  split at hm<;>try (cases hm;done)
  rename_i y hy
  cases hm
  simp only[VR]at hv
  obtain⟨ds,rfl,hv⟩:=hv
  have ht:=TC.takeO_take t cs (fun a b=>some (a,b)) hy
  obtain⟨x',cs',d1,d2,h1,rfl,hw,hr⟩:=TC.take_ok t cs _ _ _ ht hv
  cases h1
  simp only[VRs]at hr
  subst hr
  rw[List.append_nil]
  exact⟨.agg (t.cells y),Weak.agg hw,t.enc.pure y,fun S2 σ2=>by rw[hsv];simp only[VR];exact⟨_,rfl,TC.scells_ok S2 σ2 t y⟩⟩
 unfold holeOf at h
 split at h
 ·split at h<;>try (cases h;done)
  split at h<;>try (cases h;done)
  rename_i e _
  subst e
  cases h
  simp only[VR]at hv;subst hv
  exact⟨_,Weak.refl _,rfl,fun _ _=>by simp[svOf,VR]⟩
 ·split at h<;>try (cases h;done)
  cases h
  simp only[VR]at hv;subst hv
  exact⟨_,Weak.refl _,rfl,fun _ _=>by simp[svOf,VR]⟩
 ·split at h<;>try (cases h;done)
  cases h
  simp only[VR]at hv;subst hv
  exact⟨_,Weak.refl _,rfl,fun _ _=>by simp[svOf,VR]⟩
 ·split at h<;>try (cases h;done)
  rename_i u _ xs hx
  cases h
  obtain⟨f,rfl⟩:=asList_ok hx hv
  exact⟨.list (u.flat xs) xs.length false,Weak.list,u.flat_pure xs,fun _ _=>by simp only[svOf,VR];exact⟨false,rfl,fun h=>by cases h⟩⟩
 ·rename_i t n1 n2 n3 n4
  split at h<;>try (cases h;done)
  refine gen _ _ (fun y=> ?_) rfl h
  unfold svOf
  split
  ·rename_i e;cases e;exact absurd rfl (n1 _)
  ·rename_i e;cases e;exact absurd rfl n2
  ·rename_i e;cases e;exact absurd rfl n3
  ·rename_i e;cases e;exact absurd rfl (n4 _)
  ·rename_i e;cases e;rfl
mutual
def PV.get(S:SSto):PV→SV→Option (List DV)
 | .hole t,v=>match holeOf t v with
   |some x=>some [x]
   |none=>none
 | .raw d,v=>match v with
   | .raw e=>match D.beq e d with
     |true=>some []
     |false=>none
   |_=>none
 | .ptr l o,v=>match v with
   | .raw (.ptr l' u o')=>match Nat.beq l' l&&Nat.beq u 0&&Nat.beq o' o with
     |true=>some []
     |false=>none
   |_=>none
 | .nils,v=>match v with
   | .nils=>some []
   |_=>none
 | .own l,v=>match v with
   | .own l' g=>match Nat.beq l' l&&isCur S l' g with
     |true=>some []
     |false=>none
   |_=>none
 | .agg ps,v=>match v with
   | .agg vs=>PV.gets S ps vs
   |_=>none
 | .tup ps,v=>match v with
   | .tup vs=>PV.gets S ps vs
   |_=>none
 | .func fn a b,v=>match v with
   | .func fn' va vb=>match decEq fn' fn with
     |isTrue _=>match PV.gets S a va,PV.gets S b vb with
      |some x,some y=>some (x++y)
      |_,_=>none
     |isFalse _=>none
   |_=>none
 | .iface t p,v=>match v with
   | .iface t' w=>match Nat.beq t' t with
     |true=>PV.get S p w
     |false=>none
   |_=>none
 | .rc ps o,v=>match v with
   | .rc vs o' =>match Nat.beq o' o with
     |true=>PV.gets S ps vs
     |false=>none
   |_=>none
 | .rp t o,v=>match v with
   | .rp t' x o' =>match decEq t' t,Nat.beq o' o with
     |isTrue _,true=>some [⟨t',x⟩]
     |_,_=>none
   |_=>none
 | .ilit k n,v=>match v with
   | .int k' m=>match decEq k' k,m==n with
     |isTrue _,true=>some []
     |_,_=>none
   |_=>none
 | .blit b,v=>match v with
   | .bool c=>match beqB c b with
     |true=>some []
     |false=>none
   |_=>none
 | .slit s,v=>match v with
   | .str t=>match t==s with
     |true=>some []
     |false=>none
   |_=>none
 | .mp l,v=>match v with
   | .raw (.map l')=>match Nat.beq l' l with
     |true=>some []
     |false=>none
   |_=>none
 | .junk,_=>some []
def PV.gets(S:SSto):List PV→List SV→Option (List DV)
 |[],vs=>match vs with
  |[]=>some []
  |_=>none
 |p::ps,vs=>match vs with
  |v::vs=>match PV.get S p v,PV.gets S ps vs with
   |some x,some y=>some (x++y)
   |_,_=>none
  |[]=>none
end
mutual
def PV.put(G:Nat→Nat):PV→List DV→Option (SV×List DV)
 | .hole _,l=>match l with
   |x::r=>some (svOf x,r)
   |[]=>none
 | .raw d,l=>some (.raw d,l)
 | .ptr i o,l=>some (.raw (.ptr i 0 o),l)
 | .nils,l=>some (.nils,l)
 | .own i,l=>some (.own i (G i),l)
 | .agg ps,l=>match PV.puts G ps l with
   |some (vs,r)=>some (.agg vs,r)
   |none=>none
 | .tup ps,l=>match PV.puts G ps l with
   |some (vs,r)=>some (.tup vs,r)
   |none=>none
 | .func fn a b,l=>match PV.puts G a l with
   |some (va,r)=>match PV.puts G b r with
    |some (vb,r')=>some (.func fn va vb,r')
    |none=>none
   |none=>none
 | .iface t p,l=>match PV.put G p l with
   |some (v,r)=>some (.iface t v,r)
   |none=>none
 | .rc ps o,l=>match PV.puts G ps l with
   |some (vs,r)=>some (.rc vs o,r)
   |none=>none
 | .rp _ o,l=>match l with
   |x::r=>some (.rp x.t x.x o,r)
   |[]=>none
 | .ilit k n,l=>some (.int k n,l)
 | .slit s,l=>some (.str s,l)
 | .blit b,l=>some (.bool b,l)
 | .mp i,l=>some (.raw (.map i),l)
 | .junk,l=>some (.raw .junk,l)
def PV.puts(G:Nat→Nat):List PV→List DV→Option (List SV×List DV)
 |[],l=>some ([],l)
 |p::ps,l=>match PV.put G p l with
  |some (v,r)=>match PV.puts G ps r with
   |some (vs,r')=>some (v::vs,r')
   |none=>none
  |none=>none
end
def HO(G:Nat→Nat) (S:SSto) (σ:Sto) (objs:List PO) (S2:SSto) (σ2:Sto):Prop:=
 ∀(l:Nat) (t0:TC) (f0 k0:Bool),objs[l]? =some (.arr t0 f0 k0)→∀t xs fz g,S[l]? =some (.arr t xs fz g)→(∃fz',S2[l]? =some (.arr t xs fz' (G l)))∧σ2[l]? =σ[l]?
theorem Weak.func{fn:Fn}{a a' b b' :List D}(h:Weaks a a') (k:Weaks b b'):Weak (.func fn a b) (.func fn a' b'):=by
 intro G v hv
 simp only[Rep]at hv⊢
 obtain⟨f,c,e,h1,h2⟩:=hv
 exact⟨f,c,e,h.reps h1,k.reps h2⟩
theorem Weak.iface{t:TypeId}{d e:D}(h:Weak d e):Weak (.iface t d) (.iface t e):=by
 intro G v hv
 simp only[Rep]at hv⊢
 obtain⟨x,e,h1⟩:=hv
 exact⟨x,e,h _ _ h1⟩
theorem Weak.rptr{cs ds:List D}{o:Nat}(h:Weaks cs ds):Weak (.rptr cs o) (.rptr ds o):=by
 intro G v hv
 simp only[Rep]at hv⊢
 obtain⟨b,o',e,h1⟩:=hv
 exact⟨b,o',e,h1.weak h⟩
theorem Weak.junk(d:D):Weak d .junk:=fun _ _ _=>by simp only[Rep]
mutual
theorem D.lo_mono{m n:Nat}(h:m≤n):∀d:D,D.lo m d=true→D.lo n d=true
 | .ptr l _ _,x=>by
   have x:l<m:=Nat.le_of_ble_eq_true x
   exact Nat.ble_eq_true_of_le (Nat.lt_of_lt_of_le x h)
 | .sl l _ _ _ _ _,x=>by
   have x:l<m:=Nat.le_of_ble_eq_true x
   exact Nat.ble_eq_true_of_le (Nat.lt_of_lt_of_le x h)
 | .map l,x=>by
   have x:l<m:=Nat.le_of_ble_eq_true x
   exact Nat.ble_eq_true_of_le (Nat.lt_of_lt_of_le x h)
 | .rptr cs _,x=>D.los_mono h cs x
 | .list cs _ _,x=>D.los_mono h cs x
 | .cmap a b,x=>by simp only[D.lo,Bool.and_eq_true]at x⊢;exact⟨D.los_mono h a x.1,D.los_mono h b x.2⟩
 | .pmap a b,x=>by simp only[D.lo,Bool.and_eq_true]at x⊢;exact⟨D.los_mono h a x.1,D.los_mono h b x.2⟩
 | .func _ a b,x=>by simp only[D.lo,Bool.and_eq_true]at x⊢;exact⟨D.los_mono h a x.1,D.los_mono h b x.2⟩
 | .iface _ v,x=>D.lo_mono h v x
 | .agg cs,x=>D.los_mono h cs x
 | .tuple cs,x=>D.los_mono h cs x
 | .bool _,_=>rfl
 | .int _ _,_=>rfl
 | .str _,_=>rfl
 | .nilp,_=>rfl
 | .nilmap,_=>rfl
 | .nilf,_=>rfl
 | .nili,_=>rfl
 | .anyi,_=>rfl
 | .junk,_=>rfl
theorem D.los_mono{m n:Nat}(h:m≤n):∀ds:List D,D.los m ds=true→D.los n ds=true
 |[],_=>rfl
 |d::ds,x=>by simp only[D.los,Bool.and_eq_true]at x⊢;exact⟨D.lo_mono h d x.1,D.los_mono h ds x.2⟩
end
theorem D.los_junk(m:Nat):∀cs:List D,D.los m (cs.map fun _=> .junk)=true
 |[]=>rfl
 |_::cs=>by simp[D.los,D.lo,D.los_junk m cs]
theorem Weaks.junk:∀cs:List D,Weaks cs (cs.map fun _=> .junk)
 |[]=>rfl
 |d::cs=>⟨Weak.junk d,Weaks.junk cs⟩
mutual
theorem PV.get_ok{S:SSto}{σ:Sto}{objs:List PO}:∀(p:PV) (v:SV) (l:List DV) (d:D),p.get S v=some l→p.chk objs=true→VR S σ v d→
 ∃d',Weak d d'∧D.lo objs.length d' =true∧∀G,∃v',(∀rest,p.put G (l++rest)=some (v',rest))∧∀S2 σ2,HO G S σ objs S2 σ2→VR S2 σ2 v' d'
 | .hole t,v,l,d,h,hc,hv=>by
   simp only[PV.get]at h
   split at h<;>try (cases h;done)
   rename_i x hx
   cases h
   obtain⟨d',h1,h2,h3⟩:=holeOf_ok hx hv
   exact⟨d',h1,TC.pure_lo _ h2,fun G=>⟨svOf x,fun rest=>rfl,fun S2 σ2 _=>h3 S2 σ2⟩⟩
 | .raw e,v,l,d,h,hc,hv=>by
   simp only[PV.get]at h
   split at h<;>try (cases h;done)
   split at h<;>try (cases h;done)
   rename_i hb
   cases h
   have:=D.beq_eq _ _ hb
   subst this
   simp only[VR]at hv
   subst hv
   exact⟨d,Weak.refl _,D.lo_mono (Nat.zero_le _) _ hc,fun G=>⟨.raw d,fun rest=>rfl,fun S2 σ2 _=>by simp only[VR]⟩⟩
 | .ptr i o,v,l,d,h,hc,hv=>by
   simp only[PV.get]at h
   split at h<;>try (cases h;done)
   split at h<;>try (cases h;done)
   rename_i hb
   cases h
   simp only[Bool.and_eq_true]at hb
   have e1:=nbeq hb.1.1
   have e2:=nbeq hb.1.2
   have e3:=nbeq hb.2
   subst e1 e2 e3
   simp only[VR]at hv
   subst hv
   exact⟨_,Weak.refl _,hc,fun G=>⟨_,fun rest=>rfl,fun S2 σ2 _=>by simp only[VR]⟩⟩
 | .nils,v,l,d,h,hc,hv=>by
   simp only[PV.get]at h
   split at h<;>try (cases h;done)
   cases h
   simp only[VR]at hv
   subst hv
   exact⟨_,Weak.refl _,rfl,fun G=>⟨_,fun rest=>rfl,fun S2 σ2 _=>by simp only[VR]⟩⟩
 | .ilit k n,v,l,d,h,hc,hv=>by
   simp only[PV.get]at h
   split at h<;>try (cases h;done)
   split at h<;>try (cases h;done)
   rename_i e _ he
   cases h
   have he:=eq_of_beq he
   subst e he
   simp only[VR]at hv
   subst hv
   exact⟨_,Weak.refl _,rfl,fun G=>⟨_,fun rest=>rfl,fun S2 σ2 _=>by simp only[VR]⟩⟩
 | .mp i,v,l,d,h,hc,hv=>by
   simp only[PV.get]at h
   split at h<;>try (cases h;done)
   split at h<;>try (cases h;done)
   rename_i hb
   cases h
   have e1:=nbeq hb
   subst e1
   simp only[VR]at hv
   subst hv
   exact⟨_,Weak.refl _,hc,fun G=>⟨_,fun rest=>rfl,fun S2 σ2 _=>by simp only[VR]⟩⟩
 | .blit b,.bool c,l,d,h,hc,hv=>by
   simp only[PV.get]at h
   split at h<;>try (cases h;done)
   rename_i hb
   cases h
   simp only[VR]at hv
   subst hv
   have e1:c=b:=by
    revert hb
    cases c<;>cases b<;>simp[beqB]
   subst e1
   exact⟨_,Weak.refl _,rfl,fun G=>⟨_,fun rest=>rfl,fun S2 σ2 _=>by simp only[VR]⟩⟩
 | .blit b,.int _ _,l,d,h,hc,hv=>by simp only[PV.get]at h;cases h
 | .slit s,v,l,d,h,hc,hv=>by
   simp only[PV.get]at h
   split at h<;>try (cases h;done)
   split at h<;>try (cases h;done)
   rename_i he
   cases h
   have he:=eq_of_beq he
   subst he
   simp only[VR]at hv
   subst hv
   exact⟨_,Weak.refl _,rfl,fun G=>⟨_,fun rest=>rfl,fun S2 σ2 _=>by simp only[VR]⟩⟩
 | .rp t o,v,l,d,h,hc,hv=>by
   simp only[PV.get]at h
   split at h<;>try (cases h;done)
   split at h<;>try (cases h;done)
   rename_i t' x o' _ _ e _ he
   cases h
   have he:=nbeq he
   subst e he
   simp only[VR]at hv
   obtain⟨hd,tl,rfl⟩:=hv
   refine⟨.rptr (hd.map (fun _=> .junk)++t'.cells x++tl.map (fun _=> .junk)) (hd.length+o'),Weak.rptr (((Weaks.junk hd).append (Weaks.refl _)).append (Weaks.junk tl)),?_,fun G=>⟨.rp t' x o',fun rest=>rfl,fun S2 σ2 _=>by simp only[VR];exact⟨_,_,by rw[List.length_map]⟩⟩⟩
   have app:∀{a b:List D}{m:Nat},D.los m a=true→D.los m b=true→D.los m (a++b)=true:=by
    intro a b m h1 h2
    induction a with
    |nil=>exact h2
    |cons y a ih=>simp only[List.cons_append,D.los,Bool.and_eq_true]at h1⊢;exact⟨h1.1,ih h1.2⟩
   exact app (app (D.los_junk _ _) (by have:=TC.pure_lo objs.length (d:= .agg (t'.cells x)) (t'.enc.pure x);exact this)) (D.los_junk _ _)
 | .own i,v,l,d,h,hc,hv=>by
   simp only[PV.get]at h
   split at h<;>try (cases h;done)
   split at h<;>try (cases h;done)
   rename_i l' g _ hb
   cases h
   simp only[Bool.and_eq_true]at hb
   have e1:=nbeq hb.1
   subst e1
   simp only[VR]at hv
   obtain⟨t,xs,fz,fr,u,h1,h2,rfl⟩:=isCur_own hb.2 hv
   simp only[PV.chk]at hc
   split at hc<;>try (cases hc;done)
   rename_i t0 f0 k0 ho
   refine⟨_,Weak.refl _,Nat.ble_eq_true_of_le (lt_of_getElem? ho),fun G=>⟨.own l' (G l'),fun rest=>rfl,fun S2 σ2 H=> ?_⟩⟩
   obtain⟨⟨fz',k1⟩,k2⟩:=H l' t0 f0 k0 ho t xs fz g h1
   simp only[VR]
   exact .mk k1 (by rw[k2];exact h2) rfl
 | .agg ps,v,l,d,h,hc,hv=>by
   simp only[PV.get]at h
   split at h<;>try (cases h;done)
   simp only[VR]at hv
   obtain⟨ds,rfl,hv⟩:=hv
   obtain⟨ds',h2,h3,hG⟩:=PV.gets_ok ps _ l ds h hc hv
   refine⟨.agg ds',Weak.agg h2,h3,fun G=> ?_⟩
   obtain⟨vs',h1,h4⟩:=hG G
   exact⟨.agg vs',fun rest=>by simp only[PV.put,h1],fun S2 σ2 H=>by simp only[VR];exact⟨ds',rfl,h4 S2 σ2 H⟩⟩
 | .tup ps,v,l,d,h,hc,hv=>by
   simp only[PV.get]at h
   split at h<;>try (cases h;done)
   simp only[VR]at hv
   obtain⟨ds,rfl,hv⟩:=hv
   obtain⟨ds',h2,h3,hG⟩:=PV.gets_ok ps _ l ds h hc hv
   refine⟨.tuple ds',Weak.tuple h2,h3,fun G=> ?_⟩
   obtain⟨vs',h1,h4⟩:=hG G
   exact⟨.tup vs',fun rest=>by simp only[PV.put,h1],fun S2 σ2 H=>by simp only[VR];exact⟨ds',rfl,h4 S2 σ2 H⟩⟩
 | .func fn a b,v,l,d,h,hc,hv=>by
   simp only[PV.get]at h
   split at h<;>try (cases h;done)
   split at h<;>try (cases h;done)
   rename_i fn' va vb _ e _
   subst e
   split at h<;>try (cases h;done)
   rename_i x y hx hy
   cases h
   simp only[PV.chk,Bool.and_eq_true]at hc
   simp only[VR]at hv
   obtain⟨da,db,rfl,hva,hvb⟩:=hv
   obtain⟨da',a2,a3,aG⟩:=PV.gets_ok a _ x da hx hc.1 hva
   obtain⟨db',b2,b3,bG⟩:=PV.gets_ok b _ y db hy hc.2 hvb
   refine⟨.func fn' da' db',Weak.func a2 b2,by simp only[D.lo,a3,b3,Bool.and_self],fun G=> ?_⟩
   obtain⟨va',a1,a4⟩:=aG G
   obtain⟨vb',b1,b4⟩:=bG G
   exact⟨.func fn' va' vb',fun rest=>by simp only[PV.put,List.append_assoc,a1,b1],fun S2 σ2 H=>by simp only[VR];exact⟨da',db',rfl,a4 S2 σ2 H,b4 S2 σ2 H⟩⟩
 | .iface t p,v,l,d,h,hc,hv=>by
   simp only[PV.get]at h
   split at h<;>try (cases h;done)
   split at h<;>try (cases h;done)
   rename_i t' w _ hb
   have e:=nbeq hb
   subst e
   simp only[VR]at hv
   obtain⟨e,rfl,hv⟩:=hv
   obtain⟨d',h2,h3,hG⟩:=PV.get_ok p _ l e h hc hv
   refine⟨.iface t' d',Weak.iface h2,h3,fun G=> ?_⟩
   obtain⟨v',h1,h4⟩:=hG G
   exact⟨.iface t' v',fun rest=>by simp only[PV.put,h1],fun S2 σ2 H=>by simp only[VR];exact⟨d',rfl,h4 S2 σ2 H⟩⟩
 | .rc ps o,v,l,d,h,hc,hv=>by
   simp only[PV.get]at h
   split at h<;>try (cases h;done)
   split at h<;>try (cases h;done)
   rename_i vs o' _ hb
   have e:=nbeq hb
   subst e
   simp only[VR]at hv
   obtain⟨ds,rfl,hv⟩:=hv
   obtain⟨ds',h2,h3,hG⟩:=PV.gets_ok ps _ l ds h hc hv
   refine⟨.rptr ds' o',Weak.rptr h2,h3,fun G=> ?_⟩
   obtain⟨vs',h1,h4⟩:=hG G
   exact⟨.rc vs' o',fun rest=>by simp only[PV.put,h1],fun S2 σ2 H=>by simp only[VR];exact⟨ds',rfl,h4 S2 σ2 H⟩⟩
 | .junk,v,l,d,h,hc,hv=>by
   simp only[PV.get,Option.some.injEq]at h
   subst h
   exact⟨.junk,Weak.junk d,rfl,fun G=>⟨.raw .junk,fun rest=>rfl,fun S2 σ2 _=>by simp only[VR]⟩⟩
theorem PV.gets_ok{S:SSto}{σ:Sto}{objs:List PO}:∀(ps:List PV) (vs:List SV) (l:List DV) (ds:List D),PV.gets S ps vs=some l→PV.chks objs ps=true→VRs S σ vs ds→
 ∃ds',Weaks ds ds'∧D.los objs.length ds' =true∧∀G,∃vs',(∀rest,PV.puts G ps (l++rest)=some (vs',rest))∧∀S2 σ2,HO G S σ objs S2 σ2→VRs S2 σ2 vs' ds'
 |[],vs,l,ds,h,hc,hv=>by
  simp only[PV.gets]at h
  split at h<;>try (cases h;done)
  cases h
  simp only[VRs]at hv
  subst hv
  exact⟨[],rfl,rfl,fun G=>⟨[],fun rest=>rfl,fun _ _ _=>by simp only[VRs]⟩⟩
 |p::ps,vs,l,ds,h,hc,hv=>by
  simp only[PV.gets]at h
  split at h<;>try (cases h;done)
  split at h<;>try (cases h;done)
  rename_i v vs _ _ x y hx hy
  cases h
  simp only[PV.chks,Bool.and_eq_true]at hc
  simp only[VRs]at hv
  obtain⟨e,es,rfl,h1,h2⟩:=hv
  obtain⟨d',a2,a3,aG⟩:=PV.get_ok p v x e hx hc.1 h1
  obtain⟨ds',b2,b3,bG⟩:=PV.gets_ok ps vs y es hy hc.2 h2
  refine⟨d' ::ds',⟨a2,b2⟩,by simp only[D.los,a3,b3,Bool.and_self],fun G=> ?_⟩
  obtain⟨v',a1,a4⟩:=aG G
  obtain⟨vs',b1,b4⟩:=bG G
  exact⟨v' ::vs',fun rest=>by simp only[PV.puts,List.append_assoc,a1,b1],fun S2 σ2 H=>by simp only[VRs];exact⟨d',ds',rfl,a4 S2 σ2 H,b4 S2 σ2 H⟩⟩
end
end Go.Fw
namespace Go.Fw
open Go.RowKit
theorem smap_lo(m:Nat) (ks:List (List UInt8)):(AObj.map (ks.map .str) (ks.map fun _=> .bool true)).lo m=true:=by
 have h1:D.los m (ks.map .str)=true:=by
  induction ks with
  |nil=>rfl
  |cons k ks ih=>simp only[List.map_cons,D.los,D.lo,ih,Bool.and_self]
 have h2:D.los m (ks.map fun _=> .bool true)=true:=by
  clear h1
  induction ks with
  |nil=>rfl
  |cons k ks ih=>simp only[List.map_cons,D.los,D.lo,ih,Bool.and_self]
 simp only[AObj.lo,h1,h2,Bool.and_self]
theorem AObj.lo_mono{m n:Nat}(h:m≤n) {a:AObj}(x:a.lo m=true):a.lo n=true:=by
 cases a with
 |cells cs f u=>exact D.los_mono h cs x
 |map a b=>simp only[AObj.lo,Bool.and_eq_true]at x⊢;exact⟨D.los_mono h a x.1,D.los_mono h b x.2⟩
 |miter a b _ _=>simp only[AObj.lo,Bool.and_eq_true]at x⊢;exact⟨D.los_mono h a x.1,D.los_mono h b x.2⟩
 |siter _ _=>rfl
 |dead=>rfl
 |gone=>rfl
theorem flat_lo(m:Nat) (t:TC) (xs:List t.Den):D.los m (t.flat xs)=true:=TC.pure_lo m (d:= .agg (t.flat xs)) (t.flat_pure xs)
def WeakOb(a a2:AObj):Prop:=a2=a∨∃cs cs' f u,a= .cells cs f u∧a2= .cells cs' f u∧Weaks cs cs'
theorem WeakOb.same{a a2:AObj}(h:WeakOb a a2):a2.ver=a.ver∧a2.frz=a.frz∧a2.len=a.len:=by
 rcases h with rfl|⟨cs,cs',f,u,rfl,rfl,hw⟩
 ·exact⟨rfl,rfl,rfl⟩
 ·exact⟨rfl,rfl,hw.length.symm⟩
theorem Rel.weakAll{P:Program}{B:Base P}{G:Gh}{σ σ2:Sto}{w:World}(hR:Rel B G σ w) (hl:σ2.length=σ.length) (h:∀(l:Nat) (a a2:AObj),σ[l]? =some a→σ2[l]? =some a2→WeakOb a a2):Rel B G σ2 w:=by
 have old:∀{l:Nat}{a2:AObj},σ2[l]? =some a2→∃a,σ[l]? =some a∧WeakOb a a2:=by
  intro l a2 h2
  have hlt:=lt_of_getElem? h2
  rw[hl]at hlt
  exact⟨_,List.getElem?_eq_getElem hlt,h l _ a2 (List.getElem?_eq_getElem hlt) h2⟩
 refine⟨hR.below,hR.imm,hR.mimm,hR.siz,fun l u b hb=>by rw[hl];exact hR.blk l u b hb,hR.inj,fun l ob b ho hb=> ?_,fun l cs frz u b ho hb o v hi=> ?_,fun l ks vs b ho hb=> ?_,fun l ob ho=> ?_,fun l ob ho=> ?_,hR.bimm,hR.bmimm⟩
 ·obtain⟨a,ha,hw⟩:=old ho
  have hv:=hw.same.1
  have h0:=hR.obj l a b ha (by rw[←hv];exact hb)
  rcases hw with rfl|⟨cs,cs',f,u,rfl,rfl,hw⟩
  ·exact h0
  ·obtain⟨vs,et,h1,h2,tl,hd,h3,h4⟩:=h0
   exact⟨vs,et,h1,h2,tl,hd,h3,hw.reps h4⟩
 ·obtain⟨a,ha,hw⟩:=old ho
  rcases hw with e|⟨cs1,cs2,f,u',rfl,e,hw⟩
  ·subst e;exact hR.own l cs frz u b ha hb o v hi
  ·cases e;exact hR.own l cs1 _ _ b ha hb o v hi
 ·obtain⟨a,ha,hw⟩:=old ho
  rcases hw with e|⟨cs1,cs2,f,u',rfl,e,hw⟩
  ·subst e;exact hR.ownm l ks vs b ha hb
  ·cases e
 ·obtain⟨a,ha,hw⟩:=old ho
  obtain⟨e1,e2,e3⟩:=hw.same
  rw[e1,e3];exact hR.ver l a ha
 ·obtain⟨a,ha,hw⟩:=old ho
  obtain⟨e1,e2,e3⟩:=hw.same
  rw[e2,e3];exact hR.frzle l a ha
def PO.chk(objs:List PO):PO→Bool
 | .cells ps _=>PV.chks objs ps
 |_=>true
def sameGen(S0:SSto) (j g:Nat):Bool:=match S0[j]? with
 |some (.arr _ _ _ g0)=>Nat.beq g g0
 |_=>false
def PO.get(S S0:SSto) (j:Nat):PO→SObj→Option (List DV)
 | .cells ps fz,o=>match o with
   | .cells vs fz' =>match !fz' ||fz with
     |true=>PV.gets S ps vs
     |false=>none
   |_=>none
 | .arr t fz kp,o=>match o with
   | .arr t' xs fz' g=>match decEq t' t,(!fz' ||fz)&&(!kp||sameGen S0 j g) with
     |isTrue _,true=>some [⟨.sl t',xs⟩]
     |_,_=>none
   |_=>none
 | .it,o=>match o with
   | .it s p=>some [⟨.str,s⟩,⟨.int .i64,p⟩]
   |_=>none
 | .dead,o=>match o with
   | .raw .dead=>some []
   |_=>none
 | .smap,o=>match o with
   | .smap ks=>some [⟨.sl .str,ks⟩]
   |_=>none
 | .junk,o=>match o with
   | .raw _=>none
   |_=>some []
def PO.gets(S S0:SSto):Nat→List PO→List SObj→Option (List DV)
 |_,[],_=>some []
 |j,p::ps,os=>match os with
  |o::os=>match p.get S S0 j o,PO.gets S S0 (j+1) ps os with
   |some x,some y=>some (x++y)
   |_,_=>none
  |[]=>none
def PO.put(G:Nat→Nat) (j:Nat):PO→List DV→Option (SObj×List DV)
 | .cells ps fz,l=>match PV.puts G ps l with
   |some (vs,r)=>some (.cells vs fz,r)
   |none=>none
 | .arr _ fz _,l=>match l with
   |⟨.sl t,xs⟩::r=>some (.arr t xs fz (G j),r)
   |_=>none
 | .it,l=>match l with
   |⟨.str,s⟩::⟨.int .i64,p⟩::r=>some (.it s p,r)
   |_=>none
 | .dead,l=>some (.raw .dead,l)
 | .smap,l=>match l with
   |⟨.sl .str,ks⟩::r=>some (.smap ks,r)
   |_=>none
 | .junk,l=>some (.junk,l)
def PO.puts(G:Nat→Nat):Nat→List PO→List DV→Option (SSto×List DV)
 |_,[],l=>some ([],l)
 |j,p::ps,l=>match p.put G j l with
  |some (o,r)=>match PO.puts G (j+1) ps r with
   |some (os,r')=>some (o::os,r')
   |none=>none
  |none=>none
theorem PO.get_ok{S S0:SSto}{σ:Sto}{objs:List PO}{j:Nat}{p:PO}{o:SObj}{l:List DV}{a:AObj}(h:p.get S S0 j o=some l) (hc:p.chk objs=true) (hv:ObR S σ o a):
 ∃a',WeakOb a a'∧a'.lo objs.length=true∧(∀t0 f0 k0,p= .arr t0 f0 k0→∀t xs fz g,o= .arr t xs fz g→a' =a)∧(∀t0 f0,p= .arr t0 f0 true→∃t xs fz g,o= .arr t xs fz g∧sameGen S0 j g=true)∧
  ∀G,∃o',(∀rest,p.put G j (l++rest)=some (o',rest))∧(∀S2 σ2,HO G S σ objs S2 σ2→ObR S2 σ2 o' a')∧
  (∀t0 f0 k0,p= .arr t0 f0 k0→∀t xs fz g,o= .arr t xs fz g→∃fz',o' = .arr t xs fz' (G j)):=by
 cases p with
 |cells ps fz=>
  simp only[PO.get]at h
  split at h<;>try (cases h;done)
  split at h<;>try (cases h;done)
  rename_i vs fz' _ hb
  obtain⟨ds,fr,rfl,hfr,hv⟩:=hv
  obtain⟨ds',h2,h3,hG⟩:=PV.gets_ok ps _ l ds h hc hv
  refine⟨.cells ds' fr 0,.inr ⟨ds,ds',fr,0,rfl,rfl,h2⟩,h3,fun _ _ _ e=>(by cases e),fun _ _ e=>(by cases e),fun G=> ?_⟩
  obtain⟨vs',h1,h4⟩:=hG G
  refine⟨.cells vs' fz,fun rest=>by simp only[PO.put,h1],fun S2 σ2 H=>⟨ds',fr,rfl,fun hf=>hfr ?_,h4 S2 σ2 H⟩,fun _ _ _ e=>(by cases e)⟩
  cases fz' <;>simp_all
 |arr t fz kp=>
  simp only[PO.get]at h
  split at h<;>try (cases h;done)
  split at h<;>try (cases h;done)
  rename_i t' xs fz' g _ _ e _ hb
  subst e
  cases h
  simp only[Bool.and_eq_true]at hb
  obtain⟨hb,hk⟩:=hb
  obtain⟨fr,u,rfl,hfr⟩:=hv
  refine⟨.cells (t'.flat xs) fr u,.inl rfl,flat_lo _ _ _,fun _ _ _ _ _ _ _ _ _=>rfl,fun t0 f0 e=> ?_,fun G=>⟨.arr t' xs fz (G j),fun rest=>rfl,fun S2 σ2 H=>⟨fr,u,rfl,fun hf=>hfr ?_⟩,fun _ _ _ _ t2 xs2 fz2 g2 e=>by cases e;exact⟨fz,rfl⟩⟩⟩
  ·cases e
   exact⟨_,_,_,_,rfl,by simpa using hk⟩
  ·cases fz' <;>simp_all
 |it=>
  simp only[PO.get]at h
  split at h<;>try (cases h;done)
  rename_i s p
  cases h
  exact⟨a,.inl rfl,by rw[show a=_ from hv];rfl,fun _ _ _ e=>(by cases e),fun _ _ e=>(by cases e),fun G=>⟨.it s p,fun rest=>rfl,fun _ _ _=>hv,fun _ _ _ e=>(by cases e)⟩⟩
 |dead=>
  simp only[PO.get]at h
  split at h<;>try (cases h;done)
  cases h
  exact⟨a,.inl rfl,by rw[show a=_ from hv];rfl,fun _ _ _ e=>(by cases e),fun _ _ e=>(by cases e),fun G=>⟨.raw .dead,fun rest=>rfl,fun _ _ _=>hv,fun _ _ _ e=>(by cases e)⟩⟩
 |smap=>
  simp only[PO.get]at h
  split at h<;>try (cases h;done)
  rename_i ks
  cases h
  exact⟨a,.inl rfl,by rw[show a=_ from hv];exact smap_lo _ _,fun _ _ _ e=>(by cases e),fun _ _ e=>(by cases e),fun G=>⟨.smap ks,fun rest=>rfl,fun _ _ _=>hv,fun _ _ _ e=>(by cases e)⟩⟩
 |junk=>
  simp only[PO.get]at h
  split at h<;>try (cases h;done)
  rename_i hno
  cases h
  cases o with
  |cells vs fz=>
   obtain⟨ds,fr,rfl,hfr,hv⟩:=hv
   exact⟨.cells (ds.map fun _=> .junk) fr 0,.inr ⟨_,_,_,_,rfl,rfl,Weaks.junk ds⟩,D.los_junk _ _,fun _ _ _ e=>(by cases e),fun _ _ e=>(by cases e),fun G=>⟨.junk,fun rest=>rfl,fun _ _ _=>D.los_junk 0 ds,fun _ _ _ e=>(by cases e)⟩⟩
  |arr t xs fz g=>
   obtain⟨fr,u,rfl,hfr⟩:=hv
   exact⟨.cells ((t.flat xs).map fun _=> .junk) fr u,.inr ⟨_,_,_,_,rfl,rfl,Weaks.junk _⟩,D.los_junk _ _,fun _ _ _ e=>(by cases e),fun _ _ e=>(by cases e),fun G=>⟨.junk,fun rest=>rfl,fun _ _ _=>D.los_junk 0 _,fun _ _ _ e=>(by cases e)⟩⟩
  |raw a=>exact absurd rfl (hno a)
  |it s p=>exact⟨a,.inl rfl,by rw[show a=_ from hv];rfl,fun _ _ _ e=>(by cases e),fun _ _ e=>(by cases e),fun G=>⟨.junk,fun rest=>rfl,fun _ _ _=>(by rw[show a=_ from hv];rfl:a.lo 0=true),fun _ _ _ e=>(by cases e)⟩⟩
  |smap ks=>exact⟨a,.inl rfl,by rw[show a=_ from hv];exact smap_lo _ _,fun _ _ _ e=>(by cases e),fun _ _ e=>(by cases e),fun G=>⟨.junk,fun rest=>rfl,fun _ _ _=>(by rw[show a=_ from hv];exact smap_lo _ _:a.lo 0=true),fun _ _ _ e=>(by cases e)⟩⟩
  |junk=>exact⟨a,.inl rfl,AObj.lo_mono (Nat.zero_le _) hv,fun _ _ _ e=>(by cases e),fun _ _ e=>(by cases e),fun G=>⟨.junk,fun rest=>rfl,fun _ _ _=>hv,fun _ _ _ e=>(by cases e)⟩⟩
theorem PO.gets_ok{S S0:SSto}{σ:Sto}{objs:List PO}:∀(j:Nat) (ps:List PO) (os:List SObj) (as:List AObj) (l:List DV),PO.gets S S0 j ps os=some l→ps.all (PO.chk objs)=true→(∀(k:Nat) (o:SObj),os[k]? =some o→∃a,as[k]? =some a∧ObR S σ o a)→
 ∃as2:List AObj,as2.length=ps.length∧(∀(k:Nat) (a a2:AObj),as[k]? =some a→as2[k]? =some a2→WeakOb a a2)∧(∀a2 ∈ as2,a2.lo objs.length=true)∧
  (∀(k:Nat) t0 f0 k0,ps[k]? =some (.arr t0 f0 k0)→∀t xs fz g,os[k]? =some (.arr t xs fz g)→as2[k]? =as[k]?)∧
  (∀(k:Nat) t0 f0,ps[k]? =some (.arr t0 f0 true)→∃t xs fz g,os[k]? =some (.arr t xs fz g)∧sameGen S0 (j+k) g=true)∧
 ∀G,∃os2,(∀rest,PO.puts G j ps (l++rest)=some (os2,rest))∧os2.length=ps.length∧
  (∀S2 σ2,HO G S σ objs S2 σ2→∀(k:Nat) (o2:SObj),os2[k]? =some o2→∃a2,as2[k]? =some a2∧ObR S2 σ2 o2 a2)∧
  (∀(k:Nat) t0 f0 k0,ps[k]? =some (.arr t0 f0 k0)→∀t xs fz g,os[k]? =some (.arr t xs fz g)→∃fz',os2[k]? =some (.arr t xs fz' (G (j+k))))
 |j,[],os,as,l,h,hc,hv=>by
  simp only[PO.gets,Option.some.injEq]at h
  subst h
  refine⟨[],rfl,?_,?_,?_,?_,fun G=>⟨[],fun rest=>rfl,rfl,?_,?_⟩⟩
  ·intro k a a2 _ h;simp at h
  ·intro a2 h;simp at h
  ·intro k t0 f0 k0 h;simp at h
  ·intro k t0 f0 h;simp at h
  ·intro S2 σ2 _ k o2 h;simp at h
  ·intro k t0 f0 k0 h;simp at h
 |j,p::ps,os,as,l,h,hc,hv=>by
  simp only[PO.gets]at h
  split at h<;>try (cases h;done)
  split at h<;>try (cases h;done)
  rename_i o os _ _ x y hx hy
  cases h
  simp only[List.all_cons,Bool.and_eq_true]at hc
  obtain⟨a,ha,hva⟩:=hv 0 o rfl
  cases as with
  |nil=>simp at ha
  |cons a0 as=>
   simp at ha
   subst ha
   obtain⟨a',a2,a3,a6,a9,aG⟩:=PO.get_ok hx hc.1 hva
   obtain⟨as2,b2,b4,b5,b8,b9,bG⟩:=PO.gets_ok (j+1) ps os as y hy hc.2 (fun k o hk=>by simpa using hv (k+1) o (by simpa using hk))
   refine⟨a' ::as2,by simp[b2],?_,?_,?_,?_,fun G=> ?_⟩
   ·intro k u u2 h1 h2
    cases k with
    |zero=>simp at h1 h2;subst h1 h2;exact a2
    |succ k=>exact b4 k u u2 (by simpa using h1) (by simpa using h2)
   ·intro u hu
    rcases List.mem_cons.1 hu with rfl|hu
    ·exact a3
    ·exact b5 u hu
   ·intro k t0 f0 k0 hp t xs fz g ho
    cases k with
    |zero=>
     simp at hp ho
     simp[a6 t0 f0 k0 hp t xs fz g ho]
    |succ k=>simpa using b8 k t0 f0 k0 (by simpa using hp) t xs fz g (by simpa using ho)
   ·intro k t0 f0 hp
    cases k with
    |zero=>
     simp at hp
     obtain⟨t,xs,fz,g,h1,h2⟩:=a9 t0 f0 hp
     exact⟨t,xs,fz,g,by simp[h1],by simpa using h2⟩
    |succ k=>
     obtain⟨t,xs,fz,g,h1,h2⟩:=b9 k t0 f0 (by simpa using hp)
     exact⟨t,xs,fz,g,by simpa using h1,by rw[show j+(k+1)=j+1+k from by omega];exact h2⟩
   obtain⟨o',a1,a4,a5⟩:=aG G
   obtain⟨os2,b1,b3,b6,b7⟩:=bG G
   refine⟨o' ::os2,fun rest=>by simp only[PO.puts,List.append_assoc,a1,b1],by simp[b3],?_,?_⟩
   ·intro S2 σ2 H k o2 hk
    cases k with
    |zero=>simp at hk;subst hk;exact⟨a',by simp,a4 S2 σ2 H⟩
    |succ k=>obtain⟨u,h1,h2⟩:=b6 S2 σ2 H k o2 (by simpa using hk);exact⟨u,by simpa using h1,h2⟩
   ·intro k t0 f0 k0 hp t xs fz g ho
    cases k with
    |zero=>
     simp at hp ho
     obtain⟨fz',h1⟩:=a5 t0 f0 k0 hp t xs fz g ho
     exact⟨fz',by simp[h1]⟩
    |succ k=>
     obtain⟨fz',h1⟩:=b7 k t0 f0 k0 (by simpa using hp) t xs fz g (by simpa using ho)
     exact⟨fz',by rw[show j+(k+1)=j+1+k from by omega];simpa using h1⟩
def eget(S:SSto) (τ:SEnv):List (Nat×PV)→Option (List DV)
 |[]=>some []
 |(t,p)::r=>match sget τ t with
  |some v=>match p.get S v,eget S τ r with
   |some x,some y=>some (x++y)
   |_,_=>none
  |none=>none
def eput(G:Nat→Nat):List (Nat×PV)→List DV→Option (SEnv×List DV)
 |[],l=>some ([],l)
 |(t,p)::r,l=>match p.put G l with
  |some (v,l')=>match eput G r l' with
   |some (τ,l'')=>some ((t,v)::τ,l'')
   |none=>none
  |none=>none
theorem eget_ok{S:SSto}{σ:Sto}{objs:List PO}{τ:SEnv}{τ' :Env}(hE:ER S σ τ τ'):∀(ps:List (Nat×PV)) (l:List DV),eget S τ ps=some l→ps.all (fun q=>q.2.chk objs)=true→
 ∃τ2:Env,(∀t d',get τ2 t=some d'→∃d,get τ' t=some d∧Weak d d'∧D.lo objs.length d' =true)∧∀G,∃τs,(∀rest,eput G ps (l++rest)=some (τs,rest))∧∀S2 σ2,HO G S σ objs S2 σ2→ER S2 σ2 τs τ2
 |[],l,h,hc=>by
  simp only[eget,Option.some.injEq]at h
  subst h
  exact⟨[],fun t d' h=>by simp[get]at h,fun G=>⟨[],fun rest=>rfl,fun _ _ _ t v h=>by simp[sget]at h⟩⟩
 |(t,p)::r,l,h,hc=>by
  simp only[eget]at h
  split at h<;>try (cases h;done)
  rename_i v hv
  split at h<;>try (cases h;done)
  rename_i x y hx hy
  cases h
  simp only[List.all_cons,Bool.and_eq_true]at hc
  obtain⟨d,hd,hvd⟩:=hE t v hv
  obtain⟨d',a2,a3,aG⟩:=PV.get_ok p v x d hx hc.1 hvd
  obtain⟨τ2,b2,bG⟩:=eget_ok hE r y hy hc.2
  refine⟨(t,d')::τ2,?_,fun G=> ?_⟩
  ·intro t' e h
   simp only[get]at h
   split at h
   ·rename_i he;subst he;cases h;exact⟨d,hd,a2,a3⟩
   ·exact b2 t' e h
  ·obtain⟨v',a1,a4⟩:=aG G
   obtain⟨τs,b1,b3⟩:=bG G
   exact⟨(t,v')::τs,fun rest=>by simp only[eput,List.append_assoc,a1,b1],fun S2 σ2 H=>(b3 S2 σ2 H).push (a4 S2 σ2 H)⟩
structure Pat where
 env:List (Nat×PV)
 objs:List PO
 deriving Inhabited
def Pat.tcs(p:Pat):List TC:=PV.tcss (p.env.map (·.2))++p.objs.flatMap PO.tcs
def Pat.get(p:Pat) (i:Nat) (S0:SSto) (τ:SEnv) (S:SSto):Option (List DV):=
 match Nat.ble i p.objs.length&&Nat.ble p.objs.length S.length&&p.env.all (fun q=>q.2.chk p.objs)&&p.objs.all (PO.chk p.objs) with
 |true=>match eget S τ p.env,PO.gets S S0 0 p.objs S with
  |some x,some y=>some (x++y)
  |_,_=>none
 |false=>none
def Pat.put(p:Pat) (G:Nat→Nat) (l:List DV):Option (SEnv×SSto):=match eput G p.env l with
 |some (τ,r)=>match PO.puts G 0 p.objs r with
  |some (S,[])=>some (τ,S)
  |_=>none
 |none=>none
def KpR(p:Pat) (S0 S:SSto) (σ σ2:Sto):Prop:=∀(l:Nat) t0 f0,p.objs[l]? =some (.arr t0 f0 true)→∃t xs fz g,S[l]? =some (.arr t xs fz g)∧sameGen S0 l g=true∧σ2[l]? =σ[l]?
theorem Pat.norm{P:Program}{i N:Nat}{p:Pat}{S0 S:SSto}{σ:Sto}{τ:SEnv}{τ' :Env}{l:List DV}(h:p.get i S0 τ S=some l) (hE:ER S σ τ τ') (hS:StR S σ):
 ∃τ2 σ2,SGho P i N τ' σ τ2 σ2∧KpR p S0 S σ σ2∧∀G,∃τs S2,p.put G l=some (τs,S2)∧i≤S2.length∧ER S2 σ2 τs τ2∧StR S2 σ2∧(∀(j:Nat) t0 f0,p.objs[j]? =some (.arr t0 f0 true)→∀t xs fz g,S[j]? =some (.arr t xs fz g)→∃fz',S2[j]? =some (.arr t xs fz' (G j))):=by
 unfold Pat.get at h
 split at h<;>try (cases h;done)
 rename_i hc
 simp only[Bool.and_eq_true]at hc
 obtain⟨⟨⟨hc1,hc2⟩,hc3⟩,hc4⟩:=hc
 have hc1:=Nat.le_of_ble_eq_true hc1
 have hc2:=Nat.le_of_ble_eq_true hc2
 split at h<;>try (cases h;done)
 rename_i x y hx hy
 cases h
 obtain⟨τ2,a2,aG⟩:=eget_ok (objs:=p.objs) hE p.env x hx hc3
 obtain⟨σ2,b2,b4,b5,b8,b9,bG⟩:=PO.gets_ok 0 p.objs S σ y hy hc4 (fun k o hk=>hS.obj k o hk)
 refine⟨τ2,σ2,?_,fun l t0 f0 hl=> ?_,fun G=> ?_⟩
 ·intro B Gh0 w a hR hT
  have hlen:σ2.length≤σ.length:=by rw[b2,←hS.len];exact hc2
  have hW:Rel B Gh0 (σ2++σ.drop σ2.length) w:=by
   refine hR.weakAll (by simp;omega) fun l o o2 h1 h2=> ?_
   rcases Nat.lt_or_ge l σ2.length with hlt|hge
   ·rw[List.getElem?_append_left hlt]at h2
    exact b4 l o o2 h1 h2
   ·rw[List.getElem?_append_right hge,List.getElem?_drop]at h2
    rw[show σ2.length+(l-σ2.length)=l from by omega]at h2
    rw[h1]at h2
    cases h2
    exact .inl rfl
  have hlo:∀ob ∈ σ2,ob.lo σ2.length=true:=by rw[b2];exact b5
  refine⟨Gh0.cutTo σ2.length,⟨fun _ _ _ x=>x,fun _ _ x=>x,fun _ _ x=>x,fun l u b hl hb=> ?_⟩,hW.cutTo hlo,hT.size,hT.defers,fun t d hg=> ?_⟩
  ·have:l<σ2.length:=by rw[b2];omega
   simp only[Gh.cutTo,if_pos this];exact hb
  ·obtain⟨d0,h1,h2,h3⟩:=a2 t d hg
   exact Rep.cutTo d _ (by rw[b2];exact h3) (h2 _ _ (hT.slot t d0 h1))
 ·obtain⟨t,xs,fz,g,h1,h2⟩:=b9 l t0 f0 hl
  exact⟨t,xs,fz,g,h1,by simpa using h2,b8 l t0 f0 true hl t xs fz g h1⟩
 ·obtain⟨τs,a1,a3⟩:=aG G
  obtain⟨S2,b1,b3,b6,b7⟩:=bG G
  have H:HO G S σ p.objs S2 σ2:=fun l t0 f0 k0 hl t xs fz g hs=>⟨by simpa using b7 l t0 f0 k0 hl t xs fz g hs,b8 l t0 f0 k0 hl t xs fz g hs⟩
  have hput:=a1 y
  have hputs:=b1 []
  rw[List.append_nil]at hputs
  exact⟨τs,S2,by simp only[Pat.put,hput,hputs],by rw[b3];exact hc1,a3 S2 σ2 H,⟨by rw[b2,b3],fun l o hl=>b6 S2 σ2 H l o hl⟩,fun j t0 f0 hp t xs fz g hs=>by simpa using b7 j t0 f0 true hp t xs fz g hs⟩
end Go.Fw
namespace Go.Fw
open Go.RowKit
mutual
def SV.can:SV→D
 | .int k n=> .int k n
 | .bool b=> .bool b
 | .str s=> .str s
 | .sl t xs f=> .list (t.flat xs) xs.length f
 | .nils=> .list [] 0 true
 | .lst cs n f=> .list (SV.cans cs) n f
 | .agg cs=> .agg (SV.cans cs)
 | .tup cs=> .tuple (SV.cans cs)
 | .func fn a b=> .func fn (SV.cans a) (SV.cans b)
 | .iface t v=> .iface t v.can
 | .rc cs o=> .rptr (SV.cans cs) o
 | .raw d=>d
 |_=> .junk
def SV.cans:List SV→List D
 |[]=>[]
 |v::vs=>v.can::SV.cans vs
end
theorem Weak.listF{cs:List D}{n:Nat}{f g:Bool}(h:g=true→f=true):Weak (.list cs n f) (.list cs n g):=by
 cases g
 ·exact Weak.list
 ·rw[h rfl];exact Weak.refl _
theorem Weak.trans{a b c:D}(h:Weak a b) (k:Weak b c):Weak a c:=fun G v x=>k G v (h G v x)
mutual
theorem SV.can_ok{S S2:SSto}{σ σ2:Sto}:∀(v:SV) (d:D),v.pure=true→VR S σ v d→Weak d v.can∧VR S2 σ2 v v.can∧v.can.pure=true
 | .int _ _,_,_,x=>by simp only[VR]at x;subst x;exact⟨Weak.refl _,by simp only[SV.can,VR],rfl⟩
 | .bool _,_,_,x=>by simp only[VR]at x;subst x;exact⟨Weak.refl _,by simp only[SV.can,VR],rfl⟩
 | .str _,_,_,x=>by simp only[VR]at x;subst x;exact⟨Weak.refl _,by simp only[SV.can,VR],rfl⟩
 | .sl t xs f,_,_,x=>by simp only[VR]at x;obtain⟨f',rfl,h⟩:=x;exact⟨Weak.listF h,by simp only[SV.can,VR];exact⟨f,rfl,id⟩,t.flat_pure xs⟩
 | .nils,_,_,x=>by simp only[VR]at x;subst x;exact⟨Weak.refl _,by simp only[SV.can,VR],rfl⟩
 | .lst cs n f,_,p,x=>by
   simp only[VR]at x
   obtain⟨ds,f',rfl,hf,hv⟩:=x
   obtain⟨h1,h2,h3⟩:=SV.cans_ok (S2:=S2) (σ2:=σ2) cs ds p hv
   exact⟨(Weak.listF hf).trans (Weak.cellsList h1),by simp only[SV.can,VR];exact⟨_,f,rfl,id,h2⟩,h3⟩
 | .agg cs,_,p,x=>by
   simp only[VR]at x
   obtain⟨ds,rfl,hv⟩:=x
   obtain⟨h1,h2,h3⟩:=SV.cans_ok (S2:=S2) (σ2:=σ2) cs ds p hv
   exact⟨Weak.agg h1,by simp only[SV.can,VR];exact⟨_,rfl,h2⟩,h3⟩
 | .tup cs,_,p,x=>by
   simp only[VR]at x
   obtain⟨ds,rfl,hv⟩:=x
   obtain⟨h1,h2,h3⟩:=SV.cans_ok (S2:=S2) (σ2:=σ2) cs ds p hv
   exact⟨Weak.tuple h1,by simp only[SV.can,VR];exact⟨_,rfl,h2⟩,h3⟩
 | .func _ a b,_,p,x=>by
   simp only[VR]at x
   simp only[SV.pure,Bool.and_eq_true]at p
   obtain⟨da,db,rfl,ha,hb⟩:=x
   obtain⟨a1,a2,a3⟩:=SV.cans_ok (S2:=S2) (σ2:=σ2) a da p.1 ha
   obtain⟨b1,b2,b3⟩:=SV.cans_ok (S2:=S2) (σ2:=σ2) b db p.2 hb
   exact⟨Weak.func a1 b1,by simp only[SV.can,VR];exact⟨_,_,rfl,a2,b2⟩,by simp[SV.can,D.pure,a3,b3]⟩
 | .iface _ v,_,p,x=>by
   simp only[VR]at x
   obtain⟨e,rfl,hv⟩:=x
   obtain⟨h1,h2,h3⟩:=SV.can_ok (S2:=S2) (σ2:=σ2) v e p hv
   exact⟨Weak.iface h1,by simp only[SV.can,VR];exact⟨_,rfl,h2⟩,h3⟩
 | .own _ _,_,p,_=>by cases p
 | .ap _ _ _ _,_,p,_=>by cases p
 | .rp _ _ _,_,p,_=>by cases p
 | .rc cs o,_,p,x=>by
   simp only[VR]at x
   obtain⟨ds,rfl,hv⟩:=x
   obtain⟨h1,h2,h3⟩:=SV.cans_ok (S2:=S2) (σ2:=σ2) cs ds p hv
   exact⟨Weak.rptr h1,by simp only[SV.can,VR];exact⟨_,rfl,h2⟩,h3⟩
 | .raw e,_,p,x=>by simp only[VR]at x;subst x;exact⟨Weak.refl _,by simp only[SV.can,VR],p⟩
theorem SV.cans_ok{S S2:SSto}{σ σ2:Sto}:∀(vs:List SV) (ds:List D),SV.pures vs=true→VRs S σ vs ds→Weaks ds (SV.cans vs)∧VRs S2 σ2 vs (SV.cans vs)∧pureL (SV.cans vs)=true
 |[],_,_,x=>by simp only[VRs]at x;subst x;exact⟨rfl,by simp only[SV.cans,VRs],rfl⟩
 |v::vs,_,p,x=>by
  simp only[VRs]at x
  simp only[SV.pures,Bool.and_eq_true]at p
  obtain⟨e,es,rfl,h1,h2⟩:=x
  obtain⟨a1,a2,a3⟩:=SV.can_ok (S2:=S2) (σ2:=σ2) v e p.1 h1
  obtain⟨b1,b2,b3⟩:=SV.cans_ok (S2:=S2) (σ2:=σ2) vs es p.2 h2
  exact⟨⟨a1,b1⟩,by simp only[SV.cans,VRs];exact⟨_,_,rfl,a2,b2⟩,by simp[SV.cans,pureL,a3,b3]⟩
end
structure Ctr where
 ap:List PV
 rp:PV
 fn:Tup (PV.tcss ap)→Option (Tup rp.tcs)
abbrev Exits:=List (AEx×Pat)
abbrev Exits.tcs(x:Exits):List (List TC):=x.map fun p=>p.2.tcs
structure LoopC where
 fid:Nat
 key:Nat
 i:Nat
 head:Pat
 exits:Exits
 fn:Tup head.tcs→Option (XS exits.tcs)
structure CtrO where
 ap:List PV
 t:TC
 fn:Tup (PV.tcss ap)→Option (List t.Den)
structure CtrX where
 ap:List PV
 rps:List PV
 fn:Tup (PV.tcss ap)→Option (XS (rps.map PV.tcs))
structure Cx where
 P:Program
 T:Tys
 H:Tr TC:= .nil
 ow:Tr OH:= .nil
 C:List (FuncId×Ctr):=[]
 CO:List (FuncId×CtrO):=[]
 CX:List (FuncId×CtrX):=[]
 L:List LoopC:=[]
 J:Tr Exits:= .nil
def firstR:Code→Nat
 | .region id _ _=>id
 | .seq a b=>match firstR a with
   |65535=>firstR b
   |n=>n
 | .cond _ a _=>firstR a
 | .block _ b=>firstR b
 | .loop b=>firstR b
 | .scope b=>firstR b
 |_=>65535
def lastR(lr:Nat):Code→Nat
 | .region id _ _=>id
 | .seq a b=>lastR (lastR lr a) b
 | .cond _ a b=>Nat.add (lastR (lastR lr a) b) 1024
 | .block _ b=>lastR lr b
 | .loop b=>lastR lr b
 | .scope b=>lastR lr b
 |_=>lr
def loopsOf(k:Nat):Code→List Code
 | .loop b=>(match Nat.beq (firstR b) k with|true=>[b]|false=>[])++loopsOf k b
 | .seq a b=>loopsOf k a++loopsOf k b
 | .cond _ a b=>loopsOf k a++loopsOf k b
 | .block _ b=>loopsOf k b
 | .scope b=>loopsOf k b
 |_=>[]
def sCallee(T:Tys) (τ:SEnv) (c:Call):Option (FuncId×List SV):=
 match c.callee with
 | .value x=>match sev τ x,sevs τ c.args.toList with
   |some (.func (.func f) a b),some vs=>some (f,a++vs++b)
   |_,_=>none
 | .invoke x name=>match sev τ x,sevs τ c.args.toList with
   |some (.iface t v),some vs=>match lkM T.meth t name with
    |some f=>some (f,v::vs)
    |none=>none
   |_,_=>none
 |_=>none
theorem sCallee_ok{T:Tys}{S:SSto}{σ:Sto}{τ:SEnv}{τ' :Env}(hE:ER S σ τ τ') {c:Call}{f:FuncId}{vs:List SV}(h:sCallee T τ c=some (f,vs)):∃ds,callD T τ' c=some (f,ds)∧VRs S σ vs ds:=by
 unfold sCallee at h
 unfold callD
 cases hcl:c.callee<;>rw[hcl]at h<;>simp only at h
 case value x=>
  split at h<;>try (cases h;done)
  rename_i f' a b vs' hx hvs
  cases h
  obtain⟨d,h1,h2⟩:=sev_ok hE hx
  obtain⟨ds,h3,h4⟩:=sevs_ok hE hvs
  simp only[VR]at h2
  obtain⟨da,db,rfl,ha,hb⟩:=h2
  exact⟨_,by simp only[h1,h3],(ha.append h4).append hb⟩
 case invoke x name=>
  split at h<;>try (cases h;done)
  rename_i t v vs' hx hvs
  split at h<;>try (cases h;done)
  rename_i f' hm
  cases h
  obtain⟨d,h1,h2⟩:=sev_ok hE hx
  obtain⟨ds,h3,h4⟩:=sevs_ok hE hvs
  simp only[VR]at h2
  obtain⟨e,rfl,hv⟩:=h2
  exact⟨e::ds,by simp only[h1,h3,hm],by simp only[VRs];exact⟨e,ds,rfl,hv,h4⟩⟩
 case builtin=>cases h
theorem aop_callG{P:Program}{T:Tys}{N:Nat}{o:Oper}{τ:Env}{σ σ1:Sto}(hTy:TOk T P) {c:Call}{f:FuncId}{ds ds' :List D}{K:D→Sto→Prop}(ho:o.op= .call c) (hc:callD T τ c=some (f,ds))
 (hz:Ghos P σ σ1 ds ds') (hf:FnOk P f) (h:ACall P f ds' σ1 K):AOp P N o τ σ K:=by
 intro B G w a hR hT next Q hn
 obtain⟨vals,hall,hinv⟩:=callD_run hTy (w:=w) (ty:=o.type) hT hc
 rw[callFunc_run hf]at hinv
 obtain⟨G1,l1,R1,r1⟩:=hz B G w vals hR hall
 have hrun:(execOp a.eval o).run P w= .ok (.enter f vals.toArray) w:=by
  unfold execOp
  rw[ho]
  exact hinv
 unfold Oper.wp
 rw[hrun,Oper.upon_enter]
 refine(h B G1 w _ R1 r1).mono ?_
 rintro e w' ⟨v,G',d,σ',rfl,h1,h2,h3,h4⟩
 exact hn v w' G' d σ' (l1.trans (h1.le R1)) h2 h3 h4
theorem Ghos.weak{P:Program}{σ:Sto}{ds es:List D}(h:Weaks ds es):Ghos P σ σ ds es:=fun _ G _ _ hR hv=>⟨G,.refl G,hR,h.reps hv⟩
theorem Ghos.trans{P:Program}{σ σ1 σ2:Sto}{d e f:List D}(h:Ghos P σ σ1 d e) (k:Ghos P σ1 σ2 e f):Ghos P σ σ2 d f:=fun B G w v hR hv=>by
 obtain⟨G1,l1,R1,r1⟩:=h B G w v hR hv
 obtain⟨G2,l2,R2,r2⟩:=k B G1 w v R1 r1
 exact⟨G2,l1.trans l2,R2,r2⟩
def CtrOk(P:Program) (f:FuncId) (c:Ctr):Prop:=FnOk P f∧PV.chks [] c.ap=true∧PV.chk [] c.rp=true∧
 ∀x y,c.fn x=some y→∃v,c.rp.put (fun _=>0) (fromTup _ y)=some (v,[])∧(∀S σ,VR S σ v v.can)∧∀vs,PV.puts (fun _=>0) c.ap (fromTup _ x)=some (vs,[])→∀ds,VRs [] [] vs ds→PureOK P f ds v.can
def OwnOK(P:Program) (f:FuncId) (ds cs:List D) (n sz:Nat):Prop:=∀σ:Sto,ACall P f ds σ fun d s=>d= .sl σ.length cs.length 0 n sz false∧s=σ++[.cells cs 0 cs.length]
theorem own_of_callG{P:Program}{f:FuncId}{ds cs:List D}{n sz:Nat}(hp:pureL ds=true) (hpc:pureL cs=true) (h:ACallB 0 P f ds [] fun d s=>∃l u,d= .sl l u 0 n sz false∧s[l]? =some (.cells cs 0 u)):OwnOK P f ds cs n sz:=by
 intro σ B G w vals hR hv
 let B0:Base P:=⟨w,G,hR.glob,fun b o v h=>lt_of_cell (hR.imm b o v h),fun b es h=>lt_of_some (hR.mimm b es h).1⟩
 have hR0:Rel B0 G.strip [] w:=by
  refine⟨Below.refl _ _,hR.imm,hR.mimm,hR.siz,?_,?_,?_,?_,?_,?_,?_,fun _ _ _=>rfl,fun _ _=>rfl⟩
  ·intro l u b hb;cases hb
  ·intro l u l' u' b hb;cases hb
  ·intro l ob b ho;simp at ho
  ·intro l cs frz u b ho;simp at ho
  ·intro l ks vs b ho;simp at ho
  ·intro l ob ho;simp at ho
  ·intro l ob ho;simp at ho
 refine(h B0 G.strip w vals hR0 (Reps.pure (G:=G) (G' :=G.strip) (fun _ _ _ x=>x) (fun _ _ x=>x) ds vals hp hv)).mono ?_
 rintro e w' ⟨v,G2,d',σ',rfl,hle,R2,r2,l,u,rfl,hl⟩
 let G3:Gh:={G2 with blk:=fun l' u' =>if l' <σ.length then G.blk l' u' else if l' =σ.length∧u' =cs.length then G2.blk l u else none}
 have hGG:G.Le G3:=⟨hle.imm,hle.mimm,fun l' u' b hb=>by simp only[G3,if_pos (hR.blk _ _ _ hb).1];exact hb,hle.siz⟩
 have hb3:∀{l' u' b:Nat},G3.blk l' u' =some b→(l' <σ.length∧G.blk l' u' =some b)∨((l' =σ.length∧u' =cs.length)∧G2.blk l u=some b):=by
  intro l' u' b hb
  simp only[G3]at hb
  split at hb
  ·exact .inl ⟨by assumption,hb⟩
  ·split at hb
   ·exact .inr ⟨by assumption,hb⟩
   ·cases hb
 have hold:∀{l' u' b:Nat},G.blk l' u' =some b→b<w.heap.size:=fun h=>(hR.blk _ _ _ h).2.2
 have hnew:∀{b:Nat},G2.blk l u=some b→w.heap.size≤b∧b<w'.heap.size:=fun h=>(R2.blk _ _ _ h).2
 have hsz:w.heap.size≤w'.heap.size:=R2.below.size
 have hobj:∀{l' :Nat}{ob:AObj},(σ++[AObj.cells cs 0 cs.length])[l']? =some ob→l' <σ.length→σ[l']? =some ob:=fun h hlt=>by rw[List.getElem?_append_left hlt]at h;exact h
 have hobn:∀{ob:AObj},(σ++[AObj.cells cs 0 cs.length])[σ.length]? =some ob→ob= .cells cs 0 cs.length:=fun h=>by simp at h;exact h.symm
 have himm:∀b o,b<w.heap.size→G2.imm b o=G.imm b o:=fun b o hb=>R2.bimm b o hb
 have hmimm:∀b,b<w.heap.size→G2.mimm b=G.mimm b:=fun b hb=>R2.bmimm b hb
 refine⟨v,G3,.sl σ.length cs.length 0 n sz false,σ++[.cells cs 0 cs.length],rfl,hGG.b,?_,?_,rfl,rfl⟩
 ·refine⟨hR.below.trans (R2.below.mono hR.below.size),R2.imm,R2.mimm,R2.siz,?_,?_,?_,?_,?_,?_,?_,?_,?_⟩
  ·intro l' u' b hb
   rcases hb3 hb with⟨h1,h2⟩|⟨h1,h2⟩
   ·have:=hR.blk _ _ _ h2
    exact⟨by simp;omega,this.2.1,by omega⟩
   ·have:=hnew h2
    exact⟨by simp;omega,by have:=hR.below.size;omega,this.2⟩
  ·intro l1 u1 l2 u2 b h1 h2
   rcases hb3 h1 with⟨a1,a2⟩|⟨a1,a2⟩<;>rcases hb3 h2 with⟨c1,c2⟩|⟨c1,c2⟩
   ·exact hR.inj _ _ _ _ _ a2 c2
   ·have:=hold a2;have:=hnew c2;omega
   ·have:=hold c2;have:=hnew a2;omega
   ·omega
  ·intro l' ob b ho hb
   rcases hb3 hb with⟨h1,h2⟩|⟨h1,h2⟩
   ·exact(hR.obj _ _ _ (hobj ho h1) h2).keep hGG (R2.below.block b (hold h2))
   ·obtain⟨h1,hu1⟩:=h1
    subst h1
    have:=hobn ho
    subst this
    obtain⟨vs,et,o1,o2,tl,hd,o3,o4⟩:=R2.obj _ _ _ hl h2
    exact⟨vs,et,o1,o2,tl,hd,o3,Reps.pure (G:=G2) (G' :=G3) (fun _ _ _ x=>x) (fun _ _ x=>x) cs hd hpc o4⟩
  ·intro l' cs' f' u' b ho hb o x hi
   rcases hb3 hb with⟨h1,h2⟩|⟨h1,h2⟩
   ·exact hR.own _ _ _ _ _ (hobj ho h1) h2 o x (by rw[←himm b o (hold h2)];exact hi)
   ·obtain⟨h1,hu1⟩:=h1
    subst h1
    have:=hobn ho
    cases this
    exact R2.own _ _ _ _ _ hl h2 o x hi
  ·intro l' ks vs b ho hb
   rcases hb3 hb with⟨h1,h2⟩|⟨h1,h2⟩
   ·have:=hR.ownm _ _ _ _ (hobj ho h1) h2
    show G2.mimm b=none
    rw[hmimm b (hold h2)];exact this
   ·obtain⟨h1,hu1⟩:=h1
    subst h1
    have:=hobn ho
    cases this
  ·intro l' ob ho
   rcases Nat.lt_or_ge l' σ.length with h1|h1
   ·refine⟨(hR.ver _ _ (hobj ho h1)).1,fun u' b hb=> ?_⟩
    rcases hb3 hb with⟨_,h2⟩|⟨h2,_⟩
    ·exact(hR.ver _ _ (hobj ho h1)).2 _ _ h2
    ·omega
   ·have h2:l' =σ.length:=by
     have:=lt_of_getElem? ho
     simp at this
     omega
    subst h2
    have:=hobn ho
    subst this
    refine⟨Nat.le_refl _,fun u' b hb=> ?_⟩
    rcases hb3 hb with⟨h2,_⟩|⟨⟨_,rfl⟩,_⟩
    ·omega
    ·exact Nat.le_refl _
  ·intro l' ob ho
   rcases Nat.lt_or_ge l' σ.length with h1|h1
   ·exact hR.frzle _ _ (hobj ho h1)
   ·have h2:l' =σ.length:=by
     have:=lt_of_getElem? ho
     simp at this
     omega
    subst h2
    have:=hobn ho
    subst this
    exact Nat.zero_le _
  ·intro b o hb
   show G2.imm b o=_
   rw[himm b o (Nat.lt_of_lt_of_le hb hR.below.size)];exact hR.bimm b o hb
  ·intro b hb
   show G2.mimm b=_
   rw[hmimm b (Nat.lt_of_lt_of_le hb hR.below.size)];exact hR.bmimm b hb
 ·simp only[Rep]at r2⊢
  rcases r2 with⟨b,cap,tot,h1,h2,h3,h4,h5,h6,h7⟩|r2
  ·exact .inl ⟨b,cap,tot,by simp only[G3,Nat.lt_irrefl,if_false,and_self,if_true];exact h1,h2,h3,h4,h5,h6,h7⟩
  ·exact .inr r2
def CtrOOk(P:Program) (f:FuncId) (c:CtrO):Prop:=FnOk P f∧PV.chks [] c.ap=true∧
 ∀x y,c.fn x=some y→∀vs,PV.puts (fun _=>0) c.ap (fromTup _ x)=some (vs,[])→∀ds,VRs [] [] vs ds→OwnOK P f ds (c.t.flat y) y.length c.t.sz
def sCtrO{α:Type}(f:FuncId) (S:SSto) (vs:List SV) (K:SV→SSto→Option α):List (FuncId×CtrO)→Option α
 |[]=>none
 |(g,c)::r=>match Nat.beq g f with
  |false=>sCtrO f S vs K r
  |true=>match (sFrzs S vs).bind fun p=>((PV.gets p.2 c.ap p.1).bind (toTup _)).bind fun x=>some (x,p.2) with
   |some q=>(c.fn q.1).bind fun y=>K (.own q.2.length 0) (q.2++[.arr c.t y false 0])
   |none=>sCtrO f S vs K r
def CtrXOk(P:Program) (f:FuncId) (c:CtrX):Prop:=FnOk P f∧PV.chks [] c.ap=true∧
 ∀x y,c.fn x=some y→∃m rp l v,c.rps[m]? =some rp∧(∀(α:Type) (F:Nat→List DV→Option α),xelim _ y F=F m l)∧rp.put (fun _=>0) l=some (v,[])∧(∀S σ,VR S σ v v.can)∧
  ∀vs,PV.puts (fun _=>0) c.ap (fromTup _ x)=some (vs,[])→∀ds,VRs [] [] vs ds→PureOK P f ds v.can
def sCtrX{α:Type}(f:FuncId) (S:SSto) (vs:List SV) (K:SV→SSto→Option α) (no:Option α):List (FuncId×CtrX)→Option α
 |[]=>no
 |(g,c)::r=>match Nat.beq g f with
  |false=>sCtrX f S vs K no r
  |true=>match (sFrzs S vs).bind fun p=>((PV.gets p.2 c.ap p.1).bind (toTup _)).bind fun x=>some (x,p.2) with
   |some q=>(c.fn q.1).bind fun y=>xelim _ y fun m l=>(c.rps[m]?).bind fun rp=>(rp.put (fun _=>0) l).bind fun w=>K w.1 q.2
   |none=>sCtrX f S vs K no r
def sCtr{α:Type}(f:FuncId) (S:SSto) (vs:List SV) (K:SV→SSto→Option α) (no:Option α):List (FuncId×Ctr)→Option α
 |[]=>no
 |(g,c)::r=>match Nat.beq g f with
  |false=>sCtr f S vs K no r
  |true=>match (sFrzs S vs).bind fun p=>((PV.gets p.2 c.ap p.1).bind (toTup _)).bind fun x=>some (x,p.2) with
   |some q=>(c.fn q.1).bind fun y=>(c.rp.put (fun _=>0) (fromTup _ y)).bind fun w=>K w.1 q.2
   |none=>sCtr f S vs K no r
section
variable {α:Type}{P:Program}{T:Tys}{N:Nat}{o:Oper}{S:SSto}{σ:Sto}{τ:SEnv}{τ' :Env}{K:SV→SSto→Option α}{r:α}
theorem HO_nil(G:Nat→Nat) (S:SSto) (σ:Sto) (S2:SSto) (σ2:Sto):HO G S σ [] S2 σ2:=fun l _ _ _ h=>by simp at h
theorem sCtr_ok(tok:TOk T P) {f:FuncId}{vs:List SV}{ds:List D}{cl:Call}{no:Option α}(ho:o.op= .call cl) (hc:callD T τ' cl=some (f,ds)) (hS:StR S σ) (hv:VRs S σ vs ds) (hno:no=some r→GOk P N o S σ τ' K r):
 ∀(C:List (FuncId×Ctr)),(∀g c,(g,c) ∈ C→CtrOk P g c)→sCtr f S vs K no C=some r→GOk P N o S σ τ' K r
 |[],_,h=>hno h
 |(g,c)::C,hC,h=>by
  simp only[sCtr]at h
  split at h
  ·exact sCtr_ok tok ho hc hS hv hno C (fun g c hm=>hC g c (List.mem_cons_of_mem _ hm)) h
  ·rename_i hg
   have hg:=nbeq hg
   subst hg
   split at h
   ·rename_i q hq
    obtain⟨p,hp,h1⟩:=bind_inv hq
    obtain⟨x,hx,h2⟩:=bind_inv h1
    obtain⟨l,hl,h3⟩:=bind_inv hx
    cases h2
    obtain⟨y,hy,h4⟩:=bind_inv h
    obtain⟨w,hw,h5⟩:=bind_inv h4
    obtain⟨hf,hca,hcr,hC⟩:=hC g c (List.mem_cons_self ..)
    obtain⟨v,hv1,hvp,hC⟩:=hC x y hy
    obtain⟨ds1,σ1,a1,a2,a3,a4⟩:=sFrzs_ok vs hp hS hv
    have hfrom:=toTup_from _ h3
    obtain⟨ds',k2,k3,kG⟩:=PV.gets_ok (objs:=[]) _ _ l ds1 hl hca a1
    obtain⟨vs',k1,k4⟩:=kG fun _=>0
    have k1:=k1 []
    rw[List.append_nil,←hfrom]at k1
    have hP:=hC vs' k1 ds' (k4 [] [] (HO_nil _ _ _ _ _))
    rw[hv1]at hw
    cases hw
    refine(aop_callG tok ho hc (a4.trans (Ghos.weak k2)) hf (hP.acall σ1)).mono ?_
    rintro d s ⟨rfl,rfl⟩
    exact⟨v,p.2,h5,hvp _ _,a2,a3⟩
   ·exact sCtr_ok tok ho hc hS hv hno C (fun g c hm=>hC g c (List.mem_cons_of_mem _ hm)) h
theorem sCtrO_ok(tok:TOk T P) {f:FuncId}{vs:List SV}{ds:List D}{cl:Call}(ho:o.op= .call cl) (hc:callD T τ' cl=some (f,ds)) (hS:StR S σ) (hv:VRs S σ vs ds):
 ∀(C:List (FuncId×CtrO)),(∀g c,(g,c) ∈ C→CtrOOk P g c)→sCtrO f S vs K C=some r→GOk P N o S σ τ' K r
 |[],_,h=>by simp[sCtrO]at h
 |(g,c)::C,hC,h=>by
  simp only[sCtrO]at h
  split at h
  ·exact sCtrO_ok tok ho hc hS hv C (fun g c hm=>hC g c (List.mem_cons_of_mem _ hm)) h
  ·rename_i hg
   have hg:=nbeq hg
   subst hg
   split at h
   ·rename_i q hq
    obtain⟨p,hp,h1⟩:=bind_inv hq
    obtain⟨x,hx,h2⟩:=bind_inv h1
    obtain⟨l,hl,h3⟩:=bind_inv hx
    cases h2
    obtain⟨y,hy,h4⟩:=bind_inv h
    obtain⟨hf,hca,hC⟩:=hC g c (List.mem_cons_self ..)
    have hC:=hC x y hy
    obtain⟨ds1,σ1,a1,a2,a3,a4⟩:=sFrzs_ok vs hp hS hv
    have hfrom:=toTup_from _ h3
    obtain⟨ds',k2,k3,kG⟩:=PV.gets_ok (objs:=[]) _ _ l ds1 hl hca a1
    obtain⟨vs',k1,k4⟩:=kG fun _=>0
    have k1:=k1 []
    rw[List.append_nil,←hfrom]at k1
    have hP:=hC vs' k1 ds' (k4 [] [] (HO_nil _ _ _ _ _))
    refine(aop_callG tok ho hc (a4.trans (Ghos.weak k2)) hf (hP σ1)).mono ?_
    rintro d s ⟨rfl,rfl⟩
    refine⟨_,_,h4,?_,a2.push ⟨0,_,rfl,fun _=>rfl⟩,a3.trans (Pres.push a2.len _ _)⟩
    simp only[VR]
    exact .mk (t:=c.t) (xs:=y) (fz:=false) (fr:=0) (u:=(c.t.flat y).length) (by simp) (by rw[a2.len];simp) (by rw[a2.len])
   ·exact sCtrO_ok tok ho hc hS hv C (fun g c hm=>hC g c (List.mem_cons_of_mem _ hm)) h
theorem sCtrX_ok(tok:TOk T P) {f:FuncId}{vs:List SV}{ds:List D}{cl:Call}{no:Option α}(ho:o.op= .call cl) (hc:callD T τ' cl=some (f,ds)) (hS:StR S σ) (hv:VRs S σ vs ds) (hno:no=some r→GOk P N o S σ τ' K r):
 ∀(C:List (FuncId×CtrX)),(∀g c,(g,c) ∈ C→CtrXOk P g c)→sCtrX f S vs K no C=some r→GOk P N o S σ τ' K r
 |[],_,h=>hno h
 |(g,c)::C,hC,h=>by
  simp only[sCtrX]at h
  split at h
  ·exact sCtrX_ok tok ho hc hS hv hno C (fun g c hm=>hC g c (List.mem_cons_of_mem _ hm)) h
  ·rename_i hg
   have hg:=nbeq hg
   subst hg
   split at h
   ·rename_i q hq
    obtain⟨p,hp,h1⟩:=bind_inv hq
    obtain⟨x,hx,h2⟩:=bind_inv h1
    obtain⟨l,hl,h3⟩:=bind_inv hx
    cases h2
    obtain⟨y,hy,h4⟩:=bind_inv h
    obtain⟨hf,hca,hC⟩:=hC g c (List.mem_cons_self ..)
    obtain⟨m,rp,lr,v,g1,g2,g3,hvp,hC⟩:=hC x y hy
    rw[g2]at h4
    obtain⟨rp',g4,h4⟩:=bind_inv h4
    rw[g1]at g4
    cases g4
    obtain⟨w,hw,h5⟩:=bind_inv h4
    rw[g3]at hw
    cases hw
    obtain⟨ds1,σ1,a1,a2,a3,a4⟩:=sFrzs_ok vs hp hS hv
    have hfrom:=toTup_from _ h3
    obtain⟨ds',k2,k3,kG⟩:=PV.gets_ok (objs:=[]) _ _ l ds1 hl hca a1
    obtain⟨vs',k1,k4⟩:=kG fun _=>0
    have k1:=k1 []
    rw[List.append_nil,←hfrom]at k1
    have hP:=hC vs' k1 ds' (k4 [] [] (HO_nil _ _ _ _ _))
    refine(aop_callG tok ho hc (a4.trans (Ghos.weak k2)) hf (hP.acall σ1)).mono ?_
    rintro d s ⟨rfl,rfl⟩
    exact⟨v,p.2,h5,hvp _ _,a2,a3⟩
   ·exact sCtrX_ok tok ho hc hS hv hno C (fun g c hm=>hC g c (List.mem_cons_of_mem _ hm)) h
end
end Go.Fw
namespace Go.Fw
open Go.RowKit
theorem fillD_len(place:Nat→Option (Nat×Nat)):∀{ps:List (Nat×D)}{cells out:List D},fillD place cells ps=some out→out.length=cells.length
 |[],cells,out,h=>by simp only[fillD,Option.some.injEq]at h;subst h;rfl
 |(i,d)::r,cells,out,h=>by
  simp only[fillD]at h
  split at h<;>try (cases h;done)
  split at h<;>try (cases h;done)
  rename_i hc
  rw[fillD_len place h]
  simp only[List.length_append,List.length_take,List.length_drop]
  omega
section
variable {P:Program}{B:Base P}{G:Gh}{σ:Sto}{w:World}
theorem buildOwn_ok(hR:Rel B G σ w) {t:TypeId}{z:List D}{sz:Nat}(h:tyBS P t=some (z,sz)) {len:Nat}(hlen:len*sz≤16777216) {parts:List (Nat×D)}{out:List D}
 (hf:fillD (fun i=>some (i*sz,sz)) (repZ z len) parts=some out) {pv:Array (Nat×Value)}(hl:parts.length=pv.size) (hp:∀(j i:Nat) (d:D),parts[j]? =some (i,d)→∃v,pv[j]? =some (i,v)∧Rep G d v):
 ∃u w' G',(Instr.buildSlice t len pv).run P w= .ok u w'∧G.Le G'∧Rel B G' (σ++[.cells out 0 0]) w'∧Rep G' (.sl σ.length 0 0 len sz false) u:=by
 unfold tyBS at h
 split at h<;>try (cases h;done)
 rename_i e hu
 split at h<;>try (cases h;done)
 rename_i z' i hz hi
 split at h<;>try (cases h;done)
 rename_i hc
 obtain⟨hzl,hpos⟩:=hc
 simp only[Option.some.injEq,Prod.mk.injEq]at h
 obtain⟨rfl,rfl⟩:=h
 obtain⟨i',v,hi',hv,hcd⟩:=tyZero_inv hz
 rw[hi]at hi';cases hi'
 have hzr:=cDs_rep G hcd
 have hcs:=zeros_ok hzr len
 rw[hzl]at hcs
 obtain⟨ov,ho,hro⟩:=fill_ok (G:=G) _ parts _ out _ pv.toList hf hcs (by simpa using hl) (fun j i d hj=>by obtain⟨v,h3,h4⟩:=hp j i d hj;exact⟨v,by simpa using h3,h4⟩)
 obtain⟨G',g1,g2,g3,g4⟩:=newObj_ok hR hro [] e ov (by simp)
 have hol:=hro.length
 have hfl:=fillD_len _ hf
 rw[repZ_length,hzl]at hfl
 refine⟨.slice (some ⟨w.heap.size,0,none⟩) len len,w.alloc (.cells ov e),G',?_,g1,g2,?_⟩
 ·unfold Instr.buildSlice
  have h24:¬(len*i.size>2 ^ 24):=by omega
  simp only[run_underlying hu,Sem.run_bind,Result.andThen_ok,sizeOf,typeInfo,run_program,hi,Sem.run_pure,h24,if_false]
  by_cases h0:len*i.size=0
  ·have hlen0:len=0:=by
    rcases Nat.mul_eq_zero.1 h0 with h|h<;>omega
   subst hlen0
   have e0:∀f:Nat→Value,Array.map f (Array.range 0)= #[]:=by intro f;simp
   simp only[Nat.zero_mul,e0]at ho
   simp only[Nat.zero_mul,if_true,Sem.run_bind,Sem.run_pure,Result.andThen_ok,e0,ho]
   simp only[newRow,Sem.run_bind,run_newObj,Result.andThen_ok,Sem.run_pure]
   rfl
  ·simp only[h0,if_false,Sem.run_bind,zeroValue,typeInfo,run_program,Result.andThen_ok,hi,Sem.run_pure,hv]
   rw[ho]
   simp only[newRow,Sem.run_bind,run_newObj,Result.andThen_ok,Sem.run_pure]
   rfl
 ·simp only[Rep]
  refine .inl ⟨w.heap.size,len,_,g3,rfl,Nat.le_refl _,?_,fun h=>(by simp at h),g4,?_⟩
  ·have:len≤len*i.size:=Nat.le_mul_of_pos_right _ hpos
   omega
  ·have:ov.size=out.length:=by rw[hol];simp
   omega
theorem freezePtr_ok{σ:Sto}(hR:Rel B G σ w) {l o fr:Nat}{cs:List D}{v:Value}(hl:σ[l]? =some (.cells cs fr 0)) (hb:cs.length≤1000) (hv:Rep G (.ptr l 0 o) v):
 ∃G',G.Le G'∧Rel B G' (σ.set l (.cells cs cs.length 0)) w∧Rep G' (.rptr cs o) v:=by
 simp only[Rep]at hv
 obtain⟨b,hbk,rfl⟩:=hv
 obtain⟨vs,et,o1,o2,tl,hd,o3,o4⟩:=hR.obj _ _ b hl hbk
 have hl4:=o4.length
 have hsz:vs.size=hd.length+tl.length:=by
  have:=congrArg List.length o3
  simpa using this
 have hr:Rep G (.sl l 0 0 cs.length 1 false) (.slice (some ⟨b,0,none⟩) cs.length cs.length):=by
  simp only[Rep]
  exact .inl ⟨b,cs.length,vs.size,hbk,rfl,Nat.le_refl _,by omega,fun h=>(by simp at h),o2,by omega⟩
 obtain⟨G',h1,h2,h3⟩:=freeze_ok hR hl (by omega) hr
 refine⟨G',h1,h2,?_⟩
 simp only[Nat.mul_one,List.drop_zero,List.take_length,Rep]at h3⊢
 obtain⟨a,cap,e,_,_,_,h4⟩:=h3
 cases e
 rcases h4 with⟨b',o',e,hc⟩|rfl
 ·cases e
  exact⟨b,0,by rw[Nat.zero_add],hc⟩
 ·exact⟨b,0,by rw[Nat.zero_add],by simp only[Cells]⟩
end
theorem AOp.buildOwn{P:Program}{T:Tys}(tok:TOk T P) {N:Nat}{o:Oper}{τ:Env}{σ:Sto}{t:TypeId}{len sz:Nat}{ps:Array (Nat×Operand)}{z out:List D}{pd:List (Nat×D)}(ho:o.op= .buildSlice t len ps) (hb:lk T.bs t=some (z,sz)) (hp:evp τ ps.toList=some pd)
 (hle:len*sz≤16777216) (hf:fillD (fun i=>some (i*sz,sz)) (repZ z len) pd=some out):AOp P N o τ σ fun d s=>d= .sl σ.length 0 0 len sz false∧s=σ++[.cells out 0 0]:=by
 intro B G w a hR hT next Q hn
 obtain⟨hl,hpp⟩:=evp_ok hT hp
 obtain⟨u,w',G',hrun,h1,h2,h3⟩:=buildOwn_ok hR (lk_of tok.bs hb) hle hf (pv:=ps.map fun(i,x)=>(i,a.eval x)) (by simpa using hl) (fun j i d hj=>by
  obtain⟨v,hv,hr⟩:=hpp j i d hj
  exact⟨v,by simpa using hv,hr⟩)
 have hex:(execOp a.eval o).run P w= .ok (.value u) w' :=by
  obtain⟨dst,op,ty,pos,after,guard⟩:=o
  simp only at ho
  subst ho
  unfold execOp
  simp only[Sem.run_bind,hrun,Result.andThen_ok,Sem.run_pure]
 unfold Oper.wp
 rw[hex]
 exact hn u w' G' _ _ h1 h2 h3 ⟨rfl,rfl⟩
def extCount(s:Bs) (c:Int):Int:=(⟨s.toArray⟩:ByteArray).foldl (fun(n:Int) x=>if x==c.toNat.toUInt8 then n+1 else n) ((0:Nat):Int)
def extIndex(s:Bs) (c:Int):Int:=match (List.range (⟨s.toArray⟩:ByteArray).size).find? fun i=>(⟨s.toArray⟩:ByteArray)[i]! ==c.toNat.toUInt8 with
 |some i=>i
 |none=> -1
def sExtF{α:Type}(k:ExK) (vs:List SV) (K:SV→Option α):Option α:=match vs with
 |[.str s,.int .u8 c]=>(match k with
  | .count=>K (.int .i64 (extCount s c))
  | .indexByte=>K (.int .i64 (extIndex s c)))
 |_=>none
theorem sExtF_ok{α:Type}{P:Program}{T:Tys}{N:Nat}{o:Oper}{S:SSto}{σ:Sto}{τ' :Env}{r:α}(tok:TOk T P) {cl:Call}{f:FuncId}{k:ExK}{vs:List SV}{ds:List D}{K:SV→Option α}(ho:o.op= .call cl) (hc:callD T τ' cl=some (f,ds))
 (hk:lk T.ext f=some k) (hv:VRs S σ vs ds) (h:sExtF k vs K=some r):∃v d,K v=some r∧VR S σ v d∧∀s,AOp P N o τ' s fun d' s' =>d' =d∧s' =s:=by
 unfold sExtF at h
 split at h<;>try (cases h;done)
 rename_i s c
 simp only[VRs,VR]at hv
 obtain⟨_,_,rfl,rfl,_,_,rfl,rfl,rfl⟩:=hv
 cases k
 ·exact⟨_,.int .i64 (extCount s c),h,by simp only[VR],fun _=>aop_ext tok ho hc hk rfl⟩
 ·refine⟨_,.int .i64 (extIndex s c),h,by simp only[VR],fun _=>aop_ext tok ho hc hk ?_⟩
  unfold extD extIndex
  simp only
  split
  ·rename_i e;rw[e]
  ·rename_i e;rw[e]
section
variable {α:Type}{P:Program}{T:Tys}{N:Nat}{o:Oper}{S:SSto}{σ:Sto}{τ:SEnv}{τ' :Env}{K:SV→SSto→Option α}{r:α}
def sBuildOwn(T:Tys) (τ:SEnv) (S:SSto) (t:TypeId) (len:Nat) (ps:List (Nat×Operand)) (tc:TC) (K:SV→SSto→Option α):Option α:=
 (lk T.bs t).bind fun b=>(sevp τ ps).bind fun vs=>cond (Nat.ble (len*b.2) 16777216&&Nat.beq b.2 tc.sz) ((sfill S (fun i=>some (i*b.2,b.2)) (repS (ofDs b.1) len) vs).bind fun cs=>
   tc.takes len cs fun xs rest=>match rest with
    |[]=>K (.own S.length 0) (S++[.arr tc xs false 0])
    |_=>none) none
theorem sBuildOwn_ok(tok:TOk T P) (hS:StR S σ) (hE:ER S σ τ τ') {t:TypeId}{len:Nat}{ps:Array (Nat×Operand)}{tc:TC}(ho:o.op= .buildSlice t len ps) (h:sBuildOwn T τ S t len ps.toList tc K=some r):GOk P N o S σ τ' K r:=by
 unfold sBuildOwn at h
 obtain⟨b,hb,h1⟩:=bind_inv h
 obtain⟨vs,hvs,h2⟩:=bind_inv h1
 clear h h1
 rcases cond_inv h2 with⟨hc,h3⟩|⟨_,h3⟩<;>try (cases h3;done)
 clear h2
 simp only[Bool.and_eq_true]at hc
 have hle:=Nat.le_of_ble_eq_true hc.1
 have hz:=nbeq hc.2
 obtain⟨z,sz⟩:=b
 simp only at hz hle
 obtain⟨cs,hcs,h4⟩:=bind_inv h3
 clear h3
 obtain⟨pd,k1,k2⟩:=sevp_ok hE hvs
 obtain⟨ds,k3,k4⟩:=sfill_ok hcs (repS_ok (ofDs_ok S σ z) len) k2
 obtain⟨xs,cs',d1,d2,h5,rfl,hw,hr,hl⟩:=TC.takes_ok tc _ _ _ _ _ h4 k4
 clear h4
 split at h5<;>try (cases h5;done)
 simp only[VRs]at hr
 subst hr
 rw[List.append_nil]at k3
 have hop:=(AOp.buildOwn (N:=N) (σ:=σ) tok ho hb k1 hle k3).weakPush hw
 refine hop.mono ?_
 rintro d s ⟨rfl,rfl⟩
 have hp:=Pres.push hS.len (.arr tc xs false 0) (.cells (tc.flat xs) 0 0)
 refine⟨_,_,h5,?_,hS.push ⟨0,0,rfl,fun _=>rfl⟩,hp⟩
 subst hz hl
 simp only[VR]
 exact .mk (xs:=xs) (fz:=false) (fr:=0) (u:=0) (by simp) (by simp[hS.len]) (by simp[hS.len])
def sFzP(S:SSto) (v:SV):SV×SSto:=match v with
 | .raw d=>match d with
   | .ptr l u o=>match S[l]? with
     |some (.cells cs _)=>match Nat.beq u 0&&Nat.ble cs.length 1000 with
      |true=>(.rc cs o,S.set l (.cells cs true))
      |false=>(v,S)
     |_=>(v,S)
   |_=>(v,S)
 |_=>(v,S)
def sFzPs(S:SSto):List SV→List SV×SSto
 |[]=>([],S)
 |v::vs=>((sFzP S v).1::(sFzPs (sFzP S v).2 vs).1,(sFzPs (sFzP S v).2 vs).2)
theorem sFzP_ok{v:SV}{d:D}(hS:StR S σ) (hv:VR S σ v d):∃d' σ',VR (sFzP S v).2 σ' (sFzP S v).1 d'∧StR (sFzP S v).2 σ'∧Pres S σ (sFzP S v).2 σ'∧Gho P σ σ' d d' :=by
 unfold sFzP
 split
 ·split
  ·split
   ·rename_i l u o _ cs fz hl
    split
    ·rename_i hb
     simp only[Bool.and_eq_true]at hb
     have hu:=nbeq hb.1
     have hb:=Nat.le_of_ble_eq_true hb.2
     subst hu
     simp only[VR]at hv
     subst hv
     obtain⟨a,ha,ds,fr,rfl,hfr,hds⟩:=hS.obj _ _ hl
     have hlen:=hds.length
     have hpr:Pres S σ (S.set l (.cells cs true)) (σ.set l (.cells ds ds.length 0)):=Pres.setCells hS hl
     refine⟨.rptr ds o,σ.set l (.cells ds ds.length 0),by simp only[VR];exact⟨ds,rfl,VRs.pres hpr _ _ hds⟩,hS.set hl hpr ⟨ds,_,rfl,fun h=>(by simp at h),VRs.pres hpr _ _ hds⟩,hpr,?_⟩
     intro B G w x hR hx
     exact freezePtr_ok hR ha (by omega) hx
    ·exact⟨d,σ,hv,hS,.refl _ _,.refl _ _⟩
   ·exact⟨d,σ,hv,hS,.refl _ _,.refl _ _⟩
  ·exact⟨d,σ,hv,hS,.refl _ _,.refl _ _⟩
 ·exact⟨d,σ,hv,hS,.refl _ _,.refl _ _⟩
theorem sFzPs_ok:∀{vs:List SV}{S:SSto}{σ:Sto}{ds:List D},StR S σ→VRs S σ vs ds→∃ds' σ',VRs (sFzPs S vs).2 σ' (sFzPs S vs).1 ds'∧StR (sFzPs S vs).2 σ'∧Pres S σ (sFzPs S vs).2 σ'∧Ghos P σ σ' ds ds'
 |[],S,σ,ds,hS,hv=>⟨ds,σ,hv,hS,.refl _ _,fun _ G _ _ hR hr=>⟨G,.refl G,hR,hr⟩⟩
 |v::vs,S,σ,ds,hS,hv=>by
  simp only[VRs]at hv
  obtain⟨e,es,rfl,h1,h2⟩:=hv
  obtain⟨d',σ1,a1,a2,a3,a4⟩:=sFzP_ok hS h1
  obtain⟨ds',σ2,b1,b2,b3,b4⟩:=sFzPs_ok a2 (VRs.pres a3 _ _ h2)
  refine⟨d' ::ds',σ2,by simp only[sFzPs,VRs];exact⟨d',ds',rfl,VR.pres b3 _ _ a1,b1⟩,b2,a3.trans b3,?_⟩
  intro B G w xs hR hr
  simp only[Reps]at hr
  obtain⟨x,xr,rfl,hx,hxr⟩:=hr
  obtain⟨G1,l1,R1,r1⟩:=a4 B G w x hR hx
  obtain⟨G2,l2,R2,r2⟩:=b4 B G1 w xr R1 (Reps.mono l1 _ _ hxr)
  exact⟨G2,l1.trans l2,R2,by simp only[Reps];exact⟨x,xr,rfl,Rep.mono l2 _ _ r1,r2⟩⟩
def sOwn(h:Option OH) (v:SV) (S:SSto) (K:SV→SSto→Option α):Option α:=match h with
 |none=>K v S
 |some (.val tc)=>match v with
  | .nils=>K (.own S.length 0) (S++[.arr tc [] false 0])
  |v=>K v S
 |some (.cells l)=>match v with
  | .raw d=>match d with
    | .ptr i u o=>ownCells i l S fun S' =>K (.raw (.ptr i u o)) S'
    |_=>none
  |_=>none
 |some (.build _)=>K v S
 |some .res=>K v S
 |some .frzv=>(sFrz S v).bind fun w=>K w.1 w.2
 |some (.agg l)=>match v with
  | .agg cs=>ownAgg l cs S fun cs' S' =>K (.agg cs') S'
  |_=>none
 |some .frz=>match v with
  | .func fn a b=>K (.func fn a (sFzPs S b).1) (sFzPs S b).2
  |_=>none
theorem sOwn_ok{h:Option OH}(hg:GOk P N o S σ τ' (fun v S=>sOwn h v S K) r):GOk P N o S σ τ' K r:=by
 refine AOp.ghost hg ?_
 rintro d s ⟨v,S',h1,h2,h3,h4⟩
 have same:K v S' =some r→∃d' s',Post S σ K r d' s'∧Gho P s s' d d' :=fun h1=>⟨d,s,⟨v,S',h1,h2,h3,h4⟩,.refl _ _⟩
 unfold sOwn at h1
 split at h1<;>simp only at h1
 ·exact same h1
 ·split at h1
  ·rename_i tc _
   obtain⟨n1,n2,n3⟩:=own_new h3 tc
   simp only[VR]at h2
   subst h2
   exact⟨_,_,⟨_,_,h1,n3,n1,h4.trans n2⟩,fun B G w x hR hx=>⟨G,.refl G,hR.newObj,nil_own hx⟩⟩
  ·exact same h1
 ·split at h1<;>try (cases h1;done)
  split at h1<;>try (cases h1;done)
  obtain⟨S2,σ2,k1,k2,k3,k4⟩:=ownCells_ok h1 h3
  exact⟨d,σ2,⟨_,S2,k1,VR.pres k3 _ _ h2,k2,h4.trans k3⟩,(k4 d).2⟩
 ·exact same h1
 ·exact same h1
 ·obtain⟨w,hw,h1⟩:=bind_inv h1
  obtain⟨d1,σ1,k1,k2,k3,k4⟩:=sFrz_ok (P:=P) _ (v' :=w.1) (S' :=w.2) hw h3 h2
  exact⟨d1,σ1,⟨w.1,w.2,h1,k1,k2,h4.trans k3⟩,k4⟩
 ·split at h1<;>try (cases h1;done)
  simp only[VR]at h2
  obtain⟨ds,rfl,hv⟩:=h2
  obtain⟨cs',ds',S2,σ2,k1,k2,k3,k4,k5⟩:=ownAgg_ok (P:=P) h1 h3 hv
  refine⟨.agg ds',σ2,⟨_,S2,k1,by simp only[VR];exact⟨ds',rfl,k4⟩,k2,h4.trans k3⟩,?_⟩
  intro B G w x hR hx
  simp only[Rep]at hx
  obtain⟨a,rfl,hx⟩:=hx
  obtain⟨G',l1,R1,r1⟩:=k5 B G w _ hR hx
  exact⟨G',l1,R1,by simp only[Rep];exact⟨a,rfl,r1⟩⟩
 ·split at h1<;>try (cases h1;done)
  rename_i fn a b
  simp only[VR]at h2
  obtain⟨da,db,rfl,ha,hb⟩:=h2
  obtain⟨db',σ2,k1,k2,k3,k4⟩:=sFzPs_ok h3 hb
  refine⟨.func fn da db',σ2,⟨_,_,h1,by simp only[VR];exact⟨da,db',rfl,VRs.pres k3 _ _ ha,k1⟩,k2,h4.trans k3⟩,?_⟩
  intro B G w x hR hx
  simp only[Rep]at hx
  obtain⟨f,c,rfl,hf,hc⟩:=hx
  obtain⟨G',l1,R1,r1⟩:=k4 B G w _ hR hc
  exact⟨G',l1,R1,by simp only[Rep];exact⟨f,c,rfl,Reps.mono l1 _ _ hf,r1⟩⟩
def memS(s:Bs) (ks:List Bs):Bool:=ks.contains s
def insS(s:Bs) (ks:List Bs):List Bs:=bif ks.contains s then ks else ks++[s]
def runeAt(s:Bs) (i:Int):Int×Int:=((Utf8.decode ⟨s.toArray⟩ i.toNat).1,((Utf8.decode ⟨s.toArray⟩ i.toNat).2:Nat))
theorem findD_strs(x:Bs):∀(ks:List Bs) (i:Nat),(ks.contains x=true∧∃j:Nat,j<ks.length∧findD .s (.str x) (ks.map .str) i=some (some (i+j)))∨(ks.contains x=false∧findD .s (.str x) (ks.map .str) i=some none)
 |[],i=> .inr ⟨rfl,rfl⟩
 |k::ks,i=>by
  simp only[List.map_cons,findD,cellEq,List.contains_cons,List.length_cons]
  cases hb:x==k with
  |true=>exact .inl ⟨rfl,0,by omega,rfl⟩
  |false=>
   rcases findD_strs x ks (i+1) with⟨h1,j,h2,h3⟩|⟨h1,h2⟩
   ·exact .inl ⟨by rw[h1];rfl,j+1,by omega,by simp only[h3];congr 2;omega⟩
   ·exact .inr ⟨by rw[h1];rfl,by simp only[h2]⟩
theorem set_trues{ks:List Bs}(j:Nat):(ks.map fun _=>D.bool true).set j (.bool true)=ks.map fun _=>D.bool true:=by
 refine List.ext_getElem? fun i=> ?_
 rw[List.getElem?_set]
 by_cases e:j=i
 ·subst e
  rw[if_pos rfl]
  split
  ·rename_i h
   rw[List.getElem?_map]
   rw[List.length_map]at h
   rw[List.getElem?_eq_getElem h];rfl
  ·rename_i h
   rw[List.getElem?_eq_none (by omega)]
 ·rw[if_neg e]
def isMapP:SV→Option Nat
 | .raw (.map l)=>some l
 |_=>none
theorem isMapP_ok{v:SV}{l:Nat}(h:isMapP v=some l):v= .raw (.map l):=by
 unfold isMapP at h
 split at h<;>cases h
 rfl
def sMkMap(T:Tys) (S:SSto) (t:TypeId) (K:SV→SSto→Option α):Option α:=match lk T.map t with
 |some (.s,.bool false)=>K (.raw (.map S.length)) (S++[.smap []])
 |_=>none
theorem sMkMap_ok(tok:TOk T P) (hS:StR S σ) {t:TypeId}(ho:o.op= .makeMap t none) (h:sMkMap T S t K=some r):GOk P N o S σ τ' K r:=by
 unfold sMkMap at h
 split at h<;>try (cases h;done)
 refine(aop_aop tok (d:= .map σ.length) (σ' :=σ++[.map [] []]) (by rw[ho];rfl)).mono ?_
 rintro d s ⟨rfl,rfl⟩
 exact⟨_,_,h,by simp only[VR];rw[hS.len],hS.push rfl,Pres.push hS.len _ _⟩
def sLookM(T:Tys) (S:SSto) (t:TypeId) (l:Nat) (vk:SV) (K:SV→Option α):Option α:=match S[l]? with
 |some (.smap ks)=>match lk T.map t with
  |some (.s,.bool false)=>match vk with
   | .str x=>K (.bool (memS x ks))
   |_=>none
  |_=>none
 |_=>none
theorem sLookM_ok(tok:TOk T P) (hS:StR S σ) (hE:ER S σ τ τ') {t:TypeId}{m k:Operand}{l:Nat}{vk:SV}(ho:o.op= .lookup t m k false) (hm:sev τ m=some (.raw (.map l))) (hk:sev τ k=some vk) (h:sLookM T S t l vk (fun v=>K v S)=some r):GOk P N o S σ τ' K r:=by
 unfold sLookM at h
 split at h<;>try (cases h;done)
 rename_i ks hl
 split at h<;>try (cases h;done)
 rename_i ht
 split at h<;>try (cases h;done)
 rename_i x
 obtain⟨dm,hdm,hvm⟩:=sev_ok hE hm
 obtain⟨dk,hdk,hvk⟩:=sev_ok hE hk
 simp only[VR]at hvm hvk
 subst hvm hvk
 obtain⟨a,ha,hob⟩:=hS.obj _ _ hl
 have hob:a=_:=hob
 subst hob
 refine(aop_aop tok (d:= .bool (memS x ks)) (σ' :=σ) ?_).mono ?_
 ·rw[ho]
  simp only[aop,oLookup,ht,hdm,hdk,lookD,ha,lookKV,memS]
  rcases findD_strs x ks 0 with⟨h1,j,h2,h3⟩|⟨h1,h2⟩
  ·simp only[h3,h1,Nat.zero_add,List.getElem?_map,List.getElem?_eq_getElem h2];rfl
  ·simp only[h2,h1];rfl
 ·rintro d s ⟨rfl,rfl⟩
  exact⟨_,S,h,by simp only[VR],hS,.refl _ _⟩
def sUpdM(T:Tys) (S:SSto) (t:TypeId) (vm vk vx:SV) (K:SV→SSto→Option α):Option α:=(isMapP vm).bind fun l=>match S[l]? with
 |some (.smap ks)=>match lk T.map t with
  |some (.s,_)=>match vk with
   | .str x=>match vx with
     | .bool true=>K (.raw .junk) (S.set l (.smap (insS x ks)))
     |_=>none
   |_=>none
  |_=>none
 |_=>none
theorem sUpdM_ok(tok:TOk T P) (hS:StR S σ) (hE:ER S σ τ τ') {t:TypeId}{m k x:Operand}{vm vk vx:SV}(ho:o.op= .mapUpdate t m k x) (hm:sev τ m=some vm) (hk:sev τ k=some vk) (hx:sev τ x=some vx) (h:sUpdM T S t vm vk vx K=some r):GOk P N o S σ τ' K r:=by
 unfold sUpdM at h
 obtain⟨l,hlm,h1⟩:=bind_inv h
 clear h
 have h:=h1
 clear h1
 have:=isMapP_ok hlm
 subst this
 split at h<;>try (cases h;done)
 rename_i ks hl
 split at h<;>try (cases h;done)
 rename_i z ht
 split at h<;>try (cases h;done)
 rename_i s
 split at h<;>try (cases h;done)
 obtain⟨dm,hdm,hvm⟩:=sev_ok hE hm
 obtain⟨dk,hdk,hvk⟩:=sev_ok hE hk
 obtain⟨dx,hdx,hvx⟩:=sev_ok hE hx
 simp only[VR]at hvm hvk hvx
 subst hvm hvk hvx
 obtain⟨a,ha,hob⟩:=hS.obj _ _ hl
 have hob:a=_:=hob
 subst hob
 have hpr:Pres S σ (S.set l (.smap (insS s ks))) (σ.set l (.map ((insS s ks).map .str) ((insS s ks).map fun _=> .bool true))):=Pres.setOther hS hl (fun _ _ _ _ e=>by cases e)
 refine(aop_aop tok (d:= .junk) (σ' :=σ.set l (.map ((insS s ks).map .str) ((insS s ks).map fun _=> .bool true))) ?_).mono ?_
 ·rw[ho]
  simp only[aop,oUpd,ht,hdm,hdk,hdx,updD,ha,insS]
  rcases findD_strs s ks 0 with⟨h1,j,h2,h3⟩|⟨h1,h2⟩
  ·simp only[h3,h1,set_trues];rfl
  ·simp only[h2,h1,D.isCell,if_true,cond_false,List.map_append,List.map_cons,List.map_nil];rfl
 ·rintro d s' ⟨rfl,rfl⟩
  exact⟨_,_,h,by simp only[VR],hS.set hl hpr rfl,hpr⟩
def sRange(T:Tys) (S:SSto) (t:TypeId) (v:SV) (K:SV→SSto→Option α):Option α:=match v with
 | .str s=>match lk T.sli t with
   |some .string=>K (.raw (.ptr S.length 0 0)) (S++[.it s 0])
   |_=>none
 |_=>none
theorem sRange_ok(tok:TOk T P) (hS:StR S σ) (hE:ER S σ τ τ') {t:TypeId}{x:Operand}{v:SV}(ho:o.op= .range t x) (hx:sev τ x=some v) (h:sRange T S t v K=some r):GOk P N o S σ τ' K r:=by
 unfold sRange at h
 split at h<;>try (cases h;done)
 rename_i s
 split at h<;>try (cases h;done)
 rename_i ht
 obtain⟨dx,hdx,hvx⟩:=sev_ok hE hx
 simp only[VR]at hvx
 subst hvx
 refine(aop_aop tok (d:= .ptr σ.length 0 0) (σ' :=σ++[.siter s 0]) (by rw[ho];simp only[aop,oRange,hdx,ht])).mono ?_
 rintro d s' ⟨rfl,rfl⟩
 exact⟨_,_,h,by simp only[VR];rw[hS.len],hS.push rfl,Pres.push hS.len _ _⟩
def isItP:SV→Option Nat
 | .raw (.ptr l u o)=>match Nat.beq u 0&&Nat.beq o 0 with
   |true=>some l
   |false=>none
 |_=>none
theorem isItP_ok{v:SV}{l:Nat}(h:isItP v=some l):v= .raw (.ptr l 0 0):=by
 unfold isItP at h
 split at h<;>try (cases h;done)
 split at h<;>cases h
 rename_i hb
 simp only[Bool.and_eq_true]at hb
 have h1:=nbeq hb.1
 have h2:=nbeq hb.2
 subst h1 h2;rfl
def sNext(S:SSto) (v:SV) (K:SV→SSto→Option α):Option α:=(isItP v).bind fun l=>match S[l]? with
 |some (.it s p)=>cond (decide (p<(s.length:Int))) (cond (decide (0≤p)) (K (.tup [.bool true,.int .i64 p,.int .i32 (runeAt s p).1]) (S.set l (.it s (p+(runeAt s p).2)))) none) (K (.tup [.bool false]) S)
 |_=>none
theorem sNext_ok(tok:TOk T P) (hS:StR S σ) (hE:ER S σ τ τ') {x:Operand}{v:SV}(ho:o.op= .next x true) (hx:sev τ x=some v) (h:sNext S v K=some r):GOk P N o S σ τ' K r:=by
 unfold sNext at h
 obtain⟨l,hlm,h1⟩:=bind_inv h
 clear h
 have h:=h1
 clear h1
 have:=isItP_ok hlm
 subst this
 split at h<;>try (cases h;done)
 rename_i s p hl
 obtain⟨dx,hdx,hvx⟩:=sev_ok hE hx
 simp only[VR]at hvx
 subst hvx
 obtain⟨a,ha,hob⟩:=hS.obj _ _ hl
 have hob:a=_:=hob
 subst hob
 rcases cond_inv h with⟨hp,h⟩|⟨hp,h⟩
 ·rcases cond_inv h with⟨h0,h⟩|⟨_,h⟩<;>try (cases h;done)
  simp only[decide_eq_true_eq]at hp h0
  obtain⟨q,rfl⟩:=Int.eq_ofNat_of_zero_le h0
  have hq:q<s.length:=by omega
  have hpr:Pres S σ (S.set l (.it s ((q:Int)+(runeAt s q).2))) (σ.set l (.siter s (q+(Utf8.decode ⟨s.toArray⟩ q).2))):=Pres.setOther hS hl (fun _ _ _ _ e=>by cases e)
  refine(aop_aop tok (d:= .tuple [.bool true,.int .i64 q,.int .i32 (Utf8.decode ⟨s.toArray⟩ q).1]) (σ' :=σ.set l (.siter s (q+(Utf8.decode ⟨s.toArray⟩ q).2))) ?_).mono ?_
  ·rw[ho]
   simp only[aop,hdx,nextStrD,ha,Int.toNat_natCast,if_pos hq]
  ·rintro d s' ⟨rfl,rfl⟩
   refine⟨_,_,h,?_,hS.set hl hpr ?_,hpr⟩
   ·simp only[VR,VRs,runeAt,Int.toNat_natCast]
    exact⟨_,rfl,_,_,rfl,rfl,_,_,rfl,rfl,_,_,rfl,rfl,rfl⟩
   ·show AObj.siter _ _=AObj.siter _ _
    congr 1
 ·simp only[decide_eq_false_iff_not]at hp
  have hq:¬(p.toNat<s.length):=by omega
  refine(aop_aop tok (d:= .tuple [.bool false]) (σ' :=σ) ?_).mono ?_
  ·rw[ho]
   simp only[aop,hdx,nextStrD,ha,if_neg hq]
  ·rintro d s' ⟨rfl,rfl⟩
   exact⟨_,S,h,by simp only[VR,VRs];exact⟨_,rfl,_,_,rfl,rfl,rfl⟩,hS,.refl _ _⟩
abbrev CallS(α:Type):=FuncId→List SV→SSto→(SV→SSto→Option α)→Option α
def CallSOk(P:Program) (call:CallS α):Prop:=∀(f:FuncId) (vs:List SV) (S:SSto) (K:SV→SSto→Option α) (r:α),call f vs S K=some r→
 FnOk P f∧∀(σ:Sto) (ds:List D),StR S σ→VRs S σ vs ds→ACall P f ds σ (Post S σ K r)
def sCtrs(cx:Cx) (own:Option OH) (f:FuncId) (S:SSto) (vs:List SV) (K:SV→SSto→Option α) (no:Option α):Option α:=match own with
 |some .res=>sCtrO f S vs K cx.CO
 |_=>sCtr f S vs K (sCtrX f S vs K no cx.CX) cx.C
def sopX(cx:Cx) (own:Option OH) (call:CallS α) (τ:SEnv) (S:SSto) (op:Op) (K:SV→SSto→Option α):Option α:=match op with
 | .alloc e=>sAlloc cx.T S e K
 | .box _ x=>withV τ x fun v=>sBox S v K
 | .store t p x=>withV τ p fun vp=>withV τ x fun vx=>sStore cx.T S t vp vx K
 | .makeSlice t l c=>withI τ l fun n=>withI τ c fun m=>sMake cx.T cx.H S t n m K
 | .buildSlice t len ps=>match own with
   |some (.build tc)=>sBuildOwn cx.T τ S t len ps.toList tc K
   |_=>sR cx.T cx.H τ S (.buildSlice t len ps) fun v=>K v S
 | .call c=>match c.callee with
   | .builtin b=>match b with
     | .append=>match c.args.toList,c.argTypes.toList with
       |[x,y],[t,tx]=>withV τ x fun v=>withV τ y fun w=>sApp cx.T cx.H S t tx v w K
       |_,_=>none
     |b=>sBi cx.T S τ b c.args.toList c.argTypes.toList fun v=>K v S
   |_=>(sCallee cx.T τ c).bind fun p=>match lk cx.T.ext p.1 with
    |some k=>sExtF k p.2 fun v=>K v S
    |none=>sCtrs cx own p.1 S p.2 K (call p.1 p.2 S K)
 | .makeMap t none=>sMkMap cx.T S t K
 | .lookup t m k ok=>withV τ m fun vm=>match isMapP vm,ok with
   |some l,false=>withV τ k fun vk=>sLookM cx.T S t l vk fun v=>K v S
   |some _,true=>none
   |none,ok=>sR cx.T cx.H τ S (.lookup t m k ok) fun v=>K v S
 | .mapUpdate t m k x=>withV τ m fun vm=>withV τ k fun vk=>withV τ x fun vx=>sUpdM cx.T S t vm vk vx K
 | .range t x=>withV τ x fun v=>sRange cx.T S t v K
 | .next x true=>withV τ x fun v=>sNext S v K
 |op=>sR cx.T cx.H τ S op fun v=>K v S
end
end Go.Fw
namespace Go.Fw
open Go.RowKit
structure CxOk (cx:Cx):Prop where
 tok:TOk cx.T cx.P
 mix:cx.P.follows .mixedOrders=true
 ctr:∀f c,(f,c) ∈ cx.C→CtrOk cx.P f c
 ctrO:∀f c,(f,c) ∈ cx.CO→CtrOOk cx.P f c
 ctrX:∀f c,(f,c) ∈ cx.CX→CtrXOk cx.P f c
section
variable {α:Type}{cx:Cx}{N:Nat}{o:Oper}{S:SSto}{σ:Sto}{τ:SEnv}{τ' :Env}{K:SV→SSto→Option α}{r:α}{call:CallS α}
theorem sR_g(hcx:CxOk cx) (hS:StR S σ) (hE:ER S σ τ τ') {op:Op}(ho:o.op=op) (h:sR cx.T cx.H τ S op (fun v=>K v S)=some r):GOk cx.P N o S σ τ' K r:=by
 subst ho
 exact(sR_ok hS hE h).g hcx.tok hS
theorem sopX_ok(hcx:CxOk cx) (hcall:CallSOk cx.P call) (hS:StR S σ) (hE:ER S σ τ τ') {own:Option OH}{op:Op}(ho:o.op=op) (h:sopX cx own call τ S op K=some r):GOk cx.P N o S σ τ' K r:=by
 cases op<;>simp only[sopX]at h
 case alloc e=>exact(sAlloc_ok hcx.tok hS ho h).g
 case box t x=>
  obtain⟨v,hv,h⟩:=withV_inv h
  exact(sBox_ok hcx.tok hS hE ho hv h).g
 case store t p x=>
  obtain⟨vp,hvp,h⟩:=withV_inv h
  obtain⟨vx,hvx,h⟩:=withV_inv h
  exact(sStore_ok hcx.tok hS hE ho hvp hvx h).g
 case makeSlice t l c=>
  obtain⟨k1,n,hn,h⟩:=withI_inv h
  obtain⟨k2,m,hm,h⟩:=withI_inv h
  exact(sMake_ok hcx.tok hS hE ho hn hm h).g
 case buildSlice t len ps=>
  split at h
  ·exact sBuildOwn_ok hcx.tok hS hE ho h
  ·exact sR_g hcx hS hE ho h
 case call c=>
  have other:∀{f:FuncId}{vs:List SV},sCallee cx.T τ c=some (f,vs)→(match lk cx.T.ext f with
   |some k=>sExtF k vs fun v=>K v S
   |none=>sCtrs cx own f S vs K (call f vs S K))=some r→GOk cx.P N o S σ τ' K r:=by
   intro f vs hc h
   obtain⟨ds,h1,h2⟩:=sCallee_ok hE hc
   split at h
   ·rename_i k hk
    obtain⟨v,d,k1,k2,k3⟩:=sExtF_ok (N:=N) hcx.tok ho h1 hk h2 h
    refine(k3 σ).mono ?_
    rintro d' s ⟨rfl,rfl⟩
    exact⟨v,S,k1,k2,hS,.refl _ _⟩
   unfold sCtrs at h
   split at h
   ·exact sCtrO_ok hcx.tok ho h1 hS h2 cx.CO hcx.ctrO h
   refine sCtr_ok hcx.tok ho h1 hS h2 (fun h=>sCtrX_ok hcx.tok ho h1 hS h2 (fun h=> ?_) cx.CX hcx.ctrX h) cx.C hcx.ctr h
   obtain⟨hf,hcl⟩:=hcall f vs S K r h
   exact aop_callG hcx.tok ho h1 (fun _ G _ _ hR hv=>⟨G,.refl G,hR,hv⟩) hf (hcl σ ds hS h2)
  split at h
  ·rename_i b hb
   have bi:sBi cx.T S τ b c.args.toList c.argTypes.toList (fun v=>K v S)=some r→GOk cx.P N o S σ τ' K r:=by
    intro h
    refine sR_g hcx hS hE ho ?_
    obtain⟨ce,ar,at'⟩:=c
    simp only at hb
    subst hb
    exact h
   split at h
   ·split at h<;>try (cases h;done)
    rename_i x y t tx hxs hts
    obtain⟨v,hv,h⟩:=withV_inv h
    obtain⟨w,hw,h⟩:=withV_inv h
    refine(sApp_ok hcx.tok hS hE (a:=x) (b:=y) ?_ hv hw h).g
    obtain⟨ce,ar,at'⟩:=c
    simp only at hb hxs hts
    subst hb
    have e1:ar= #[x,y]:=Array.ext' (by simpa using hxs)
    have e2:at' = #[t,tx]:=Array.ext' (by simpa using hts)
    rw[ho,e1,e2]
   ·exact bi h
  ·obtain⟨p,hp,h⟩:=bind_inv h
   exact other hp h
 case makeMap t l=>
  cases l with
  |none=>exact sMkMap_ok hcx.tok hS ho h
  |some l=>exact sR_g hcx hS hE ho h
 case lookup t m k ok=>
  obtain⟨vm,hvm,h⟩:=withV_inv h
  split at h
  ·rename_i l hl _
   have:=isMapP_ok hl
   subst this
   obtain⟨vk,hvk,h⟩:=withV_inv h
   exact sLookM_ok hcx.tok hS hE ho hvm hvk h
  ·cases h
  ·exact sR_g hcx hS hE ho h
 case mapUpdate t m k x=>
  obtain⟨vm,hvm,h⟩:=withV_inv h
  obtain⟨vk,hvk,h⟩:=withV_inv h
  obtain⟨vx,hvx,h⟩:=withV_inv h
  exact sUpdM_ok hcx.tok hS hE ho hvm hvk hvx h
 case range t x=>
  obtain⟨v,hv,h⟩:=withV_inv h
  exact sRange_ok hcx.tok hS hE ho hv h
 case next x b=>
  cases b with
  |true=>
   obtain⟨v,hv,h⟩:=withV_inv h
   exact sNext_ok hcx.tok hS hE ho hv h
  |false=>exact sR_g hcx hS hE ho h
 all_goals exact sR_g hcx hS hE ho h
end
def sput{α:Type}(N:Nat) (dst:Option Tmp) (v:SV) (τ:SEnv) (K:SEnv→Option α):Option α:=match dst with
 |none=>K τ
 |some t=>match Nat.blt t N with
  |true=>K ((t,v)::τ)
  |false=>none
def hintOf(cx:Cx) (fid:Nat) (dst:Option Tmp):Option OH:=match dst with
 |some t=>lk cx.ow (Nat.add (Nat.mul fid 65536) t)
 |none=>none
def preT:Operand→List Nat
 | .tmp t=>[t]
 |_=>[]
def preOp:Op→List Nat
 | .slice _ x _ _ _=>preT x
 | .buildSlice _ _ ps=>ps.toList.flatMap fun p=>preT p.2
 |_=>[]
def sPre{α:Type}:List Nat→SEnv→SSto→(SEnv→SSto→Option α)→Option α
 |[],τ,S,K=>K τ S
 |t::ts,τ,S,K=>match sget τ t with
  |some (.own l g)=>(sFrz S (.own l g)).bind fun w=>sPre ts ((t,w.1)::τ) w.2 K
  |some (.agg cs)=>(sFrz S (.agg cs)).bind fun w=>sPre ts ((t,w.1)::τ) w.2 K
  |_=>sPre ts τ S K
def PGho(P:Program) (N:Nat) (τ:Env) (σ:Sto) (τ1:Env) (σ1:Sto):Prop:=∀(B:Base P) (G:Gh) (w:World) (a:Act),Rel B G σ w→TRel G N τ a→∃G',G.Le G'∧Rel B G' σ1 w∧TRel G' N τ1 a
theorem PGho.refl{P:Program}(N:Nat) (τ:Env) (σ:Sto):PGho P N τ σ τ σ:=fun _ G _ _ hR hT=>⟨G,.refl G,hR,hT⟩
theorem PGho.trans{P:Program}{N:Nat}{τ τ1 τ2:Env}{σ σ1 σ2:Sto}(h:PGho P N τ σ τ1 σ1) (k:PGho P N τ1 σ1 τ2 σ2):PGho P N τ σ τ2 σ2:=fun B G w a hR hT=>by
 obtain⟨G1,l1,R1,t1⟩:=h B G w a hR hT
 obtain⟨G2,l2,R2,t2⟩:=k B G1 w a R1 t1
 exact⟨G2,l1.trans l2,R2,t2⟩
theorem PGho.slot{P:Program}{N:Nat}{τ:Env}{σ σ1:Sto}{t:Nat}{d d1:D}(h:Gho P σ σ1 d d1) (ht:get τ t=some d):PGho P N τ σ ((t,d1)::τ) σ1:=fun B G w a hR hT=>by
 obtain⟨G1,l1,R1,r1⟩:=h B G w _ hR (hT.slot t d ht)
 refine⟨G1,l1,R1,hT.size,hT.defers,fun t' d' hg=> ?_⟩
 simp only[get]at hg
 split at hg
 ·rename_i e;subst e;cases hg;exact r1
 ·exact Rep.mono l1 _ _ (hT.slot t' d' hg)
theorem AOp.pre{P:Program}{N:Nat}{o:Oper}{τ τ1:Env}{σ σ1:Sto}{K:D→Sto→Prop}(hg:PGho P N τ σ τ1 σ1) (h:AOp P N o τ1 σ1 K):AOp P N o τ σ K:=by
 intro B G w a hR hT next Q hn
 obtain⟨G1,l1,R1,t1⟩:=hg B G w a hR hT
 exact h B G1 w a R1 t1 next Q fun v w' G' d σ' h1 h2 h3 h4=>hn v w' G' d σ' (l1.trans h1) h2 h3 h4
theorem sPre_ok{α:Type}{P:Program}{N:Nat}{r:α}{K:SEnv→SSto→Option α}:∀(l:List Nat) {τ:SEnv}{τ' :Env}{S:SSto}{σ:Sto},StR S σ→ER S σ τ τ'→sPre l τ S K=some r→
 ∃τ1 τ1' S1 σ1,PGho P N τ' σ τ1' σ1∧StR S1 σ1∧ER S1 σ1 τ1 τ1'∧Pres S σ S1 σ1∧K τ1 S1=some r
 |[],τ,τ',S,σ,hS,hE,h=>⟨τ,τ',S,σ,.refl _ _ _,hS,hE,.refl _ _,h⟩
 |t::ts,τ,τ',S,σ,hS,hE,h=>by
  simp only[sPre]at h
  split at h
  ·rename_i l g hg
   obtain⟨w,hw,h⟩:=bind_inv h
   obtain⟨d,hd,hv⟩:=hE t _ hg
   obtain⟨d1,σ1,h1,h2,h3,h4⟩:=sFrz_ok _ (v' :=w.1) (S' :=w.2) hw hS hv
   obtain⟨τ1,τ1',S1,σ2,k1,k2,k3,k4,k5⟩:=sPre_ok ts h2 ((hE.pres h3).push h1 (t:=t)) h
   exact⟨τ1,τ1',S1,σ2,(PGho.slot h4 hd).trans k1,k2,k3,h3.trans k4,k5⟩
  ·rename_i cs hg
   obtain⟨w,hw,h⟩:=bind_inv h
   obtain⟨d,hd,hv⟩:=hE t _ hg
   obtain⟨d1,σ1,h1,h2,h3,h4⟩:=sFrz_ok _ (v' :=w.1) (S' :=w.2) hw hS hv
   obtain⟨τ1,τ1',S1,σ2,k1,k2,k3,k4,k5⟩:=sPre_ok ts h2 ((hE.pres h3).push h1 (t:=t)) h
   exact⟨τ1,τ1',S1,σ2,(PGho.slot h4 hd).trans k1,k2,k3,h3.trans k4,k5⟩
  ·exact sPre_ok ts hS hE h
def ownT(h:Option OH) (op:Op) (τ:SEnv):Option (Nat×TC):=match h with
 |some (.val tc)=>match op with
  | .call c=>match c.callee with
    | .builtin .append=>match c.args.toList with
      |x::_=>match x with
       | .tmp t=>match sget τ t with
         |some .nils=>some (t,tc)
         |_=>none
       |_=>none
      |[]=>none
    |_=>none
  |_=>none
 |_=>none
theorem ownT_ok{h:Option OH}{op:Op}{τ:SEnv}{q:Nat×TC}(hq:ownT h op τ=some q):sget τ q.1=some .nils:=by
 unfold ownT at hq
 repeat' (split at hq<;>try (cases hq;done))
 cases hq
 assumption
def sOwnP{α:Type}(h:Option OH) (op:Op) (τ:SEnv) (S:SSto) (K:SEnv→SSto→Option α):Option α:=match ownT h op τ with
 |some q=>K ((q.1,.own S.length 0)::τ) (S++[.arr q.2 [] false 0])
 |none=>K τ S
theorem sOwnP_ok{α:Type}{P:Program}{N:Nat}{r:α}{K:SEnv→SSto→Option α}{h0:Option OH}{op:Op}{τ:SEnv}{τ' :Env}{S:SSto}{σ:Sto}(hS:StR S σ) (hE:ER S σ τ τ') (h:sOwnP h0 op τ S K=some r):
 ∃τ1 τ1' S1 σ1,PGho P N τ' σ τ1' σ1∧StR S1 σ1∧ER S1 σ1 τ1 τ1'∧Pres S σ S1 σ1∧K τ1 S1=some r:=by
 unfold sOwnP at h
 split at h
 ·rename_i q hq
  obtain⟨d,hd,hv⟩:=hE _ _ (ownT_ok hq)
  simp only[VR]at hv
  subst hv
  obtain⟨n1,n2,n3⟩:=own_new hS q.2
  exact⟨_,_,_,_,PGho.slot (fun B G w x hR hx=>⟨G,.refl G,hR.newObj,nil_own hx⟩) hd,n1,(hE.pres n2).push n3,n2,h⟩
 ·exact⟨τ,τ',S,σ,.refl _ _ _,hS,hE,.refl _ _,h⟩
def sExec{α:Type}(cx:Cx) (fid N:Nat) (call:CallS α) (o:Oper) (τ:SEnv) (S:SSto) (K:SEnv→SSto→Option α):Option α:=
 sPre (preOp o.op) τ S fun τp Sp=>sOwnP (hintOf cx fid o.dst) o.op τp Sp fun τp Sp=>sopX cx (hintOf cx fid o.dst) call τp Sp o.op fun v S' =>sOwn (hintOf cx fid o.dst) v S' fun v S' =>sput N o.dst v τ fun τ' =>K τ' S'
def sops{α:Type}(cx:Cx) (fid N:Nat) (call:CallS α) (all:Array Oper):List Oper→SEnv→SSto→(SEnv→SSto→Option α)→Option α
 |[],τ,S,K=>K τ S
 |o::r,τ,S,K=>match o.guard with
  |none=>sExec cx fid N call o τ S fun τ' S' =>sops cx fid N call all r τ' S' K
  |some (j,want)=>match (all[j]?).bind (·.dst) with
   |none=>none
   |some t=>match sget τ t with
    |some (.bool b)=>match want with
     |true=>cond b (sExec cx fid N call o ((t,.bool true)::τ) S fun τ' S' =>sops cx fid N call all r τ' S' K) (sput N o.dst (.tup []) ((t,.bool false)::τ) fun τ' =>sops cx fid N call all r τ' S K)
     |false=>cond b (sput N o.dst (.tup []) ((t,.bool true)::τ) fun τ' =>sops cx fid N call all r τ' S K) (sExec cx fid N call o ((t,.bool false)::τ) S fun τ' S' =>sops cx fid N call all r τ' S' K)
    |some (.tup _)=>sput N o.dst (.tup []) τ fun τ' =>sops cx fid N call all r τ' S K
    |_=>none
def RPost{α:Type}(S0:SSto) (σ0:Sto) (K:SEnv→SSto→Option α) (r:α):Env→Sto→Prop:=fun τ' σ' =>∃τ S,ER S σ' τ τ'∧StR S σ'∧Pres S0 σ0 S σ'∧K τ S=some r
theorem RPost.trans{α:Type}{S0 S1:SSto}{σ0 σ1:Sto}{K:SEnv→SSto→Option α}{r:α}(h:Pres S0 σ0 S1 σ1) {τ' :Env}{σ' :Sto}(x:RPost S1 σ1 K r τ' σ'):RPost S0 σ0 K r τ' σ' :=by
 obtain⟨τ,S,h1,h2,h3,h4⟩:=x
 exact⟨τ,S,h1,h2,h.trans h3,h4⟩
theorem ER.setB{S:SSto}{σ:Sto}{τ:SEnv}{τ' :Env}{t:Nat}{b:Bool}(hE:ER S σ τ τ') (h:get τ' t=some (.bool b)):ER S σ ((t,.bool b)::τ) τ' :=by
 intro t' v hv
 rw[sget_cons]at hv
 by_cases e:t=t'
 ·rw[if_pos e]at hv;subst e;cases hv;exact⟨_,h,by simp only[VR]⟩
 ·rw[if_neg e]at hv;exact hE t' v hv
section
variable {α:Type}{cx:Cx}{fid N:Nat}{call:CallS α}{r:α}
theorem sput_ok{S:SSto}{σ:Sto}{τ:SEnv}{τ' :Env}{dst:Option Tmp}{v:SV}{d:D}{K:SEnv→Option α}(hE:ER S σ τ τ') (hv:VR S σ v d) (h:sput N dst v τ K=some r):∃τ2 τs,putD N dst d τ' =some τ2∧ER S σ τs τ2∧K τs=some r:=by
 unfold sput at h
 split at h
 ·exact⟨τ',τ,rfl,hE,h⟩
 ·split at h<;>try (cases h;done)
  rename_i t _ hb
  have hb:t<N:=Nat.le_of_ble_eq_true hb
  exact⟨(t,d)::τ',(t,v)::τ,by simp only[putD,if_pos hb],hE.push hv,h⟩
theorem sExec_ok(hcx:CxOk cx) (hcall:CallSOk cx.P call) {o:Oper}{S:SSto}{σ:Sto}{τ:SEnv}{τ' :Env}{K:SEnv→SSto→Option α}(hS:StR S σ) (hE:ER S σ τ τ') (h:sExec cx fid N call o τ S K=some r) {Kt:Env→Sto→Prop}(hk:∀τ2 σ2,RPost S σ K r τ2 σ2→Kt τ2 σ2):
 AOp cx.P N o τ' σ fun d σ' =>∃τ2,putD N o.dst d τ' =some τ2∧Kt τ2 σ' :=by
 unfold sExec at h
 obtain⟨τ0,τ0',S0,σ0,f1,f2,f3,f4,h⟩:=sPre_ok (P:=cx.P) (N:=N) _ hS hE h
 obtain⟨τ1,τ1',S1,σ1,g1,g2,g3,g4,h⟩:=sOwnP_ok (P:=cx.P) (N:=N) f2 f3 h
 have g1:=f1.trans g1
 have g4:=f4.trans g4
 have hg:=AOp.pre g1 (sOwn_ok (sopX_ok (N:=N) hcx hcall g2 g3 rfl h))
 refine hg.mono ?_
 rintro d σ' ⟨v,S',h1,h2,h3,h4⟩
 have h4:=g4.trans h4
 obtain⟨τ2,τs,k1,k2,k3⟩:=sput_ok (hE.pres h4) h2 h1
 exact⟨τ2,k1,hk _ _ ⟨τs,S',k2,h3,h4,k3⟩⟩
theorem sops_ok(hcx:CxOk cx) (hcall:CallSOk cx.P call) {all:Array Oper}{K:SEnv→SSto→Option α}:∀(l:List Oper) (S:SSto) (σ:Sto) (τ:SEnv) (τ' :Env),StR S σ→ER S σ τ τ'→sops cx fid N call all l τ S K=some r→AOps cx.P N all l τ' σ (RPost S σ K r)
 |[],S,σ,τ,τ',hS,hE,h=>⟨τ,S,hE,hS,.refl _ _,h⟩
 |o::l,S,σ,τ,τ',hS,hE,h=>by
  have exec:∀{τ:SEnv},ER S σ τ τ'→wantD all τ' o=some true→(sExec cx fid N call o τ S fun τ' S' =>sops cx fid N call all l τ' S' K)=some r→AOps cx.P N all (o::l) τ' σ (RPost S σ K r):=by
   intro τ hE hw h
   refine .inl ⟨hw,sExec_ok hcx hcall hS hE h ?_⟩
   rintro τ2 σ2 ⟨τs,S2,h1,h2,hp,h3⟩
   exact AOps.monoK (fun _ _ x=>x.trans hp) _ _ _ (sops_ok hcx hcall l S2 σ2 τs τ2 h2 h1 h3)
  have skip:∀{τ:SEnv},ER S σ τ τ'→wantD all τ' o=some false→(sput N o.dst (.tup []) τ fun τ' =>sops cx fid N call all l τ' S K)=some r→AOps cx.P N all (o::l) τ' σ (RPost S σ K r):=by
   intro τ hE hw h
   obtain⟨τ2,τs,k1,k2,k3⟩:=sput_ok (d:= .tuple []) hE (by simp only[VR,VRs];exact⟨[],rfl,rfl⟩) h
   exact .inr ⟨hw,τ2,k1,sops_ok hcx hcall l S σ τs τ2 hS k2 k3⟩
  simp only[sops]at h
  split at h
  ·rename_i hg
   exact exec hE (by unfold wantD;rw[hg]) h
  ·rename_i j want hg
   split at h<;>try (cases h;done)
   rename_i t ht
   split at h<;>try (cases h;done)
   ·rename_i b hb
    obtain⟨d,hd,hvd⟩:=hE t _ hb
    simp only[VR]at hvd
    subst hvd
    have hw:wantD all τ' o=some (b==want):=by unfold wantD;rw[hg];simp only[ht,hd]
    cases want
    ·rcases cond_inv h with⟨rfl,h⟩|⟨rfl,h⟩
     ·exact skip (hE.setB hd) hw h
     ·exact exec (hE.setB hd) hw h
    ·rcases cond_inv h with⟨rfl,h⟩|⟨rfl,h⟩
     ·exact exec (hE.setB hd) hw h
     ·exact skip (hE.setB hd) hw h
   ·rename_i vs hb
    obtain⟨d,hd,hvd⟩:=hE t _ hb
    simp only[VR]at hvd
    obtain⟨ds,rfl,_⟩:=hvd
    exact skip hE (by unfold wantD;rw[hg];simp only[ht,hd]) h
end
end Go.Fw
