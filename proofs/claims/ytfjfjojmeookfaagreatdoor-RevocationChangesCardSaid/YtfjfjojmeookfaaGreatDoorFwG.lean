/- A framework for proofs about Go programs in this model: part G. Everything is proved; no condition is added. -/
import Derived.IntWalk
import Derived.Test.YtfjfjojmeookfaaGreatDoorFwF
set_option linter.unusedVariables false
set_option linter.unusedSimpArgs false
set_option linter.defProp false
namespace Go.Fw
noncomputable section
open Go.RowKit
section
variable {α:Type}
def QF(fr:Nat->Bool)(cx:Cx)(fid N:Nat)(A:Res)(m:Nat)(o:Oper)(i:Nat)(b τ:aw)(S:ae)(a:Res)(f e:DCh)(next:aw->ae->Res->DCh->DCh->Option α):Option α:=
 match SL o i a with
 |true=>match a with
  |(_,l,_)::rest'=>iU N o.dst (.raw (.ptr l 0 0)) τ λτ2=>next τ2 S rest' f e
  |[]=>none
 |false=>match isW (Cy cx fid o.dst) o.op with
  |true=>match Li A m (fpW b o.op) S.length f e&& !(fr i) with
   |true=>sW cx.T cx.H cx.CO (Cy cx fid o.dst) b S o.op λv g=>iU N o.dst v τ λτ2=>next τ2 g a f (e++[(i,fpW b o.op++[S.length])])
   |false=>none
  |false=>match O4 o.op with
   |some c=>(xM cx.T b c).bind λp=>match lk cx.T.ext p.1 with
    |some k=>K1 k p.2 λv=>iU N o.dst v τ λτ2=>next τ2 S a (f++[(i,[])]) e
    |none=>Hz p.1 S p.2 (λv=>iU N o.dst v τ λτ2=>next τ2 S a (f++[(i,[])]) e) cx.C
   |none=>match wa A m (En b o.op)&&e.all (λc=>Hw m c.1||Hv (En b o.op) c.2) with
    |true=>sR cx.T cx.H b S o.op λv=>iU N o.dst v τ λτ2=>next τ2 S a (f++[(i,En b o.op)]) e
    |false=>none
def YP(fr:Nat->Bool)(cx:Cx)(fid N:Nat)(all:Array Oper)(A:Res)(M:List Nat)(o:Oper)(k:Nat->aw->ae->Res->DCh->DCh->(aw->ae->Option α)->Option α)(i:Nat)(τ:aw)(S:ae)(c:Res)(h g:DCh)(K:aw->ae->Option α):Option α:=match o.guard with
 |none=>QF fr cx fid N A (M.getD i 0) o i (tj all o τ) τ S c h g λτ2 l a f e=>k (i+1) τ2 l a f e K
 |some (j,want)=>match (all[j]?).bind (·.dst) with
  |none=>none
  |some t=>match lf (tj all o τ) t with
   |some (.bool b)=>match want with
    |true=>cond b (QF fr cx fid N A (M.getD i 0) o i (tj all o ((t,.bool true)::τ)) ((t,.bool true)::τ) S c h g λτ2 l a f e=>k (i+1) τ2 l a f e K)
     (iU N o.dst (.tup []) ((t,.bool false)::τ) λτ2=>k (i+1) τ2 S c h g K)
    |false=>cond b (iU N o.dst (.tup []) ((t,.bool true)::τ) λτ2=>k (i+1) τ2 S c h g K)
     (QF fr cx fid N A (M.getD i 0) o i (tj all o ((t,.bool false)::τ)) ((t,.bool false)::τ) S c h g λτ2 l a f e=>k (i+1) τ2 l a f e K)
   |some (.tup _)=>iU N o.dst (.tup []) τ λτ2=>k (i+1) τ2 S c h g K
   |_=>none
def sdg(fr:Nat->Bool)(cx:Cx)(fid N:Nat)(all:Array Oper)(A:Res)(M:List Nat)(l:List Oper):Nat->aw->ae->Res->DCh->DCh->(aw->ae->Option α)->Option α:=List.rec (λ_ τ S a _ _ K=>match a with
 |[]=>K τ S
 |_::_=>none) (λo _ b=>YP fr cx fid N all A M o b) l
variable{Z:List Nat}{Y W:DCh}{X:Env->Sto->Prop}
def Xa{cx:Cx}{fid N:Nat}{all:Array Oper}{A:Res}{M:List Nat}{fr:Nat->Bool}{i:Nat}{τ:aw}{S:ae}{a:Res}{K:aw->ae->Option α}:sdg fr cx fid N all A M [] i τ S a W Y K=match a with
 |[]=>K τ S
 |_::_=>none:=rfl
def U6{cx:Cx}{fid N:Nat}{all:Array Oper}{A:Res}{M:List Nat}{fr:Nat->Bool}{o:Oper}{r:List Oper}:sdg (α:=α) fr cx fid N all A M (o::r)=YP (α:=α) fr cx fid N all A M o (sdg fr cx fid N all A M r):=rfl
end
section
variable {P:Program}{T:Tys}{N:Nat}{ops:Array Oper}{A:Res}{M:List Nat}{fr:Nat→Bool}{o:Oper}{r:List Oper}{i:Nat}{τ τ2:Env}{S:List Sto}{C:List Nat}{tab:List Rc}{K:Env→Sto→Prop}{d:D}{σ:Sto}
def aiB(a:gK (λ(x:Nat×Nat×List D)=>∃r:Rc,tab[x.1]?=some r/\r.kd=.alloc x.2.1 x.2.2) A)(b:S.getLast?=some σ)(h:K τ σ):ADg P N ops A M fr [] i τ S C tab K:=⟨a,σ,b,h⟩
def akh(a:bA ops (rst ops o τ) o=some false)(b:eR N o.dst (.tuple []) τ=some τ2)(h:ADg P N ops A M fr r (i+1) τ2 S C (tab++[⟨o,rst ops o τ,.tuple [],.skip⟩]) K):ADg P N ops A M fr (o::r) i τ S C tab K:=
 .inl ⟨a,τ2,b,h⟩
def Xb(b:bA ops (rst ops o τ) o=some true)(c:gK (λs=>AOp P N o (rst ops o τ) s λa f=>a=d/\f=s) ((nK (M.getD i 0) S C).flatMap λσ=>(fI A (M.getD i 0)).map (cw · σ)))
 (e:eR N o.dst d τ=some τ2)(h:ADg P N ops A M fr r (i+1) τ2 S C (tab++[⟨o,rst ops o τ,d,.read⟩]) K):ADg P N ops A M fr (o::r) i τ S C tab K:=
 .inr (.inl ⟨b,d,τ2,c,e,h⟩)
def adF(tok:TOk T P){e:TypeId}{l:Nat}{cs:List D}(a:bA ops (rst ops o τ) o=some true)(b:o.op=.alloc e)(c:uw A i=some (l,cs))(f:lk T.zero e=some cs)(g:eR N o.dst (.ptr l 0 0) τ=some τ2)
 (h:ADg P N ops A M fr r (i+1) τ2 S C (tab++[⟨o,rst ops o τ,.ptr l 0 0,.alloc l cs⟩]) K):ADg P N ops A M fr (o::r) i τ S C tab K:=
 .inr (.inr (.inr ⟨a,e,l,cs,τ2,b,c,gi tok.zero f,g,h⟩))
end
section
variable {α:Type}{cx:Cx}{fid N:Nat}{all:Array Oper}{A:Res}{M:List Nat}{r:α}
variable{Z:List Nat}{Y W:DCh}{X:Env->Sto->Prop}
def age(f:lg cx){fr:Nat->Bool}{o:Oper}{l l' pre:List Oper}{i:Nat}{τ:aw}{τ':Env}{S:ae}{σ:Sto}{m done:Res}{Ss:List Sto}{tab:List Rc}{next:aw->ae->Res->DCh->DCh->Option α}
 (V:all.toList=pre++o::l')(Z:pre.length=i)(hA:∀x∈A,∃(k:Nat)(o:Oper)(e:TypeId),x.1=k/\all.toList[k]?=some o/\o.op=.alloc e/\lk cx.T.zero e=some x.2.2)
 (t:DI cx.P N A M i σ Ss tab done m W Y)(I:StR S σ)(U:ER S σ τ τ')(hw:bA all (rst all o τ') o=some true)
 (h:QF fr cx fid N A (M.getD i 0) o i (tj all o τ) τ S m W Y next=some r)
 (J:∀τ2 g S2 w n D O B Q y,DI cx.P N A M (i+1) w Q y D n O B->StR S2 w->ER S2 w g τ2->aP S σ S2 w->next g S2 n O B=some r->ADg cx.P N all A M fr l (i+1) τ2 Q (B.map (·.1)) y X):
 ADg cx.P N all A M fr (o::l) i τ' Ss (Y.map (·.1)) tab X:=by
 have E:=U.rst all o;unfold QF at h;split at h
 ·rename_i hr;split at h<;>try (cases h;done)
  rename_i j lo z j6;unfold SL at hr;split at hr<;>try (cases hr;done)
  rename_i e _ _ _ _ _ a F;cases F;have hj:=bu hr;subst hj;obtain⟨k,o',e',u,q,G,H⟩:=hA (j,lo,z) (by rw[t.all];simp);simp only at u H;subst u;have ho:o'=o:=by
   rw[V,<-Z,amA (amt _)]at q;simp at q;exact q.symm
  subst ho;rw[a]at G;cases G;obtain⟨τ2,g,k1,k2,L⟩:=ll (d:=.ptr lo 0 0) U (by simp only[VR]) h;exact adF f.tok hw a t.res H k1 (J _ _ _ _ _ _ _ _ _ _ t.alloc I k2 (.refl _ _) L)
 ·split at h
  ·split at h<;>try (cases h;done)
   rename_i b;simp only[amk,anH]at b;obtain⟨b,j4⟩:=b;obtain⟨v,S',d,up,u,q,G,H,h5,h6⟩:=aeU (N:=N) f.tok f.ctrO I E rfl h;obtain⟨τ2,g,k1,k2,L⟩:=ll (U.pres h5) G u;rw[I.len]at b L;obtain⟨g1,g2,g3,g4⟩:=t.chains h6 b q;have j3:=t.chain (o:=o) (env:=rst all o τ') (d:=d) h6 b (Y.map (·.1)).length;have:=J _ _ _ _ _ _ _ _ _ _ j3 H k2 h5 L;rw[anu]at this;exact .inr (.inr (.inl ⟨hw,g1,j4,d,τ2,σ,up.ap σ,t.last,g2,g3,g4,k1,this⟩))
  ·split at h
   ·rename_i c b;obtain⟨p,hp,h⟩:=ak h;obtain⟨ds,u,q⟩:=AN E hp;have ho:o.op=.call c:=by
     unfold O4 at b;split at b<;>try (cases b;done)
     rename_i a;split at b<;>cases b;exact a
    have j5:∃v d,(iU N o.dst v τ λτ2=>next τ2 S m (W++[(i,[])]) Y)=some r/\VR S σ v d/\∀s,AOp cx.P N o (rst all o τ') s λR s'=>R=d/\s'=s:=by
     split at h
     ·rename_i k J;exact Nn (N:=N) f.tok ho u J q h
     ·exact HA (N:=N) f.tok ho u q cx.C f.ctr h
    obtain⟨v,d,k1,k2,L⟩:=j5;obtain⟨τ2,g,m1,m2,m3⟩:=ll U k2 k1;have hh:wa A (M.getD i 0) []=true:=by unfold wa Hu;simp
    have a:∀s:Sto,(∀l∈([]:List Nat),s[l]?=σ[l]?)->AOp cx.P N o (rst all o τ') s λR s'=>R=d/\s'=s:=λs _=>L s;exact Xb hw (t.reads a hh (by simp[Hv])) m1 (J _ _ _ _ _ _ _ _ _ _ (t.read a hh) I m2 (.refl _ _) m3)
   ·split at h<;>try (cases h;done)
    rename_i b;simp only[amk]at b;obtain⟨v,d0,d,u,q,G,H⟩:=YE I E h;obtain⟨τ2,g,m1,m2,m3⟩:=ll U q u;have a:∀s:Sto,(∀l∈En (tj all o τ) o.op,s[l]?=σ[l]?)->AOp cx.P N o (rst all o τ') s λR s'=>R=d/\s'=s:=λs hs=>(aT f.tok (H s hs)).weak G;exact Xb hw (t.reads a b.1 b.2) m1 (J _ _ _ _ _ _ _ _ _ _ (t.read a b.1) I m2 (.refl _ _) m3)
def U7(F:lg cx){fr:Nat->Bool}{suf:List Oper}{K:aw->ae->Option α}(R:∀x∈A,∃(k:Nat)(o:Oper)(e:TypeId),x.1=k/\all.toList[k]?=some o/\o.op=.alloc e/\lk cx.T.zero e=some x.2.2):∀(l pre:List Oper)(i:Nat)(τ:aw)(τ':Env)(S:ae)(σ:Sto)(a done:Res)(z n:DCh)(D:List Sto)(tab:List Rc)(u:Env->Sto->Prop),
 all.toList=pre++(l++suf)->pre.length=i->DI cx.P N A M i σ D tab done a z n->StR S σ->ER S σ τ τ'->sdg fr cx fid N all A M l i τ S a z n K=some r->(∀τ2 s,mM S σ K r τ2 s->u τ2 s)->ADg cx.P N all A M fr l i τ' D (n.map (·.1)) tab u
 |[],pre,i,τ,τ',S,σ,a,done,z,n,D,tab,u,_,_,hD,hS,f,h,L=>by
  simp only[Xa,U6,YP]at h;split at h<;>try (cases h;done)
  refine aiB (gK.mk λx hx=> ?_) hD.last (L _ _ ⟨τ,S,f,hS,.refl _ _,h⟩);rw[hD.all,amG]at hx;exact(hD.dn x hx).2
 |o::l,pre,i,τ,τ',S,σ,a,done,z,n,D,tab,u,hall,hpre,hD,hS,f,h,L=>by
  have g:∀{τ:aw},ER S σ τ τ'->bA all (rst all o τ') o=some true->(QF fr cx fid N A (M.getD i 0) o i (tj all o τ) τ S a z n λτ2 O c B y=>sdg fr cx fid N all A M l (i+1) τ2 O c B y K)=some r->ADg cx.P N all A M fr (o::l) i τ' D (n.map (·.1)) tab u:=by
   intro τ f v h;refine age (l':=l++suf) F hall hpre R hD hS f v h ?_;intro τ2 G O s c E B y Q H U W V Y h2;exact U7 (suf:=suf) F R l (pre++[o]) (i+1) G τ2 O s c E B y Q H u (by simp[hall]) (by simp[hpre]) U W V h2 λj4 j3 x=>L _ _ (x.trans Y)
  have skip:∀{τ:aw},ER S σ τ τ'->bA all (rst all o τ') o=some false->(iU N o.dst (.tup []) τ λτ2=>sdg fr cx fid N all A M l (i+1) τ2 S a z n K)=some r->ADg cx.P N all A M fr (o::l) i τ' D (n.map (·.1)) tab u:=by
   intro τ f v h;obtain⟨τ2,G,k1,k2,k3⟩:=ll (d:=.tuple []) f (by simp only[VR,VRs];exact⟨[],rfl,rfl⟩) h;exact akh v k1 (U7 (suf:=suf) F R l (pre++[o]) (i+1) G τ2 S σ a done z n D _ u (by simp[hall]) (by simp[hpre]) hD.skip hS k2 k3 L)
  simp only[Xa,U6,YP]at h;split at h
  ·rename_i J;exact g f (by unfold bA;rw[J]) h
  ·rename_i j w J;split at h<;>try (cases h;done)
   rename_i t Z;split at h<;>try (cases h;done)
   ·rename_i b X;obtain⟨d,I,m⟩:=f.rst all o t _ X;simp only[VR]at m;subst m;have q:=(qt (p:=λt=>(o.looksAt all).contains t) I).2;have v:bA all (rst all o τ') o=some (b==w):=by unfold bA;rw[J];simp only[Z,I]
    cases w
    ·rcases aY h with⟨rfl,h⟩|⟨rfl,h⟩
     ·exact skip (f.setB q) v h
     ·exact g (f.setB q) v h
    ·rcases aY h with⟨rfl,h⟩|⟨rfl,h⟩
     ·exact g (f.setB q) v h
     ·exact skip (f.setB q) v h
   ·rename_i vs X;obtain⟨d,I,m⟩:=f.rst all o t _ X;simp only[VR]at m;obtain⟨ds,rfl,_⟩:=m;exact skip f (by unfold bA;rw[J];simp only[Z,I]) h
end
def agree{β α:Type}:List (Option β)->(β->Option α)->Option α
 |[],_=>none
 |o::a,K=>haveI:=Classical.propDecidable (∀x∈a,x=o);if ∀x∈a,x=o then o.bind K else none
def aaR{β α:Type}{b:List (Option β)}{K:β->Option α}{r:α}(h:agree b K=some r):∃y,(∀o∈b,o=some y)/\K y=some r:=by
 cases b with
 |nil=>cases h
 |cons o b=>
  simp only[agree]at h;split at h<;>try (cases h;done)
  rename_i a;obtain⟨y,e,h⟩:=ak h;refine⟨y,λx c=> ?_,h⟩;rcases amN.1 c with rfl|c
  ·exact e
  ·rw[a x c];exact e
def nI{β α:Type}(n:Nat)(o:Option β)(K:β->Option α):agree (List.replicate (n+1) o) K=o.bind K:=by
 simp only[List.replicate_succ,agree];rw[amE];intro x a;exact(List.mem_replicate.1 a).2
def wc:List Nat->ae->ae
 |[],S=>S
 |l::a,S=>(wc a S).set l (.raw .dead)
def U8:∀(ls:List Nat){S:ae}{σ:Sto},StR S σ->StR (wc ls S) (cw ls σ)/\aP S σ (wc ls S) (cw ls σ)
 |[],S,σ,h=>⟨h,.refl _ _⟩
 |l::ls,S,σ,h=>by
  obtain⟨a,c⟩:=U8 ls h;simp only[wc,cw];rcases amB l (wc ls S).length with b|b
  ·have f:(wc ls S)[l]?=some (wc ls S)[l]:=aml b;have g:aP (wc ls S) (cw ls σ) ((wc ls S).set l (.raw .dead)) ((cw ls σ).set l .dead):=aP.setOther a f (λ_ _ _ _ e=>by cases e);exact⟨a.set f g rfl,c.trans g⟩
  ·rw[List.set_eq_of_length_le b,List.set_eq_of_length_le (by rw[<-a.len];exact b)];exact⟨a,c⟩
def YQ(a:List Nat)(τ:aw):aw:=τ.filter λq=> !(D2 q.1 a)
variable{Z:List Nat}{Y W:DCh}{X:Env->Sto->Prop}
def adG{S:ae}{σ:Sto}{τ:aw}{τ':Env}(h:ER S σ τ τ'):ER S σ (YQ Z τ) (XR Z τ'):=by
 intro t v f;obtain⟨a,b⟩:=ye (p:=λt=> !(D2 t Z)) f;obtain⟨d,c,e⟩:=h t v b;exact⟨d,Eo (p:=λt=> !(D2 t Z)) a c,e⟩
def we(T:Tys):List Oper->Nat->List Nat->Nat->Option Res
 |[],_,_,_=>some []
 |o::r,i,a,l=>match o.guard with
  |some _=>we T r (i+1) a l
  |none=>match o.op with
   |.alloc e=>(lk T.zero e).bind λz=>match a with
    |n::a=>(we T r (i+1) a l).bind λA=>some ((i,n,z)::A)
    |[]=>(we T r (i+1) [] (l+1)).bind λA=>some ((i,l,z)::A)
   |_=>we T r (i+1) a l
def Kj{T:Tys}{x:Nat×Nat×List D}:∀{ops:List Oper}{i:Nat}{c:List Nat}{l:Nat}{A:Res},we T ops i c l=some A->x∈A->∃(k:Nat)(o:Oper)(e:TypeId),x.1=i+k/\ops[k]?=some o/\o.op=.alloc e/\lk T.zero e=some x.2.2
 |[],_,_,_,A,h,b=>by cases h;simp at b
 |o::r,i,c,l,A,h,b=>by
  have a:∀{c:List Nat}{l:Nat}{A:Res},we T r (i+1) c l=some A->x∈A->∃(k:Nat)(o':Oper)(e:TypeId),x.1=i+k/\(o::r)[k]?=some o'/\o'.op=.alloc e/\lk T.zero e=some x.2.2:=by
   intro c l A h b;obtain⟨k,o',e,f,n,p⟩:=Kj h b;exact⟨k+1,o',e,omq,by simpa using n,p⟩
  simp only[we]at h;split at h
  ·exact a h b
  ·split at h
   ·rename_i e g;obtain⟨z,j,h⟩:=ak h;split at h
    ·obtain⟨m,f,h⟩:=ak h;cases h;rcases amN.1 b with rfl|b
     ·exact⟨0,o,e,rfl,rfl,g,j⟩
     ·exact a f b
    ·obtain⟨m,f,h⟩:=ak h;cases h;rcases amN.1 b with rfl|b
     ·exact⟨0,o,e,rfl,rfl,g,j⟩
     ·exact a f b
   ·exact a h b
def qG:Res->ae->ae
 |[],s=>s
 |(_,l,a)::A,s=>(qG A s).set l (.cells (kE a) false)
def U9(S:ae)(l:Nat):Bool:=match S[l]? with
 |some (.raw .dead)=>true
 |_=>false
def aaS{S:ae}{l:Nat}(h:U9 S l=true):S[l]?=some (.raw .dead):=by
 unfold U9 at h;split at h
 ·assumption
 ·cases h
def O5:List Nat->Bool
 |[]=>true
 |x::r=> !(D2 x r)&&O5 r
def RH:∀{l:List Nat},O5 l=true->l.Nodup
 |[],_=>List.nodup_nil
 |x::r,h=>by
  simp only[O5,amk,anH]at h;exact apt.2 ⟨λa=>(by rw[MF.2 a]at h;cases h.1),RH h.2⟩
def O6:∀(A:Res){S:ae}{σ:Sto},StR S σ->(A.map (·.2.1)).Nodup->(∀x∈A,S[x.2.1]?=some (.raw .dead))->StR (qG A S) (eD A σ)/\aP S σ (qG A S) (eD A σ)/\∀y,y ∉ A.map (·.2.1)->(qG A S)[y]?=S[y]?
 |[],S,σ,h,_,_=>⟨h,.refl _ _,λ_ _=>rfl⟩
 |(j,l,a)::A,S,σ,h,b,k=>by
  simp only[amz,apt]at b;obtain⟨f,p,g⟩:=O6 A h b.2 λx q=>k x (amF _ q);have m:(qG A S)[l]?=some (.raw .dead):=by rw[g l b.1];exact k _ (am0 ..)
  have n:aP (qG A S) (eD A σ) ((qG A S).set l (.cells (kE a) false)) ((eD A σ).set l (.cells a 0 0)):=aP.setOther f m (λ_ _ _ _ e=>by cases e);refine⟨f.set m n ⟨a,0,rfl,λ_=>rfl,jq _ _ a⟩,p.trans n,λy c=> ?_⟩;simp only[amz,amN,not_or]at c;simp only[qG];rw[am2 (an9 c.1)];exact g y c.2
def StR.deads{S:ae}{σ:Sto}(h:StR S σ):∀n,StR (S++List.replicate n (iB.raw .dead)) (σ++List.replicate n am.dead)/\aP S σ (S++List.replicate n (iB.raw .dead)) (σ++List.replicate n am.dead)
 |0=>by simp only[List.replicate_zero,amG];exact⟨h,.refl _ _⟩
 |n+1=>by
  obtain⟨a,b⟩:=StR.deads h n;rw[List.replicate_succ',List.replicate_succ',<-amL,<-amL];exact⟨a.push rfl,b.trans (aP.push a.len _ _)⟩
def YR(A:Res)(n:Nat)(S:ae):Option ae:=match O5 (A.map (·.2.1))&&A.all λx=>U9 (S++List.replicate n (.raw .dead)) x.2.1 with
 |true=>some (qG A (S++List.replicate n (.raw .dead)))
 |false=>none
def Xc{A:Res}{n:Nat}{S S2:ae}{σ:Sto}(h:YR A n S=some S2)(p:StR S σ):∃s,Ini A s σ/\StR S2 (eD A s)/\aP S σ S2 (eD A s):=by
 unfold YR at h;split at h<;>cases h;rename_i c;simp only[amk,amM]at c;obtain⟨g,k⟩:=StR.deads p n;have b:=RH c.1;have j:∀x∈A,(S++List.replicate n (iB.raw .dead))[x.2.1]?=some (.raw .dead):=λx f=>aaS (c.2 x f);obtain⟨l,m,_⟩:=O6 A g b j;refine⟨_,⟨b,λx f=> ?_,n,rfl⟩,l,k.trans m⟩;obtain⟨a,q,e⟩:=g.obj _ _ (j x f);rw[q];have e:a=.dead:=e;rw[e]
def aaT{P:Program}{N:Nat}{A:Res}{M:List Nat}{s σ:Sto}(h:Ini A s σ):DI P N A M 0 (eD A s) [eD A s] [] [] A [] []:=by
 refine⟨rfl,rfl,?_,?_,?_,?_,rfl,?_,rfl⟩
 ·intro k f b l _;cases k with
  |zero=>simp at b;subst b;rfl
  |succ k=>simp at b
 ·exact λx a _=>h.get x a
 ·exact λx a=>ai (h.get x a)
 ·intro j e c;simp at c
 ·intro x a;simp at a
def O7{α:Type}(cx:Cx)(fid N:Nat)(ops:Array Oper)(b:List Nat)(τ:aw)(S:ae)(K:aw->ae->Option α):Option α:=
 Kc S 0 λn=>(we cx.T ops.toList 0 b n).bind λA=>match eC ops (bq ops.toList []) with
  |true=>(YR A (Nat.sub A.length b.length) S).bind λa=>Hs a λa=>sdr cx fid N ops A (bq ops.toList []) ops.toList 0 τ a A [] [] K
  |false=>none
def O8{α:Type}{cx:Cx}{fid N:Nat}{r:α}(f:lg cx){ops:Array Oper}{τ:aw}{τ':Env}{S:ae}{σ:Sto}{K:aw->ae->Option α}(q:StR S σ)(p:ER S σ τ τ')(h:O7 cx fid N ops Z τ S K=some r)(u:∀τ2 b,mM S σ K r τ2 b->X τ2 b):
 Drn cx.P N ops τ' σ X:=by
 simp only[O7,Ba,qF,ane]at h;obtain⟨A,n,h⟩:=ak h;split at h<;>try (cases h;done)
 rename_i v;obtain⟨y,t,h⟩:=ak h;obtain⟨s,a,c,g⟩:=Xc t q;refine⟨A,s,v,a,?_⟩;refine Ki (A:=A) (M:=bq ops.toList []) (done:=[]) (suf:=[]) f (λx w=> ?_) ops.toList [] 0 τ τ' _ _ A [] [] _ [] _ siq rfl (aaT a) c (p.pres g) h λτ2 b x=>u _ _ (x.trans g);obtain⟨k,o,e,z,j,l,m⟩:=Kj n w;exact⟨k,o,e,omq,j,l,m⟩
def Va:List Oper->Nat->Option Nat
 |[],_=>none
 |o::r,i=>match o.op with
  |.call c=>match c.callee with
   |.builtin _=>Va r (i+1)
   |_=>some i
  |_=>Va r (i+1)
def Kk{α β:Type}(cx:Cx)(fid N:Nat)(a:mL β)(ops:Array Oper)(f:List Nat)(c:Nat)(b:Array Oper->List Nat->aw->ae->Option β)(j:β->Option α)(τ:aw)(S:ae):Option α:=
 (ops[c]?).bind λl=>match qu ops&&(eC ops (bq ops.toList [])&&eC (em ops (cj (bq ops.toList []) c ops.size)) (bq (em ops (cj (bq ops.toList []) c ops.size)).toList [])) with
 |true=>(we cx.T (em ops (cj (bq ops.toList []) c ops.size)).toList 0 f S.length).bind λA=>(YR A (Nat.sub A.length f.length) S).bind λS0=>
  sdg (λk=> !(Nat.testBit ((bq ops.toList []).getD c 0) ((cj (bq ops.toList []) c ops.size).getD k 0))) cx fid N (em ops (cj (bq ops.toList []) c ops.size)) A (bq (em ops (cj (bq ops.toList []) c ops.size)).toList []) (em ops (cj (bq ops.toList []) c ops.size)).toList 0 τ S0 A [] [] λe g=>
   agree ((Su ((bq ops.toList []).getD c 0) (bq (em ops (cj (bq ops.toList []) c ops.size)).toList []) (cj (bq ops.toList []) c ops.size)).map λD=>
    Hg cx fid N a ops [l] (YQ (sh (em ops (cj (bq ops.toList []) c ops.size)).toList D) e) (wc (oB D A) g) λτ2 h=>b (em ops (oA (bq ops.toList []) c ops.size D)) (oB D A) τ2 h) j
 |false=>none
def Vb{β:Type}(cx:Cx)(fid N:Nat)(b:mL β)(a:aw->ae->Option β):Nat->Array Oper->List Nat->aw->ae->Option β
 |0,ops,e,τ,S=>O7 cx fid N ops e τ S a
 |n+1,ops,e,τ,S=>match Va ops.toList 0 with
  |some c=>Kk cx fid N b ops e c (Vb cx fid N b a n) some τ S
  |none=>O7 cx fid N ops e τ S a
section
variable {α β:Type}{cx:Cx}{fid N:Nat}{r:α}
def O9(z:lg cx){b:mL β}(q:ui cx.P b){i c:Nat}{ops:Array Oper}{τ:aw}{τ':Env}{S:ae}{σ:Sto}{g:aw->ae->Option β}{j:Array Oper->List Nat->aw->ae->Option β}{G:β->Option α}(hS:StR S σ)(hE:ER S σ τ τ')
 (u:∀(ops:Array Oper)(Z:List Nat)(τ:aw)(τ':Env)(S:ae)(σ:Sto)(y:β),StR S σ->ER S σ τ τ'->j ops Z τ S=some y->∀Q:AEx->Env->Sto->Prop,(∀τ2 a,mM S σ g y τ2 a->Q .normal τ2 a)->Gi i cx.P N ops τ' σ Q)
 (h:Kk cx fid N b ops Z c j G τ S=some r){Q:AEx->Env->Sto->Prop}(hQ:∀y,G y=some r->∀τ2 a,mM S σ g y τ2 a->Q .normal τ2 a):Gi i cx.P N ops τ' σ Q:=by
 unfold Kk at h;obtain⟨oc,O,h⟩:=ak h;split at h<;>try (cases h;done)
 rename_i p;simp only[amk]at p;obtain⟨hg,hp,R⟩:=p;obtain⟨A,hA,h⟩:=ak h;obtain⟨S0,hi,h⟩:=ak h;obtain⟨s0,n,J,V⟩:=Xc hi hS;refine ZR (M:=bq ops.toList []) A O hg rfl hp rfl rfl R n (λk=> !(Nat.testBit ((bq ops.toList []).getD c 0) ((cj (bq ops.toList []) c ops.size).getD k 0))) ?_ (K:=λB m=>∃y l v,G y=some r/\ER v m l B/\StR v m/\aP S σ v m/\
  ∀D∈Su ((bq ops.toList []).getD c 0) (bq (em ops (cj (bq ops.toList []) c ops.size)).toList []) (cj (bq ops.toList []) c ops.size),(Hg cx fid N b ops [oc] (YQ (sh (em ops (cj (bq ops.toList []) c ops.size)).toList D) l) (wc (oB D A) v) λτ2 E=>j (em ops (oA (bq ops.toList []) c ops.size D)) (oB D A) τ2 E)=some y) ?_ ?_
 ·intro k i hk L;simp only[Bool.not_eq_false']at L;have e:(cj (bq ops.toList []) c ops.size).getD k 0=i:=by rw[amH,hk];rfl
  rw[e]at L;exact L
 ·refine U7 (A:=A) (done:=[]) (suf:=[]) z (λx hx=> ?_) _ [] 0 τ τ' _ _ A [] [] _ [] _ siq rfl ?_ J (hE.pres V) h ?_
  ·obtain⟨k,o,e,F,w,H,Y⟩:=Kj hA hx;exact⟨k,o,e,omq,w,H,Y⟩
  ·exact aaT n
  ·rintro τ2 a ⟨l,E,F,w,t,H⟩;obtain⟨y,f,s⟩:=aaR H;exact⟨y,l,E,s,F,w,V.trans t,λD I=>f _ (anh.2 ⟨D,I,rfl⟩)⟩
 ·rintro B m ⟨y,l,v,s,F,w,t,f⟩ D I;obtain⟨k1,W⟩:=U8 (oB D A) w;refine fu.monoK ?_ _ _ _ (FE z q _ _ _ _ _ k1 (adG (F.pres W)) (f D I));rintro τ2 a ⟨X,E,m1,m2,U,m3⟩;exact u _ _ _ _ _ _ y m2 m1 m3 Q λj4 j3 x=>hQ y s _ _ (x.trans (t.trans (W.trans U)))
def agf(f:lg cx){b:mL β}(c:ui cx.P b){i:Nat}{a:aw->ae->Option β}:∀(n:Nat)(ops:Array Oper)(m:List Nat)(τ:aw)(τ':Env)(S:ae)(σ:Sto)(y:β),StR S σ->ER S σ τ τ'->Vb cx fid N b a n ops m τ S=some y->
 ∀Q:AEx->Env->Sto->Prop,(∀τ2 g,mM S σ a y τ2 g->Q .normal τ2 g)->Gi i cx.P N ops τ' σ Q:=by
 intro n;induction n with
 |zero=>exact λops m τ τ' S σ y l j h Q k=>(O8 f l j h k).any
 |succ n p=>
  intro ops m τ τ' S σ y l j h Q k;simp only[Vb]at h;split at h
  ·exact O9 f c l j p h λq e=>by cases e;exact k
  ·exact(O8 f l j h k).any
def aaU(g:lg cx){a:mL β}(b:ui cx.P a){i id c:Nat}{ops:Array Oper}{τ:aw}{τ':Env}{S:ae}{σ:Sto}{f:aw->ae->Option β}{k:β->Option α}(m:StR S σ)(l:ER S σ τ τ')(h:Kk cx fid N a ops [] c (Vb cx fid N a f 4) k τ S=some r):
 AWp i cx.P N (.region id ops true) τ' σ λe τ2 j=>e=.normal/\∃y,k y=some r/\mM S σ f y τ2 j:=
 (O9 g b m l (agf g b 4) h λy n _ _ x=>⟨rfl,y,n,x⟩).awp g.mix
end
end
end Go.Fw
namespace Go.Fw
noncomputable section
open Go.RowKit
section
variable {P:Program}{B:bL P}{G:Gh}{σ:Sto}{w:World}
def Rel.raise(c:Rel B G σ w){l f j v:Nat}{cs:List D}(k:σ[l]?=some (.cells cs f v))(t:f<=j)(m:j<=cs.length):Rel B G (σ.set l (.cells cs j v)) w:=by
 have n:=ai k;have look:∀{a:Nat}{d:am},(σ.set l (.cells cs j v))[a]?=some d->(a=l/\d=.cells cs j v)∨(a≠l/\σ[a]?=some d):=by
  intro a d h;by_cases e:a=l
  ·subst e;rw[ana n]at h;exact .inl ⟨rfl,(anm h).symm⟩
  ·rw[am2 (an9 e)]at h;exact .inr ⟨e,h⟩
 refine⟨c.below,c.imm,c.mimm,c.siz,λa r b g=> ?_,c.inj,λa d b i g=> ?_,λa s p r b i g o x q=> ?_,λa u y b i g=> ?_,λa d i=> ?_,λa d i=> ?_,c.bimm,c.bmimm⟩
 ·rw[anF];exact c.blk a r b g
 ·rcases look i with⟨rfl,rfl⟩|⟨_,h⟩
  ·exact c.obj a (.cells cs f v) b k g
  ·exact c.obj a d b h g
 ·rcases look i with⟨rfl,h⟩|⟨_,h⟩
  ·cases h;exact am9 (c.own a _ _ _ b k g o x q) t
  ·exact c.own a _ _ _ b h g o x q
 ·rcases look i with⟨_,h⟩|⟨_,h⟩
  ·cases h
  ·exact c.ownm a u y b h g
 ·rcases look i with⟨rfl,rfl⟩|⟨_,h⟩
  ·have:=c.ver a _ k;exact⟨by simp only[am.ver,am.len]at this⊢;omega,this.2⟩
  ·exact c.ver a d h
 ·rcases look i with⟨rfl,rfl⟩|⟨_,h⟩
  ·simp only[am.frz,am.len];exact m
  ·exact c.frzle a d h
def agh{G:Gh}{l u n sz:Nat}{cs:List D}{v v':Value}(d:cs.length=n*sz)(p:Rep G (.sl l u 0 n sz false) v)(q:Rep G (.list cs n false) v)(g:Rep G (.sl l u 0 n sz false) v'):Rep G (.list cs n false) v':=by
 simp only[Rep]at p q g⊢;by_cases i:n=0
 ·subst i;have c:cs=[]:=by
   rw[aok]at d;exact amY d
  rcases g with⟨b,e,j,m,rfl,s,t,_⟩|⟨_,a,rfl⟩
  ·exact⟨_,e,rfl,s,t,(λh=>absurd h deq),.inr c⟩
  ·exact⟨a,0,rfl,amt _,omq,λ_=>rfl,.inr c⟩
 ·rcases p with⟨b,e,j,m,rfl,_⟩|⟨h,_⟩
  ·rcases g with⟨A,f,r,o,rfl,y,z,_⟩|⟨h,_⟩
   ·rw[m]at o;cases o;refine⟨_,f,rfl,y,z,(λh=>absurd h deq),?_⟩;obtain⟨a,k,x,_,_,_,c⟩:=q;rcases c with⟨C,E,rfl,c⟩|c
    ·cases x;exact .inl ⟨_,_,rfl,c⟩
    ·exact .inr c
   ·exact absurd h i
  ·exact absurd h i
end
def QG(S:ae)(i o:Nat):Option ae:=match S[i]? with
 |some (.cells a e)=>match a[o]? with
  |some (.own l g)=>match S[l]? with
   |some (.arr c d _ b)=>match Nat.beq g b with
    |true=>some ((S.set l (.arr c d true b)).set i (.cells (a.set o (.sl c d false)) e))
    |false=>none
   |_=>none
  |_=>none
 |_=>none
def YS{P:Program}{S S':ae}{σ:Sto}{i o:Nat}(h:QG S i o=some S')(M:StR S σ):
 ∃p,StR S' p/\aP S σ S' p/\∀(N:Nat)(τ:Env),qj P N τ σ τ p:=by
 unfold QG at h;split at h<;>try (cases h;done)
 rename_i V W D;split at h<;>try (cases h;done)
 rename_i l g hc;split at h<;>try (cases h;done)
 rename_i c b j4 g' E;split at h<;>try (cases h;done)
 rename_i R;have R:=bu R;subst R;cases h;obtain⟨a,ha,I,A,rfl,Q,s⟩:=M.obj _ _ D;obtain⟨e,Y,t⟩:=s.get hc;simp only[VR]at t;obtain⟨j3,u,F,rfl⟩:=(t.2 _ _ _ _ E).2 rfl;have m:(c.flat b).length=b.length*c.sz:=fe _ _;have z:i≠l:=λe=>by rw[e,E]at D;cases D
 have n:aP S σ (S.set l (.arr c b true g)) (σ.set l (.cells (c.flat b) (c.flat b).length u)):=aP.setSame M E F rfl;have Z:StR (S.set l (.arr c b true g)) (σ.set l (.cells (c.flat b) (c.flat b).length u)):=M.set E n ⟨_,u,rfl,λh=>by cases h⟩;have y:(S.set l (.arr c b true g))[i]?=some (.cells V W):=by rw[am2 z.symm];exact D
 have r:(σ.set l (.cells (c.flat b) (c.flat b).length u))[i]?=some (.cells I A 0):=by rw[am2 z.symm];exact ha
 have j:=aP.setCells Z (cs':=V.set o (.sl c b false)) (fz':=W) (a:=.cells (I.set o (.list (c.flat b) b.length false)) A 0) y;have O:=Z.set y j ⟨_,A,rfl,Q,VRs.set (v:=.sl c b false) (d:=.list (c.flat b) b.length false) (by simp only[VR];exact⟨false,rfl,λh=>by cases h⟩) (VRs.pres (n.trans j) _ _ s)⟩;refine⟨_,O,n.trans j,λN τ B G w H L X=> ?_⟩;have J:∀f,G.Le f->Rel B f (σ.set l (.cells (c.flat b) (c.flat b).length u)) w->(∀U,Rep f (.sl l u 0 b.length c.sz false) U->Rep f (.list (c.flat b) b.length false) U)->
  ∃f,G.Le f/\Rel B f ((σ.set l (.cells (c.flat b) (c.flat b).length u)).set i (.cells (I.set o (.list (c.flat b) b.length false)) A 0)) w/\dD f N τ H:=by
  intro f q K C;exact⟨f,q,K.weakObj r siq λvs k=>af.set_weak (λv k=>C v k) Y k,X.mono q⟩
 by_cases x:∃v,Rep G (.sl l u 0 b.length c.sz false) v
 ·obtain⟨v,k⟩:=x;obtain⟨f,q,K,C⟩:=C6 L F (by rw[m];omega) k;rw[anb,amR (by rw[m];exact amt _)]at C;exact J f q K λU T=>agh m (Rep.mono q _ _ k) C T
 ·refine⟨G,.refl G,(L.raise F (L.frzle _ _ F) (amt _)).weakObj r siq λvs k=> ?_,X⟩;exact af.set_weak (λv k=>absurd ⟨v,k⟩ x) Y k
def AWp.preG{i:Nat}{P:Program}{N:Nat}{c:Code}{τ τ':Env}{σ σ':Sto}{Q:AEx->Env->Sto->Prop}(j:qj P N τ σ τ' σ')(h:AWp i P N c τ' σ' Q):AWp i P N c τ σ Q:=by
 intro B G w a f g;obtain⟨b,k,d,l⟩:=j B G w a f g;exact apY (h B b w a d l) λe a w x=>lW k.b (λ_ _ _ h=>h) e a w x
def YT:List Nat->ae->Option ae
 |[],S=>some S
 |p::r,S=>(QG S (Nat.div p 1024) (Nat.mod p 1024)).bind (YT r)
def alX(a:bh):List Nat:=a.flatMap λq=>q.2.env.map λp=>p.1
def Xd{P:Program}:∀{l:List Nat}{S S':ae}{σ:Sto},YT l S=some S'->StR S σ->∃a,StR S' a/\aP S σ S' a/\∀(N:Nat)(τ:Env),qj P N τ σ τ a
 |[],S,S',σ,h,hS=>by cases h;exact⟨σ,hS,.refl _ _,λN τ=>.refl N τ σ⟩
 |p::r,S,S',σ,h,hS=>by
  simp only[YT]at h;obtain⟨n,j,k⟩:=ak h;obtain⟨m,c,d,e⟩:=YS (P:=P) j hS;obtain⟨b,f,g,i⟩:=Xd (P:=P) k c;exact⟨b,f,d.trans g,λN τ=>(e N τ).trans (i N τ)⟩
end
end Go.Fw
namespace Go.Fw
noncomputable section
open Go.RowKit
def Yx{α:Type}(T:Tys)(τ:aw)(S:ae)(r:ResultVar)(K:SV->Option α):Option α:=match r with
 |.tmp t=>(lf τ t).bind K
 |.cell t a=>SH T τ S a (.tmp t) K
def SC{α:Type}(T:Tys)(τ:aw)(S:ae):List ResultVar->(List SV->Option α)->Option α
 |[],K=>K []
 |r::a,K=>Yx T τ S r λv=>SC T τ S a λb=>K (v::b)
def J7{α:Type}(T:Tys)(τ:aw)(S:ae)(b:List ResultVar)(K:SV->Option α):Option α:=SC T τ S b λa=>match a with
 |[v]=>K v
 |a=>K (.tup a)
section
variable {α:Type}{T:Tys}{S:ae}{σ:Sto}{τ:aw}{τ' :Env}{r:α}
def adh(m:StR S σ)(g:ER S σ τ τ'){x:ResultVar}{K:SV->Option α}(h:Yx T τ S x K=some r):∃v b d,K v=some r/\VR S σ v d/\aA b d/\Tk T τ' σ x=some b:=by
 unfold Yx at h;cases x with
 |tmp t=>
  obtain⟨v,n,h⟩:=ak h;obtain⟨d,c,e⟩:=g t v n;exact⟨v,d,d,h,e,aA.refl _,c⟩
 |cell t o=>
  obtain⟨v,b,d,c,e,i,j⟩:=UQ m g h;have f:=j σ λ_ _=>rfl;refine⟨v,b,d,c,e,i,?_⟩;simp only[aop,an3,amJ]at f;obtain⟨a,k,l,_⟩:=f;subst l;exact k
def UK(g:StR S σ)(f:ER S σ τ τ'):∀{e:List ResultVar}{K:List SV->Option α},SC T τ S e K=some r->∃c a b,K c=some r/\VRs S σ c b/\bt a b/\xk T τ' σ e=some a
 |[],K,h=>⟨[],[],[],h,by simp only[VRs],rfl,rfl⟩
 |x::e,K,h=>by
  simp only[SC]at h;obtain⟨v,i,d,j,k,l,m⟩:=adh g f h;obtain⟨c,a,b,n,o,p,q⟩:=UK g f j;exact⟨v::c,i::a,d::b,n,by simp only[VRs];exact⟨d,b,rfl,k,o⟩,⟨l,p⟩,by simp only[xk,m,q]⟩
def Qs(q:StR S σ)(p:ER S σ τ τ'){n:List ResultVar}{K:SV->Option α}(h:J7 T τ S n K=some r):∃v f d,K v=some r/\VR S σ v d/\aA f d/\uu T n τ' σ=some f:=by
 unfold J7 at h;obtain⟨k,a,l,j,g,c,m⟩:=UK q p h;have s:=g.length;have b:=c.length;split at j
 ·rename_i v;simp only[VRs]at g;obtain⟨e,t,rfl,o,rfl⟩:=g
  match a,c with
  |[f],c=>exact⟨v,f,e,j,o,c.1,by simp only[uu,m]⟩
 ·rename_i i;refine⟨.tup k,.tuple a,.tuple l,j,by simp only[VR];exact⟨l,rfl,g⟩,aA.tuple c,?_⟩;unfold uu;rw[m]
  match a,b with
  |[],_=>rfl
  |[d],b=>
   exfalso;have:k.length=1:=by rw[<-s,<-b];rfl
   match k,this with
   |[v],_=>exact i v rfl
  |_::_::_,_=>rfl
end
def Yy:AEx->AEx->Bool
 |.normal,.normal=>true
 |.exit a,.exit b=>Nat.beq a b
 |.goto a,.goto b=>Nat.beq a b
 |.ret,.ret=>true
 |_,_=>false
def adi{a b:AEx}(h:Yy a b=true):a=b:=by
 cases a<;>cases b<;>simp only[Yy]at h<;>first|rfl|(cases h;done)|(rw[bu h])
def J8:bh->AEx->Nat->Option (Nat×Pat)
 |[],_,_=>none
 |(e,p)::r,a,m=>match Yy e a with
  |true=>some (m,p)
  |false=>J8 r a (m+1)
def Rv:∀{x:bh}{e:AEx}{m n:Nat}{p:Pat},J8 x e m=some (n,p)->∃k,n=m+k/\x[k]?=some (e,p)
 |[],_,_,_,_,h=>by simp[J8]at h
 |(c,f)::r,e,m,n,p,h=>by
  simp only[J8]at h;split at h
  ·rename_i b;have:=adi b;subst this;cases h;exact⟨0,rfl,rfl⟩
  ·obtain⟨k,d,a⟩:=Rv h;exact⟨k+1,omq,by simpa using a⟩
def Np:ae->Nat
 |[]=>0
 |o::S=>match o with
  |.arr _ _ _ g=>max (g+1) (Np S)
  |_=>Np S
def WJ:∀{S:ae}{l:Nat}{t:TC}{xs:List t.Den}{fz:Bool}{g:Nat},S[l]?=some (.arr t xs fz g)->g<Np S
 |[],l,_,_,_,_,h=>by simp at h
 |o::S,0,t,xs,fz,g,h=>by
  simp at h;subst h;simp only[Np];omega
 |o::S,l+1,t,xs,fz,g,h=>by
  have:=WJ (S:=S) (l:=l) (by simpa using h);cases o<;>simp only[Np]<;>omega
def vU:ae->List PO->Bool
 |_,[]=>true
 |[],p::a=>(match p with|.arr _ _ _=>false|_=>true)&&vU [] a
 |o::S,p::a=>(match p with|.arr _ _ _=>(match o with|.arr _ _ _ _=>true|_=>false)|_=>true)&&vU S a
def mN(i:Nat)(S:ae)(σ:Sto)(S':ae)(σ':Sto):Prop:=(∀l g d,l<i->Cw S σ l g d->Cw S' σ' l g d)/\∀l g k o d,l<i->ApR S σ l g k o d->ApR S' σ' l g k o d
def mN.trans{i:Nat}{S c S2:ae}{σ b σ2:Sto}(h:mN i S σ c b)(k:mN i c b S2 σ2):mN i S σ S2 σ2:=
 ⟨λl g d a x=>k.1 l g d a (h.1 l g d a x),λl g j o d a x=>k.2 l g j o d a (h.2 l g j o d a x)⟩
def aP.i{i:Nat}{S b:ae}{σ a:Sto}(h:aP S σ b a):mN i S σ b a:=⟨λl g d _ x=>h.own l g d x,λl g j o d _ x=>h.ap l g j o d x⟩
def mN.full{S b:ae}{σ a:Sto}(h:mN S.length S σ b a):aP S σ b a:=⟨λl g d x=>h.1 l g d x.1 x,λl g j o d x=>h.2 l g j o d x.1 x⟩
def PO.put_arr{G:Nat->Nat}{j:Nat}{p:PO}{l r:List DV}{o:iB}(h:p.put G j l=some (o,r)){t:TC}{xs:List t.Den}{fz:Bool}{g:Nat}(e:o=.arr t xs fz g):g=G j/\∃c a b,p=.arr c a b:=by
 cases p<;>simp only[PO.put]at h
 case cells=>split at h<;>cases h;cases e
 case arr=>split at h<;>cases h;cases e;exact⟨rfl,_,_,_,rfl⟩
 case it=>split at h<;>cases h;cases e
 case smap=>split at h<;>cases h;cases e
 case dead=>cases h;cases e
 case junk=>cases h;cases e
def PO.puts_arr{G:Nat->Nat}:∀{m:List PO}{i:Nat}{l r:List DV}{k:ae}{S:ae},PO.puts G i m l=some (k,r)->vU S m=true->∀{j:Nat}{t:TC}{xs:List t.Den}{fz:Bool}{g:Nat},k[j]?=some (.arr t xs fz g)->g=G (i+j)/\(∃d n c e,S[j]?=some (.arr d n c e))/\∃v q u,m[j]?=some (.arr v q u)
 |[],i,l,r,k,S,h,_,j,t,xs,fz,g,a=>by
  simp only[PO.puts,amn,amJ]at h;rw[<-h.1]at a;simp at a
 |p::m,i,l,r,k,S,h,b,j,t,xs,fz,g,a=>by
  simp only[PO.puts]at h;split at h<;>try (cases h;done)
  rename_i o C y;split at h<;>try (cases h;done)
  rename_i A D w;cases h;cases j with
  |zero=>
   simp at a;obtain⟨f,d,c,B,rfl⟩:=PO.put_arr y a;refine⟨f,?_,_,_,_,rfl⟩;cases S with
   |nil=>simp[vU]at b
   |cons x S=>
    cases x<;>simp[vU]at b;exact⟨_,_,_,_,rfl⟩
  |succ j=>
   cases S with
   |nil=>
    simp only[vU,amk]at b;obtain⟨f,⟨d,n,c,e,s⟩,_⟩:=PO.puts_arr w b.2 (j:=j) (by simpa using a);simp at s
   |cons x S=>
    simp only[vU,amk]at b;obtain⟨f,⟨d,n,c,e,s⟩,v,q,u,z⟩:=PO.puts_arr w b.2 (j:=j) (by simpa using a);exact⟨by rw[show i+(j+1)=i+1+j from omq];exact f,⟨d,n,c,e,by simpa using s⟩,v,q,u,by simpa using z⟩
def SE(S0:ae)(objs:List PO)(l:Nat):Nat:=match objs[l]? with
 |some (.arr _ _ true)=>match S0[l]? with
  |some (.arr _ _ _ g)=>g
  |_=>Np S0
 |_=>Np S0
def KpO(p:Pat)(S0:ae)(a:Sto)(S:ae)(σ:Sto):Prop:=∀(l:Nat) t0 f0,p.objs[l]?=some (.arr t0 f0 true)->∀g f h c,S0[l]?=some (.arr f h c g)->
 ∃t i e b,S[l]?=some (.arr t i e b)/\(∀d,Cw S0 a l g d->Cw S σ l b d)/\∀k o d,ApR S0 a l g k o d->ApR S σ l b k o d
def Pat.put_pres{i:Nat}{p:Pat}{l:List DV}{τ:aw}{S S2:ae}{σ σ2:Sto}(h:p.put (SE S p.objs) l=some (τ,S2))(H:vU S p.objs=true)(O:i<=S2.length)(E:KpO p S σ S2 σ2):mN i S σ S2 σ2:=by
 unfold Pat.put at h;split at h<;>try (cases h;done)
 split at h<;>try (cases h;done)
 rename_i N J;cases h;have y:∀{j:Nat}{t:TC}{A:List t.Den}{z:Bool}{v:Nat},S2[j]?=some (.arr t A z v)->∃q u f n,S[j]?=some (.arr q u f n)/\((v=n/\∃s m,p.objs[j]?=some (.arr s m true))∨n<v):=by
  intro j t A z v b;obtain⟨a,⟨q,u,f,n,c⟩,s,m,K,e⟩:=PO.puts_arr J H b;rw[ane]at a;refine⟨q,u,f,n,c,?_⟩;unfold SE at a;rw[e]at a;cases K
  ·exact .inr (by rw[a];exact WJ c)
  ·simp only[c]at a;exact .inl ⟨a,s,m,e⟩
 refine⟨λj g d I x=>⟨omq,λt A z v b=> ?_⟩,λj g k o d I x=>⟨omq,λt A z v b=> ?_⟩⟩
 ·obtain⟨q,u,f,n,c,e⟩:=y b;have B:=(x.2 _ _ _ _ c).1;rcases e with⟨rfl,s,m,C⟩|e
  ·refine⟨B,λa=> ?_⟩;subst a;obtain⟨L,M,F,G,w,D,_⟩:=E j s m C g q u f c;rw[b]at w;cases w;exact((D d x).2 _ _ _ _ b).2 rfl
  ·exact⟨omq,λa=>omq⟩
 ·obtain⟨q,u,f,n,c,e⟩:=y b;have B:=(x.2 _ _ _ _ c).1;rcases e with⟨rfl,s,m,C⟩|e
  ·refine⟨B,λa=> ?_⟩;subst a;obtain⟨L,M,F,G,w,_,D⟩:=E j s m C g q u f c;rw[b]at w;cases w;exact((D k o d x).2 _ _ _ _ b).2 rfl
  ·exact⟨omq,λa=>omq⟩
def aeS{α:Type}(S0:ae)(x:bh)(m:Nat)(l:List DV)(k:AEx->aw->ae->Option α):Option α:=(x[m]?).bind λq=>match vU S0 q.2.objs with
 |true=>(q.2.put (SE S0 q.2.objs) l).bind λw=>k q.1 w.1 w.2
 |false=>none
def Cz(x:bh)(i:Nat)(S0:ae)(e:AEx)(τ:aw)(S:ae):Option (XS x.tcs):=(J8 x e 0).bind λq=>(q.2.get i S0 τ S).bind λl=>Ke x.tcs q.1 l
def sgo{α:Type}(S0:ae)(x:bh)(y:XS x.tcs)(k:AEx->aw->ae->Option α):Option α:=AR x.tcs y λm l=>aeS S0 x m l k
def vV{α:Type}(i:Nat)(S0:ae)(b:Sto)(k:AEx->aw->ae->Option α)(r:α):AEx->Env->Sto->Prop:=λe τ' a=>∃τ S,ER S a τ τ'/\StR S a/\mN i S0 b S a/\k e τ S=some r
def vW(i:Nat)(x:bh)(y:XS x.tcs)(S0:ae)(b:Sto):AEx->Env->Sto->Prop:=λe τ' a=>∃m p l,x[m]?=some (e,p)/\(∀(α:Type)(f:Nat->List DV->Option α),AR x.tcs y f=f m l)/\∀G,∃τ S,p.put G l=some (τ,S)/\i<=S.length/\ER S a τ τ'/\StR S a/\KpO p S0 b S a
def KpR.o{i:Nat}{p:Pat}{S0 S S2:ae}{h σ σ2:Sto}{G:Nat->Nat}(H:KpR p S0 S σ σ2)(C:mN i S0 h S σ)(B:∀(l:Nat) b a,p.objs[l]?=some (.arr b a true)->l<i)
 (F:∀(j:Nat) b a,p.objs[j]?=some (.arr b a true)->∀t f n g,S[j]?=some (.arr t f n g)->∃c,S2[j]?=some (.arr t f c (G j))):KpO p S0 h S2 σ2:=by
 intro l b a m g J K I E;obtain⟨t,f,n,q,s,e,A⟩:=H l b a m;unfold A6 at e;rw[E]at e;have e:=bu e;subst e;obtain⟨c,v⟩:=F l b a m t f n q s;refine⟨t,f,c,G l,v,λd z=> ?_,λk o d z=> ?_⟩
 ·have w:=C.1 l q d (B l b a m) z;obtain⟨D,u,x,y⟩:=(w.2 _ _ _ _ s).2 rfl;exact .mk v (by rw[A];exact x) y
 ·have w:=C.2 l q k o d (B l b a m) z;obtain⟨D,u,x,y⟩:=(w.2 _ _ _ _ s).2 rfl;exact .mk v (by rw[A];exact x) y
def rC(i:Nat):Nat->List PO->Bool
 |_,[]=>true
 |j,p::a=>(match p with|.arr _ _ true=>Nat.blt j i|_=>true)&&rC i (j+1) a
def Qt{i:Nat}:∀{j:Nat}{d:List PO},rC i j d=true->∀(l:Nat) c a,d[l]?=some (.arr c a true)->j+l<i
 |j,[],_,l,c,a,h=>by simp at h
 |j,p::d,b,0,c,a,h=>by
  simp at h;subst h;simp only[rC,amk]at b;exact amx b.1
 |j,p::d,b,l+1,c,a,h=>by
  simp only[rC,amk]at b;have:=Qt b.2 l c a (by simpa using h);omega
def qk{P:Program}{x:bh}{i j N:Nat}{e:AEx}{τ:aw}{S0 S:ae}{τ':Env}{d σ:Sto}{y:XS x.tcs}(h:Cz x i S0 e τ S=some y)(z:ER S σ τ τ')(B:StR S σ)(C:mN j S0 d S σ)(E:∀q∈x,rC j 0 q.2.objs=true):
 ∃b a,YM P i N τ' σ b a/\vW i x y S0 d e b a:=by
 unfold Cz at h;obtain⟨q,D,h⟩:=ak h;obtain⟨l,g,h⟩:=ak h;obtain⟨m,p⟩:=q;obtain⟨k,s,c⟩:=Rv D;rw[ane]at s;subst s;obtain⟨b,a,v,w,A⟩:=Pat.norm (N:=N) g z B;refine⟨b,a,v,m,p,l,c,λα f=>RF _ h,λG=> ?_⟩;obtain⟨o,t,F,H,I,J,K⟩:=A G;have n:=E _ (amS c);exact⟨o,t,F,H,I,J,w.o C (λl L u g=>by have:=Qt n l L u g;omega) K⟩
variable{Z:ae}{Y:Sto}
def vW.go{α:Type}{i j:Nat}{x:bh}{y:XS x.tcs}{e:AEx}{τ':Env}{σ:Sto}{k:AEx->aw->ae->Option α}{r:α}(h:vW j x y Z Y e τ' σ)(u:i<=j)(a:sgo Z x y k=some r):vV i Z Y k r e τ' σ:=by
 obtain⟨m,p,l,f,g,n⟩:=h;unfold sgo at a;rw[g α]at a;unfold aeS at a;rw[f]at a;obtain⟨q,v,a⟩:=ak a;cases v;split at a<;>try (cases a;done)
 rename_i d;obtain⟨w,b,a⟩:=ak a;obtain⟨τ,S,c,z,o,s,t⟩:=n (SE Z p.objs);simp only at b d;rw[c]at b;cases b;exact⟨τ,S,o,s,Pat.put_pres c d omq t,a⟩
def LOk(P:Program)(e:fN):Prop:=∀a c,P.funcs[e.fid]?=some a->a.body=some c->∀b∈cN e.key c,∀x y,e.fn x=some y->∀τ S,e.head.put (λ_=>0) (eY _ x)=some (τ,S)->
 ∀τ' σ,ER S σ τ τ'->StR S σ->LWp e.i P a.ntmps b τ' σ (vW e.i e.exits y S σ)
def sC(head:List PO)(objs:List PO):Bool:=match objs,head with
 |[],_=>true
 |p::a,[]=>(match p with|.arr _ _ true=>false|_=>true)&&sC [] a
 |p::a,q::b=>(match p with|.arr _ _ true=>(match q with|.arr _ _ true=>true|_=>false)|_=>true)&&sC b a
def Hh:∀{e j:List PO},sC j e=true->∀(l:Nat) c b,e[l]?=some (.arr c b true)->∃g d,j[l]?=some (.arr g d true)
 |[],_,_,l,c,b,h=>by simp at h
 |p::e,[],a,l,c,b,h=>by
  simp only[sC,amk]at a;cases l with
  |zero=>simp at h;subst h;simp at a
  |succ l=>
   obtain⟨g,d,i⟩:=Hh a.2 l c b (by simpa using h);simp at i
 |p::e,q::j,a,l,c,b,h=>by
  simp only[sC,amk]at a;cases l with
  |zero=>
   simp at h;subst h;cases q with
   |arr t f k=>cases k<;>simp at a;exact⟨t,f,rfl⟩
   |cells _ _=>simp at a
   |it=>simp at a
   |smap=>simp at a
   |dead=>simp at a
   |junk=>simp at a
  |succ l=>
   obtain⟨g,d,i⟩:=Hh a.2 l c b (by simpa using h);exact⟨g,d,by simpa using i⟩
def uj{P:Program}{T:Tys}{i:Nat}{σ:Sto}(k:TOk T P){f:FuncId}{fn:Func}{c:Code}{ds:List D}{R:D->Sto->Prop}(z:P.funcs[f]?=some fn)(y:fn.body=some c)(A:ds.length<=fn.ntmps)
 (h:AWp i P fn.ntmps c (env0 0 ds) σ λe τ' g=>(e=.normal∨e=.ret)/\∃d,uu T fn.results.toList τ' g=some d/\∃a b,R a b/\Gho P g b d a):rI i P f ds σ R:=by
 have l:=F7 (R:=λd s=>∃a b,R a b/\Gho P s b d a) k z y A h;intro B G w j x C;refine(l B G w j x C).mono ?_;rintro e I ⟨v,m,d,g,rfl,o,p,q,a,b,t,u⟩;obtain⟨n,E,F,H⟩:=u B m I v p q;exact⟨v,n,a,b,rfl,o.trans E.b,F,H,t⟩
def Hi:aw->List Nat->aw
 |[],_=>[]
 |(t,d)::r,seen=>match seen.any (Nat.beq t) with
  |true=>Hi r seen
  |false=>(t,d)::Hi r (t::seen)
def Hj:∀(τ:aw)(seen:List Nat)(t:Nat)(d:SV),lf (Hi τ seen) t=some d->seen.any (Nat.beq t)=false/\lf τ t=some d
 |[],_,_,_,h=>by simp[Hi,lf]at h
 |(i,x)::r,seen,t,d,h=>by
  simp only[Hi]at h;split at h
  ·rename_i c;obtain⟨a,b⟩:=Hj r seen t d h;refine⟨a,?_⟩;have:i≠t:=λe=>by subst e;rw[c]at a;cases a
   rw[uh,am4 this];exact b
  ·rename_i c;rw[uh]at h⊢;by_cases e:i=t
   ·subst e;rw[amE rfl]at h⊢;exact⟨c,h⟩
   ·rw[am4 e]at h⊢;obtain⟨a,b⟩:=Hj r (i::seen) t d h;simp only[List.any_cons,apQ]at a;exact⟨a.2,b⟩
def ER.tidy{S:ae}{σ:Sto}{τ:aw}{τ':Env}(h:ER S σ τ τ'):ER S σ (Hi τ []) τ':=λt v a=>h t v (Hj τ [] t v a).2
def A7{α:Type}(fid key i:Nat):List fN->aw->ae->(AEx->aw->ae->Option α)->Option α->Option α
 |[],_,_,_,a=>a
 |e::b,τ,S,k,a=>match Nat.beq e.fid fid&&Nat.beq e.key key&&Nat.ble i e.i with
  |true=>match (e.head.get e.i S τ S).bind (kQ e.head.tcs) with
   |some x=>match e.exits.all λq=>sC e.head.objs q.2.objs with
    |true=>(e.fn x).bind λy=>sgo S e.exits y k
    |false=>none
   |none=>A7 fid key i b τ S k a
  |false=>A7 fid key i b τ S k a
def K4(x:Operand)(b:Bool)(τ:aw):aw:=match x with
 |.tmp t=>(t,.bool b)::τ
 |_=>τ
def vX:Nat->List SV->aw
 |_,[]=>[]
 |i,v::a=>(i,v)::vX (i+1) a
def AP:AEx->Bool
 |.normal=>true
 |.ret=>true
 |_=>false
def UL:ae->Nat->Nat
 |[],k=>k
 |_::S,k=>UL S (Nat.add k 1)
def K5(cx:Cx)(run:(h:Type)->Nat->Nat->Nat->Code->aw->ae->(AEx->aw->ae->Option h)->Option h){α:Type}:mL α:=λf g S K=>match okF cx.P f with
 |some b=>match b.body,Nat.ble g.length b.ntmps with
  |some c,true=>match lk cx.J (UL S (Nat.add 2199023255552 (Nat.mul f 4096))) with
   |some d=>match d.all λq=>rC S.length 0 q.2.objs with
    |true=>(run (XS d.tcs) f b.ntmps S.length c (vX 0 g) S λe τ' a=>Cz d S.length S e τ' a).bind λy=>sgo S d y λe τ' a=>match AP e with
     |true=>J7 cx.T τ' a b.results.toList λv=>K v a
     |false=>none
    |false=>none
   |none=>run α f b.ntmps S.length c (vX 0 g) S λe τ' a=>match AP e with
    |true=>J7 cx.T τ' a b.results.toList λv=>K v a
    |false=>none
  |_,_=>none
 |none=>none
def alN(a:bh):List Nat:=a.flatMap λq=>q.2.env.filterMap λp=>match p.2 with
 |.hole _=>some p.1
 |_=>none
def WK:ae->Nat->Nat
 |[],k=>k
 |o::S,k=>match o with
  |.raw .dead=>Nat.add k 512
  |_=>WK S k
def WL(J:Tr bh)(k:Nat):Nat->Option (Nat×bh)
 |0=>none
 |n+1=>match lk J (Nat.add k n) with
  |some a=>some (n,a)
  |none=>WL J k n
def sd(cx:Cx)(g:(α:Type)->Nat->Nat->Nat->Nat->Code->aw->ae->(AEx->aw->ae->Option α)->Option α)(α:Type)(fid N i lr:Nat)(c:Code)(τ:aw)(S:ae)(k:AEx->aw->ae->Option α):Option α:=match c with
 |.skip=>k .normal τ S
 |.label _=>k .normal τ S
 |.ret=>k .ret τ S
 |.exit id=>k (.exit id) τ S
 |.seq a b=>g α fid N i lr a τ S λe τ' d=>match e with
  |.normal=>g α fid N i (DM lr a) b τ' d k
  |e=>k e τ' d
 |.cond x a b=>match sev τ x with
  |some (.bool t)=>match lk cx.J (UL S (Nat.mul (Nat.add (Nat.mul fid 65536) lr) 1024)) with
   |some l=>match l.all λq=>rC i 0 q.2.objs with
    |true=>(cond t (g _ fid N i lr a (K4 x true τ) S λe τ' d=>Cz l i S e τ' d) (g _ fid N i lr b (K4 x false τ) S λe τ' d=>Cz l i S e τ' d)).bind λy=>sgo S l y k
    |false=>none
   |none=>cond t (g α fid N i lr a (K4 x true τ) S k) (g α fid N i lr b (K4 x false τ) S k)
  |_=>none
 |.block id b=>g α fid N i lr b τ S λe τ' d=>match e with
  |.exit j=>match Nat.beq j id with
   |true=>k .normal τ' d
   |false=>k (.exit j) τ' d
  |e=>k e τ' d
 |.loop b=>A7 fid (vS b) i cx.L τ S k (g α fid N i lr b (Hi τ []) S λe τ' d=>match e with
  |.normal=>g α fid N i lr (.loop b) τ' d k
  |e=>k e τ' d)
 |.scope b=>g α fid N i lr b τ S λe τ' d=>match e with
  |.goto _=>none
  |e=>k e τ' d
 |.region _ ops false=>Hg cx fid N (K5 cx λh f N i c τ S k=>g h f N i 65535 c τ S k) ops ops.toList τ S λτ' d=>k .normal τ' d
 |.region id ops true=>match SO ops with
  |some q=>U5 cx fid N (K5 cx λh f N i c τ S k=>g h f N i 65535 c τ S k) ops q.1 q.2 τ S λτ' d=>k .normal τ' d
  |none=>match WL cx.J (WK S (Nat.add 1099511627776 (Nat.mul (Nat.add (Nat.mul fid 65536) id) 1024))) ops.size with
   |some q=>match q.2.all λp=>rC i 0 p.2.objs with
    |true=>Kk cx fid N (K5 cx λh f N i c τ S k=>g h f N i 65535 c τ S k) ops [] q.1 (Vb cx fid N (K5 cx λh f N i c τ S k=>g h f N i 65535 c τ S k) (λτ' d=>No (alN q.2) τ' d λm o=>Cz q.2 i S .normal m o) 4) (λy=>sgo S q.2 y k) τ S
    |false=>none
   |none=>match lk cx.J (Nat.add 4398046511104 (Nat.add (Nat.mul fid 65536) id)) with
    |some q=>(YT (alX q) S).bind λn=>SN cx fid N ops τ n λτ' d=>k .normal τ' d
    |none=>SN cx fid N ops τ S λτ' d=>k .normal τ' d
 |_=>none
def yd(cx:Cx)(n:Nat){α:Type}:Nat->Nat->Nat->Nat->Code->aw->ae->(AEx->aw->ae->Option α)->Option α:=(Nat.rec (motive:=λ_=>(α:Type)->Nat->Nat->Nat->Nat->Code->aw->ae->(AEx->aw->ae->Option α)->Option α) (λ_ _ _ _ _ _ _ _ _=>none) (λ_ a=>sd cx a) n:(α:Type)->Nat->Nat->Nat->Nat->Code->aw->ae->(AEx->aw->ae->Option α)->Option α) α
def lP{cx:Cx}{α:Type}{fid N i lr:Nat}{c:Code}{τ:aw}{S:ae}{k:AEx->aw->ae->Option α}:yd cx 0 fid N i lr c τ S k=none:=rfl
def lQ{cx:Cx}{n:Nat}{α:Type}{fid N i lr:Nat}{c:Code}{τ:aw}{S:ae}{k:AEx->aw->ae->Option α}:yd cx (n+1) fid N i lr c τ S k=sd cx (λ_=>yd cx n) α fid N i lr c τ S k:=rfl
def ER.env0{S:ae}{σ:Sto}:∀{vs:List SV}{ds:List D}{i:Nat},VRs S σ vs ds->ER S σ (vX i vs) (env0 i ds)
 |[],_,_,h=>λt v c=>by simp[vX,lf]at c
 |v::vs,_,i,h=>by
  simp only[VRs]at h;obtain⟨e,d,rfl,a,b⟩:=h;exact(ER.env0 b).push a
def Nq(c body:Code):Prop:=∀a b,b∈cN a c->b∈cN a body
def LWp.low{i j N:Nat}{P:Program}{c:Code}{τ:Env}{σ:Sto}{Q:AEx->Env->Sto->Prop}(g:i<=j)(h:LWp j P N c τ σ Q):LWp i P N c τ σ Q:=by
 intro B G w a s t b k p;obtain⟨e,o,y,x,f⟩:=h B G w a s t b k p;refine⟨e,o,y,?_,f⟩;have m:∀{G d:Gh},G.LeB j d->G.LeB i d:=λh=>⟨h.imm,h.mimm,h.siz,λl u b v=>h.blk l u b (am9 v g)⟩;cases e<;>simp only[jP]at x⊢<;>first
  |exact x
  |(obtain⟨d,τ',n,q,f⟩:=x;exact⟨d,τ',n,m q,f⟩)
def vW.back{i:Nat}{x:bh}{y:XS x.tcs}{head:Pat}{S S2:ae}{σ σ2:Sto}{e:AEx}{τ':Env}{σ':Sto}(h:vW i x y S2 σ2 e τ' σ')(U:KpR head S S σ σ2)(V:∀q∈x,sC head.objs q.2.objs=true)
 (R:∀(j:Nat) f b,head.objs[j]?=some (.arr f b true)->∀t H N g,S[j]?=some (.arr t H N g)->∃a,S2[j]?=some (.arr t H a 0)):vW i x y S σ e τ' σ':=by
 obtain⟨m,p,l,C,P,Q⟩:=h;refine⟨m,p,l,C,P,λG=> ?_⟩;obtain⟨τ,I,W,X,Y,Z,k5⟩:=Q G;refine⟨τ,I,W,X,Y,Z,λj f b E g t1 x1 f1 c=> ?_⟩;obtain⟨F,B,D⟩:=Hh (V _ (amS C)) j f b E;obtain⟨t3,x3,f3,g3,z,_,A⟩:=U j F B D;rw[c]at z;cases z;obtain⟨a,n⟩:=R j F B D _ _ _ _ c;obtain⟨t4,x4,L,O,c1,J,K⟩:=k5 j f b E 0 _ _ _ n;refine⟨t4,x4,L,O,c1,λd w=>J d ?_,λk o d w=>K k o d ?_⟩
 ·obtain⟨M,u,s,v⟩:=(w.2 _ _ _ _ c).2 rfl;exact .mk n (by rw[A];exact s) v
 ·obtain⟨M,u,s,v⟩:=(w.2 _ _ _ _ c).2 rfl;exact .mk n (by rw[A];exact s) v
def OV{α:Type}{P:Program}{fid key i:Nat}{S:ae}{σ:Sto}{τ:aw}{τ':Env}{k:AEx->aw->ae->Option α}{j:Option α}{r:α}{fn:Func}{body b:Code}(f:P.funcs[fid]?=some fn)(u:fn.body=some body)(w:b∈cN key body)(s:ER S σ τ τ')(t:StR S σ):
 ∀(L:List fN),(∀e∈L,LOk P e)->A7 fid key i L τ S k j=some r->j=some r∨LWp i P fn.ntmps b τ' σ (vV i S σ k r)
 |[],_,h=>.inl h
 |e::q,hL,h=>by
  have a:A7 fid key i q τ S k j=some r->j=some r∨LWp i P fn.ntmps b τ' σ (vV i S σ k r):=λh=>OV f u w s t q (λe J=>hL e (amF _ J)) h;simp only[A7]at h;split at h
  ·rename_i g;simp only[amk]at g;have A:=bu g.1.1;have B:=bu g.1.2;have v:=amx g.2;split at h
   ·rename_i x m;obtain⟨l,K,m⟩:=ak m;split at h<;>try (cases h;done)
    rename_i d;obtain⟨y,O,h⟩:=ak h;have c:=iD _ m;obtain⟨o,n,F,I,H⟩:=Pat.norm (N:=fn.ntmps) K s t;obtain⟨p,z,C,V,D,E,G⟩:=H λ_=>0;refine .inr (LWp.low v (LWp.sgho F (LWp.mono (hL e (am0 ..) fn body (by rw[A];exact f) u b (by rw[B];exact w) x y O p z (by rw[c];exact C) o n D E) ?_)));exact λU R Q M=>(M.back I (amM.1 d) G).go v h
   ·exact a h
  ·exact a h
def vV.trans{α:Type}{i:Nat}{S0 c:ae}{a b:Sto}{k:AEx->aw->ae->Option α}{r:α}(h:mN i S0 a c b){e:AEx}{τ':Env}{σ':Sto}(x:vV i c b k r e τ' σ'):vV i S0 a k r e τ' σ':=by
 obtain⟨τ,S,d,f,g,j⟩:=x;exact⟨τ,S,d,f,h.trans g,j⟩
def mN.refl(i:Nat)(S:ae)(σ:Sto):mN i S σ S σ:=(aP.refl S σ).i
def COk(cx:Cx)(n:Nat):Prop:=∀(α:Type)(d i f:Nat)(c:Code)(τ:aw)(S:ae)(k:AEx->aw->ae->Option α)(r:α)(e:Func)(a:Code),
    cx.P.funcs[d]?=some e->e.body=some a->Nq c a->yd cx n d e.ntmps i f c τ S k=some r->∀(τ':Env)(σ:Sto),ER S σ τ τ'->StR S σ->
    AWp i cx.P e.ntmps c τ' σ (vV i S σ k r)/\∀b,c=.loop b->LWp i cx.P e.ntmps b τ' σ (vV i S σ k r)
def Nr{cx:Cx}(t:lg cx){n:Nat}(R:COk cx n){α:Type}:ui cx.P (α:=α) (K5 cx λβ f N i c τ S k=>yd cx n f N i 65535 c τ S k):=by
 intro f V S K r h;unfold K5 at h;split at h<;>try (cases h;done)
 rename_i b u;obtain⟨z,X⟩:=fD u;split at h<;>try (cases h;done)
 rename_i q l Q;refine⟨X,λσ C o G=> ?_⟩;have P:=G.length;have s:∀{e:AEx}{g:Env}{a:Sto},vV S.length S σ (λe τ' p=>match AP e with|true=>J7 cx.T τ' p b.results.toList λv=>K v p|false=>none) r e g a->
  (e=.normal∨e=.ret)/\∃d,uu cx.T b.results.toList g a=some d/\∃O U,Post S σ K r O U/\Gho cx.P a U d O:=by
  rintro e g a ⟨L,M,D,A,F,m⟩;simp only at m;split at m<;>try (cases m;done)
  rename_i he;refine⟨by cases e<;>first|exact .inl rfl|exact .inr rfl|(simp[AP]at he),?_⟩;obtain⟨v,W,d,k1,k2,k3,k4⟩:=Qs A D m;exact⟨W,k4,d,a,⟨v,M,k1,k2,A,F.full⟩,Gho.weak k3⟩
 split at h
 ·rename_i ex j3;split at h<;>try (cases h;done)
  rename_i j;have j:=amM.1 j;obtain⟨y,hy,E⟩:=ak h;have B:=(R _ f S.length 65535 q (vX 0 V) S _ y b q z l (λ_ _ H=>H) hy (env0 0 C) σ (ER.env0 G) o).1;have w:AWp S.length cx.P b.ntmps q (env0 0 C) σ (vV S.length S σ (λe τ' p=>match AP e with|true=>J7 cx.T τ' p b.results.toList λv=>K v p|false=>none) r):=by
   refine AWp.post (B.mono ?_);rintro e g a ⟨L,M,D,A,F,m⟩;obtain⟨J,I,Y,Z⟩:=qk (N:=b.ntmps) m D A F j;exact⟨J,I,Y,Z.go (amt _) E⟩
  rw[o.len]at w;exact uj t.tok z l (by rw[P];exact amx Q) (w.mono λe g a x=>by rw[<-o.len]at x;exact s x)
 ·have B:=(R _ f S.length 65535 q (vX 0 V) S _ r b q z l (λ_ _ H=>H) h (env0 0 C) σ (ER.env0 G) o).1;rw[o.len]at B;exact uj t.tok z l (by rw[P];exact amx Q) (B.mono λe g a x=>by rw[<-o.len]at x;exact s x)
def Rw{cx:Cx}(y:∀e∈cx.L,LOk cx.P e){n:Nat}(w:COk cx n){α:Type}{fid i lr:Nat}{b:Code}{τ:aw}{S:ae}{k:AEx->aw->ae->Option α}{r:α}{fn:Func}{body:Code}
 (d:cx.P.funcs[fid]?=some fn)(p:fn.body=some body)(a:Nq (.loop b) body)(h:yd cx (n+1) fid fn.ntmps i lr (.loop b) τ S k=some r){τ':Env}{σ:Sto}(u:ER S σ τ τ')(v:StR S σ):LWp i cx.P fn.ntmps b τ' σ (vV i S σ k r):=by
 simp only[lP,lQ,sd,reduceCtorEq]at h;have z:b∈cN (vS b) body:=a _ b (by simp[cN]);have B:Nq b body:=λq x A=>a q x (by simp[cN,A]);rcases OV d p z u v cx.L y h with h|h
 ·refine J1 ((w _ fid i lr b _ S _ r fn body d p B h τ' σ u.tidy v).1.mono ?_);rintro e t s ⟨c,f,g,j,o,m⟩;cases e with
  |normal=>exact((w _ fid i lr (.loop b) c f k r fn body d p a m t s g j).2 b rfl).mono λe τ σ x=>x.trans o
  |exit id=>exact⟨c,f,g,j,o,m⟩
  |goto l=>exact⟨c,f,g,j,o,m⟩
  |ret=>exact⟨c,f,g,j,o,m⟩
 ·exact h
def CA{cx:Cx}(H:lg cx)(hL:∀e∈cx.L,LOk cx.P e):∀(n:Nat),COk cx n
 |0=>λα F i V c τ S k r K g _ _ _ h _ _ _ _=>by simp[lP]at h
 |n+1=>by
  have L:=CA H hL n;intro α F i V c τ S k r K g C R v h τ' σ J I;refine⟨?_,λb e=>by subst e;exact Rw hL L C R v h J I⟩;cases c<;>(try (simp[lQ,sd]at h;done))
  case skip=>exact nJ ⟨τ,S,J,I,.refl _ _ _,h⟩
  case label=>exact Q2 ⟨τ,S,J,I,.refl _ _ _,h⟩
  case ret=>exact oy ⟨τ,S,J,I,.refl _ _ _,h⟩
  case exit id=>exact MA ⟨τ,S,J,I,.refl _ _ _,h⟩
  case seq a b=>
   simp only[lP,lQ,sd,reduceCtorEq]at h;refine du ((L _ F i V a τ S _ r K g C R (λA x M=>v A x (by simp[cN,M])) h τ' σ J I).1.mono ?_);rintro e E D ⟨f,z,m,p,s,j⟩;cases e with
   |normal=>exact(L _ F i _ b f z k r K g C R (λA x M=>v A x (by simp[cN,M])) j E D m p).1.mono λe τ σ x=>x.trans s
   |exit id=>exact⟨f,z,m,p,s,j⟩
   |goto l=>exact⟨f,z,m,p,s,j⟩
   |ret=>exact⟨f,z,m,p,s,j⟩
  case cond x a b=>
   simp only[lP,lQ,sd,reduceCtorEq]at h;split at h<;>try (cases h;done)
   rename_i t ht;obtain⟨d,Y,Z⟩:=fE J ht;simp only[VR]at Z;subst Z;have U:ER S σ (K4 x t τ) τ':=by
    unfold K4;split
    ·exact J.setB Y
    ·exact J
   have sa:Nq a g:=λA x M=>v A x (by simp[cN,M]);have sb:Nq b g:=λA x M=>v A x (by simp[cN,M]);split at h
   ·rename_i ex j5;split at h<;>try (cases h;done)
    rename_i u;have u:=amM.1 u;obtain⟨y,hy,hk⟩:=ak h;clear h;refine AWp.post ?_;rcases aY hy with⟨rfl,hy⟩|⟨rfl,hy⟩
    ·refine qg Y ((L _ F i V a _ S _ y K g C R sa hy τ' σ U I).1.mono ?_);rintro e E D ⟨f,z,m,p,s,j⟩;obtain⟨Q,O,W,X⟩:=qk (N:=K.ntmps) j m p s u;exact⟨Q,O,W,X.go (amt _) hk⟩
    ·refine kg Y ((L _ F i V b _ S _ y K g C R sb hy τ' σ U I).1.mono ?_);rintro e E D ⟨f,z,m,p,s,j⟩;obtain⟨Q,O,W,X⟩:=qk (N:=K.ntmps) j m p s u;exact⟨Q,O,W,X.go (amt _) hk⟩
   ·rcases aY h with⟨rfl,h⟩|⟨rfl,h⟩
    ·exact qg Y (L _ F i V a _ S k r K g C R sa h τ' σ U I).1
    ·exact kg Y (L _ F i V b _ S k r K g C R sb h τ' σ U I).1
  case block id b=>
   simp only[lP,lQ,sd,reduceCtorEq]at h;refine C0 ((L _ F i V b τ S _ r K g C R (λA x M=>v A x (by simpa[cN] using M)) h τ' σ J I).1.mono ?_);rintro e E D ⟨f,z,m,p,s,j⟩;cases e with
   |normal=>exact⟨f,z,m,p,s,j⟩
   |exit j6=>
    simp only[NX];simp only at j;split at j
    ·rename_i he;rw[amE (bu he)];exact⟨f,z,m,p,s,j⟩
    ·rename_i he;rw[am4 (λe=>by subst e;rw[apm]at he;cases he)];exact⟨f,z,m,p,s,j⟩
   |goto l=>exact⟨f,z,m,p,s,j⟩
   |ret=>exact⟨f,z,m,p,s,j⟩
  case scope b=>
   simp only[lP,lQ,sd,reduceCtorEq]at h;refine Rr ((L _ F i V b τ S _ r K g C R (λA x M=>v A x (by simpa[cN] using M)) h τ' σ J I).1.mono ?_);rintro e E D ⟨f,z,m,p,s,j⟩;cases e with
   |normal=>exact⟨f,z,m,p,s,j⟩
   |exit id=>exact⟨f,z,m,p,s,j⟩
   |goto l=>cases j
   |ret=>exact⟨f,z,m,p,s,j⟩
  case loop b=>exact Rq (Rw hL L C R v h J I)
  case region id ops draw=>
   cases draw with
   |true=>
    simp only[lP,lQ,sd,reduceCtorEq]at h;split at h
    ·rename_i q hq;refine(aaQ (pre:=q.1) (o:=q.2) H (Nr H L) I J (by rw[hq]) h).mono ?_;rintro e E D ⟨rfl,f,z,m,p,s,j⟩;exact⟨f,z,m,p,s.i,j⟩
    ·split at h
     ·rename_i q hq;split at h<;>try (cases h;done)
      rename_i u;have u:=amM.1 u;refine AWp.post ((aaU H (Nr H L) I J h).mono ?_);rintro e E D ⟨rfl,y,j3,f,z,m,p,s,j⟩;obtain⟨j9,j4,S4,j8,g1,g2,g3,g4,j⟩:=FD (P:=cx.P) (N:=K.ntmps) _ p m j;obtain⟨Q,O,W,X⟩:=qk (N:=K.ntmps) j g3 g2 (s.trans g4).i u;refine⟨Q,O,λB G w a hR hT=> ?_,X.go (amt _) j3⟩;obtain⟨G1,l1,R1,t1⟩:=g1 B G w a hR hT;obtain⟨G2,l2,R2,t2⟩:=W B G1 w a R1 t1;exact⟨G2,l1.b.trans l2,R2,t2⟩
     ·split at h
      ·obtain⟨S1,hf,h⟩:=ak h;obtain⟨j7,f1,f2,f3⟩:=Xd (P:=cx.P) hf I;refine AWp.preG (f3 _ _) ((U4 H f1 (J.pres f2) h).mono ?_);rintro e E D ⟨rfl,f,z,m,p,s,j⟩;exact⟨f,z,m,p,(f2.trans s).i,j⟩
      ·refine(U4 H I J h).mono ?_;rintro e E D ⟨rfl,f,z,m,p,s,j⟩;exact⟨f,z,m,p,s.i,j⟩
   |false=>
    simp only[lP,lQ,sd,reduceCtorEq]at h;refine bS (fu.monoK ?_ _ _ _ (FE H (Nr H L) _ _ _ _ _ I J h));rintro E D ⟨f,z,m,p,s,j⟩;exact⟨f,z,m,p,s.i,j⟩
end
end Go.Fw
namespace Go.Fw
noncomputable section
open Go.RowKit
def DN:∀(a:List TC)(x:Tup a),(eY a x).map (·.t)=a
 |[],_=>rfl
 |[_],_=>rfl
 |t::u::a,x=>by simp only[eY,amz,DN (u::a) x.2]
mutual
def PV.put_some(G:Nat->Nat):∀(p:PV)(l r:List DV),l.map (·.t)=p.tcs->∃v,p.put G (l++r)=some (v,r)
 |.hole t,l,r,h=>by
  match l,h with
  |[x],_=>exact⟨lh x,rfl⟩
  |[],h=>simp[PV.tcs]at h
  |_::_::_,h=>simp[PV.tcs]at h
 |.raw d,l,r,h=>by
  have:l=[]:=by simpa[PV.tcs] using h
  subst this;exact⟨_,rfl⟩
 |.ptr i o,l,r,h=>by
  have:l=[]:=by simpa[PV.tcs] using h
  subst this;exact⟨_,rfl⟩
 |.nils,l,r,h=>by
  have:l=[]:=by simpa[PV.tcs] using h
  subst this;exact⟨_,rfl⟩
 |.own i,l,r,h=>by
  have:l=[]:=by simpa[PV.tcs] using h
  subst this;exact⟨_,rfl⟩
 |.junk,l,r,h=>by
  have:l=[]:=by simpa[PV.tcs] using h
  subst this;exact⟨_,rfl⟩
 |.ilit _ _,l,r,h=>by
  have:l=[]:=by simpa[PV.tcs] using h
  subst this;exact⟨_,rfl⟩
 |.slit _,l,r,h=>by
  have:l=[]:=by simpa[PV.tcs] using h
  subst this;exact⟨_,rfl⟩
 |.blit _,l,r,h=>by
  have:l=[]:=by simpa[PV.tcs] using h
  subst this;exact⟨_,rfl⟩
 |.mp _,l,r,h=>by
  have:l=[]:=by simpa[PV.tcs] using h
  subst this;exact⟨_,rfl⟩
 |.rp t o,l,r,h=>by
  match l,h with
  |[x],_=>exact⟨.rp x.t x.x o,rfl⟩
  |[],h=>simp[PV.tcs]at h
  |_::_::_,h=>simp[PV.tcs]at h
 |.agg ps,l,r,h=>by
  obtain⟨vs,hv⟩:=PV.puts_some G ps l r h;exact⟨.agg vs,by simp only[PV.put,hv]⟩
 |.tup ps,l,r,h=>by
  obtain⟨vs,hv⟩:=PV.puts_some G ps l r h;exact⟨.tup vs,by simp only[PV.put,hv]⟩
 |.func fn a b,l,r,h=>by
  simp only[PV.tcs]at h;obtain⟨l1,l2,rfl,h1,h2⟩:=List.map_eq_append_iff.1 h;obtain⟨va,ha⟩:=PV.puts_some G a l1 (l2++r) h1;obtain⟨vb,hb⟩:=PV.puts_some G b l2 r h2;exact⟨.func fn va vb,by simp only[PV.put,amL,ha,hb]⟩
 |.iface t p,l,r,h=>by
  obtain⟨v,hv⟩:=PV.put_some G p l r h;exact⟨.iface t v,by simp only[PV.put,hv]⟩
 |.rc ps o,l,r,h=>by
  obtain⟨vs,hv⟩:=PV.puts_some G ps l r h;exact⟨.rc vs o,by simp only[PV.put,hv]⟩
def PV.puts_some (G:Nat->Nat):∀(ps:List PV)(l r:List DV),l.map (·.t)=PV.tcss ps->∃vs,PV.puts G ps (l++r)=some (vs,r)
 |[],l,r,h=>by
  have:l=[]:=by simpa[PV.tcss] using h
  subst this;exact⟨[],rfl⟩
 |p::ps,l,r,h=>by
  simp only[PV.tcss]at h;obtain⟨l1,l2,rfl,h1,h2⟩:=List.map_eq_append_iff.1 h;obtain⟨v,hv⟩:=PV.put_some G p l1 (l2++r) h1;obtain⟨vs,hs⟩:=PV.puts_some G ps l2 r h2;exact⟨v::vs,by simp only[PV.puts,amL,hv,hs]⟩
end
mutual
def PV.pure:PV->Bool
 |.raw d=>d.pure
 |.ptr _ _=>false
 |.own _=>false
 |.rp _ _=>false
 |.mp _=>false
 |.agg ps=>PV.pures ps
 |.tup ps=>PV.pures ps
 |.func _ a b=>PV.pures a&&PV.pures b
 |.iface _ p=>p.pure
 |.rc ps _=>PV.pures ps
 |_=>true
def PV.pures:List PV->Bool
 |[]=>true
 |p::ps=>p.pure&&PV.pures ps
end
def Ek:∀(t:TC)(x:t.Den),SV.pures (t.scells x)=true
 |.byte,_=>rfl
 |.int _,_=>rfl
 |.bool,_=>rfl
 |.str,_=>rfl
 |.sl _,_=>rfl
 |.pair a b,x=>by
  have app:∀{l m:List SV},SV.pures l=true->SV.pures m=true->SV.pures (l++m)=true:=by
   intro l;induction l with
   |nil=>intro m _ h;exact h
   |cons v l e=>intro m c d;simp only[SV.pures,anf,amk]at c⊢;exact⟨c.1,e c.2 d⟩
  exact app (Ek a x.1) (Ek b x.2)
 |.unit,_=>rfl
 |.node,.mk _ _ _ _ _=>rfl
 |.spot,.mk _ _ (.mk _ _ _ _ _) _=>rfl
def aaG(x:DV):(lh x).pure=true:=by
 unfold lh;split<;>first|rfl|exact Ek _ _
mutual
def PV.put_pure{G:Nat->Nat}:∀(p:PV){l r:List DV}{v:SV},p.put G l=some (v,r)->p.pure=true->v.pure=true
 |.hole t,l,r,v,h,_=>by
  simp only[PV.put]at h;split at h<;>cases h;exact aaG _
 |.raw d,l,r,v,h,hp=>by cases h;exact hp
 |.ptr i o,l,r,v,h,hp=>by cases hp
 |.nils,l,r,v,h,hp=>by cases h;rfl
 |.own i,l,r,v,h,hp=>by cases hp
 |.junk,l,r,v,h,hp=>by cases h;rfl
 |.ilit _ _,l,r,v,h,hp=>by cases h;rfl
 |.slit _,l,r,v,h,hp=>by cases h;rfl
 |.blit _,l,r,v,h,hp=>by cases h;rfl
 |.rp _ _,l,r,v,h,hp=>by cases hp
 |.mp _,l,r,v,h,hp=>by cases hp
 |.agg ps,l,r,v,h,hp=>by
  simp only[PV.put]at h;split at h<;>cases h;rename_i hs;exact PV.puts_pure ps hs hp
 |.tup ps,l,r,v,h,hp=>by
  simp only[PV.put]at h;split at h<;>cases h;rename_i hs;exact PV.puts_pure ps hs hp
 |.func fn a b,l,r,v,h,hp=>by
  simp only[PV.put]at h;split at h<;>try (cases h;done)
  rename_i ha;split at h<;>cases h;rename_i hb;simp only[PV.pure,amk]at hp;simp only[SV.pure,PV.puts_pure a ha hp.1,PV.puts_pure b hb hp.2,an2]
 |.iface t p,l,r,v,h,hp=>by
  simp only[PV.put]at h;split at h<;>cases h;rename_i hs;have:=PV.put_pure p hs hp;exact this
 |.rc ps o,l,r,v,h,hp=>by
  simp only[PV.put]at h;split at h<;>cases h;rename_i hs;exact PV.puts_pure ps hs hp
def PV.puts_pure {G:Nat->Nat}:∀(ps:List PV){l r:List DV}{vs:List SV},PV.puts G ps l=some (vs,r)->PV.pures ps=true->SV.pures vs=true
 |[],l,r,vs,h,_=>by
  simp only[PV.puts,amn,amJ]at h;rw[<-h.1];rfl
 |p::ps,l,r,vs,h,hp=>by
  simp only[PV.puts]at h;split at h<;>try (cases h;done)
  rename_i h1;split at h<;>cases h;rename_i h2;simp only[PV.pures,amk]at hp;simp only[SV.pures,PV.put_pure p h1 hp.1,PV.puts_pure ps h2 hp.2,an2]
end
def IC{P:Program}{i:Nat}{f:FuncId}{ds:List D}{d:D}(B:br ds=true)(p:d.pure=true)(h:rI i P f ds [] λm _=>m=d):cy P f ds d:=by
 intro G w c k A C;let B0:bL P:=⟨w,G,A,λb o v h=>eO (k.imm b o v h),λb t h=>bD (k.mimm b t h).1⟩;have z:Rel B0 G.strip [] w:=by
  refine⟨anB _ _,k.imm,k.mimm,k.siz,?_,?_,?_,?_,?_,?_,?_,λ_ _ _=>rfl,λ_ _=>rfl⟩
  ·intro l u b n;cases n
  ·intro l u J K b n;cases n
  ·intro l s b a;simp at a
  ·intro l H y u b a;simp at a
  ·intro l I L b a;simp at a
  ·intro l s a;simp at a
  ·intro l s a;simp at a
 refine(h B0 G.strip w c z (af.pure (G:=G) (G':=G.strip) (λ_ _ _ x=>x) (λ_ _ x=>x) ds c B C)).mono ?_;rintro e M ⟨v,q,m,F,rfl,g,j,E,rfl⟩;let r:Gh:={q with blk:=G.blk};refine⟨v,r,rfl,?_,Rep.pure (G:=q) (G':=r) (λ_ _ _ x=>x) (λ_ _ x=>x) m v p E⟩;exact {
  le:=⟨g.imm,g.mimm,λ_ _ _ x=>x,g.siz⟩
  below:=j.below
  blk:=rfl
  imm:=j.imm
  mimm:=j.mimm
  siz:=j.siz
  imm_new:=j.bimm
  mimm_new:=j.bmimm}
mutual
def J9(S:ae)(σ:Sto):∀(v:SV),v.pure=true->VR S σ v v.can
 |.int _ _,_=>by simp only[SV.can,VR]
 |.bool _,_=>by simp only[SV.can,VR]
 |.str _,_=>by simp only[SV.can,VR]
 |.sl t xs f,_=>by simp only[SV.can,VR];exact⟨f,rfl,id⟩
 |.nils,_=>by simp only[SV.can,VR]
 |.lst cs n f,p=>by simp only[SV.can,VR];exact⟨_,f,rfl,id,nZ S σ cs p⟩
 |.agg cs,p=>by simp only[SV.can,VR];exact⟨_,rfl,nZ S σ cs p⟩
 |.tup cs,p=>by simp only[SV.can,VR];exact⟨_,rfl,nZ S σ cs p⟩
 |.func _ a b,p=>by
  simp only[SV.pure,amk]at p;simp only[SV.can,VR];exact⟨_,_,rfl,nZ S σ a p.1,nZ S σ b p.2⟩
 |.iface _ v,p=>by simp only[SV.can,VR];exact⟨_,rfl,J9 S σ v p⟩
 |.own _ _,p=>by cases p
 |.ap _ _ _ _,p=>by cases p
 |.rp _ _ _,p=>by cases p
 |.rc cs _,p=>by simp only[SV.can,VR];exact⟨_,rfl,nZ S σ cs p⟩
 |.raw _,_=>by simp only[SV.can,VR]
def nZ (S:ae) (σ:Sto):∀(vs:List SV),SV.pures vs=true->VRs S σ vs (SV.cans vs)
 |[],_=>by simp only[SV.cans,VRs]
 |v::vs,p=>by
  simp only[SV.pures,amk]at p;simp only[SV.cans,VRs];exact⟨_,_,rfl,J9 S σ v p.1,nZ S σ vs p.2⟩
end
def UM{v:SV}(p:v.pure=true)(S:ae)(σ:Sto):VR S σ v v.can:=J9 S σ v p
def CC(cx:Cx)(f:FuncId)(ap:List PV)(rp:PV)(x:Tup (PV.tcss ap)):Option (Tup rp.tcs):=
 (okF cx.P f).bind λa=>a.body.bind λc=>(PV.puts (λ_=>0) ap (eY _ x)).bind λq=>match Nat.ble q.1.length a.ntmps with
   |true=>yd cx 100000 f a.ntmps 0 65535 c (vX 0 q.1) [] λe b S=>match AP e with
    |true=>J7 cx.T b S a.results.toList λv=>(ml S v).bind λw=>(PV.get w.2 rp w.1).bind (kQ _)
    |false=>none
   |false=>none
def WM{cx:Cx}(p:lg cx)(Z:∀e∈cx.L,LOk cx.P e){f:FuncId}{c:Ctr}{fn:Func}(O:okF cx.P f=some fn)(C:PV.chks [] c.ap=true)(t:PV.chk [] c.rp=true)(F:PV.pures c.ap=true)(H:c.rp.pure=true)
 (h:∀x,CC cx f c.ap c.rp x=c.fn x):cI cx.P f c:=by
 obtain⟨L,X⟩:=fD O;refine⟨X,C,t,λx y b=> ?_⟩;obtain⟨v,A⟩:=PV.put_some (λ_=>0) c.rp (eY _ y) [] (DN _ y);rw[amG]at A;have i:=PV.put_pure _ A H;rw[<-h x]at b;unfold CC at b;rw[O]at b;obtain⟨W,r,b⟩:=ak b;cases r;obtain⟨j,N,b⟩:=ak b;obtain⟨q,P,b⟩:=ak b;split at b<;>try (cases b;done)
 rename_i E;have E:=amx E;obtain⟨n,r0⟩:=q;obtain⟨j3,a⟩:=PV.puts_some (λ_=>0) c.ap (eY _ x) [] (DN _ x);rw[amG]at a;rw[a]at P;cases P;have I:=PV.puts_pure _ a F;have w:∀k,VRs [] [] n k->rI 0 cx.P f k [] λT _=>T=v.can/\VR [] [] v v.can:=by
  intro k g;have J:=(CA p Z 100000 _ f 0 65535 j (vX 0 n) [] _ y fn j L N (λ_ _ hx=>hx) b (env0 0 k) [] (ER.env0 g) ⟨rfl,λl o D=>by simp at D⟩).1;refine uj p.tok L N (by rw[g.length];exact E) (J.mono ?_);rintro e j4 σ2 ⟨j5,S2,Y,M,hp,z⟩;simp only at z;split at z<;>try (cases z;done)
  rename_i he;refine⟨by cases e<;>first|exact .inl rfl|exact .inr rfl|(simp[AP]at he),?_⟩;obtain⟨v0,U,d,k1,k2,k3,k4⟩:=Qs M Y z;obtain⟨⟨v1,S1⟩,J,k5⟩:=ak k1;obtain⟨l,D,k6⟩:=ak k5;obtain⟨V,K,m1,m2,m3,m4⟩:=FK v0 J M k2;obtain⟨d2,n1,n2,nG⟩:=PV.get_ok (objs:=[]) _ v1 l V D t m1;obtain⟨v',B,n4⟩:=nG λ_=>0;have m:=iD _ k6;have B:=B [];rw[amG,<-m,A]at B;cases B;obtain⟨Q,R,a3⟩:=SV.can_ok (S2:=[]) (σ2:=[]) v d2 i (n4 [] [] (FC _ _ _ _ _));exact⟨U,k4,v.can,K,⟨rfl,R⟩,(Gho.weak k3).trans (m4.trans (Gho.weak (n1.trans Q)))⟩
 refine⟨v,A,?_,λvs u k g=> ?_⟩
 ·intro S σ;exact(SV.can_ok (S:=S) (σ:=σ) (S2:=S) (σ2:=σ) v v.can i (UM i S σ)).2.1
 ·rw[a]at u;cases u;obtain⟨_,G⟩:=VRs.pure (S':=[]) (σ':=[]) n k I g;refine IC G ?_ ((w k g).mono λd s x=>x.1);exact(SV.can_ok (S:=[]) (σ:=[]) (S2:=[]) (σ2:=[]) v v.can i (UM i [] [])).2.2
def aeT(t:TC)(v:SV)(S:ae):Option (List t.Den):=match v with
 |.own l g=>match S[l]? with
  |some (.arr c d a b)=>match decEq c t,Nat.beq g b&& !a with
   |isTrue h,true=>some (h▸d)
   |_,_=>none
  |_=>none
 |_=>none
def K6(cx:Cx)(f:FuncId)(ap:List PV)(t:TC)(x:Tup (PV.tcss ap)):Option (List t.Den):=
 (okF cx.P f).bind λa=>a.body.bind λc=>(PV.puts (λ_=>0) ap (eY _ x)).bind λq=>match Nat.ble q.1.length a.ntmps with
   |true=>yd cx 100000 f a.ntmps 0 65535 c (vX 0 q.1) [] λe b S=>match AP e with
    |true=>J7 cx.T b S a.results.toList λv=>aeT t v S
    |false=>none
   |false=>none
def adj{cx:Cx}(p:lg cx)(V:∀e∈cx.L,LOk cx.P e){f:FuncId}{c:mj}{fn:Func}(L:okF cx.P f=some fn)(z:PV.chks [] c.ap=true)(C:PV.pures c.ap=true)
 (h:∀x,K6 cx f c.ap c.t x=c.fn x):qi cx.P f c:=by
 obtain⟨H,T⟩:=fD L;refine⟨T,z,λx y i=> ?_⟩;rw[<-h x]at i;unfold K6 at i;rw[L]at i;obtain⟨R,r,i⟩:=ak i;cases r;obtain⟨k,K,i⟩:=ak i;obtain⟨q,M,i⟩:=ak i;split at i<;>try (cases i;done)
 rename_i B;have B:=amx B;obtain⟨t,r0⟩:=q;obtain⟨j3,b⟩:=PV.puts_some (λ_=>0) c.ap (eY _ x) [] (DN _ x);rw[amG]at b;rw[b]at M;cases M;have E:=PV.puts_pure _ b C;intro vs s G m;rw[b]at s;cases s;obtain⟨_,D⟩:=VRs.pure (S':=[]) (σ':=[]) t G E m;refine J3 D (TC.flat_pure _ _) ?_;have X:=(CA p V 100000 _ f 0 65535 k (vX 0 t) [] _ y fn k H K (λ_ _ Y=>Y) i (env0 0 G) [] (ER.env0 m) ⟨rfl,λl o w=>by simp at w⟩).1;refine uj p.tok H K (by rw[m.length];exact B) (X.mono ?_);rintro e j4 F ⟨j5,S2,U,I,hp,v⟩;simp only at v;split at v<;>try (cases v;done)
 rename_i W;refine⟨by cases e<;>first|exact .inl rfl|exact .inr rfl|(simp[AP]at W),?_⟩;obtain⟨v0,Q,d,j,O,Z,k4⟩:=Qs I U v;unfold aeT at j;split at j<;>try (cases j;done)
 rename_i l g;split at j<;>try (cases j;done)
 rename_i t' xs fz g' w;split at j<;>try (cases j;done)
 rename_i N _ n;obtain⟨ca,ct,cf⟩:=c;simp only at N j y⊢;subst N;cases j;simp only[amk,anH]at n;obtain⟨n,rfl⟩:=n;have n:=bu n;subst n;simp only[VR]at O;obtain⟨fr,u,P,rfl⟩:=(O.2 _ _ _ _ w).2 rfl;obtain⟨a,J,S,u',rfl,A⟩:=I.obj _ _ w;rw[P]at J;cases J;have:=A rfl;subst this;exact⟨Q,k4,_,F,⟨l,u,rfl,P⟩,Gho.weak Z⟩
def UN(cx:Cx)(fid N i:Nat)(head:Pat)(exits:bh)(b:Code)(rec:Tup head.tcs->Option (XS exits.tcs))(x:Tup head.tcs):Option (XS exits.tcs):=
 (head.put (λ_=>0) (eY _ x)).bind λq=>yd cx 100000 fid N i 65535 b q.1 q.2 λe a S=>match e with
   |.normal=>((head.get i q.2 a S).bind (kQ _)).bind rec
   |e=>Cz exits i q.2 e a S
def af4{key:Nat}{b:Code}:∀{c:Code},b∈cN key c->Nq b c:=by
 intro c;induction c with
 |loop c g=>
  intro h k x d;simp only[cN,am6]at h⊢;rcases h with h|h
  ·split at h
   ·simp at h;subst h;exact .inr d
   ·simp at h
  ·exact .inr (g h k x d)
 |seq a c e f=>
  intro h k x d;simp only[cN,am6]at h⊢;exact h.imp (λh=>e h k x d) (λh=>f h k x d)
 |cond o a c e f=>
  intro h k x d;simp only[cN,am6]at h⊢;exact h.imp (λh=>e h k x d) (λh=>f h k x d)
 |block id c g=>intro h k x d;exact g h k x d
 |scope c g=>intro h k x d;exact g h k x d
 |_=>intro h;simp[cN]at h
def vW.round{i:Nat}{x:bh}{y:XS x.tcs}{head:Pat}{S s S2:ae}{σ f σ2:Sto}{e:AEx}{τ':Env}{σ':Sto}(h:vW i x y S2 σ2 e τ' σ')(K:mN i S σ s f)(Y:KpR head S s f σ2)
 (hx:∀q∈x,sC head.objs q.2.objs=true)(D:rC i 0 head.objs=true)
 (X:∀(j:Nat) r n,head.objs[j]?=some (.arr r n true)->∀t M T g,s[j]?=some (.arr t M T g)->∃b,S2[j]?=some (.arr t M b 0)):vW i x y S σ e τ' σ':=by
 obtain⟨m,p,l,J,V,W⟩:=h;refine⟨m,p,l,J,V,λG=> ?_⟩;obtain⟨τ,N,k1,k2,k3,k4,k5⟩:=W G;refine⟨τ,N,k1,k2,k3,k4,λj r n L g t1 x1 f1 Z=> ?_⟩;obtain⟨F,z,C⟩:=Hh (hx _ (amS J)) j r n L;obtain⟨t3,x3,f3,I,v,a,H⟩:=Y j F z C;unfold A6 at a;rw[Z]at a;have a:=bu a;subst a;have c:j<i:=by have:=Qt D j F z C;omega
 obtain⟨b,w⟩:=X j F z C _ _ _ _ v;obtain⟨t4,x4,Q,U,c1,O,P⟩:=k5 j r n L 0 _ _ _ w;refine⟨t4,x4,Q,U,c1,λd E=>O d ?_,λk o d E=>P k o d ?_⟩
 ·obtain⟨R,u,A,B⟩:=((K.1 j I d c E).2 _ _ _ _ v).2 rfl;exact .mk w (by rw[H];exact A) B
 ·obtain⟨R,u,A,B⟩:=((K.2 j I k o d c E).2 _ _ _ _ v).2 rfl;exact .mk w (by rw[H];exact A) B
def WN{cx:Cx}(H:lg cx)(X:∀e∈cx.L,LOk cx.P e){fid key i:Nat}{head:Pat}{exits:bh}{L:Nat->Tup head.tcs->Option (XS exits.tcs)}{fn:Func}{body b:Code}(k:cx.P.funcs[fid]?=some fn)(G:fn.body=some body)
 (I:cN key body=[b])(v:(rC i 0 head.objs&&exits.all λq=>rC i 0 q.2.objs&&sC head.objs q.2.objs)=true)(U:∀x,L 0 x=none)(Y:∀n x,UN cx fid fn.ntmps i head exits b (L n) x=L (n+1) x):∀n,LOk cx.P ⟨fid,key,i,head,exits,L n⟩:=by
 simp only[amk,amM]at v;obtain⟨K,w⟩:=v;have p:∀q∈exits,rC i 0 q.2.objs=true:=λq t=>(w q t).1;have M:∀q∈exits,sC head.objs q.2.objs=true:=λq t=>(w q t).2;intro n;induction n with
 |zero=>
  intro E T _ _ D _ x y g;simp only[U]at g;cases g
 |succ n ih=>
  intro E T d u D f x y g Q S h O P V F;simp only at d f g h;rw[k]at d;cases d;rw[G]at u;cases u;rw[I]at f;simp at f;subst f;rw[<-Y]at g;unfold UN at g;obtain⟨q,t,g⟩:=ak g;rw[h]at t;cases t;have Z:=(CA H X 100000 _ fid i 65535 D Q S _ y fn body k G (af4 (by rw[I];simp)) g O P V F).1;refine J1 (AWp.post (Z.mono ?_));rintro e j4 j3 ⟨j5,S2,A,B,C,j⟩;cases e with
  |normal=>
   simp only at j;obtain⟨x',o,j⟩:=ak j;obtain⟨l,J,o⟩:=ak o;have m:=iD _ o;obtain⟨c,a,r,W,kG⟩:=Pat.norm (N:=fn.ntmps) J A B;obtain⟨z,R,s,k3,k4,k5,k6⟩:=kG λ_=>0;refine⟨c,a,r,(ih fn body k G D (by simp only[I];simp) x' y j z R (by simp only;rw[m];exact s) c a k4 k5).mono ?_⟩;exact λe Q P hx=>vW.round hx C W M K k6
  |exit id=>
   obtain⟨c,a,r,s⟩:=qk (N:=fn.ntmps) j A B C p;exact⟨c,a,r,s⟩
  |goto l=>
   obtain⟨c,a,r,s⟩:=qk (N:=fn.ntmps) j A B C p;exact⟨c,a,r,s⟩
  |ret=>
   obtain⟨c,a,r,s⟩:=qk (N:=fn.ntmps) j A B C p;exact⟨c,a,r,s⟩
end
end Go.Fw
namespace Go.Fw
noncomputable section
open Go.RowKit
def FF(P:Program):List (FuncId×Ctr)->Prop
 |[]=>True
 |(f,c)::r=>cI P f c/\FF P r
def A8(P:Program):List (FuncId×mj)->Prop
 |[]=>True
 |(f,c)::r=>qi P f c/\A8 P r
def A8.mem{P:Program}:∀{l:List (FuncId×mj)},A8 P l->∀f c,(f,c)∈l->qi P f c
 |[],_,_,_,h=>by simp at h
 |(g,d)::r,h,f,c,a=>by
  rcases amN.1 a with e|a
  ·cases e;exact h.1
  ·exact A8.mem h.2 f c a
def A9(P:Program):List (FuncId×rB)->Prop
 |[]=>True
 |(f,c)::r=>yW P f c/\A9 P r
def A9.mem{P:Program}:∀{l:List (FuncId×rB)},A9 P l->∀f c,(f,c)∈l->yW P f c
 |[],_,_,_,h=>by simp at h
 |(g,d)::r,h,f,c,a=>by
  rcases amN.1 a with e|a
  ·cases e;exact h.1
  ·exact A9.mem h.2 f c a
def Qu(P:Program):List fN->Prop
 |[]=>True
 |e::r=>LOk P e/\Qu P r
def FF.mem{P:Program}:∀{l:List (FuncId×Ctr)},FF P l->∀f c,(f,c)∈l->cI P f c
 |[],_,_,_,h=>by simp at h
 |(g,d)::r,h,f,c,a=>by
  rcases amN.1 a with e|a
  ·cases e;exact h.1
  ·exact FF.mem h.2 f c a
def Qu.mem{P:Program}:∀{l:List fN},Qu P l->∀e∈l,LOk P e
 |[],_,_,h=>by simp at h
 |d::r,h,e,a=>by
  rcases amN.1 a with rfl|a
  ·exact h.1
  ·exact Qu.mem h.2 e a
def CD{cx:Cx}(tok:TOk cx.T cx.P)(mix:cx.P.follows .mixedOrders=true)(j:FF cx.P cx.C)(hO:A8 cx.P cx.CO)(l:A9 cx.P cx.CX)(k:Qu cx.P cx.L)(f:FuncId)(c:Ctr)(m:(okF cx.P f).isSome=true)
 (b:(PV.chks [] c.ap&&(PV.chk [] c.rp&&(PV.pures c.ap&&c.rp.pure)))=true)(h:∀x,CC cx f c.ap c.rp x=c.fn x):cI cx.P f c:=by
 simp only[amk]at b;obtain⟨d,e,g,i⟩:=b;obtain⟨n,a⟩:=anw.1 m;exact WM ⟨tok,mix,j.mem,hO.mem,l.mem⟩ k.mem a d e g i h
def alO{P:Program}(f:FuncId)(c:Ctr)(e:(okF P f).isSome=true)(b:(PV.chks [] c.ap&&PV.chk [] c.rp)=true)(h:∀x,c.fn x=none):cI P f c:=by
 simp only[amk]at b;obtain⟨g,a⟩:=anw.1 e;exact⟨(fD a).2,b.1,b.2,λx y d=>by rw[h]at d;cases d⟩
def K7(P:Program)(fid key:Nat):Option (Func×Code×Code):=(P.funcs[fid]?).bind λa=>a.body.bind λc=>match cN key c with
 |[b]=>some (a,c,b)
 |_=>none
def OX(cx:Cx)(fid key i:Nat)(head:Pat)(exits:bh)(rec:Tup head.tcs->Option (XS exits.tcs))(x:Tup head.tcs):Option (XS exits.tcs):=match K7 cx.P fid key with
 |some (a,_,b)=>UN cx fid a.ntmps i head exits b rec x
 |none=>none
def ti{cx:Cx}(tok:TOk cx.T cx.P)(mix:cx.P.follows .mixedOrders=true)(l:FF cx.P cx.C)(hO:A8 cx.P cx.CO)(o:A9 cx.P cx.CX)(m:Qu cx.P cx.L)(fid key i:Nat)(head:Pat)(exits:bh)(L:Nat->Tup head.tcs->Option (XS exits.tcs))
 (p:(K7 cx.P fid key).isSome=true)(e:(rC i 0 head.objs&&exits.all λq=>rC i 0 q.2.objs&&sC head.objs q.2.objs)=true)(g:∀x,L 0 x=none)(d:∀n x,OX cx fid key i head exits (L n) x=L (n+1) x):
 ∀n,LOk cx.P ⟨fid,key,i,head,exits,L n⟩:=by
 obtain⟨⟨s,c,b⟩,a⟩:=anw.1 p;unfold OX at d;rw[a]at d;unfold K7 at a;obtain⟨f,h,a⟩:=ak a;obtain⟨r,j,a⟩:=ak a;split at a<;>cases a;rename_i k;exact WN ⟨tok,mix,l.mem,hO.mem,o.mem⟩ m.mem h j k e g d
end
end Go.Fw
namespace Go.Fw
open Go.RowKit
def cC(x:Bs):Option Bs:=app 1 [] x
def Qv:Ctr:=⟨[.hole (.sl .byte)],.hole (.sl .byte),λ(x:Bs)=>cC x⟩
def aaH{P:Program}{f:FuncId}(k:fX P f)(h:∀{cs:List D}{n:Nat}{d:Bool},cs.length=n*1->cs.all D.isCell=true->br cs=true->n*1<=bj->cy P f [.list cs n d] (.list cs n (Nat.beq n 0))):cI P f Qv:=by
 refine⟨k,rfl,rfl,λ(x:Bs)(y:Bs) b=> ?_⟩;have b:cC x=some y:=b;unfold cC app at b;split at b<;>cases b;rename_i l;refine⟨.sl .byte x false,rfl,λS p=>by simp only[SV.can,VR];exact⟨false,rfl,id⟩,λg c m a=> ?_⟩;have:g=[.sl .byte x false]:=by
  have j:some ([SV.sl .byte x false],([]:List DV))=some (g,[]):=c;cases j;rfl
 subst this;simp only[VRs,VR]at a;obtain⟨e,o,rfl,⟨d,rfl,_⟩,rfl⟩:=a;have i:(TC.flat .byte x).length=x.length*1:=fe (TC.enc .byte) x;exact(h i (DC (TC.enc .byte) x) (TC.flat_pure .byte x) (by simp at l;omega)).weak (aA.listF (by intro h;cases h))
end Go.Fw
def amU:=@Go.IntWalk.i64_in
namespace Go.Fw
noncomputable section
open Go.RowKit
def Ns{P:Program}(w:World){t p ty e:TypeId}{i:TypeInfo}{z:Value}{k:IntKind}(D:P.underlying t=some (.slice e))(A:P.underlying p=some (.int k))(y:P.info? e=some i)(E:i.zero=some z){n:Nat}(l:0<n)(C:0<i.size)(B:n<=bj)(m:n*i.bytes<=bj)(f:Option Addr):
 (Builtin.append_ #[t,p] ty #[.slice f 0 0,.int .i64 n]).run P w=.ok (.slice (some ⟨w.heap.size,0,none⟩) n (grownCap w n 0 e)) (w.drew.alloc (.cells (Builtin.zeroCells z.cells n++Builtin.zeroCells z.cells (grownCap w n 0 e-n)) e)):=by
 unfold bj at B m;have q:IntKind.i64.wrap (n:Int)=n:=amU _ omq;have s:¬((n:Int)<0):=omq;have x:((n:Int)*(i.bytes:Int))<=1099511627776:=by have:=Int.ofNat_le.2 m;rwa[apV]at this
 have u:¬((281474976710656:Int)<(n:Int)*(i.bytes:Int)):=omq;have g:n≠0:=omq;have v:n*i.size≠0:=Nat.ne_of_gt (aqo l C);have d:∀j:World,(Builtin.firstCells i.size 0 (.slice f 0 0)).run P j=.ok #[] j:=by
  intro j;cases f with
  |none=>simp[Builtin.firstCells]
  |some a=>simp only[Builtin.firstCells,aok];rfl
 have c:¬(9223372036854775807<(n:Int)):=omq;have b:¬(281474976710656<Builtin.nextslicecap n 0*i.bytes):=by rw[nextslicecap_zero l];omega
 simp[Builtin.append_,amy D,amy A,sizeOf,typeInfo,zeroValue,y,E,asInt,asIntOf,q,s,u,g,c,b,Question.forced,d,newRow,grownCap];intro h;exact absurd h v
def Yz{P:Program}{B:bL P}{G:Gh}{σ:Sto}{w:World}(m:Rel B G σ w){t D ty:TypeId}{sz by' n:Nat}{k:IntKind}(O:DE P t t=some (sz,by'))(q:P.underlying D=some (.int k))(F:0<n)(C:n<=bj)(J:n*by'<=bj)(A:Option Addr):
 ∃u E j,(Builtin.append_ #[t,D] ty #[.slice A 0 0,.int .i64 n]).run P w=.ok u E/\G.Le j/\Rel B j (σ++[.cells [] 0 0]) E/\Rep j (.sl σ.length 0 0 n sz false) u:=by
 obtain⟨e,i,y,z,Q,L,rfl,rfl,g,R,p,s,_⟩:=Ra O;have a:=Ns (P:=P) w (ty:=ty) Q q L R F g C J A;have f:=grownCap_ge w n 0 e;have d:=ap4 w n 0 e (by unfold maxLen;unfold bj at C;omega);generalize grownCap w n 0 e=gc at a f d;generalize K:Builtin.zeroCells y.cells n++Builtin.zeroCells y.cells (gc-n)=c at a;obtain⟨H,I⟩:=m.drew.bindCells (l:=σ.length) (u:=0) (frz:=0) (cs:=[]) (σ':=σ++[.cells [] 0 0]) (hd:=[]) (tl:=c.toList) (c:=c) e siq (λx M=>by
  rcases amB x σ.length with h|h
  ·rw[amu h]
  ·rw[amA h,amC h];have:x-σ.length≠0:=omq;cases q:x-σ.length with
   |zero=>exact absurd q this
   |succ k=>simp) siq (by
    cases h:G.blk σ.length 0 with
    |none=>rfl
    |some b=>exact absurd (m.blk _ _ _ h).1 (anv _)) ⟨anp _,λS b h=>absurd (m.blk _ _ _ h).1 (anv _)⟩ (anp _) siq (by simp[af])
 refine⟨_,_,_,a,H,I,?_⟩;simp only[Rep];have v:y.cells.size=i.size:=by rw[<-s,(nw G p).length];simp
 refine .inl ⟨w.heap.size,gc,_,by simp[Gh.bind],rfl,f,by unfold maxLen at d;exact d,by simp,by simp[Gh.bind];rfl,?_⟩;rw[<-K,Array.size_append,size_zeroCells,size_zeroCells,v,ane,<-aoo];exact ank _ omq
section
variable {P:Program}{T:Tys}{N:Nat}{all:Array Oper}{o:Oper}{r:List Oper}{τ τ' :Env}{σ σ' :Sto}{Kt:Env→Sto→Prop}
def Wh{t m:TypeId}{x y:Operand}{sz by' n:Nat}{k:IntKind}(l:o.op=.call {callee:=.builtin .append,args:= #[x,y],argTypes:= #[t,m]})(M:DE P t t=some (sz,by'))(K:P.underlying m=some (.int k))(R:ev τ x=some (.list [] 0 true))(S:ev τ y=some (.int .i64 n))(E:0<n)(L:n<=bj)(I:n*by'<=bj):
 AOp P N o τ σ (λd s=>d=.sl σ.length 0 0 n sz false/\s=σ++[.cells [] 0 0]):=by
 intro B G w a H j next Q i
 have c:=bo j R;have e:=bo j S;simp only[Rep]at c e;obtain⟨v,g,O,V,W,F,X⟩:=c;have J:g=0:=F trivial;subst J;obtain⟨u,p,q,b,A,C,D⟩:=Yz H (ty:=o.type) M K E L I v;have h:(execOp a.eval o).run P w=.ok (.value u) p:=by
  obtain⟨z,Y,ty,U,f,guard⟩:=o;simp only at l b;subst l;unfold execOp;simp only[resolve,amD,amQ,amv,invoke,builtin,apH,amz,anG,O,e,b]
 unfold Oper.wp;rw[h];exact i u p q _ _ A C D ⟨rfl,rfl⟩
def WO{t e:TypeId}{x:Operand}{cs:List D}{n:Nat}(j:o.op=.call {callee:=.builtin .cap,args:= #[x],argTypes:= #[t]})(v:P.underlying t=some (.slice e))(z:ev τ x=some (.list cs n true)):
 AOp P N o τ σ (λd s=>d=.int .i64 n/\s=σ):=by
 intro B G w a p q next Q i
 have f:=bo q z;simp only[Rep]at f;obtain⟨k,b,y,C,E,m,F⟩:=f;have u:b=n:=m trivial;subst u;have c:(Builtin.cap_ #[t] o.type #[.slice k b b]).run P w=.ok (goInt b) w:=by
  simp[Builtin.cap_,amy v]
 have h:(execOp a.eval o).run P w=.ok (.value (goInt b)) w:=by
  obtain⟨l,H,I,A,g,guard⟩:=o;simp only at j c;subst j;unfold execOp;simp only[resolve,amD,amQ,amv,invoke,builtin,apH,amz,anG,y,c]
 unfold Oper.wp;rw[h];exact i _ w G _ _ (.refl G) p (by simp only[Rep];rfl) ⟨rfl,rfl⟩
def adk{t e:TypeId}{x y:Operand}{l u n sz by':Nat}(K:o.op=.slice t x none (some y) none)(ht:P.underlying t=some (.slice e))(hs:xF P t=some (sz,by'))(hx:ev τ x=some (.sl l u 0 n sz false))(hy:ev τ y=some (.int .i64 0)):
 AOp P N o τ σ (λd s=>d=.sl l u 0 0 sz false/\s=σ):=by
 intro B G w a hR I next Q C
 have g:=bo I hx;have j:=bo I hy;obtain⟨e',i,L,J,rfl,_⟩:=GZ hs;simp only[Rep]at g j;have D:∃v,(Instr.sliceAt t (a.eval x) none (some (.int .i64 0)) none).run P w=.ok v w/\Rep G (.sl l u 0 0 i.size false) v:=by
  rcases g with⟨b,U,E,W,p,X,g4,g5,Y,Z⟩|⟨rfl,F,p⟩
  ·have q:oQ n false none (some 0) none=some (0,0,false):=by simp[oQ,bC]
   obtain⟨m,c,M,O,R,H,S⟩:=nW (P:=P) (w:=w) true q .none (.some .i64 0) .none X (λh=>by cases h);rw[p];refine⟨.slice (if m=0 then some ⟨b,0,none⟩ else some ⟨b,0,none⟩) 0 m,?_,?_⟩
   ·unfold Instr.sliceAt Instr.slice;simp[amy L,c,sizeOf,typeInfo,J,gd]
   ·simp only[Rep,ite_self];refine .inl ⟨b,m,E,W,rfl,anp _,omq,λh=>(by cases h),Y,?_⟩;exact anI (Nat.add_le_add_left (ank _ H) _) Z
  ·have q:oQ 0 true none (some 0) none=some (0,0,true):=by simp[oQ,bC]
   obtain⟨m,c,M,O,R,H,S⟩:=nW (P:=P) (w:=w) true q .none (.some .i64 0) .none (amt 0) (λ_=>rfl);have A:m=0:=omq;subst A;rw[p];refine⟨.slice F 0 0,?_,by simp only[Rep];exact .inr ⟨trivial,F,rfl⟩⟩;unfold Instr.sliceAt Instr.slice;simp[amy L,c,sizeOf,typeInfo,J]
 obtain⟨v,c,f⟩:=D;have z:(execOp a.eval o).run P w=.ok (.value v) w:=by
  obtain⟨V,op,ty,j3,k,guard⟩:=o;simp only at K;subst K;unfold execOp;simp only[amD,amQ,amv,Option.map_none,anT,j,c]
 unfold Oper.wp;rw[z];exact C _ w G _ _ (.refl G) hR f ⟨rfl,rfl⟩
end
def fW(n:Int):Option Bs:=bif decide (0<=n)&&decide (n<=bj) then some [] else none
def UO:mj:=⟨[.nils,.hole (.int .i64)],.byte,λ(n:Int)=>fW n⟩
def adl{P:Program}{f:FuncId}(k:fX P f)(h:∀{n:Nat},n<=bj->SB P f [.list [] 0 true,.int .i64 n] [] 0 1):qi P f UO:=by
 refine⟨k,rfl,λ(x:Int)(y:Bs) a=> ?_⟩;have a:fW x=some y:=a;unfold fW at a;rcases aY a with⟨c,a⟩|⟨_,a⟩<;>try (cases a;done)
 cases a;simp only[amk,amX]at c;obtain⟨n,rfl⟩:=Int.eq_ofNat_of_zero_le c.1;intro g d l b;have:g=[.nils,.int .i64 n]:=by
  have j:some ([SV.nils,SV.int .i64 n],([]:List DV))=some (g,[]):=d;cases j;rfl
 subst this;simp only[VRs,VR]at b;obtain⟨e,p,rfl,rfl,m,i,rfl,rfl,rfl⟩:=b;exact h (by have:=c.2;omega)
def Ka{P:Program}{f:FuncId}{d:D}(g:fX P f)(i:D.lo 0 d=true)(k:d.pure=true)(h:cy P f [] d):cI P f ⟨[],.raw d,λ(_:Unit)=>some ()⟩:=by
 refine⟨g,rfl,i,λ(x:Unit)(y:Unit) _=>⟨.raw d,rfl,λS σ=>by simp only[SV.can,VR],λc b j a=> ?_⟩⟩;have:c=[]:=by
  have e:some (([]:List SV),([]:List DV))=some (c,[]):=b;cases e;rfl
 subst this;simp only[VRs]at a;subst a;exact h
end
end Go.Fw
namespace Go.Fw
open Go.RowKit
noncomputable def NN:Nat:=Classical.choose (⟨_,rfl⟩:∃n:Nat,n=1000000000000)
def ake:NN=1000000000000:=anz (⟨_,rfl⟩:∃n:Nat,n=1000000000000)
structure Bse where
 P:Program
 T:Tys
 H:Tr TC
 O:Tr OH
 tok:TOk T P
 mix:P.follows .mixedOrders=true
@[irreducible] noncomputable def Hk{α a:Type}(f:α->a):α->a:=Classical.choose (⟨f,rfl⟩:∃g,g=f)
def Hl{α a:Type}(f:α->a):Hk f=f:=by unfold Hk;exact anz (⟨f,rfl⟩:∃g,g=f)
@[irreducible] noncomputable def OY{α a:Type}(f:α->a):α->a:=Classical.choose (⟨f,rfl⟩:∃g,g=f)
def UP{α a:Type}(f:α->a):OY f=f:=by unfold OY;exact anz (⟨f,rfl⟩:∃g,g=f)
noncomputable def Ctr.sl(k:Ctr):Ctr:=⟨k.ap,k.rp,Hk k.fn⟩
def Ctr.sl_eq(k:Ctr):k.sl=k:=by unfold Ctr.sl;rw[Hl]
noncomputable def mj.sl(k:mj):mj:=⟨k.ap,k.t,Hk k.fn⟩
def mj.sl_eq(k:mj):k.sl=k:=by unfold mj.sl;rw[Hl]
noncomputable def rB.sl(k:rB):rB:=⟨k.ap,k.rps,Hk k.fn⟩
def rB.sl_eq(k:rB):k.sl=k:=by unfold rB.sl;rw[Hl]
noncomputable def fN.sl(k:fN):fN:=⟨k.fid,k.key,k.i,k.head,k.exits,OY k.fn⟩
def fN.sl_eq(k:fN):k.sl=k:=by unfold fN.sl;rw[UP]
abbrev KC(b:Bse):={k:FuncId×Ctr // cI b.P k.1 k.2}
abbrev KO(b:Bse):={k:FuncId×mj // qi b.P k.1 k.2}
abbrev KX(b:Bse):={k:FuncId×rB // yW b.P k.1 k.2}
abbrev KL(b:Bse):={e:fN // LOk b.P e}
structure Ctx(b:Bse) where
 C:List (KC b)
 O:List (KO b)
 X:List (KX b)
 L:List (KL b)
 J:Tr bh
structure LD where
 fid:Nat
 key:Nat
 i:Nat
 head:Pat
 exits:bh
def LD.chk(P:Program)(d:LD):Bool:=(K7 P d.fid d.key).isSome&&(rC d.i 0 d.head.objs&&d.exits.all λq=>rC d.i 0 q.2.objs&&sC d.head.objs q.2.objs)
noncomputable def LD.round(d:LD)(cx:Cx):=OX cx d.fid d.key d.i d.head d.exits
def Nt(P:Program)(f:FuncId)(ap:List PV)(rp:PV):Bool:=(okF P f).isSome&&(PV.chks [] ap&&(PV.chk [] rp&&(PV.pures ap&&rp.pure)))
def YA(P:Program)(f:FuncId)(ap:List PV):Bool:=(okF P f).isSome&&(PV.chks [] ap&&PV.pures ap)
section
variable {b:Bse}
def Ctx.cx(c:Ctx b):Cx:=⟨b.P,b.T,b.H,b.O,c.C.map (·.1),c.O.map (·.1),c.X.map (·.1),c.L.map (·.1),c.J⟩
noncomputable def Ctx.cxs(c:Ctx b):Cx:=⟨b.P,b.T,b.H,b.O,c.C.map λk=>(k.1.1,k.1.2.sl),c.O.map λk=>(k.1.1,k.1.2.sl),c.X.map λk=>(k.1.1,k.1.2.sl),c.L.map λk=>k.1.sl,c.J⟩
def Ctx.cxs_eq(c:Ctx b):c.cxs=c.cx:=by simp only[Ctx.cxs,Ctx.cx,Ctr.sl_eq,mj.sl_eq,rB.sl_eq,fN.sl_eq]
def SG{α:Type}{p:α->Prop}{l:List {x // p x}}{x:α}(h:x∈l.map (·.1)):p x:=by
 obtain⟨y,_,rfl⟩:=anh.1 h;exact y.2
def Ctx.ok(c:Ctx b):lg c.cx:=⟨b.tok,b.mix,λ_ _ h=>SG (p:=λk:FuncId×Ctr=>cI b.P k.1 k.2) h,λ_ _ h=>SG (p:=λk:FuncId×mj=>qi b.P k.1 k.2) h,λ_ _ h=>SG (p:=λk:FuncId×rB=>yW b.P k.1 k.2) h⟩
def Ctx.lok(c:Ctx b):∀e∈c.cx.L,LOk b.P e:=λ_ h=>SG (p:=λe=>LOk b.P e) h
noncomputable def fC(f:FuncId)(c:Ctx b)(ap:List PV)(rp:PV)(fn:Tup (PV.tcss ap)->Option (Tup rp.tcs))(a:Nt b.P f ap rp=true)(l:∀x,CC c.cx f ap rp x=fn x):KC b:=⟨(f,⟨ap,rp,fn⟩),by
 simp only[Nt,amk]at a;obtain⟨d,e,h,i,j⟩:=a;obtain⟨g,k⟩:=anw.1 d;exact WM c.ok c.lok k e h i j l⟩
structure AD(b:Bse) where
 f:FuncId
 c:Ctx b
 ap:List PV
 rp:PV
@[irreducible] noncomputable def AD.run(d:AD b)(x:Tup (PV.tcss d.ap)):Option (Tup d.rp.tcs):=CC d.c.cxs d.f d.ap d.rp x
def AD.run_eq(d:AD b)(x:Tup (PV.tcss d.ap)):d.run x=CC d.c.cxs d.f d.ap d.rp x:=by unfold AD.run;rfl
noncomputable def AD.k(d:AD b)(a:Nt b.P d.f d.ap d.rp=true):KC b:=fC d.f d.c d.ap d.rp d.run a λx=>by rw[d.run_eq,Ctx.cxs_eq]
noncomputable def fO(f:FuncId)(c:Ctx b)(ap:List PV)(t:TC)(fn:Tup (PV.tcss ap)->Option (List t.Den))(a:YA b.P f ap=true)(e:∀x,K6 c.cx f ap t x=fn x):KO b:=⟨(f,⟨ap,t,fn⟩),by
 simp only[YA,amk]at a;obtain⟨g,d⟩:=anw.1 a.1;exact adj c.ok c.lok d a.2.1 a.2.2 e⟩
noncomputable def fL(c:Ctx b)(d:LD)(fn:Nat->Tup d.head.tcs->Option (XS d.exits.tcs))(h:d.chk b.P=true)(l:∀x,fn 0 x=none)(g:∀n x,d.round c.cx (fn n) x=fn (n+1) x):KL b:=⟨⟨d.fid,d.key,d.i,d.head,d.exits,fn NN⟩,by
 simp only[LD.chk,amk]at h;obtain⟨⟨f,j,i⟩,a⟩:=anw.1 h.1;have e:K7 c.cx.P d.fid d.key=some (f,j,i):=a;unfold LD.round OX at g;rw[e]at g;unfold K7 at a;obtain⟨k,m,a⟩:=ak a;obtain⟨q,o,a⟩:=ak a;split at a<;>cases a;rename_i p;exact WN c.ok c.lok m o p (by simp only[amk];exact h.2) l g NN⟩
noncomputable def aL(c:Ctx b)(d:LD)(a:d.chk b.P=true):KL b:=fL c d (λn=>Nat.rec (λ_=>none) (λ_ L=>d.round c.cxs L) n) a (λ_=>rfl) λ_ _=>by rw[<-Ctx.cxs_eq]
noncomputable def fR(f:FuncId)(ap:List PV)(rp:PV)(fn:Nat->Tup (PV.tcss ap)->Option (Tup rp.tcs))(c:∀m,cI b.P f ⟨ap,rp,fn m⟩->Ctx b)(a:Nt b.P f ap rp=true)(e:∀x,fn 0 x=none)(g:∀m h x,CC (c m h).cx f ap rp x=fn (m+1) x)(m:Nat):KC b:=⟨(f,⟨ap,rp,fn m⟩),by
 induction m with
 |zero=>
  simp only[Nt,amk]at a;exact alO f _ a.1 (by simp only[amk];exact⟨a.2.1,a.2.2.1⟩) e
 |succ m d=>exact(fC f (c m d) ap rp (fn (m+1)) a (g m d)).2⟩
noncomputable def gC(f:FuncId)(c:Ctx b)(ap:List PV)(rp:PV)(fn:Tup (PV.tcss ap)->Option (Tup rp.tcs))(h:(Nt b.P f ap rp,CC c.cx f ap rp)=(true,fn)):KC b:=fC f c ap rp fn (amV Prod.fst h) λx=>aoX (amV Prod.snd h) x
noncomputable def gO(f:FuncId)(c:Ctx b)(ap:List PV)(t:TC)(fn:Tup (PV.tcss ap)->Option (List t.Den))(h:(YA b.P f ap,K6 c.cx f ap t)=(true,fn)):KO b:=fO f c ap t fn (amV Prod.fst h) λx=>aoX (amV Prod.snd h) x
noncomputable def gL(c:Ctx b)(d:LD)(fn:Nat->Tup d.head.tcs->Option (XS d.exits.tcs))(h:(d.chk b.P,fn 0,λn=>d.round c.cx (fn n))=(true,λ_=>none,λn=>fn (n+1)):=by kernel_rfl):KL b:=fL c d fn (amV Prod.fst h) (λx=>aoX (amV (λy=>y.2.1) h) x) λn x=>aoX (aoX (amV (λy=>y.2.2) h) n) x
end
end Go.Fw
namespace Go.Fw
structure Syb where
 f:∀{α β:Type},α->β->Prop
 t:Type->Type->Prop
 n:∀{α β:Type},Nat->α->β->Prop
def S0:Syb:=⟨λ_ _=>True,λ_ _=>True,λ_ _ _=>True⟩
def s_b{α c g d:Type}{x:Option α}{f:Option c}{k:α->Option g}{e:c->Option d}(t:S0.t α c)(_:S0.f x f)(co:c->α)(_:∀a,S0.f (k (co a)) (e a)):S0.f (x.bind k) (f.bind e):=trivial
def s_a{n:Nat}{α c g d:Type}{x:Option α}{f:Option c}{k:α->Option g}{e:c->Option d}(t:S0.t α c)(_:S0.f x f)(co:c->α)(_:∀a,S0.f (k (co a)) (e a)):S0.f (agree (List.replicate n x) k) (agree (List.replicate n f) e):=trivial
def s_c{α d:Type}{c g:Bool}{a b:α}{e f:d}(c0:S0.f c g)(_:S0.f a e)(_:S0.f b f):S0.f (cond c a b) (cond g e f):=trivial
def alP{α a:Type}:S0.f (none:Option α) (none:Option a):=trivial
def alQ{a b c d:Int}(_:S0.f a c)(_:S0.f b d):S0.f (decide (a<b)) (decide (c<d)):=trivial
def alR{a b c d:Int}(_:S0.f a c)(_:S0.f b d):S0.f (decide (a<=b)) (decide (c<=d)):=trivial
def alS{a b c d:Int}(_:S0.f a c)(_:S0.f b d):S0.f (decide (a>b)) (decide (c>d)):=trivial
def alT{a b c d:Int}(_:S0.f a c)(_:S0.f b d):S0.f (decide (a>=b)) (decide (c>=d)):=trivial
def akf{a b c d:Bool}(_:S0.f a c)(_:S0.f b d):S0.f (a&&b) (c&&d):=trivial
def s_s{α a γ:Type}{f:α->Option a}{x:α}{y:γ}(_:S0.f (f x) y):S0.f (Hk f x) y:=trivial
def s_l{α a γ:Type}{f:α->Option a}{x:α}{y:γ}(_:S0.f (f x) y):S0.f (OY f x) y:=trivial
def aix{α a c γ:Type}{f:α->c}{x:α}{d:a}{z:γ}(t:S0.t α a)(co:(α->c)->a->c)(_:S0.f x d)(_:S0.f (co f d) z):S0.f (f x) z:=trivial
def adr{α d a c:Type}(_:S0.t α a)(_:S0.t d c):S0.t (α×d) (a×c):=trivial
def ads{α a:Type}(_:S0.t α a):S0.t (List α) (List a):=trivial
def adt{α d a c:Type}(_:S0.t α a)(_:S0.t d c):S0.t (α⊕d) (a⊕c):=trivial
def s_p{α g c d:Type}{a:α}{b:g}{e:c}{f:d}(_:S0.f a e)(_:S0.f b f):S0.f (a,b) (e,f):=trivial
def s_o{α a:Type}{x:α}{c:a}(_:S0.f x c):S0.f (some x) (some c):=trivial
def s_x{α d γ c:Type}(y:α⊕d){f:α⊕d->γ}{g:α->c}{h:d->c}(_:∀a,S0.f (f (.inl a)) (g a))(_:∀b,S0.f (f (.inr b)) (h b)):S0.f (f y) (match y with|.inl a=>g a|.inr b=>h b):=trivial
def s_r{α:Type}(a:α):S0.f a a:=trivial
def s_t(α:Type):S0.t α α:=trivial
def s_h{α a:Type}{L:α}{y:a}{N:Nat}(_:NN=N->S0.f L y):S0.n N L y:=trivial
theorem K9{α a:Type}(x:α×a):(x.1,x.2)=x:=rfl
theorem y_a(l m:List TC):l++m=l.append m:=rfl
theorem y_n(f:PO->List TC):List.flatMap f []=[]:=rfl
theorem y_c(f:PO->List TC)(x:PO)(l:List PO):List.flatMap f (x::l)=(f x).append (List.flatMap f l):=rfl
def akg{α a:Type}{N:Nat}{L:α}{y:a}:S0.n N L y:=trivial
attribute [irreducible] S0
@[reducible] def syv{α d:Type}(N:Nat)(L:α){y:d}(_:S0.n N L y:=by
  refine(?f: ?A->?A) ?p
  (case p=>
   apply s_h;intro c
   repeat' (first
    |(intro y;apply s_x y)
    |((try intro _);(conv=>arg 2;whnf);first
     |(apply s_c;(case c0=>((repeat' first|apply alS|apply alT|apply alQ|apply alR|apply akf);all_goals (try ((conv=>arg 2;try dsimp only[bC,K9,TC.Den,Tup,XS,PV.tcss,PV.tcs,PO.tcs,Pat.tcs,List.map,y_a,y_n,y_c,List.append]);exact s_r _)))))
     |(apply s_s;(conv=>arg 2;whnf;try dsimp only[bC,K9,TC.Den,Tup,XS,PV.tcss,PV.tcs,PO.tcs,Pat.tcs,List.map,y_a,y_n,y_c,List.append]);(try rw[c]);exact s_r _)
     |(apply s_l;(conv=>arg 2;whnf;try dsimp only[bC,K9,TC.Den,Tup,XS,PV.tcss,PV.tcs,PO.tcs,Pat.tcs,List.map,y_a,y_n,y_c,List.append]);(try rw[c]);apply aix;(case t=>(repeat' ((conv=>arg 2;whnf);first|apply adr|apply ads|apply adt|exact s_t _)));(case co=>exact λf=>f);(repeat' apply s_p);all_goals (try exact s_r _))
     |((first|apply s_b|apply s_a);(case t=>(repeat' ((conv=>arg 2;whnf);first|apply adr|apply ads|apply adt|exact s_t _)));(case co=>exact λa=>a))
     |(apply s_o;(conv=>arg 2;try dsimp only[bC,K9,TC.Den,Tup,XS,PV.tcss,PV.tcs,PO.tcs,Pat.tcs,List.map,y_a,y_n,y_c,List.append]);exact s_r _)
     |exact alP
     |((conv=>arg 2;try dsimp only[bC,K9,TC.Den,Tup,XS,PV.tcss,PV.tcs,PO.tcs,Pat.tcs,List.map,y_a,y_n,y_c,List.append]);apply aix;(case t=>(repeat' ((conv=>arg 2;whnf);first|apply adr|apply ads|apply adt|exact s_t _)));(case co=>exact λf=>f);(repeat' apply s_p);all_goals (try exact s_r _))
     |((conv=>arg 2;try dsimp only[bC,K9,TC.Den,Tup,XS,PV.tcss,PV.tcs,PO.tcs,Pat.tcs,List.map,y_a,y_n,y_c,List.append]);exact s_r _))))
  (case f=>exact λ_=>akg)):d:=y
structure ADO(b:Bse) where
 f:FuncId
 c:Ctx b
 ap:List PV
 t:TC
section
variable {b:Bse}
@[reducible] noncomputable def AD.go(d:AD b)(x:Tup (PV.tcss d.ap)):Option (Tup d.rp.tcs):=CC d.c.cxs d.f d.ap d.rp x
@[reducible] noncomputable def ADO.go(d:ADO b)(x:Tup (PV.tcss d.ap)):Option (List d.t.Den):=K6 d.c.cxs d.f d.ap d.t x
noncomputable def gA(d:AD b)(fn:Tup (PV.tcss d.ap)->Option (Tup d.rp.tcs))(h:(Nt b.P d.f d.ap d.rp,CC d.c.cx d.f d.ap d.rp)=(true,fn):=by kernel_rfl):KC b:=gC d.f d.c d.ap d.rp fn h
noncomputable def gAO(d:ADO b)(fn:Tup (PV.tcss d.ap)->Option (List d.t.Den))(h:(YA b.P d.f d.ap,K6 d.c.cx d.f d.ap d.t)=(true,fn):=by kernel_rfl):KO b:=gO d.f d.c d.ap d.t fn h
end
end Go.Fw
