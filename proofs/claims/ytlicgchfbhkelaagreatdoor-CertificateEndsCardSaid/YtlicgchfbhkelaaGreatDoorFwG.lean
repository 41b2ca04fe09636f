/- A framework for proofs about Go programs in this model: part G. Everything is proved; no condition is added. -/
import Derived.IntWalk
import Derived.Test.YtlicgchfbhkelaaGreatDoorFwF
set_option linter.unusedVariables false
set_option linter.unusedSimpArgs false
set_option linter.defProp false
namespace Go.Fw
noncomputable section
open Go.RowKit
section
variable {α:Type}
def Nz(fr:Nat->Bool)(cx:Cx)(fid N:Nat)(A:Res)(m:Nat)(o:Oper)(i:Nat)(b τ:ax)(S:ae)(a:Res)(f e:DCh)(next:ax->ae->Res->DCh->DCh->Option α):Option α:=
 match Pt o i a with
 |true=>match a with
  |(_,l,_)::rest'=>lE N o.dst (.raw (.ptr l 0 0)) τ λτ2=>next τ2 S rest' f e
  |[]=>none
 |false=>match isW (AC cx fid o.dst) o.op with
  |true=>match ID A m (fpW b o.op) S.length f e&& !(fr i) with
   |true=>sW cx.T cx.H cx.CO (AC cx fid o.dst) b S o.op λv g=>lE N o.dst v τ λτ2=>next τ2 g a f (e++[(i,fpW b o.op++[S.length])])
   |false=>none
  |false=>match L7 o.op with
   |some c=>(wh cx.T b c).bind λp=>match lk cx.T.ext p.1 with
    |some k=>Iq k p.2 λv=>lE N o.dst v τ λτ2=>next τ2 S a (f++[(i,[])]) e
    |none=>Ff p.1 S p.2 (λv=>lE N o.dst v τ λτ2=>next τ2 S a (f++[(i,[])]) e) cx.C
   |none=>match uI A m (Ck b o.op)&&e.all (λc=>Fc m c.1||Fb (Ck b o.op) c.2) with
    |true=>sR cx.T cx.H b S o.op λv=>lE N o.dst v τ λτ2=>next τ2 S a (f++[(i,Ck b o.op)]) e
    |false=>none
noncomputable def Vt(fr:Nat->Bool)(cx:Cx)(fid N:Nat)(all:Array Oper)(A:Res)(M:List Nat)(o:Oper)(k:Nat->ax->ae->Res->DCh->DCh->(ax->ae->Option α)->Option α)(i:Nat)(τ:ax)(S:ae)(c:Res)(h g:DCh)(K:ax->ae->Option α):Option α:=match o.guard with
 |none=>Nz fr cx fid N A (M.getD i 0) o i (sx all o τ) τ S c h g λτ2 l a f e=>k (i+1) τ2 l a f e K
 |some (j,want)=>match (all[j]?).bind (·.dst) with
  |none=>none
  |some t=>match nj (sx all o τ) t with
   |some (.bool b)=>match want with
    |true=>cond b (Nz fr cx fid N A (M.getD i 0) o i (sx all o ((t,.bool true)::τ)) ((t,.bool true)::τ) S c h g λτ2 l a f e=>k (i+1) τ2 l a f e K)
     (lE N o.dst (.tup []) ((t,.bool false)::τ) λτ2=>k (i+1) τ2 S c h g K)
    |false=>cond b (lE N o.dst (.tup []) ((t,.bool true)::τ) λτ2=>k (i+1) τ2 S c h g K)
     (Nz fr cx fid N A (M.getD i 0) o i (sx all o ((t,.bool false)::τ)) ((t,.bool false)::τ) S c h g λτ2 l a f e=>k (i+1) τ2 l a f e K)
   |some (.tup _)=>lE N o.dst (.tup []) τ λτ2=>k (i+1) τ2 S c h g K
   |_=>none
noncomputable def sdg(fr:Nat->Bool)(cx:Cx)(fid N:Nat)(all:Array Oper)(A:Res)(M:List Nat)(l:List Oper):Nat->ax->ae->Res->DCh->DCh->(ax->ae->Option α)->Option α:=List.rec (λ_ τ S a _ _ K=>match a with
 |[]=>K τ S
 |_::_=>none) (λo _ b=>Vt fr cx fid N all A M o b) l
variable{Z:List Nat}{Y W:DCh}{X:Env->Sto->Prop}
def TP{cx:Cx}{fid N:Nat}{all:Array Oper}{A:Res}{M:List Nat}{fr:Nat->Bool}{i:Nat}{τ:ax}{S:ae}{a:Res}{K:ax->ae->Option α}:sdg fr cx fid N all A M [] i τ S a W Y K=match a with
 |[]=>K τ S
 |_::_=>none:=rfl
def RF{cx:Cx}{fid N:Nat}{all:Array Oper}{A:Res}{M:List Nat}{fr:Nat->Bool}{o:Oper}{r:List Oper}:sdg (α:=α) fr cx fid N all A M (o::r)=Vt (α:=α) fr cx fid N all A M o (sdg fr cx fid N all A M r):=rfl
end
section
variable {P:Program}{T:Tys}{N:Nat}{ops:Array Oper}{A:Res}{M:List Nat}{fr:Nat→Bool}{o:Oper}{r:List Oper}{i:Nat}{τ τ2:Env}{S:List Sto}{C:List Nat}{tab:List Rc}{K:Env→Sto→Prop}{d:D}{σ:Sto}
def aet(a:kg (λ(x:Nat×Nat×List D)=>∃r:Rc,tab[x.1]?=some r/\r.kd=.alloc x.2.1 x.2.2) A)(b:S.getLast?=some σ)(h:K τ σ):ADg P N ops A M fr [] i τ S C tab K:=⟨a,σ,b,h⟩
def afR(a:df ops (rst ops o τ) o=some false)(b:iq N o.dst (.tuple []) τ=some τ2)(h:ADg P N ops A M fr r (i+1) τ2 S C (tab++[⟨o,rst ops o τ,.tuple [],.skip⟩]) K):ADg P N ops A M fr (o::r) i τ S C tab K:=
 .inl ⟨a,τ2,b,h⟩
def TQ(b:df ops (rst ops o τ) o=some true)(c:kg (λs=>AOp P N o (rst ops o τ) s λa f=>a=d/\f=s) ((oV (M.getD i 0) S C).flatMap λσ=>(jg A (M.getD i 0)).map (fg · σ)))
 (e:iq N o.dst d τ=some τ2)(h:ADg P N ops A M fr r (i+1) τ2 S C (tab++[⟨o,rst ops o τ,d,.read⟩]) K):ADg P N ops A M fr (o::r) i τ S C tab K:=
 .inr (.inl ⟨b,d,τ2,c,e,h⟩)
def aab(tok:TOk T P){e:TypeId}{l:Nat}{cs:List D}(a:df ops (rst ops o τ) o=some true)(b:o.op=.alloc e)(c:tB A i=some (l,cs))(f:lk T.zero e=some cs)(g:iq N o.dst (.ptr l 0 0) τ=some τ2)
 (h:ADg P N ops A M fr r (i+1) τ2 S C (tab++[⟨o,rst ops o τ,.ptr l 0 0,.alloc l cs⟩]) K):ADg P N ops A M fr (o::r) i τ S C tab K:=
 .inr (.inr (.inr ⟨a,e,l,cs,τ2,b,c,jG tok.zero f,g,h⟩))
end
section
variable {α:Type}{cx:Cx}{fid N:Nat}{all:Array Oper}{A:Res}{M:List Nat}{r:α}
variable{Z:List Nat}{Y W:DCh}{X:Env->Sto->Prop}
def acx(f:nT cx){fr:Nat->Bool}{o:Oper}{l l' pre:List Oper}{i:Nat}{τ:ax}{τ':Env}{S:ae}{σ:Sto}{m done:Res}{Ss:List Sto}{tab:List Rc}{next:ax->ae->Res->DCh->DCh->Option α}
 (V:all.toList=pre++o::l')(Z:pre.length=i)(hA:∀x∈A,∃(k:Nat)(o:Oper)(e:TypeId),x.1=k/\all.toList[k]?=some o/\o.op=.alloc e/\lk cx.T.zero e=some x.2.2)
 (t:DI cx.P N A M i σ Ss tab done m W Y)(I:StR S σ)(U:ER S σ τ τ')(hw:df all (rst all o τ') o=some true)
 (h:Nz fr cx fid N A (M.getD i 0) o i (sx all o τ) τ S m W Y next=some r)
 (J:∀τ2 g S2 w n D O B Q y,DI cx.P N A M (i+1) w Q y D n O B->StR S2 w->ER S2 w g τ2->bC S σ S2 w->next g S2 n O B=some r->ADg cx.P N all A M fr l (i+1) τ2 Q (B.map (·.1)) y X):
 ADg cx.P N all A M fr (o::l) i τ' Ss (Y.map (·.1)) tab X:=by
 have E:=U.rst all o;unfold Nz at h;split at h
 ·rename_i hr;split at h<;>try (cases h;done)
  rename_i j lo z j6;unfold Pt at hr;split at hr<;>try (cases hr;done)
  rename_i e _ _ _ _ _ a F;cases F;have hj:=dd hr;subst hj;obtain⟨k,o',e',u,q,G,H⟩:=hA (j,lo,z) (by rw[t.all];simp);simp only at u H;subst u;have ho:o'=o:=by
   rw[V,<-Z,ahZ (ahS _)]at q;simp at q;exact q.symm
  subst ho;rw[a]at G;cases G;obtain⟨τ2,g,k1,k2,L⟩:=np (d:=.ptr lo 0 0) U (by simp only[VR]) h;exact aab f.tok hw a t.res H k1 (J _ _ _ _ _ _ _ _ _ _ t.alloc I k2 (.refl _ _) L)
 ·split at h
  ·split at h<;>try (cases h;done)
   rename_i b;simp only[ahJ,ajs]at b;obtain⟨b,j4⟩:=b;obtain⟨v,S',d,up,u,q,G,H,h5,h6⟩:=abd (N:=N) f.tok f.ctrO I E rfl h;obtain⟨τ2,g,k1,k2,L⟩:=np (U.pres h5) G u;rw[I.len]at b L;obtain⟨g1,g2,g3,g4⟩:=t.chains h6 b q;have j3:=t.chain (o:=o) (env:=rst all o τ') (d:=d) h6 b (Y.map (·.1)).length;have:=J _ _ _ _ _ _ _ _ _ _ j3 H k2 h5 L;rw[aiR]at this;exact .inr (.inr (.inl ⟨hw,g1,j4,d,τ2,σ,up.ap σ,t.last,g2,g3,g4,k1,this⟩))
  ·split at h
   ·rename_i c b;obtain⟨p,hp,h⟩:=ak h;obtain⟨ds,u,q⟩:=yG E hp;have ho:o.op=.call c:=by
     unfold L7 at b;split at b<;>try (cases b;done)
     rename_i a;split at b<;>cases b;exact a
    have j5:∃v d,(lE N o.dst v τ λτ2=>next τ2 S m (W++[(i,[])]) Y)=some r/\VR S σ v d/\∀s,AOp cx.P N o (rst all o τ') s λR s'=>R=d/\s'=s:=by
     split at h
     ·rename_i k J;exact Km (N:=N) f.tok ho u J q h
     ·exact Fg (N:=N) f.tok ho u q cx.C f.ctr h
    obtain⟨v,d,k1,k2,L⟩:=j5;obtain⟨τ2,g,m1,m2,m3⟩:=np U k2 k1;have hh:uI A (M.getD i 0) []=true:=by unfold uI Fa;simp
    have a:∀s:Sto,(∀l∈([]:List Nat),s[l]?=σ[l]?)->AOp cx.P N o (rst all o τ') s λR s'=>R=d/\s'=s:=λs _=>L s;exact TQ hw (t.reads a hh (by simp[Fb])) m1 (J _ _ _ _ _ _ _ _ _ _ (t.read a hh) I m2 (.refl _ _) m3)
   ·split at h<;>try (cases h;done)
    rename_i b;simp only[ahJ]at b;obtain⟨v,d0,d,u,q,G,H⟩:=Vi I E h;obtain⟨τ2,g,m1,m2,m3⟩:=np U q u;have a:∀s:Sto,(∀l∈Ck (sx all o τ) o.op,s[l]?=σ[l]?)->AOp cx.P N o (rst all o τ') s λR s'=>R=d/\s'=s:=λs hs=>(bN f.tok (H s hs)).weak G;exact TQ hw (t.reads a b.1 b.2) m1 (J _ _ _ _ _ _ _ _ _ _ (t.read a b.1) I m2 (.refl _ _) m3)
def RG(F:nT cx){fr:Nat->Bool}{suf:List Oper}{K:ax->ae->Option α}(R:∀x∈A,∃(k:Nat)(o:Oper)(e:TypeId),x.1=k/\all.toList[k]?=some o/\o.op=.alloc e/\lk cx.T.zero e=some x.2.2):∀(l pre:List Oper)(i:Nat)(τ:ax)(τ':Env)(S:ae)(σ:Sto)(a done:Res)(z n:DCh)(D:List Sto)(tab:List Rc)(u:Env->Sto->Prop),
 all.toList=pre++(l++suf)->pre.length=i->DI cx.P N A M i σ D tab done a z n->StR S σ->ER S σ τ τ'->sdg fr cx fid N all A M l i τ S a z n K=some r->(∀τ2 s,og S σ K r τ2 s->u τ2 s)->ADg cx.P N all A M fr l i τ' D (n.map (·.1)) tab u
 |[],pre,i,τ,τ',S,σ,a,done,z,n,D,tab,u,_,_,hD,hS,f,h,L=>by
  simp only[TP,RF,Vt]at h;split at h<;>try (cases h;done)
  refine aet (kg.mk λx hx=> ?_) hD.last (L _ _ ⟨τ,S,f,hS,.refl _ _,h⟩);rw[hD.all,ah6]at hx;exact(hD.dn x hx).2
 |o::l,pre,i,τ,τ',S,σ,a,done,z,n,D,tab,u,hall,hpre,hD,hS,f,h,L=>by
  have g:∀{τ:ax},ER S σ τ τ'->df all (rst all o τ') o=some true->(Nz fr cx fid N A (M.getD i 0) o i (sx all o τ) τ S a z n λτ2 O c B y=>sdg fr cx fid N all A M l (i+1) τ2 O c B y K)=some r->ADg cx.P N all A M fr (o::l) i τ' D (n.map (·.1)) tab u:=by
   intro τ f v h;refine acx (l':=l++suf) F hall hpre R hD hS f v h ?_;intro τ2 G O s c E B y Q H U W V Y h2;exact RG (suf:=suf) F R l (pre++[o]) (i+1) G τ2 O s c E B y Q H u (by simp[hall]) (by simp[hpre]) U W V h2 λj4 j3 x=>L _ _ (x.trans Y)
  have skip:∀{τ:ax},ER S σ τ τ'->df all (rst all o τ') o=some false->(lE N o.dst (.tup []) τ λτ2=>sdg fr cx fid N all A M l (i+1) τ2 S a z n K)=some r->ADg cx.P N all A M fr (o::l) i τ' D (n.map (·.1)) tab u:=by
   intro τ f v h;obtain⟨τ2,G,k1,k2,k3⟩:=np (d:=.tuple []) f (by simp only[VR,VRs];exact⟨[],rfl,rfl⟩) h;exact afR v k1 (RG (suf:=suf) F R l (pre++[o]) (i+1) G τ2 S σ a done z n D _ u (by simp[hall]) (by simp[hpre]) hD.skip hS k2 k3 L)
  simp only[TP,RF,Vt]at h;split at h
  ·rename_i J;exact g f (by unfold df;rw[J]) h
  ·rename_i j w J;split at h<;>try (cases h;done)
   rename_i t Z;split at h<;>try (cases h;done)
   ·rename_i b X;obtain⟨d,I,m⟩:=f.rst all o t _ X;simp only[VR]at m;subst m;have q:=(qH (p:=λt=>(o.looksAt all).contains t) I).2;have v:df all (rst all o τ') o=some (b==w):=by unfold df;rw[J];simp only[Z,I]
    cases w
    ·rcases bU h with⟨rfl,h⟩|⟨rfl,h⟩
     ·exact skip (f.setB q) v h
     ·exact g (f.setB q) v h
    ·rcases bU h with⟨rfl,h⟩|⟨rfl,h⟩
     ·exact g (f.setB q) v h
     ·exact skip (f.setB q) v h
   ·rename_i vs X;obtain⟨d,I,m⟩:=f.rst all o t _ X;simp only[VR]at m;obtain⟨ds,rfl,_⟩:=m;exact skip f (by unfold df;rw[J];simp only[Z,I]) h
end
noncomputable def agree{β α:Type}:List (Option β)->(β->Option α)->Option α
 |[],_=>none
 |o::a,K=>haveI:=Classical.propDecidable (∀x∈a,x=o);if ∀x∈a,x=o then o.bind K else none
def Xm{β α:Type}{b:List (Option β)}{K:β->Option α}{r:α}(h:agree b K=some r):∃y,(∀o∈b,o=some y)/\K y=some r:=by
 cases b with
 |nil=>cases h
 |cons o b=>
  simp only[agree]at h;split at h<;>try (cases h;done)
  rename_i a;obtain⟨y,e,h⟩:=ak h;refine⟨y,λx c=> ?_,h⟩;rcases aib.1 c with rfl|c
  ·exact e
  ·rw[a x c];exact e
def nI{β α:Type}(n:Nat)(o:Option β)(K:β->Option α):agree (List.replicate (n+1) o) K=o.bind K:=by
 simp only[List.replicate_succ,agree];rw[ah2];intro x a;exact(List.mem_replicate.1 a).2
def uK:List Nat->ae->ae
 |[],S=>S
 |l::a,S=>(uK a S).set l (.raw .dead)
def RH:∀(ls:List Nat){S:ae}{σ:Sto},StR S σ->StR (uK ls S) (fg ls σ)/\bC S σ (uK ls S) (fg ls σ)
 |[],S,σ,h=>⟨h,.refl _ _⟩
 |l::ls,S,σ,h=>by
  obtain⟨a,c⟩:=RH ls h;simp only[uK,fg];rcases ah0 l (uK ls S).length with b|b
  ·have f:(uK ls S)[l]?=some (uK ls S)[l]:=ahK b;have g:bC (uK ls S) (fg ls σ) ((uK ls S).set l (.raw .dead)) ((fg ls σ).set l .dead):=bC.setOther a f (λ_ _ _ _ e=>by cases e);exact⟨a.set f g rfl,c.trans g⟩
  ·rw[List.set_eq_of_length_le b,List.set_eq_of_length_le (by rw[<-a.len];exact b)];exact⟨a,c⟩
def Vu(a:List Nat)(τ:ax):ax:=τ.filter λq=> !(BX q.1 a)
variable{Z:List Nat}{Y W:DCh}{X:Env->Sto->Prop}
def aac{S:ae}{σ:Sto}{τ:ax}{τ':Env}(h:ER S σ τ τ'):ER S σ (Vu Z τ) (Ur Z τ'):=by
 intro t v f;obtain⟨a,b⟩:=wx (p:=λt=> !(BX t Z)) f;obtain⟨d,c,e⟩:=h t v b;exact⟨d,Cl (p:=λt=> !(BX t Z)) a c,e⟩
def uL(T:Tys):List Oper->Nat->List Nat->Nat->Option Res
 |[],_,_,_=>some []
 |o::r,i,a,l=>match o.guard with
  |some _=>uL T r (i+1) a l
  |none=>match o.op with
   |.alloc e=>(lk T.zero e).bind λz=>match a with
    |n::a=>(uL T r (i+1) a l).bind λA=>some ((i,n,z)::A)
    |[]=>(uL T r (i+1) [] (l+1)).bind λA=>some ((i,l,z)::A)
   |_=>uL T r (i+1) a l
def HP{T:Tys}{x:Nat×Nat×List D}:∀{ops:List Oper}{i:Nat}{c:List Nat}{l:Nat}{A:Res},uL T ops i c l=some A->x∈A->∃(k:Nat)(o:Oper)(e:TypeId),x.1=i+k/\ops[k]?=some o/\o.op=.alloc e/\lk T.zero e=some x.2.2
 |[],_,_,_,A,h,b=>by cases h;simp at b
 |o::r,i,c,l,A,h,b=>by
  have a:∀{c:List Nat}{l:Nat}{A:Res},uL T r (i+1) c l=some A->x∈A->∃(k:Nat)(o':Oper)(e:TypeId),x.1=i+k/\(o::r)[k]?=some o'/\o'.op=.alloc e/\lk T.zero e=some x.2.2:=by
   intro c l A h b;obtain⟨k,o',e,f,n,p⟩:=HP h b;exact⟨k+1,o',e,by omega,by simpa using n,p⟩
  simp only[uL]at h;split at h
  ·exact a h b
  ·split at h
   ·rename_i e g;obtain⟨z,j,h⟩:=ak h;split at h
    ·obtain⟨m,f,h⟩:=ak h;cases h;rcases aib.1 b with rfl|b
     ·exact⟨0,o,e,rfl,rfl,g,j⟩
     ·exact a f b
    ·obtain⟨m,f,h⟩:=ak h;cases h;rcases aib.1 b with rfl|b
     ·exact⟨0,o,e,rfl,rfl,g,j⟩
     ·exact a f b
   ·exact a h b
def qP:Res->ae->ae
 |[],s=>s
 |(_,l,a)::A,s=>(qP A s).set l (.cells (mP a) false)
def RI(S:ae)(l:Nat):Bool:=match S[l]? with
 |some (.raw .dead)=>true
 |_=>false
def Xn{S:ae}{l:Nat}(h:RI S l=true):S[l]?=some (.raw .dead):=by
 unfold RI at h;split at h
 ·assumption
 ·cases h
def L8:List Nat->Bool
 |[]=>true
 |x::r=> !(BX x r)&&L8 r
def Oy:∀{l:List Nat},L8 l=true->l.Nodup
 |[],_=>List.nodup_nil
 |x::r,h=>by
  simp only[L8,ahJ,ajs]at h;exact akN.2 ⟨λa=>(by rw[JK.2 a]at h;cases h.1),Oy h.2⟩
def L9:∀(A:Res){S:ae}{σ:Sto},StR S σ->(A.map (·.2.1)).Nodup->(∀x∈A,S[x.2.1]?=some (.raw .dead))->StR (qP A S) (ia A σ)/\bC S σ (qP A S) (ia A σ)/\∀y,y ∉ A.map (·.2.1)->(qP A S)[y]?=S[y]?
 |[],S,σ,h,_,_=>⟨h,.refl _ _,λ_ _=>rfl⟩
 |(j,l,a)::A,S,σ,h,b,k=>by
  simp only[ahX,akN]at b;obtain⟨f,p,g⟩:=L9 A h b.2 λx q=>k x (ah4 _ q);have m:(qP A S)[l]?=some (.raw .dead):=by rw[g l b.1];exact k _ (aio ..)
  have n:bC (qP A S) (ia A σ) ((qP A S).set l (.cells (mP a) false)) ((ia A σ).set l (.cells a 0 0)):=bC.setOther f m (λ_ _ _ _ e=>by cases e);refine⟨f.set m n ⟨a,0,rfl,λ_=>rfl,lX _ _ a⟩,p.trans n,λy c=> ?_⟩;simp only[ahX,aib,not_or]at c;simp only[qP];rw[aiq (ajt c.1)];exact g y c.2
def StR.deads{S:ae}{σ:Sto}(h:StR S σ):∀n,StR (S++List.replicate n (kR.raw .dead)) (σ++List.replicate n am.dead)/\bC S σ (S++List.replicate n (kR.raw .dead)) (σ++List.replicate n am.dead)
 |0=>by simp only[List.replicate_zero,ah6];exact⟨h,.refl _ _⟩
 |n+1=>by
  obtain⟨a,b⟩:=StR.deads h n;rw[List.replicate_succ',List.replicate_succ',<-aia,<-aia];exact⟨a.push rfl,b.trans (bC.push a.len _ _)⟩
def Vv(A:Res)(n:Nat)(S:ae):Option ae:=match L8 (A.map (·.2.1))&&A.all λx=>RI (S++List.replicate n (.raw .dead)) x.2.1 with
 |true=>some (qP A (S++List.replicate n (.raw .dead)))
 |false=>none
def TR{A:Res}{n:Nat}{S S2:ae}{σ:Sto}(h:Vv A n S=some S2)(p:StR S σ):∃s,Ini A s σ/\StR S2 (ia A s)/\bC S σ S2 (ia A s):=by
 unfold Vv at h;split at h<;>cases h;rename_i c;simp only[ahJ,aie]at c;obtain⟨g,k⟩:=StR.deads p n;have b:=Oy c.1;have j:∀x∈A,(S++List.replicate n (kR.raw .dead))[x.2.1]?=some (.raw .dead):=λx f=>Xn (c.2 x f);obtain⟨l,m,_⟩:=L9 A g b j;refine⟨_,⟨b,λx f=> ?_,n,rfl⟩,l,k.trans m⟩;obtain⟨a,q,e⟩:=g.obj _ _ (j x f);rw[q];have e:a=.dead:=e;rw[e]
def Xo{P:Program}{N:Nat}{A:Res}{M:List Nat}{s σ:Sto}(h:Ini A s σ):DI P N A M 0 (ia A s) [ia A s] [] [] A [] []:=by
 refine⟨rfl,rfl,?_,?_,?_,?_,rfl,?_,rfl⟩
 ·intro k f b l _;cases k with
  |zero=>simp at b;subst b;rfl
  |succ k=>simp at b
 ·exact λx a _=>h.get x a
 ·exact λx a=>ah (h.get x a)
 ·intro j e c;simp at c
 ·intro x a;simp at a
def Ma{α:Type}(cx:Cx)(fid N:Nat)(ops:Array Oper)(b:List Nat)(τ:ax)(S:ae)(K:ax->ae->Option α):Option α:=
 HF S 0 λn=>(uL cx.T ops.toList 0 b n).bind λA=>match hZ ops (cV ops.toList []) with
  |true=>(Vv A (Nat.sub A.length b.length) S).bind λa=>E8 a λa=>sdr cx fid N ops A (cV ops.toList []) ops.toList 0 τ a A [] [] K
  |false=>none
def Mb{α:Type}{cx:Cx}{fid N:Nat}{r:α}(f:nT cx){ops:Array Oper}{τ:ax}{τ':Env}{S:ae}{σ:Sto}{K:ax->ae->Option α}(q:StR S σ)(p:ER S σ τ τ')(h:Ma cx fid N ops Z τ S K=some r)(u:∀τ2 b,og S σ K r τ2 b->X τ2 b):
 Drn cx.P N ops τ' σ X:=by
 simp only[Ma,zb,qO,aiA]at h;obtain⟨A,n,h⟩:=ak h;split at h<;>try (cases h;done)
 rename_i v;obtain⟨y,t,h⟩:=ak h;obtain⟨s,a,c,g⟩:=TR t q;refine⟨A,s,v,a,?_⟩;refine HN (A:=A) (M:=cV ops.toList []) (done:=[]) (suf:=[]) f (λx w=> ?_) ops.toList [] 0 τ τ' _ _ A [] [] _ [] _ (by simp) rfl (Xo a) c (p.pres g) h λτ2 b x=>u _ _ (x.trans g);obtain⟨k,o,e,z,j,l,m⟩:=HP n w;exact⟨k,o,e,by omega,j,l,m⟩
def RJ:List Oper->Nat->Option Nat
 |[],_=>none
 |o::r,i=>match o.op with
  |.call c=>match c.callee with
   |.builtin _=>RJ r (i+1)
   |_=>some i
  |_=>RJ r (i+1)
noncomputable def HQ{α β:Type}(cx:Cx)(fid N:Nat)(a:oe β)(ops:Array Oper)(f:List Nat)(c:Nat)(b:Array Oper->List Nat->ax->ae->Option β)(j:β->Option α)(τ:ax)(S:ae):Option α:=
 (ops[c]?).bind λl=>match qI ops&&(hZ ops (cV ops.toList [])&&hZ (gU ops (eM (cV ops.toList []) c ops.size)) (cV (gU ops (eM (cV ops.toList []) c ops.size)).toList [])) with
 |true=>(uL cx.T (gU ops (eM (cV ops.toList []) c ops.size)).toList 0 f S.length).bind λA=>(Vv A (Nat.sub A.length f.length) S).bind λS0=>
  sdg (λk=> !(Nat.testBit ((cV ops.toList []).getD c 0) ((eM (cV ops.toList []) c ops.size).getD k 0))) cx fid N (gU ops (eM (cV ops.toList []) c ops.size)) A (cV (gU ops (eM (cV ops.toList []) c ops.size)).toList []) (gU ops (eM (cV ops.toList []) c ops.size)).toList 0 τ S0 A [] [] λe g=>
   agree ((Pf ((cV ops.toList []).getD c 0) (cV (gU ops (eM (cV ops.toList []) c ops.size)).toList []) (eM (cV ops.toList []) c ops.size)).map λD=>
    EU cx fid N a ops [l] (Vu (rQ (gU ops (eM (cV ops.toList []) c ops.size)).toList D) e) (uK (pw D A) g) λτ2 h=>b (gU ops (pu (cV ops.toList []) c ops.size D)) (pw D A) τ2 h) j
 |false=>none
noncomputable def RK{β:Type}(cx:Cx)(fid N:Nat)(b:oe β)(a:ax->ae->Option β):Nat->Array Oper->List Nat->ax->ae->Option β
 |0,ops,e,τ,S=>Ma cx fid N ops e τ S a
 |n+1,ops,e,τ,S=>match RJ ops.toList 0 with
  |some c=>HQ cx fid N b ops e c (RK cx fid N b a n) some τ S
  |none=>Ma cx fid N ops e τ S a
section
variable {α β:Type}{cx:Cx}{fid N:Nat}{r:α}
def Mc(z:nT cx){b:oe β}(q:ti cx.P b){i c:Nat}{ops:Array Oper}{τ:ax}{τ':Env}{S:ae}{σ:Sto}{g:ax->ae->Option β}{j:Array Oper->List Nat->ax->ae->Option β}{G:β->Option α}(hS:StR S σ)(hE:ER S σ τ τ')
 (u:∀(ops:Array Oper)(Z:List Nat)(τ:ax)(τ':Env)(S:ae)(σ:Sto)(y:β),StR S σ->ER S σ τ τ'->j ops Z τ S=some y->∀Q:AEx->Env->Sto->Prop,(∀τ2 a,og S σ g y τ2 a->Q .normal τ2 a)->D0 i cx.P N ops τ' σ Q)
 (h:HQ cx fid N b ops Z c j G τ S=some r){Q:AEx->Env->Sto->Prop}(hQ:∀y,G y=some r->∀τ2 a,og S σ g y τ2 a->Q .normal τ2 a):D0 i cx.P N ops τ' σ Q:=by
 unfold HQ at h;obtain⟨oc,O,h⟩:=ak h;split at h<;>try (cases h;done)
 rename_i p;simp only[ahJ]at p;obtain⟨hg,hp,R⟩:=p;obtain⟨A,hA,h⟩:=ak h;obtain⟨S0,hi,h⟩:=ak h;obtain⟨s0,n,J,V⟩:=TR hi hS;refine Wh (M:=cV ops.toList []) A O hg rfl hp rfl rfl R n (λk=> !(Nat.testBit ((cV ops.toList []).getD c 0) ((eM (cV ops.toList []) c ops.size).getD k 0))) ?_ (K:=λB m=>∃y l v,G y=some r/\ER v m l B/\StR v m/\bC S σ v m/\
  ∀D∈Pf ((cV ops.toList []).getD c 0) (cV (gU ops (eM (cV ops.toList []) c ops.size)).toList []) (eM (cV ops.toList []) c ops.size),(EU cx fid N b ops [oc] (Vu (rQ (gU ops (eM (cV ops.toList []) c ops.size)).toList D) l) (uK (pw D A) v) λτ2 E=>j (gU ops (pu (cV ops.toList []) c ops.size D)) (pw D A) τ2 E)=some y) ?_ ?_
 ·intro k i hk L;simp only[Bool.not_eq_false']at L;have e:(eM (cV ops.toList []) c ops.size).getD k 0=i:=by rw[ah5,hk];rfl
  rw[e]at L;exact L
 ·refine RG (A:=A) (done:=[]) (suf:=[]) z (λx hx=> ?_) _ [] 0 τ τ' _ _ A [] [] _ [] _ (by simp) rfl ?_ J (hE.pres V) h ?_
  ·obtain⟨k,o,e,F,w,H,Y⟩:=HP hA hx;exact⟨k,o,e,by omega,w,H,Y⟩
  ·exact Xo n
  ·rintro τ2 a ⟨l,E,F,w,t,H⟩;obtain⟨y,f,s⟩:=Xm H;exact⟨y,l,E,s,F,w,V.trans t,λD I=>f _ (aiG.2 ⟨D,I,rfl⟩)⟩
 ·rintro B m ⟨y,l,v,s,F,w,t,f⟩ D I;obtain⟨k1,W⟩:=RH (pw D A) w;refine iN.monoK ?_ _ _ _ (Dt z q _ _ _ _ _ k1 (aac (F.pres W)) (f D I));rintro τ2 a ⟨X,E,m1,m2,U,m3⟩;exact u _ _ _ _ _ _ y m2 m1 m3 Q λj4 j3 x=>hQ y s _ _ (x.trans (t.trans (W.trans U)))
def acy(f:nT cx){b:oe β}(c:ti cx.P b){i:Nat}{a:ax->ae->Option β}:∀(n:Nat)(ops:Array Oper)(m:List Nat)(τ:ax)(τ':Env)(S:ae)(σ:Sto)(y:β),StR S σ->ER S σ τ τ'->RK cx fid N b a n ops m τ S=some y->
 ∀Q:AEx->Env->Sto->Prop,(∀τ2 g,og S σ a y τ2 g->Q .normal τ2 g)->D0 i cx.P N ops τ' σ Q:=by
 intro n;induction n with
 |zero=>exact λops m τ τ' S σ y l j h Q k=>(Mb f l j h k).any
 |succ n p=>
  intro ops m τ τ' S σ y l j h Q k;simp only[RK]at h;split at h
  ·exact Mc f c l j p h λq e=>by cases e;exact k
  ·exact(Mb f l j h k).any
def Xp(g:nT cx){a:oe β}(b:ti cx.P a){i id c:Nat}{ops:Array Oper}{τ:ax}{τ':Env}{S:ae}{σ:Sto}{f:ax->ae->Option β}{k:β->Option α}(m:StR S σ)(l:ER S σ τ τ')(h:HQ cx fid N a ops [] c (RK cx fid N a f 4) k τ S=some r):
 AWp i cx.P N (.region id ops true) τ' σ λe τ2 j=>e=.normal/\∃y,k y=some r/\og S σ f y τ2 j:=
 (Mc g b m l (acy g b 4) h λy n _ _ x=>⟨rfl,y,n,x⟩).awp g.mix
end
end
end Go.Fw
namespace Go.Fw
noncomputable section
open Go.RowKit
section
variable {P:Program}{B:dN P}{G:Gh}{σ:Sto}{w:World}
def Rel.raise(c:Rel B G σ w){l f j v:Nat}{cs:List D}(k:σ[l]?=some (.cells cs f v))(t:f<=j)(m:j<=cs.length):Rel B G (σ.set l (.cells cs j v)) w:=by
 have n:=ah k;have look:∀{a:Nat}{d:am},(σ.set l (.cells cs j v))[a]?=some d->(a=l/\d=.cells cs j v)∨(a≠l/\σ[a]?=some d):=by
  intro a d h;by_cases e:a=l
  ·subst e;rw[aiD n]at h;exact .inl ⟨rfl,(aiM h).symm⟩
  ·rw[aiq (ajt e)]at h;exact .inr ⟨e,h⟩
 refine⟨c.below,c.imm,c.mimm,c.siz,λa r b g=> ?_,c.inj,λa d b i g=> ?_,λa s p r b i g o x q=> ?_,λa u y b i g=> ?_,λa d i=> ?_,λa d i=> ?_,c.bimm,c.bmimm⟩
 ·rw[ajH];exact c.blk a r b g
 ·rcases look i with⟨rfl,rfl⟩|⟨_,h⟩
  ·exact c.obj a (.cells cs f v) b k g
  ·exact c.obj a d b h g
 ·rcases look i with⟨rfl,h⟩|⟨_,h⟩
  ·cases h;exact aix (c.own a _ _ _ b k g o x q) t
  ·exact c.own a _ _ _ b h g o x q
 ·rcases look i with⟨_,h⟩|⟨_,h⟩
  ·cases h
  ·exact c.ownm a u y b h g
 ·rcases look i with⟨rfl,rfl⟩|⟨_,h⟩
  ·have:=c.ver a _ k;exact⟨by simp only[am.ver,am.len]at this⊢;omega,this.2⟩
  ·exact c.ver a d h
 ·rcases look i with⟨rfl,rfl⟩|⟨_,h⟩
  ·simp only[am.frz,am.len];exact m
  ·exact c.frzle a d h
def acz{G:Gh}{l u n sz:Nat}{cs:List D}{v v':Value}(d:cs.length=n*sz)(p:Rep G (.sl l u 0 n sz false) v)(q:Rep G (.list cs n false) v)(g:Rep G (.sl l u 0 n sz false) v'):Rep G (.list cs n false) v':=by
 simp only[Rep]at p q g⊢;by_cases i:n=0
 ·subst i;have c:cs=[]:=by
   rw[ajD]at d;exact ait d
  rcases g with⟨b,e,j,m,rfl,s,t,_⟩|⟨_,a,rfl⟩
  ·exact⟨_,e,rfl,s,t,(λh=>absurd h (by decide)),.inr c⟩
  ·exact⟨a,0,rfl,ahS _,by omega,λ_=>rfl,.inr c⟩
 ·rcases p with⟨b,e,j,m,rfl,_⟩|⟨h,_⟩
  ·rcases g with⟨A,f,r,o,rfl,y,z,_⟩|⟨h,_⟩
   ·rw[m]at o;cases o;refine⟨_,f,rfl,y,z,(λh=>absurd h (by decide)),?_⟩;obtain⟨a,k,x,_,_,_,c⟩:=q;rcases c with⟨C,E,rfl,c⟩|c
    ·cases x;exact .inl ⟨_,_,rfl,c⟩
    ·exact .inr c
   ·exact absurd h i
  ·exact absurd h i
end
def NA(S:ae)(i o:Nat):Option ae:=match S[i]? with
 |some (.cells a e)=>match a[o]? with
  |some (.own l g)=>match S[l]? with
   |some (.arr c d _ b)=>match Nat.beq g b with
    |true=>some ((S.set l (.arr c d true b)).set i (.cells (a.set o (.sl c d false)) e))
    |false=>none
   |_=>none
  |_=>none
 |_=>none
def Vw{P:Program}{S S':ae}{σ:Sto}{i o:Nat}(h:NA S i o=some S')(M:StR S σ):
 ∃p,StR S' p/\bC S σ S' p/\∀(N:Nat)(τ:Env),qy P N τ σ τ p:=by
 unfold NA at h;split at h<;>try (cases h;done)
 rename_i V W D;split at h<;>try (cases h;done)
 rename_i l g hc;split at h<;>try (cases h;done)
 rename_i c b j4 g' E;split at h<;>try (cases h;done)
 rename_i R;have R:=dd R;subst R;cases h;obtain⟨a,ha,I,A,rfl,Q,s⟩:=M.obj _ _ D;obtain⟨e,Y,t⟩:=s.get hc;simp only[VR]at t;obtain⟨j3,u,F,rfl⟩:=(t.2 _ _ _ _ E).2 rfl;have m:(c.flat b).length=b.length*c.sz:=iG _ _;have z:i≠l:=λe=>by rw[e,E]at D;cases D
 have n:bC S σ (S.set l (.arr c b true g)) (σ.set l (.cells (c.flat b) (c.flat b).length u)):=bC.setSame M E F rfl;have Z:StR (S.set l (.arr c b true g)) (σ.set l (.cells (c.flat b) (c.flat b).length u)):=M.set E n ⟨_,u,rfl,λh=>by cases h⟩;have y:(S.set l (.arr c b true g))[i]?=some (.cells V W):=by rw[aiq z.symm];exact D
 have r:(σ.set l (.cells (c.flat b) (c.flat b).length u))[i]?=some (.cells I A 0):=by rw[aiq z.symm];exact ha
 have j:=bC.setCells Z (cs':=V.set o (.sl c b false)) (fz':=W) (a:=.cells (I.set o (.list (c.flat b) b.length false)) A 0) y;have O:=Z.set y j ⟨_,A,rfl,Q,VRs.set (v:=.sl c b false) (d:=.list (c.flat b) b.length false) (by simp only[VR];exact⟨false,rfl,λh=>by cases h⟩) (VRs.pres (n.trans j) _ _ s)⟩;refine⟨_,O,n.trans j,λN τ B G w H L X=> ?_⟩;have J:∀f,G.Le f->Rel B f (σ.set l (.cells (c.flat b) (c.flat b).length u)) w->(∀U,Rep f (.sl l u 0 b.length c.sz false) U->Rep f (.list (c.flat b) b.length false) U)->
  ∃f,G.Le f/\Rel B f ((σ.set l (.cells (c.flat b) (c.flat b).length u)).set i (.cells (I.set o (.list (c.flat b) b.length false)) A 0)) w/\gw f N τ H:=by
  intro f q K C;exact⟨f,q,K.weakObj r (by simp) λvs k=>af.set_weak (λv k=>C v k) Y k,X.mono q⟩
 by_cases x:∃v,Rep G (.sl l u 0 b.length c.sz false) v
 ·obtain⟨v,k⟩:=x;obtain⟨f,q,K,C⟩:=A3 L F (by rw[m];omega) k;rw[aiz,aih (by rw[m];exact ahS _)]at C;exact J f q K λU T=>acz m (Rep.mono q _ _ k) C T
 ·refine⟨G,.refl G,(L.raise F (L.frzle _ _ F) (ahS _)).weakObj r (by simp) λvs k=> ?_,X⟩;exact af.set_weak (λv k=>absurd ⟨v,k⟩ x) Y k
def AWp.preG{i:Nat}{P:Program}{N:Nat}{c:Code}{τ τ':Env}{σ σ':Sto}{Q:AEx->Env->Sto->Prop}(j:qy P N τ σ τ' σ')(h:AWp i P N c τ' σ' Q):AWp i P N c τ σ Q:=by
 intro B G w a f g;obtain⟨b,k,d,l⟩:=j B G w a f g;exact alh (h B b w a d l) λe a w x=>nN k.b (λ_ _ _ h=>h) e a w x
def Vx:List Nat->ae->Option ae
 |[],S=>some S
 |p::r,S=>(NA S (Nat.div p 1024) (Nat.mod p 1024)).bind (Vx r)
def aho(a:cI):List Nat:=a.flatMap λq=>q.2.env.map λp=>p.1
def TS{P:Program}:∀{l:List Nat}{S S':ae}{σ:Sto},Vx l S=some S'->StR S σ->∃a,StR S' a/\bC S σ S' a/\∀(N:Nat)(τ:Env),qy P N τ σ τ a
 |[],S,S',σ,h,hS=>by cases h;exact⟨σ,hS,.refl _ _,λN τ=>.refl N τ σ⟩
 |p::r,S,S',σ,h,hS=>by
  simp only[Vx]at h;obtain⟨n,j,k⟩:=ak h;obtain⟨m,c,d,e⟩:=Vw (P:=P) j hS;obtain⟨b,f,g,i⟩:=TS (P:=P) k c;exact⟨b,f,d.trans g,λN τ=>(e N τ).trans (i N τ)⟩
end
end Go.Fw
namespace Go.Fw
noncomputable section
open Go.RowKit
def Vc{α:Type}(T:Tys)(τ:ax)(S:ae)(r:ResultVar)(K:SV->Option α):Option α:=match r with
 |.tmp t=>(nj τ t).bind K
 |.cell t a=>Pq T τ S a (.tmp t) K
def Pn{α:Type}(T:Tys)(τ:ax)(S:ae):List ResultVar->(List SV->Option α)->Option α
 |[],K=>K []
 |r::a,K=>Vc T τ S r λv=>Pn T τ S a λb=>K (v::b)
def Ko{α:Type}(T:Tys)(τ:ax)(S:ae)(b:List ResultVar)(K:SV->Option α):Option α:=Pn T τ S b λa=>match a with
 |[v]=>K v
 |a=>K (.tup a)
section
variable {α:Type}{T:Tys}{S:ae}{σ:Sto}{τ:ax}{τ' :Env}{r:α}
def ZO(m:StR S σ)(g:ER S σ τ τ'){x:ResultVar}{K:SV->Option α}(h:Vc T τ S x K=some r):∃v b d,K v=some r/\VR S σ v d/\aE b d/\PX T τ' σ x=some b:=by
 unfold Vc at h;cases x with
 |tmp t=>
  obtain⟨v,n,h⟩:=ak h;obtain⟨d,c,e⟩:=g t v n;exact⟨v,d,d,h,e,aE.refl _,c⟩
 |cell t o=>
  obtain⟨v,b,d,c,e,i,j⟩:=Rp m g h;have f:=j σ λ_ _=>rfl;refine⟨v,b,d,c,e,i,?_⟩;simp only[aop,ajo,ah7]at f;obtain⟨a,k,l,_⟩:=f;subst l;exact k
def Rj(g:StR S σ)(f:ER S σ τ τ'):∀{e:List ResultVar}{K:List SV->Option α},Pn T τ S e K=some r->∃c a b,K c=some r/\VRs S σ c b/\cZ a b/\vM T τ' σ e=some a
 |[],K,h=>⟨[],[],[],h,by simp only[VRs],rfl,rfl⟩
 |x::e,K,h=>by
  simp only[Pn]at h;obtain⟨v,i,d,j,k,l,m⟩:=ZO g f h;obtain⟨c,a,b,n,o,p,q⟩:=Rj g f j;exact⟨v::c,i::a,d::b,n,by simp only[VRs];exact⟨d,b,rfl,k,o⟩,⟨l,p⟩,by simp only[vM,m,q]⟩
def Tu(q:StR S σ)(p:ER S σ τ τ'){n:List ResultVar}{K:SV->Option α}(h:Ko T τ S n K=some r):∃v f d,K v=some r/\VR S σ v d/\aE f d/\tz T n τ' σ=some f:=by
 unfold Ko at h;obtain⟨k,a,l,j,g,c,m⟩:=Rj q p h;have s:=g.length;have b:=c.length;split at j
 ·rename_i v;simp only[VRs]at g;obtain⟨e,t,rfl,o,rfl⟩:=g
  match a,c with
  |[f],c=>exact⟨v,f,e,j,o,c.1,by simp only[tz,m]⟩
 ·rename_i i;refine⟨.tup k,.tuple a,.tuple l,j,by simp only[VR];exact⟨l,rfl,g⟩,aE.tuple c,?_⟩;unfold tz;rw[m]
  match a,b with
  |[],_=>rfl
  |[d],b=>
   exfalso;have:k.length=1:=by rw[<-s,<-b];rfl
   match k,this with
   |[v],_=>exact i v rfl
  |_::_::_,_=>rfl
end
def Vd:AEx->AEx->Bool
 |.normal,.normal=>true
 |.exit a,.exit b=>Nat.beq a b
 |.goto a,.goto b=>Nat.beq a b
 |.ret,.ret=>true
 |_,_=>false
def ZP{a b:AEx}(h:Vd a b=true):a=b:=by
 cases a<;>cases b<;>simp only[Vd]at h<;>first|rfl|(cases h;done)|(rw[dd h])
def Hz:cI->AEx->Nat->Option (Nat×Pat)
 |[],_,_=>none
 |(e,p)::r,a,m=>match Vd e a with
  |true=>some (m,p)
  |false=>Hz r a (m+1)
def Ok:∀{x:cI}{e:AEx}{m n:Nat}{p:Pat},Hz x e m=some (n,p)->∃k,n=m+k/\x[k]?=some (e,p)
 |[],_,_,_,_,h=>by simp[Hz]at h
 |(c,f)::r,e,m,n,p,h=>by
  simp only[Hz]at h;split at h
  ·rename_i b;have:=ZP b;subst this;cases h;exact⟨0,rfl,rfl⟩
  ·obtain⟨k,d,a⟩:=Ok h;exact⟨k+1,by omega,by simpa using a⟩
def Kp:ae->Nat
 |[]=>0
 |o::S=>match o with
  |.arr _ _ _ g=>max (g+1) (Kp S)
  |_=>Kp S
def Tv:∀{S:ae}{l:Nat}{t:TC}{xs:List t.Den}{fz:Bool}{g:Nat},S[l]?=some (.arr t xs fz g)->g<Kp S
 |[],l,_,_,_,_,h=>by simp at h
 |o::S,0,t,xs,fz,g,h=>by
  simp at h;subst h;simp only[Kp];omega
 |o::S,l+1,t,xs,fz,g,h=>by
  have:=Tv (S:=S) (l:=l) (by simpa using h);cases o<;>simp only[Kp]<;>omega
def uF:ae->List PO->Bool
 |_,[]=>true
 |[],p::a=>(match p with|.arr _ _ _=>false|_=>true)&&uF [] a
 |o::S,p::a=>(match p with|.arr _ _ _=>(match o with|.arr _ _ _ _=>true|_=>false)|_=>true)&&uF S a
def oo(i:Nat)(S:ae)(σ:Sto)(S':ae)(σ':Sto):Prop:=(∀l g d,l<i->AB S σ l g d->AB S' σ' l g d)/\∀l g k o d,l<i->ApR S σ l g k o d->ApR S' σ' l g k o d
def oo.trans{i:Nat}{S c S2:ae}{σ b σ2:Sto}(h:oo i S σ c b)(k:oo i c b S2 σ2):oo i S σ S2 σ2:=
 ⟨λl g d a x=>k.1 l g d a (h.1 l g d a x),λl g j o d a x=>k.2 l g j o d a (h.2 l g j o d a x)⟩
def bC.i{i:Nat}{S b:ae}{σ a:Sto}(h:bC S σ b a):oo i S σ b a:=⟨λl g d _ x=>h.own l g d x,λl g j o d _ x=>h.ap l g j o d x⟩
def oo.full{S b:ae}{σ a:Sto}(h:oo S.length S σ b a):bC S σ b a:=⟨λl g d x=>h.1 l g d x.1 x,λl g j o d x=>h.2 l g j o d x.1 x⟩
def PO.put_arr{G:Nat->Nat}{j:Nat}{p:PO}{l r:List DV}{o:kR}(h:p.put G j l=some (o,r)){t:TC}{xs:List t.Den}{fz:Bool}{g:Nat}(e:o=.arr t xs fz g):g=G j/\∃c a b,p=.arr c a b:=by
 cases p<;>simp only[PO.put]at h
 case cells=>split at h<;>cases h;cases e
 case arr=>split at h<;>cases h;cases e;exact⟨rfl,_,_,_,rfl⟩
 case it=>split at h<;>cases h;cases e
 case smap=>split at h<;>cases h;cases e
 case dead=>cases h;cases e
 case junk=>cases h;cases e
def PO.puts_arr{G:Nat->Nat}:∀{m:List PO}{i:Nat}{l r:List DV}{k:ae}{S:ae},PO.puts G i m l=some (k,r)->uF S m=true->∀{j:Nat}{t:TC}{xs:List t.Den}{fz:Bool}{g:Nat},k[j]?=some (.arr t xs fz g)->g=G (i+j)/\(∃d n c e,S[j]?=some (.arr d n c e))/\∃v q u,m[j]?=some (.arr v q u)
 |[],i,l,r,k,S,h,_,j,t,xs,fz,g,a=>by
  simp only[PO.puts,ahM,ah7]at h;rw[<-h.1]at a;simp at a
 |p::m,i,l,r,k,S,h,b,j,t,xs,fz,g,a=>by
  simp only[PO.puts]at h;split at h<;>try (cases h;done)
  rename_i o C y;split at h<;>try (cases h;done)
  rename_i A D w;cases h;cases j with
  |zero=>
   simp at a;obtain⟨f,d,c,B,rfl⟩:=PO.put_arr y a;refine⟨f,?_,_,_,_,rfl⟩;cases S with
   |nil=>simp[uF]at b
   |cons x S=>
    cases x<;>simp[uF]at b;exact⟨_,_,_,_,rfl⟩
  |succ j=>
   cases S with
   |nil=>
    simp only[uF,ahJ]at b;obtain⟨f,⟨d,n,c,e,s⟩,_⟩:=PO.puts_arr w b.2 (j:=j) (by simpa using a);simp at s
   |cons x S=>
    simp only[uF,ahJ]at b;obtain⟨f,⟨d,n,c,e,s⟩,v,q,u,z⟩:=PO.puts_arr w b.2 (j:=j) (by simpa using a);exact⟨by rw[show i+(j+1)=i+1+j from by omega];exact f,⟨d,n,c,e,by simpa using s⟩,v,q,u,by simpa using z⟩
def Po(S0:ae)(objs:List PO)(l:Nat):Nat:=match objs[l]? with
 |some (.arr _ _ true)=>match S0[l]? with
  |some (.arr _ _ _ g)=>g
  |_=>Kp S0
 |_=>Kp S0
def KpO(p:Pat)(S0:ae)(a:Sto)(S:ae)(σ:Sto):Prop:=∀(l:Nat) t0 f0,p.objs[l]?=some (.arr t0 f0 true)->∀g f h c,S0[l]?=some (.arr f h c g)->
 ∃t i e b,S[l]?=some (.arr t i e b)/\(∀d,AB S0 a l g d->AB S σ l b d)/\∀k o d,ApR S0 a l g k o d->ApR S σ l b k o d
def Pat.put_pres{i:Nat}{p:Pat}{l:List DV}{τ:ax}{S S2:ae}{σ σ2:Sto}(h:p.put (Po S p.objs) l=some (τ,S2))(H:uF S p.objs=true)(O:i<=S2.length)(E:KpO p S σ S2 σ2):oo i S σ S2 σ2:=by
 unfold Pat.put at h;split at h<;>try (cases h;done)
 split at h<;>try (cases h;done)
 rename_i N J;cases h;have y:∀{j:Nat}{t:TC}{A:List t.Den}{z:Bool}{v:Nat},S2[j]?=some (.arr t A z v)->∃q u f n,S[j]?=some (.arr q u f n)/\((v=n/\∃s m,p.objs[j]?=some (.arr s m true))∨n<v):=by
  intro j t A z v b;obtain⟨a,⟨q,u,f,n,c⟩,s,m,K,e⟩:=PO.puts_arr J H b;rw[aiA]at a;refine⟨q,u,f,n,c,?_⟩;unfold Po at a;rw[e]at a;cases K
  ·exact .inr (by rw[a];exact Tv c)
  ·simp only[c]at a;exact .inl ⟨a,s,m,e⟩
 refine⟨λj g d I x=>⟨by omega,λt A z v b=> ?_⟩,λj g k o d I x=>⟨by omega,λt A z v b=> ?_⟩⟩
 ·obtain⟨q,u,f,n,c,e⟩:=y b;have B:=(x.2 _ _ _ _ c).1;rcases e with⟨rfl,s,m,C⟩|e
  ·refine⟨B,λa=> ?_⟩;subst a;obtain⟨L,M,F,G,w,D,_⟩:=E j s m C g q u f c;rw[b]at w;cases w;exact((D d x).2 _ _ _ _ b).2 rfl
  ·exact⟨by omega,λa=>by omega⟩
 ·obtain⟨q,u,f,n,c,e⟩:=y b;have B:=(x.2 _ _ _ _ c).1;rcases e with⟨rfl,s,m,C⟩|e
  ·refine⟨B,λa=> ?_⟩;subst a;obtain⟨L,M,F,G,w,_,D⟩:=E j s m C g q u f c;rw[b]at w;cases w;exact((D k o d x).2 _ _ _ _ b).2 rfl
  ·exact⟨by omega,λa=>by omega⟩
def abc{α:Type}(S0:ae)(x:cI)(m:Nat)(l:List DV)(k:AEx->ax->ae->Option α):Option α:=(x[m]?).bind λq=>match uF S0 q.2.objs with
 |true=>(q.2.put (Po S0 q.2.objs) l).bind λw=>k q.1 w.1 w.2
 |false=>none
def AE(x:cI)(i:Nat)(S0:ae)(e:AEx)(τ:ax)(S:ae):Option (XS x.tcs):=(Hz x e 0).bind λq=>(q.2.get i S0 τ S).bind λl=>HH x.tcs q.1 l
def sgo{α:Type}(S0:ae)(x:cI)(y:XS x.tcs)(k:AEx->ax->ae->Option α):Option α:=yL x.tcs y λm l=>abc S0 x m l k
def uG{α:Type}(i:Nat)(S0:ae)(b:Sto)(k:AEx->ax->ae->Option α)(r:α):AEx->Env->Sto->Prop:=λe τ' a=>∃τ S,ER S a τ τ'/\StR S a/\oo i S0 b S a/\k e τ S=some r
def uH(i:Nat)(x:cI)(y:XS x.tcs)(S0:ae)(b:Sto):AEx->Env->Sto->Prop:=λe τ' a=>∃m p l,x[m]?=some (e,p)/\(∀(α:Type)(f:Nat->List DV->Option α),yL x.tcs y f=f m l)/\∀G,∃τ S,p.put G l=some (τ,S)/\i<=S.length/\ER S a τ τ'/\StR S a/\KpO p S0 b S a
def KpR.o{i:Nat}{p:Pat}{S0 S S2:ae}{h σ σ2:Sto}{G:Nat->Nat}(H:KpR p S0 S σ σ2)(C:oo i S0 h S σ)(B:∀(l:Nat) b a,p.objs[l]?=some (.arr b a true)->l<i)
 (F:∀(j:Nat) b a,p.objs[j]?=some (.arr b a true)->∀t f n g,S[j]?=some (.arr t f n g)->∃c,S2[j]?=some (.arr t f c (G j))):KpO p S0 h S2 σ2:=by
 intro l b a m g J K I E;obtain⟨t,f,n,q,s,e,A⟩:=H l b a m;unfold yX at e;rw[E]at e;have e:=dd e;subst e;obtain⟨c,v⟩:=F l b a m t f n q s;refine⟨t,f,c,G l,v,λd z=> ?_,λk o d z=> ?_⟩
 ·have w:=C.1 l q d (B l b a m) z;obtain⟨D,u,x,y⟩:=(w.2 _ _ _ _ s).2 rfl;exact .mk v (by rw[A];exact x) y
 ·have w:=C.2 l q k o d (B l b a m) z;obtain⟨D,u,x,y⟩:=(w.2 _ _ _ _ s).2 rfl;exact .mk v (by rw[A];exact x) y
def ru(i:Nat):Nat->List PO->Bool
 |_,[]=>true
 |j,p::a=>(match p with|.arr _ _ true=>Nat.blt j i|_=>true)&&ru i (j+1) a
def Nn{i:Nat}:∀{j:Nat}{d:List PO},ru i j d=true->∀(l:Nat) c a,d[l]?=some (.arr c a true)->j+l<i
 |j,[],_,l,c,a,h=>by simp at h
 |j,p::d,b,0,c,a,h=>by
  simp at h;subst h;simp only[ru,ahJ]at b;exact ahV b.1
 |j,p::d,b,l+1,c,a,h=>by
  simp only[ru,ahJ]at b;have:=Nn b.2 l c a (by simpa using h);omega
def qz{P:Program}{x:cI}{i j N:Nat}{e:AEx}{τ:ax}{S0 S:ae}{τ':Env}{d σ:Sto}{y:XS x.tcs}(h:AE x i S0 e τ S=some y)(z:ER S σ τ τ')(B:StR S σ)(C:oo j S0 d S σ)(E:∀q∈x,ru j 0 q.2.objs=true):
 ∃b a,Vq P i N τ' σ b a/\uH i x y S0 d e b a:=by
 unfold AE at h;obtain⟨q,D,h⟩:=ak h;obtain⟨l,g,h⟩:=ak h;obtain⟨m,p⟩:=q;obtain⟨k,s,c⟩:=Ok D;rw[aiA]at s;subst s;obtain⟨b,a,v,w,A⟩:=Pat.norm (N:=N) g z B;refine⟨b,a,v,m,p,l,c,λα f=>Ow _ h,λG=> ?_⟩;obtain⟨o,t,F,H,I,J,K⟩:=A G;have n:=E _ (aik c);exact⟨o,t,F,H,I,J,w.o C (λl L u g=>by have:=Nn n l L u g;omega) K⟩
variable{Z:ae}{Y:Sto}
def uH.go{α:Type}{i j:Nat}{x:cI}{y:XS x.tcs}{e:AEx}{τ':Env}{σ:Sto}{k:AEx->ax->ae->Option α}{r:α}(h:uH j x y Z Y e τ' σ)(u:i<=j)(a:sgo Z x y k=some r):uG i Z Y k r e τ' σ:=by
 obtain⟨m,p,l,f,g,n⟩:=h;unfold sgo at a;rw[g α]at a;unfold abc at a;rw[f]at a;obtain⟨q,v,a⟩:=ak a;cases v;split at a<;>try (cases a;done)
 rename_i d;obtain⟨w,b,a⟩:=ak a;obtain⟨τ,S,c,z,o,s,t⟩:=n (Po Z p.objs);simp only at b d;rw[c]at b;cases b;exact⟨τ,S,o,s,Pat.put_pres c d (by omega) t,a⟩
def LOk(P:Program)(e:jl):Prop:=∀a c,P.funcs[e.fid]?=some a->a.body=some c->∀b∈fK e.key c,∀x y,e.fn x=some y->∀τ S,e.head.put (λ_=>0) (jm _ x)=some (τ,S)->
 ∀τ' σ,ER S σ τ τ'->StR S σ->LWp e.i P a.ntmps b τ' σ (uH e.i e.exits y S σ)
def rU(head:List PO)(objs:List PO):Bool:=match objs,head with
 |[],_=>true
 |p::a,[]=>(match p with|.arr _ _ true=>false|_=>true)&&rU [] a
 |p::a,q::b=>(match p with|.arr _ _ true=>(match q with|.arr _ _ true=>true|_=>false)|_=>true)&&rU b a
def EV:∀{e j:List PO},rU j e=true->∀(l:Nat) c b,e[l]?=some (.arr c b true)->∃g d,j[l]?=some (.arr g d true)
 |[],_,_,l,c,b,h=>by simp at h
 |p::e,[],a,l,c,b,h=>by
  simp only[rU,ahJ]at a;cases l with
  |zero=>simp at h;subst h;simp at a
  |succ l=>
   obtain⟨g,d,i⟩:=EV a.2 l c b (by simpa using h);simp at i
 |p::e,q::j,a,l,c,b,h=>by
  simp only[rU,ahJ]at a;cases l with
  |zero=>
   simp at h;subst h;cases q with
   |arr t f k=>cases k<;>simp at a;exact⟨t,f,rfl⟩
   |cells _ _=>simp at a
   |it=>simp at a
   |smap=>simp at a
   |dead=>simp at a
   |junk=>simp at a
  |succ l=>
   obtain⟨g,d,i⟩:=EV a.2 l c b (by simpa using h);exact⟨g,d,by simpa using i⟩
def xi{P:Program}{T:Tys}{i:Nat}{σ:Sto}(k:TOk T P){f:FuncId}{fn:Func}{c:Code}{ds:List D}{R:D->Sto->Prop}(z:P.funcs[f]?=some fn)(y:fn.body=some c)(A:ds.length<=fn.ntmps)
 (h:AWp i P fn.ntmps c (env0 0 ds) σ λe τ' g=>(e=.normal∨e=.ret)/\∃d,tz T fn.results.toList τ' g=some d/\∃a b,R a b/\Gho P g b d a):ry i P f ds σ R:=by
 have l:=DQ (R:=λd s=>∃a b,R a b/\Gho P s b d a) k z y A h;intro B G w j x C;refine(l B G w j x C).mono ?_;rintro e I ⟨v,m,d,g,rfl,o,p,q,a,b,t,u⟩;obtain⟨n,E,F,H⟩:=u B m I v p q;exact⟨v,n,a,b,rfl,o.trans E.b,F,H,t⟩
def EW:ax->List Nat->ax
 |[],_=>[]
 |(t,d)::r,seen=>match seen.any (Nat.beq t) with
  |true=>EW r seen
  |false=>(t,d)::EW r (t::seen)
def EX:∀(τ:ax)(seen:List Nat)(t:Nat)(d:SV),nj (EW τ seen) t=some d->seen.any (Nat.beq t)=false/\nj τ t=some d
 |[],_,_,_,h=>by simp[EW,nj]at h
 |(i,x)::r,seen,t,d,h=>by
  simp only[EW]at h;split at h
  ·rename_i c;obtain⟨a,b⟩:=EX r seen t d h;refine⟨a,?_⟩;have:i≠t:=λe=>by subst e;rw[c]at a;cases a
   rw[th,air this];exact b
  ·rename_i c;rw[th]at h⊢;by_cases e:i=t
   ·subst e;rw[ah2 rfl]at h⊢;exact⟨c,h⟩
   ·rw[air e]at h⊢;obtain⟨a,b⟩:=EX r (i::seen) t d h;simp only[List.any_cons,ala]at a;exact⟨a.2,b⟩
def ER.tidy{S:ae}{σ:Sto}{τ:ax}{τ':Env}(h:ER S σ τ τ'):ER S σ (EW τ []) τ':=λt v a=>h t v (EX τ [] t v a).2
def yY{α:Type}(fid key i:Nat):List jl->ax->ae->(AEx->ax->ae->Option α)->Option α->Option α
 |[],_,_,_,a=>a
 |e::b,τ,S,k,a=>match Nat.beq e.fid fid&&Nat.beq e.key key&&Nat.ble i e.i with
  |true=>match (e.head.get e.i S τ S).bind (mV e.head.tcs) with
   |some x=>match e.exits.all λq=>rU e.head.objs q.2.objs with
    |true=>(e.fn x).bind λy=>sgo S e.exits y k
    |false=>none
   |none=>yY fid key i b τ S k a
  |false=>yY fid key i b τ S k a
def Is(x:Operand)(b:Bool)(τ:ax):ax:=match x with
 |.tmp t=>(t,.bool b)::τ
 |_=>τ
def yI:Nat->List SV->ax
 |_,[]=>[]
 |i,v::a=>(i,v)::yI (i+1) a
def EY:AEx->Bool
 |.normal=>true
 |.ret=>true
 |_=>false
def Rk:ae->Nat->Nat
 |[],k=>k
 |_::S,k=>Rk S (Nat.add k 1)
def It(cx:Cx)(run:(h:Type)->Nat->Nat->Nat->Code->ax->ae->(AEx->ax->ae->Option h)->Option h){α:Type}:oe α:=λf g S K=>match okF cx.P f with
 |some b=>match b.body,Nat.ble g.length b.ntmps with
  |some c,true=>match lk cx.J (Rk S (Nat.add 2199023255552 (Nat.mul f 4096))) with
   |some d=>match d.all λq=>ru S.length 0 q.2.objs with
    |true=>(run (XS d.tcs) f b.ntmps S.length c (yI 0 g) S λe τ' a=>AE d S.length S e τ' a).bind λy=>sgo S d y λe τ' a=>match EY e with
     |true=>Ko cx.T τ' a b.results.toList λv=>K v a
     |false=>none
    |false=>none
   |none=>run α f b.ntmps S.length c (yI 0 g) S λe τ' a=>match EY e with
    |true=>Ko cx.T τ' a b.results.toList λv=>K v a
    |false=>none
  |_,_=>none
 |none=>none
def ahe(a:cI):List Nat:=a.flatMap λq=>q.2.env.filterMap λp=>match p.2 with
 |.hole _=>some p.1
 |_=>none
def Tw:ae->Nat->Nat
 |[],k=>k
 |o::S,k=>match o with
  |.raw .dead=>Nat.add k 512
  |_=>Tw S k
def Tx(J:Tr cI)(k:Nat):Nat->Option (Nat×cI)
 |0=>none
 |n+1=>match lk J (Nat.add k n) with
  |some a=>some (n,a)
  |none=>Tx J k n
noncomputable def rN(cx:Cx)(g:(α:Type)->Nat->Nat->Nat->Nat->Code->ax->ae->(AEx->ax->ae->Option α)->Option α)(α:Type)(fid N i lr:Nat)(c:Code)(τ:ax)(S:ae)(k:AEx->ax->ae->Option α):Option α:=match c with
 |.skip=>k .normal τ S
 |.label _=>k .normal τ S
 |.ret=>k .ret τ S
 |.exit id=>k (.exit id) τ S
 |.seq a b=>g α fid N i lr a τ S λe τ' d=>match e with
  |.normal=>g α fid N i (BI lr a) b τ' d k
  |e=>k e τ' d
 |.cond x a b=>match sev τ x with
  |some (.bool t)=>match lk cx.J (Rk S (Nat.mul (Nat.add (Nat.mul fid 65536) lr) 1024)) with
   |some l=>match l.all λq=>ru i 0 q.2.objs with
    |true=>(cond t (g _ fid N i lr a (Is x true τ) S λe τ' d=>AE l i S e τ' d) (g _ fid N i lr b (Is x false τ) S λe τ' d=>AE l i S e τ' d)).bind λy=>sgo S l y k
    |false=>none
   |none=>cond t (g α fid N i lr a (Is x true τ) S k) (g α fid N i lr b (Is x false τ) S k)
  |_=>none
 |.block id b=>g α fid N i lr b τ S λe τ' d=>match e with
  |.exit j=>match Nat.beq j id with
   |true=>k .normal τ' d
   |false=>k (.exit j) τ' d
  |e=>k e τ' d
 |.loop b=>yY fid (uE b) i cx.L τ S k (g α fid N i lr b (EW τ []) S λe τ' d=>match e with
  |.normal=>g α fid N i lr (.loop b) τ' d k
  |e=>k e τ' d)
 |.scope b=>g α fid N i lr b τ S λe τ' d=>match e with
  |.goto _=>none
  |e=>k e τ' d
 |.region _ ops false=>EU cx fid N (It cx λh f N i c τ S k=>g h f N i 65535 c τ S k) ops ops.toList τ S λτ' d=>k .normal τ' d
 |.region id ops true=>match Pw ops with
  |some q=>RE cx fid N (It cx λh f N i c τ S k=>g h f N i 65535 c τ S k) ops q.1 q.2 τ S λτ' d=>k .normal τ' d
  |none=>match Tx cx.J (Tw S (Nat.add 1099511627776 (Nat.mul (Nat.add (Nat.mul fid 65536) id) 1024))) ops.size with
   |some q=>match q.2.all λp=>ru i 0 p.2.objs with
    |true=>HQ cx fid N (It cx λh f N i c τ S k=>g h f N i 65535 c τ S k) ops [] q.1 (RK cx fid N (It cx λh f N i c τ S k=>g h f N i 65535 c τ S k) (λτ' d=>Kn (ahe q.2) τ' d λm o=>AE q.2 i S .normal m o) 4) (λy=>sgo S q.2 y k) τ S
    |false=>none
   |none=>match lk cx.J (Nat.add 4398046511104 (Nat.add (Nat.mul fid 65536) id)) with
    |some q=>(Vx (aho q) S).bind λn=>Pv cx fid N ops τ n λτ' d=>k .normal τ' d
    |none=>Pv cx fid N ops τ S λτ' d=>k .normal τ' d
 |_=>none
noncomputable def yJ(cx:Cx)(n:Nat){α:Type}:Nat->Nat->Nat->Nat->Code->ax->ae->(AEx->ax->ae->Option α)->Option α:=(Nat.rec (motive:=λ_=>(α:Type)->Nat->Nat->Nat->Nat->Code->ax->ae->(AEx->ax->ae->Option α)->Option α) (λ_ _ _ _ _ _ _ _ _=>none) (λ_ a=>rN cx a) n:(α:Type)->Nat->Nat->Nat->Nat->Code->ax->ae->(AEx->ax->ae->Option α)->Option α) α
def nF{cx:Cx}{α:Type}{fid N i lr:Nat}{c:Code}{τ:ax}{S:ae}{k:AEx->ax->ae->Option α}:yJ cx 0 fid N i lr c τ S k=none:=rfl
def nH{cx:Cx}{n:Nat}{α:Type}{fid N i lr:Nat}{c:Code}{τ:ax}{S:ae}{k:AEx->ax->ae->Option α}:yJ cx (n+1) fid N i lr c τ S k=rN cx (λ_=>yJ cx n) α fid N i lr c τ S k:=rfl
def ER.env0{S:ae}{σ:Sto}:∀{vs:List SV}{ds:List D}{i:Nat},VRs S σ vs ds->ER S σ (yI i vs) (env0 i ds)
 |[],_,_,h=>λt v c=>by simp[yI,nj]at c
 |v::vs,_,i,h=>by
  simp only[VRs]at h;obtain⟨e,d,rfl,a,b⟩:=h;exact(ER.env0 b).push a
def Kq(c body:Code):Prop:=∀a b,b∈fK a c->b∈fK a body
def LWp.low{i j N:Nat}{P:Program}{c:Code}{τ:Env}{σ:Sto}{Q:AEx->Env->Sto->Prop}(g:i<=j)(h:LWp j P N c τ σ Q):LWp i P N c τ σ Q:=by
 intro B G w a s t b k p;obtain⟨e,o,y,x,f⟩:=h B G w a s t b k p;refine⟨e,o,y,?_,f⟩;have m:∀{G d:Gh},G.LeB j d->G.LeB i d:=λh=>⟨h.imm,h.mimm,h.siz,λl u b v=>h.blk l u b (aix v g)⟩;cases e<;>simp only[mt]at x⊢<;>first
  |exact x
  |(obtain⟨d,τ',n,q,f⟩:=x;exact⟨d,τ',n,m q,f⟩)
def uH.back{i:Nat}{x:cI}{y:XS x.tcs}{head:Pat}{S S2:ae}{σ σ2:Sto}{e:AEx}{τ':Env}{σ':Sto}(h:uH i x y S2 σ2 e τ' σ')(U:KpR head S S σ σ2)(V:∀q∈x,rU head.objs q.2.objs=true)
 (R:∀(j:Nat) f b,head.objs[j]?=some (.arr f b true)->∀t H N g,S[j]?=some (.arr t H N g)->∃a,S2[j]?=some (.arr t H a 0)):uH i x y S σ e τ' σ':=by
 obtain⟨m,p,l,C,P,Q⟩:=h;refine⟨m,p,l,C,P,λG=> ?_⟩;obtain⟨τ,I,W,X,Y,Z,k5⟩:=Q G;refine⟨τ,I,W,X,Y,Z,λj f b E g t1 x1 f1 c=> ?_⟩;obtain⟨F,B,D⟩:=EV (V _ (aik C)) j f b E;obtain⟨t3,x3,f3,g3,z,_,A⟩:=U j F B D;rw[c]at z;cases z;obtain⟨a,n⟩:=R j F B D _ _ _ _ c;obtain⟨t4,x4,L,O,c1,J,K⟩:=k5 j f b E 0 _ _ _ n;refine⟨t4,x4,L,O,c1,λd w=>J d ?_,λk o d w=>K k o d ?_⟩
 ·obtain⟨M,u,s,v⟩:=(w.2 _ _ _ _ c).2 rfl;exact .mk n (by rw[A];exact s) v
 ·obtain⟨M,u,s,v⟩:=(w.2 _ _ _ _ c).2 rfl;exact .mk n (by rw[A];exact s) v
def LV{α:Type}{P:Program}{fid key i:Nat}{S:ae}{σ:Sto}{τ:ax}{τ':Env}{k:AEx->ax->ae->Option α}{j:Option α}{r:α}{fn:Func}{body b:Code}(f:P.funcs[fid]?=some fn)(u:fn.body=some body)(w:b∈fK key body)(s:ER S σ τ τ')(t:StR S σ):
 ∀(L:List jl),(∀e∈L,LOk P e)->yY fid key i L τ S k j=some r->j=some r∨LWp i P fn.ntmps b τ' σ (uG i S σ k r)
 |[],_,h=>.inl h
 |e::q,hL,h=>by
  have a:yY fid key i q τ S k j=some r->j=some r∨LWp i P fn.ntmps b τ' σ (uG i S σ k r):=λh=>LV f u w s t q (λe J=>hL e (ah4 _ J)) h;simp only[yY]at h;split at h
  ·rename_i g;simp only[ahJ]at g;have A:=dd g.1.1;have B:=dd g.1.2;have v:=ahV g.2;split at h
   ·rename_i x m;obtain⟨l,K,m⟩:=ak m;split at h<;>try (cases h;done)
    rename_i d;obtain⟨y,O,h⟩:=ak h;have c:=kT _ m;obtain⟨o,n,F,I,H⟩:=Pat.norm (N:=fn.ntmps) K s t;obtain⟨p,z,C,V,D,E,G⟩:=H λ_=>0;refine .inr (LWp.low v (LWp.sgho F (LWp.mono (hL e (aio ..) fn body (by rw[A];exact f) u b (by rw[B];exact w) x y O p z (by rw[c];exact C) o n D E) ?_)));exact λU R Q M=>(M.back I (aie.1 d) G).go v h
   ·exact a h
  ·exact a h
def uG.trans{α:Type}{i:Nat}{S0 c:ae}{a b:Sto}{k:AEx->ax->ae->Option α}{r:α}(h:oo i S0 a c b){e:AEx}{τ':Env}{σ':Sto}(x:uG i c b k r e τ' σ'):uG i S0 a k r e τ' σ':=by
 obtain⟨τ,S,d,f,g,j⟩:=x;exact⟨τ,S,d,f,h.trans g,j⟩
def oo.refl(i:Nat)(S:ae)(σ:Sto):oo i S σ S σ:=(bC.refl S σ).i
def COk(cx:Cx)(n:Nat):Prop:=∀(α:Type)(d i f:Nat)(c:Code)(τ:ax)(S:ae)(k:AEx->ax->ae->Option α)(r:α)(e:Func)(a:Code),
    cx.P.funcs[d]?=some e->e.body=some a->Kq c a->yJ cx n d e.ntmps i f c τ S k=some r->∀(τ':Env)(σ:Sto),ER S σ τ τ'->StR S σ->
    AWp i cx.P e.ntmps c τ' σ (uG i S σ k r)/\∀b,c=.loop b->LWp i cx.P e.ntmps b τ' σ (uG i S σ k r)
def Kr{cx:Cx}(t:nT cx){n:Nat}(R:COk cx n){α:Type}:ti cx.P (α:=α) (It cx λβ f N i c τ S k=>yJ cx n f N i 65535 c τ S k):=by
 intro f V S K r h;unfold It at h;split at h<;>try (cases h;done)
 rename_i b u;obtain⟨z,X⟩:=jr u;split at h<;>try (cases h;done)
 rename_i q l Q;refine⟨X,λσ C o G=> ?_⟩;have P:=G.length;have s:∀{e:AEx}{g:Env}{a:Sto},uG S.length S σ (λe τ' p=>match EY e with|true=>Ko cx.T τ' p b.results.toList λv=>K v p|false=>none) r e g a->
  (e=.normal∨e=.ret)/\∃d,tz cx.T b.results.toList g a=some d/\∃O U,Post S σ K r O U/\Gho cx.P a U d O:=by
  rintro e g a ⟨L,M,D,A,F,m⟩;simp only at m;split at m<;>try (cases m;done)
  rename_i he;refine⟨by cases e<;>first|exact .inl rfl|exact .inr rfl|(simp[EY]at he),?_⟩;obtain⟨v,W,d,k1,k2,k3,k4⟩:=Tu A D m;exact⟨W,k4,d,a,⟨v,M,k1,k2,A,F.full⟩,Gho.weak k3⟩
 split at h
 ·rename_i ex j3;split at h<;>try (cases h;done)
  rename_i j;have j:=aie.1 j;obtain⟨y,hy,E⟩:=ak h;have B:=(R _ f S.length 65535 q (yI 0 V) S _ y b q z l (λ_ _ H=>H) hy (env0 0 C) σ (ER.env0 G) o).1;have w:AWp S.length cx.P b.ntmps q (env0 0 C) σ (uG S.length S σ (λe τ' p=>match EY e with|true=>Ko cx.T τ' p b.results.toList λv=>K v p|false=>none) r):=by
   refine AWp.post (B.mono ?_);rintro e g a ⟨L,M,D,A,F,m⟩;obtain⟨J,I,Y,Z⟩:=qz (N:=b.ntmps) m D A F j;exact⟨J,I,Y,Z.go (ahS _) E⟩
  rw[o.len]at w;exact xi t.tok z l (by rw[P];exact ahV Q) (w.mono λe g a x=>by rw[<-o.len]at x;exact s x)
 ·have B:=(R _ f S.length 65535 q (yI 0 V) S _ r b q z l (λ_ _ H=>H) h (env0 0 C) σ (ER.env0 G) o).1;rw[o.len]at B;exact xi t.tok z l (by rw[P];exact ahV Q) (B.mono λe g a x=>by rw[<-o.len]at x;exact s x)
def Ol{cx:Cx}(y:∀e∈cx.L,LOk cx.P e){n:Nat}(w:COk cx n){α:Type}{fid i lr:Nat}{b:Code}{τ:ax}{S:ae}{k:AEx->ax->ae->Option α}{r:α}{fn:Func}{body:Code}
 (d:cx.P.funcs[fid]?=some fn)(p:fn.body=some body)(a:Kq (.loop b) body)(h:yJ cx (n+1) fid fn.ntmps i lr (.loop b) τ S k=some r){τ':Env}{σ:Sto}(u:ER S σ τ τ')(v:StR S σ):LWp i cx.P fn.ntmps b τ' σ (uG i S σ k r):=by
 simp only[nF,nH,rN,reduceCtorEq]at h;have z:b∈fK (uE b) body:=a _ b (by simp[fK]);have B:Kq b body:=λq x A=>a q x (by simp[fK,A]);rcases LV d p z u v cx.L y h with h|h
 ·refine Hu ((w _ fid i lr b _ S _ r fn body d p B h τ' σ u.tidy v).1.mono ?_);rintro e t s ⟨c,f,g,j,o,m⟩;cases e with
  |normal=>exact((w _ fid i lr (.loop b) c f k r fn body d p a m t s g j).2 b rfl).mono λe τ σ x=>x.trans o
  |exit id=>exact⟨c,f,g,j,o,m⟩
  |goto l=>exact⟨c,f,g,j,o,m⟩
  |ret=>exact⟨c,f,g,j,o,m⟩
 ·exact h
def EZ{cx:Cx}(H:nT cx)(hL:∀e∈cx.L,LOk cx.P e):∀(n:Nat),COk cx n
 |0=>λα F i V c τ S k r K g _ _ _ h _ _ _ _=>by simp[nF]at h
 |n+1=>by
  have L:=EZ H hL n;intro α F i V c τ S k r K g C R v h τ' σ J I;refine⟨?_,λb e=>by subst e;exact Ol hL L C R v h J I⟩;cases c<;>(try (simp[nH,rN]at h;done))
  case skip=>exact oU ⟨τ,S,J,I,.refl _ _ _,h⟩
  case label=>exact NS ⟨τ,S,J,I,.refl _ _ _,h⟩
  case ret=>exact pq ⟨τ,S,J,I,.refl _ _ _,h⟩
  case exit id=>exact JF ⟨τ,S,J,I,.refl _ _ _,h⟩
  case seq a b=>
   simp only[nF,nH,rN,reduceCtorEq]at h;refine gq ((L _ F i V a τ S _ r K g C R (λA x M=>v A x (by simp[fK,M])) h τ' σ J I).1.mono ?_);rintro e E D ⟨f,z,m,p,s,j⟩;cases e with
   |normal=>exact(L _ F i _ b f z k r K g C R (λA x M=>v A x (by simp[fK,M])) j E D m p).1.mono λe τ σ x=>x.trans s
   |exit id=>exact⟨f,z,m,p,s,j⟩
   |goto l=>exact⟨f,z,m,p,s,j⟩
   |ret=>exact⟨f,z,m,p,s,j⟩
  case cond x a b=>
   simp only[nF,nH,rN,reduceCtorEq]at h;split at h<;>try (cases h;done)
   rename_i t ht;obtain⟨d,Y,Z⟩:=jc J ht;simp only[VR]at Z;subst Z;have U:ER S σ (Is x t τ) τ':=by
    unfold Is;split
    ·exact J.setB Y
    ·exact J
   have sa:Kq a g:=λA x M=>v A x (by simp[fK,M]);have sb:Kq b g:=λA x M=>v A x (by simp[fK,M]);split at h
   ·rename_i ex j5;split at h<;>try (cases h;done)
    rename_i u;have u:=aie.1 u;obtain⟨y,hy,hk⟩:=ak h;clear h;refine AWp.post ?_;rcases bU hy with⟨rfl,hy⟩|⟨rfl,hy⟩
    ·refine qw Y ((L _ F i V a _ S _ y K g C R sa hy τ' σ U I).1.mono ?_);rintro e E D ⟨f,z,m,p,s,j⟩;obtain⟨Q,O,W,X⟩:=qz (N:=K.ntmps) j m p s u;exact⟨Q,O,W,X.go (ahS _) hk⟩
    ·refine mE Y ((L _ F i V b _ S _ y K g C R sb hy τ' σ U I).1.mono ?_);rintro e E D ⟨f,z,m,p,s,j⟩;obtain⟨Q,O,W,X⟩:=qz (N:=K.ntmps) j m p s u;exact⟨Q,O,W,X.go (ahS _) hk⟩
   ·rcases bU h with⟨rfl,h⟩|⟨rfl,h⟩
    ·exact qw Y (L _ F i V a _ S k r K g C R sa h τ' σ U I).1
    ·exact mE Y (L _ F i V b _ S k r K g C R sb h τ' σ U I).1
  case block id b=>
   simp only[nF,nH,rN,reduceCtorEq]at h;refine AX ((L _ F i V b τ S _ r K g C R (λA x M=>v A x (by simpa[fK] using M)) h τ' σ J I).1.mono ?_);rintro e E D ⟨f,z,m,p,s,j⟩;cases e with
   |normal=>exact⟨f,z,m,p,s,j⟩
   |exit j6=>
    simp only[KZ];simp only at j;split at j
    ·rename_i he;rw[ah2 (dd he)];exact⟨f,z,m,p,s,j⟩
    ·rename_i he;rw[air (λe=>by subst e;rw[akF]at he;cases he)];exact⟨f,z,m,p,s,j⟩
   |goto l=>exact⟨f,z,m,p,s,j⟩
   |ret=>exact⟨f,z,m,p,s,j⟩
  case scope b=>
   simp only[nF,nH,rN,reduceCtorEq]at h;refine Og ((L _ F i V b τ S _ r K g C R (λA x M=>v A x (by simpa[fK] using M)) h τ' σ J I).1.mono ?_);rintro e E D ⟨f,z,m,p,s,j⟩;cases e with
   |normal=>exact⟨f,z,m,p,s,j⟩
   |exit id=>exact⟨f,z,m,p,s,j⟩
   |goto l=>cases j
   |ret=>exact⟨f,z,m,p,s,j⟩
  case loop b=>exact Of (Ol hL L C R v h J I)
  case region id ops draw=>
   cases draw with
   |true=>
    simp only[nF,nH,rN,reduceCtorEq]at h;split at h
    ·rename_i q hq;refine(Xl (pre:=q.1) (o:=q.2) H (Kr H L) I J (by rw[hq]) h).mono ?_;rintro e E D ⟨rfl,f,z,m,p,s,j⟩;exact⟨f,z,m,p,s.i,j⟩
    ·split at h
     ·rename_i q hq;split at h<;>try (cases h;done)
      rename_i u;have u:=aie.1 u;refine AWp.post ((Xp H (Kr H L) I J h).mono ?_);rintro e E D ⟨rfl,y,j3,f,z,m,p,s,j⟩;obtain⟨j9,j4,S4,j8,g1,g2,g3,g4,j⟩:=Ds (P:=cx.P) (N:=K.ntmps) _ p m j;obtain⟨Q,O,W,X⟩:=qz (N:=K.ntmps) j g3 g2 (s.trans g4).i u;refine⟨Q,O,λB G w a hR hT=> ?_,X.go (ahS _) j3⟩;obtain⟨G1,l1,R1,t1⟩:=g1 B G w a hR hT;obtain⟨G2,l2,R2,t2⟩:=W B G1 w a R1 t1;exact⟨G2,l1.b.trans l2,R2,t2⟩
     ·split at h
      ·obtain⟨S1,hf,h⟩:=ak h;obtain⟨j7,f1,f2,f3⟩:=TS (P:=cx.P) hf I;refine AWp.preG (f3 _ _) ((RD H f1 (J.pres f2) h).mono ?_);rintro e E D ⟨rfl,f,z,m,p,s,j⟩;exact⟨f,z,m,p,(f2.trans s).i,j⟩
      ·refine(RD H I J h).mono ?_;rintro e E D ⟨rfl,f,z,m,p,s,j⟩;exact⟨f,z,m,p,s.i,j⟩
   |false=>
    simp only[nF,nH,rN,reduceCtorEq]at h;refine eu (iN.monoK ?_ _ _ _ (Dt H (Kr H L) _ _ _ _ _ I J h));rintro E D ⟨f,z,m,p,s,j⟩;exact⟨f,z,m,p,s.i,j⟩
end
end Go.Fw
namespace Go.Fw
noncomputable section
open Go.RowKit
def HA:∀(a:List TC)(x:Tup a),(jm a x).map (·.t)=a
 |[],_=>rfl
 |[_],_=>rfl
 |t::u::a,x=>by simp only[jm,ahX,HA (u::a) x.2]
mutual
def PV.put_some(G:Nat->Nat):∀(p:PV)(l r:List DV),l.map (·.t)=p.tcs->∃v,p.put G (l++r)=some (v,r)
 |.hole t,l,r,h=>by
  match l,h with
  |[x],_=>exact⟨nk x,rfl⟩
  |[],h=>simp[PV.tcs]at h
  |_::_::_,h=>simp[PV.tcs]at h
 |.raw d,l,r,h=>by
  have:l=[]:=by simpa[PV.tcs] using h
  subst this;exact⟨_,rfl⟩
 |.ptr i o,l,r,h=>by
  have:l=[]:=by simpa[PV.tcs] using h
  subst this;exact⟨_,rfl⟩
 |.nils,l,r,h=>by
  have:l=[]:=by simpa[PV.tcs] using h
  subst this;exact⟨_,rfl⟩
 |.own i,l,r,h=>by
  have:l=[]:=by simpa[PV.tcs] using h
  subst this;exact⟨_,rfl⟩
 |.junk,l,r,h=>by
  have:l=[]:=by simpa[PV.tcs] using h
  subst this;exact⟨_,rfl⟩
 |.ilit _ _,l,r,h=>by
  have:l=[]:=by simpa[PV.tcs] using h
  subst this;exact⟨_,rfl⟩
 |.slit _,l,r,h=>by
  have:l=[]:=by simpa[PV.tcs] using h
  subst this;exact⟨_,rfl⟩
 |.blit _,l,r,h=>by
  have:l=[]:=by simpa[PV.tcs] using h
  subst this;exact⟨_,rfl⟩
 |.mp _,l,r,h=>by
  have:l=[]:=by simpa[PV.tcs] using h
  subst this;exact⟨_,rfl⟩
 |.rp t o,l,r,h=>by
  match l,h with
  |[x],_=>exact⟨.rp x.t x.x o,rfl⟩
  |[],h=>simp[PV.tcs]at h
  |_::_::_,h=>simp[PV.tcs]at h
 |.agg ps,l,r,h=>by
  obtain⟨vs,hv⟩:=PV.puts_some G ps l r h;exact⟨.agg vs,by simp only[PV.put,hv]⟩
 |.tup ps,l,r,h=>by
  obtain⟨vs,hv⟩:=PV.puts_some G ps l r h;exact⟨.tup vs,by simp only[PV.put,hv]⟩
 |.func fn a b,l,r,h=>by
  simp only[PV.tcs]at h;obtain⟨l1,l2,rfl,h1,h2⟩:=List.map_eq_append_iff.1 h;obtain⟨va,ha⟩:=PV.puts_some G a l1 (l2++r) h1;obtain⟨vb,hb⟩:=PV.puts_some G b l2 r h2;exact⟨.func fn va vb,by simp only[PV.put,aia,ha,hb]⟩
 |.iface t p,l,r,h=>by
  obtain⟨v,hv⟩:=PV.put_some G p l r h;exact⟨.iface t v,by simp only[PV.put,hv]⟩
 |.rc ps o,l,r,h=>by
  obtain⟨vs,hv⟩:=PV.puts_some G ps l r h;exact⟨.rc vs o,by simp only[PV.put,hv]⟩
def PV.puts_some (G:Nat->Nat):∀(ps:List PV)(l r:List DV),l.map (·.t)=PV.tcss ps->∃vs,PV.puts G ps (l++r)=some (vs,r)
 |[],l,r,h=>by
  have:l=[]:=by simpa[PV.tcss] using h
  subst this;exact⟨[],rfl⟩
 |p::ps,l,r,h=>by
  simp only[PV.tcss]at h;obtain⟨l1,l2,rfl,h1,h2⟩:=List.map_eq_append_iff.1 h;obtain⟨v,hv⟩:=PV.put_some G p l1 (l2++r) h1;obtain⟨vs,hs⟩:=PV.puts_some G ps l2 r h2;exact⟨v::vs,by simp only[PV.puts,aia,hv,hs]⟩
end
mutual
def PV.pure:PV->Bool
 |.raw d=>d.pure
 |.ptr _ _=>false
 |.own _=>false
 |.rp _ _=>false
 |.mp _=>false
 |.agg ps=>PV.pures ps
 |.tup ps=>PV.pures ps
 |.func _ a b=>PV.pures a&&PV.pures b
 |.iface _ p=>p.pure
 |.rc ps _=>PV.pures ps
 |_=>true
def PV.pures:List PV->Bool
 |[]=>true
 |p::ps=>p.pure&&PV.pures ps
end
def Cg:∀(t:TC)(x:t.Den),SV.pures (t.scells x)=true
 |.byte,_=>rfl
 |.int _,_=>rfl
 |.bool,_=>rfl
 |.str,_=>rfl
 |.sl _,_=>rfl
 |.pair a b,x=>by
  have app:∀{l m:List SV},SV.pures l=true->SV.pures m=true->SV.pures (l++m)=true:=by
   intro l;induction l with
   |nil=>intro m _ h;exact h
   |cons v l e=>intro m c d;simp only[SV.pures,aiB,ahJ]at c⊢;exact⟨c.1,e c.2 d⟩
  exact app (Cg a x.1) (Cg b x.2)
 |.unit,_=>rfl
 |.node,.mk _ _ _ _ _=>rfl
 |.spot,.mk _ _ (.mk _ _ _ _ _) _=>rfl
def Xb(x:DV):(nk x).pure=true:=by
 unfold nk;split<;>first|rfl|exact Cg _ _
mutual
def PV.put_pure{G:Nat->Nat}:∀(p:PV){l r:List DV}{v:SV},p.put G l=some (v,r)->p.pure=true->v.pure=true
 |.hole t,l,r,v,h,_=>by
  simp only[PV.put]at h;split at h<;>cases h;exact Xb _
 |.raw d,l,r,v,h,hp=>by cases h;exact hp
 |.ptr i o,l,r,v,h,hp=>by cases hp
 |.nils,l,r,v,h,hp=>by cases h;rfl
 |.own i,l,r,v,h,hp=>by cases hp
 |.junk,l,r,v,h,hp=>by cases h;rfl
 |.ilit _ _,l,r,v,h,hp=>by cases h;rfl
 |.slit _,l,r,v,h,hp=>by cases h;rfl
 |.blit _,l,r,v,h,hp=>by cases h;rfl
 |.rp _ _,l,r,v,h,hp=>by cases hp
 |.mp _,l,r,v,h,hp=>by cases hp
 |.agg ps,l,r,v,h,hp=>by
  simp only[PV.put]at h;split at h<;>cases h;rename_i hs;exact PV.puts_pure ps hs hp
 |.tup ps,l,r,v,h,hp=>by
  simp only[PV.put]at h;split at h<;>cases h;rename_i hs;exact PV.puts_pure ps hs hp
 |.func fn a b,l,r,v,h,hp=>by
  simp only[PV.put]at h;split at h<;>try (cases h;done)
  rename_i ha;split at h<;>cases h;rename_i hb;simp only[PV.pure,ahJ]at hp;simp only[SV.pure,PV.puts_pure a ha hp.1,PV.puts_pure b hb hp.2,ajn]
 |.iface t p,l,r,v,h,hp=>by
  simp only[PV.put]at h;split at h<;>cases h;rename_i hs;have:=PV.put_pure p hs hp;exact this
 |.rc ps o,l,r,v,h,hp=>by
  simp only[PV.put]at h;split at h<;>cases h;rename_i hs;exact PV.puts_pure ps hs hp
def PV.puts_pure {G:Nat->Nat}:∀(ps:List PV){l r:List DV}{vs:List SV},PV.puts G ps l=some (vs,r)->PV.pures ps=true->SV.pures vs=true
 |[],l,r,vs,h,_=>by
  simp only[PV.puts,ahM,ah7]at h;rw[<-h.1];rfl
 |p::ps,l,r,vs,h,hp=>by
  simp only[PV.puts]at h;split at h<;>try (cases h;done)
  rename_i h1;split at h<;>cases h;rename_i h2;simp only[PV.pures,ahJ]at hp;simp only[SV.pures,PV.put_pure p h1 hp.1,PV.puts_pure ps h2 hp.2,ajn]
end
def F8{P:Program}{i:Nat}{f:FuncId}{ds:List D}{d:D}(B:cW ds=true)(p:d.pure=true)(h:ry i P f ds [] λm _=>m=d):fh P f ds d:=by
 intro G w c k A C;let B0:dN P:=⟨w,G,A,λb o v h=>ip (k.imm b o v h),λb t h=>dG (k.mimm b t h).1⟩;have z:Rel B0 G.strip [] w:=by
  refine⟨aiX _ _,k.imm,k.mimm,k.siz,?_,?_,?_,?_,?_,?_,?_,λ_ _ _=>rfl,λ_ _=>rfl⟩
  ·intro l u b n;cases n
  ·intro l u J K b n;cases n
  ·intro l s b a;simp at a
  ·intro l H y u b a;simp at a
  ·intro l I L b a;simp at a
  ·intro l s a;simp at a
  ·intro l s a;simp at a
 refine(h B0 G.strip w c z (af.pure (G:=G) (G':=G.strip) (λ_ _ _ x=>x) (λ_ _ x=>x) ds c B C)).mono ?_;rintro e M ⟨v,q,m,F,rfl,g,j,E,rfl⟩;let r:Gh:={q with blk:=G.blk};refine⟨v,r,rfl,?_,Rep.pure (G:=q) (G':=r) (λ_ _ _ x=>x) (λ_ _ x=>x) m v p E⟩;exact {
  le:=⟨g.imm,g.mimm,λ_ _ _ x=>x,g.siz⟩
  below:=j.below
  blk:=rfl
  imm:=j.imm
  mimm:=j.mimm
  siz:=j.siz
  imm_new:=j.bimm
  mimm_new:=j.bmimm}
mutual
def HB(S:ae)(σ:Sto):∀(v:SV),v.pure=true->VR S σ v v.can
 |.int _ _,_=>by simp only[SV.can,VR]
 |.bool _,_=>by simp only[SV.can,VR]
 |.str _,_=>by simp only[SV.can,VR]
 |.sl t xs f,_=>by simp only[SV.can,VR];exact⟨f,rfl,id⟩
 |.nils,_=>by simp only[SV.can,VR]
 |.lst cs n f,p=>by simp only[SV.can,VR];exact⟨_,f,rfl,id,ph S σ cs p⟩
 |.agg cs,p=>by simp only[SV.can,VR];exact⟨_,rfl,ph S σ cs p⟩
 |.tup cs,p=>by simp only[SV.can,VR];exact⟨_,rfl,ph S σ cs p⟩
 |.func _ a b,p=>by
  simp only[SV.pure,ahJ]at p;simp only[SV.can,VR];exact⟨_,_,rfl,ph S σ a p.1,ph S σ b p.2⟩
 |.iface _ v,p=>by simp only[SV.can,VR];exact⟨_,rfl,HB S σ v p⟩
 |.own _ _,p=>by cases p
 |.ap _ _ _ _,p=>by cases p
 |.rp _ _ _,p=>by cases p
 |.rc cs _,p=>by simp only[SV.can,VR];exact⟨_,rfl,ph S σ cs p⟩
 |.raw _,_=>by simp only[SV.can,VR]
def ph (S:ae) (σ:Sto):∀(vs:List SV),SV.pures vs=true->VRs S σ vs (SV.cans vs)
 |[],_=>by simp only[SV.cans,VRs]
 |v::vs,p=>by
  simp only[SV.pures,ahJ]at p;simp only[SV.cans,VRs];exact⟨_,_,rfl,HB S σ v p.1,ph S σ vs p.2⟩
end
def Rl{v:SV}(p:v.pure=true)(S:ae)(σ:Sto):VR S σ v v.can:=HB S σ v p
noncomputable def AF(cx:Cx)(f:FuncId)(ap:List PV)(rp:PV)(x:Tup (PV.tcss ap)):Option (Tup rp.tcs):=
 (okF cx.P f).bind λa=>a.body.bind λc=>(PV.puts (λ_=>0) ap (jm _ x)).bind λq=>match Nat.ble q.1.length a.ntmps with
   |true=>yJ cx 100000 f a.ntmps 0 65535 c (yI 0 q.1) [] λe b S=>match EY e with
    |true=>Ko cx.T b S a.results.toList λv=>(nU S v).bind λw=>(PV.get w.2 rp w.1).bind (mV _)
    |false=>none
   |false=>none
def Ty{cx:Cx}(p:nT cx)(Z:∀e∈cx.L,LOk cx.P e){f:FuncId}{c:Ctr}{fn:Func}(O:okF cx.P f=some fn)(C:PV.chks [] c.ap=true)(t:PV.chk [] c.rp=true)(F:PV.pures c.ap=true)(H:c.rp.pure=true)
 (h:∀x,AF cx f c.ap c.rp x=c.fn x):fG cx.P f c:=by
 obtain⟨L,X⟩:=jr O;refine⟨X,C,t,λx y b=> ?_⟩;obtain⟨v,A⟩:=PV.put_some (λ_=>0) c.rp (jm _ y) [] (HA _ y);rw[ah6]at A;have i:=PV.put_pure _ A H;rw[<-h x]at b;unfold AF at b;rw[O]at b;obtain⟨W,r,b⟩:=ak b;cases r;obtain⟨j,N,b⟩:=ak b;obtain⟨q,P,b⟩:=ak b;split at b<;>try (cases b;done)
 rename_i E;have E:=ahV E;obtain⟨n,r0⟩:=q;obtain⟨j3,a⟩:=PV.puts_some (λ_=>0) c.ap (jm _ x) [] (HA _ x);rw[ah6]at a;rw[a]at P;cases P;have I:=PV.puts_pure _ a F;have w:∀k,VRs [] [] n k->ry 0 cx.P f k [] λT _=>T=v.can/\VR [] [] v v.can:=by
  intro k g;have J:=(EZ p Z 100000 _ f 0 65535 j (yI 0 n) [] _ y fn j L N (λ_ _ hx=>hx) b (env0 0 k) [] (ER.env0 g) ⟨rfl,λl o D=>by simp at D⟩).1;refine xi p.tok L N (by rw[g.length];exact E) (J.mono ?_);rintro e j4 σ2 ⟨j5,S2,Y,M,hp,z⟩;simp only at z;split at z<;>try (cases z;done)
  rename_i he;refine⟨by cases e<;>first|exact .inl rfl|exact .inr rfl|(simp[EY]at he),?_⟩;obtain⟨v0,U,d,k1,k2,k3,k4⟩:=Tu M Y z;obtain⟨⟨v1,S1⟩,J,k5⟩:=ak k1;obtain⟨l,D,k6⟩:=ak k5;obtain⟨V,K,m1,m2,m3,m4⟩:=Dz v0 J M k2;obtain⟨d2,n1,n2,nG⟩:=PV.get_ok (objs:=[]) _ v1 l V D t m1;obtain⟨v',B,n4⟩:=nG λ_=>0;have m:=kT _ k6;have B:=B [];rw[ah6,<-m,A]at B;cases B;obtain⟨Q,R,a3⟩:=SV.can_ok (S2:=[]) (σ2:=[]) v d2 i (n4 [] [] (Dr _ _ _ _ _));exact⟨U,k4,v.can,K,⟨rfl,R⟩,(Gho.weak k3).trans (m4.trans (Gho.weak (n1.trans Q)))⟩
 refine⟨v,A,?_,λvs u k g=> ?_⟩
 ·intro S σ;exact(SV.can_ok (S:=S) (σ:=σ) (S2:=S) (σ2:=σ) v v.can i (Rl i S σ)).2.1
 ·rw[a]at u;cases u;obtain⟨_,G⟩:=VRs.pure (S':=[]) (σ':=[]) n k I g;refine F8 G ?_ ((w k g).mono λd s x=>x.1);exact(SV.can_ok (S:=[]) (σ:=[]) (S2:=[]) (σ2:=[]) v v.can i (Rl i [] [])).2.2
noncomputable def Rm(cx:Cx)(fid N i:Nat)(head:Pat)(exits:cI)(b:Code)(rec:Tup head.tcs->Option (XS exits.tcs))(x:Tup head.tcs):Option (XS exits.tcs):=
 (head.put (λ_=>0) (jm _ x)).bind λq=>yJ cx 100000 fid N i 65535 b q.1 q.2 λe a S=>match e with
   |.normal=>((head.get i q.2 a S).bind (mV _)).bind rec
   |e=>AE exits i q.2 e a S
def acm{key:Nat}{b:Code}:∀{c:Code},b∈fK key c->Kq b c:=by
 intro c;induction c with
 |loop c g=>
  intro h k x d;simp only[fK,aiv]at h⊢;rcases h with h|h
  ·split at h
   ·simp at h;subst h;exact .inr d
   ·simp at h
  ·exact .inr (g h k x d)
 |seq a c e f=>
  intro h k x d;simp only[fK,aiv]at h⊢;exact h.imp (λh=>e h k x d) (λh=>f h k x d)
 |cond o a c e f=>
  intro h k x d;simp only[fK,aiv]at h⊢;exact h.imp (λh=>e h k x d) (λh=>f h k x d)
 |block id c g=>intro h k x d;exact g h k x d
 |scope c g=>intro h k x d;exact g h k x d
 |_=>intro h;simp[fK]at h
def uH.round{i:Nat}{x:cI}{y:XS x.tcs}{head:Pat}{S s S2:ae}{σ f σ2:Sto}{e:AEx}{τ':Env}{σ':Sto}(h:uH i x y S2 σ2 e τ' σ')(K:oo i S σ s f)(Y:KpR head S s f σ2)
 (hx:∀q∈x,rU head.objs q.2.objs=true)(D:ru i 0 head.objs=true)
 (X:∀(j:Nat) r n,head.objs[j]?=some (.arr r n true)->∀t M T g,s[j]?=some (.arr t M T g)->∃b,S2[j]?=some (.arr t M b 0)):uH i x y S σ e τ' σ':=by
 obtain⟨m,p,l,J,V,W⟩:=h;refine⟨m,p,l,J,V,λG=> ?_⟩;obtain⟨τ,N,k1,k2,k3,k4,k5⟩:=W G;refine⟨τ,N,k1,k2,k3,k4,λj r n L g t1 x1 f1 Z=> ?_⟩;obtain⟨F,z,C⟩:=EV (hx _ (aik J)) j r n L;obtain⟨t3,x3,f3,I,v,a,H⟩:=Y j F z C;unfold yX at a;rw[Z]at a;have a:=dd a;subst a;have c:j<i:=by have:=Nn D j F z C;omega
 obtain⟨b,w⟩:=X j F z C _ _ _ _ v;obtain⟨t4,x4,Q,U,c1,O,P⟩:=k5 j r n L 0 _ _ _ w;refine⟨t4,x4,Q,U,c1,λd E=>O d ?_,λk o d E=>P k o d ?_⟩
 ·obtain⟨R,u,A,B⟩:=((K.1 j I d c E).2 _ _ _ _ v).2 rfl;exact .mk w (by rw[H];exact A) B
 ·obtain⟨R,u,A,B⟩:=((K.2 j I k o d c E).2 _ _ _ _ v).2 rfl;exact .mk w (by rw[H];exact A) B
def Tz{cx:Cx}(H:nT cx)(X:∀e∈cx.L,LOk cx.P e){fid key i:Nat}{head:Pat}{exits:cI}{L:Nat->Tup head.tcs->Option (XS exits.tcs)}{fn:Func}{body b:Code}(k:cx.P.funcs[fid]?=some fn)(G:fn.body=some body)
 (I:fK key body=[b])(v:(ru i 0 head.objs&&exits.all λq=>ru i 0 q.2.objs&&rU head.objs q.2.objs)=true)(U:∀x,L 0 x=none)(Y:∀n x,Rm cx fid fn.ntmps i head exits b (L n) x=L (n+1) x):∀n,LOk cx.P ⟨fid,key,i,head,exits,L n⟩:=by
 simp only[ahJ,aie]at v;obtain⟨K,w⟩:=v;have p:∀q∈exits,ru i 0 q.2.objs=true:=λq t=>(w q t).1;have M:∀q∈exits,rU head.objs q.2.objs=true:=λq t=>(w q t).2;intro n;induction n with
 |zero=>
  intro E T _ _ D _ x y g;simp only[U]at g;cases g
 |succ n ih=>
  intro E T d u D f x y g Q S h O P V F;simp only at d f g h;rw[k]at d;cases d;rw[G]at u;cases u;rw[I]at f;simp at f;subst f;rw[<-Y]at g;unfold Rm at g;obtain⟨q,t,g⟩:=ak g;rw[h]at t;cases t;have Z:=(EZ H X 100000 _ fid i 65535 D Q S _ y fn body k G (acm (by rw[I];simp)) g O P V F).1;refine Hu (AWp.post (Z.mono ?_));rintro e j4 j3 ⟨j5,S2,A,B,C,j⟩;cases e with
  |normal=>
   simp only at j;obtain⟨x',o,j⟩:=ak j;obtain⟨l,J,o⟩:=ak o;have m:=kT _ o;obtain⟨c,a,r,W,kG⟩:=Pat.norm (N:=fn.ntmps) J A B;obtain⟨z,R,s,k3,k4,k5,k6⟩:=kG λ_=>0;refine⟨c,a,r,(ih fn body k G D (by simp only[I];simp) x' y j z R (by simp only;rw[m];exact s) c a k4 k5).mono ?_⟩;exact λe Q P hx=>uH.round hx C W M K k6
  |exit id=>
   obtain⟨c,a,r,s⟩:=qz (N:=fn.ntmps) j A B C p;exact⟨c,a,r,s⟩
  |goto l=>
   obtain⟨c,a,r,s⟩:=qz (N:=fn.ntmps) j A B C p;exact⟨c,a,r,s⟩
  |ret=>
   obtain⟨c,a,r,s⟩:=qz (N:=fn.ntmps) j A B C p;exact⟨c,a,r,s⟩
end
end Go.Fw
namespace Go.Fw
noncomputable section
open Go.RowKit
def Du(P:Program):List (FuncId×Ctr)->Prop
 |[]=>True
 |(f,c)::r=>fG P f c/\Du P r
def yZ(P:Program):List (FuncId×oN)->Prop
 |[]=>True
 |(f,c)::r=>rM P f c/\yZ P r
def yZ.mem{P:Program}:∀{l:List (FuncId×oN)},yZ P l->∀f c,(f,c)∈l->rM P f c
 |[],_,_,_,h=>by simp at h
 |(g,d)::r,h,f,c,a=>by
  rcases aib.1 a with e|a
  ·cases e;exact h.1
  ·exact yZ.mem h.2 f c a
def za(P:Program):List (FuncId×rt)->Prop
 |[]=>True
 |(f,c)::r=>xh P f c/\za P r
def za.mem{P:Program}:∀{l:List (FuncId×rt)},za P l->∀f c,(f,c)∈l->xh P f c
 |[],_,_,_,h=>by simp at h
 |(g,d)::r,h,f,c,a=>by
  rcases aib.1 a with e|a
  ·cases e;exact h.1
  ·exact za.mem h.2 f c a
def No(P:Program):List jl->Prop
 |[]=>True
 |e::r=>LOk P e/\No P r
def Du.mem{P:Program}:∀{l:List (FuncId×Ctr)},Du P l->∀f c,(f,c)∈l->fG P f c
 |[],_,_,_,h=>by simp at h
 |(g,d)::r,h,f,c,a=>by
  rcases aib.1 a with e|a
  ·cases e;exact h.1
  ·exact Du.mem h.2 f c a
def No.mem{P:Program}:∀{l:List jl},No P l->∀e∈l,LOk P e
 |[],_,_,h=>by simp at h
 |d::r,h,e,a=>by
  rcases aib.1 a with rfl|a
  ·exact h.1
  ·exact No.mem h.2 e a
def AG{cx:Cx}(tok:TOk cx.T cx.P)(mix:cx.P.follows .mixedOrders=true)(j:Du cx.P cx.C)(hO:yZ cx.P cx.CO)(l:za cx.P cx.CX)(k:No cx.P cx.L)(f:FuncId)(c:Ctr)(m:(okF cx.P f).isSome=true)
 (b:(PV.chks [] c.ap&&(PV.chk [] c.rp&&(PV.pures c.ap&&c.rp.pure)))=true)(h:∀x,AF cx f c.ap c.rp x=c.fn x):fG cx.P f c:=by
 simp only[ahJ]at b;obtain⟨d,e,g,i⟩:=b;obtain⟨n,a⟩:=aiY.1 m;exact Ty ⟨tok,mix,j.mem,hO.mem,l.mem⟩ k.mem a d e g i h
def ahf{P:Program}(f:FuncId)(c:Ctr)(e:(okF P f).isSome=true)(b:(PV.chks [] c.ap&&PV.chk [] c.rp)=true)(h:∀x,c.fn x=none):fG P f c:=by
 simp only[ahJ]at b;obtain⟨g,a⟩:=aiY.1 e;exact⟨(jr a).2,b.1,b.2,λx y d=>by rw[h]at d;cases d⟩
def Iu(P:Program)(fid key:Nat):Option (Func×Code×Code):=(P.funcs[fid]?).bind λa=>a.body.bind λc=>match fK key c with
 |[b]=>some (a,c,b)
 |_=>none
noncomputable def LW(cx:Cx)(fid key i:Nat)(head:Pat)(exits:cI)(rec:Tup head.tcs->Option (XS exits.tcs))(x:Tup head.tcs):Option (XS exits.tcs):=match Iu cx.P fid key with
 |some (a,_,b)=>Rm cx fid a.ntmps i head exits b rec x
 |none=>none
def sw{cx:Cx}(tok:TOk cx.T cx.P)(mix:cx.P.follows .mixedOrders=true)(l:Du cx.P cx.C)(hO:yZ cx.P cx.CO)(o:za cx.P cx.CX)(m:No cx.P cx.L)(fid key i:Nat)(head:Pat)(exits:cI)(L:Nat->Tup head.tcs->Option (XS exits.tcs))
 (p:(Iu cx.P fid key).isSome=true)(e:(ru i 0 head.objs&&exits.all λq=>ru i 0 q.2.objs&&rU head.objs q.2.objs)=true)(g:∀x,L 0 x=none)(d:∀n x,LW cx fid key i head exits (L n) x=L (n+1) x):
 ∀n,LOk cx.P ⟨fid,key,i,head,exits,L n⟩:=by
 obtain⟨⟨s,c,b⟩,a⟩:=aiY.1 p;unfold LW at d;rw[a]at d;unfold Iu at a;obtain⟨f,h,a⟩:=ak a;obtain⟨r,j,a⟩:=ak a;split at a<;>cases a;rename_i k;exact Tz ⟨tok,mix,l.mem,hO.mem,o.mem⟩ m.mem h j k e g d
end
end Go.Fw
namespace Go.Fw
open Go.RowKit
def fM(x:Bs):Option Bs:=app 1 [] x
noncomputable def Np:Ctr:=⟨[.hole (.sl .byte)],.hole (.sl .byte),λ(x:Bs)=>fM x⟩
def Xc{P:Program}{f:FuncId}(k:jt P f)(h:∀{cs:List D}{n:Nat}{d:Bool},cs.length=n*1->cs.all D.isCell=true->cW cs=true->n*1<=cH->fh P f [.list cs n d] (.list cs n (Nat.beq n 0))):fG P f Np:=by
 refine⟨k,rfl,rfl,λ(x:Bs)(y:Bs) b=> ?_⟩;have b:fM x=some y:=b;unfold fM app at b;split at b<;>cases b;rename_i l;refine⟨.sl .byte x false,rfl,λS p=>by simp only[SV.can,VR];exact⟨false,rfl,id⟩,λg c m a=> ?_⟩;have:g=[.sl .byte x false]:=by
  have j:some ([SV.sl .byte x false],([]:List DV))=some (g,[]):=c;cases j;rfl
 subst this;simp only[VRs,VR]at a;obtain⟨e,o,rfl,⟨d,rfl,_⟩,rfl⟩:=a;have i:(TC.flat .byte x).length=x.length*1:=iG (TC.enc .byte) x;exact(h i (Bz (TC.enc .byte) x) (TC.flat_pure .byte x) (by simp at l;omega)).weak (aE.listF (by intro h;cases h))
end Go.Fw
def aij:=@Go.IntWalk.i64_in
namespace Go.Fw
noncomputable section
open Go.RowKit
def Ks{P:Program}(w:World){t p ty e:TypeId}{i:TypeInfo}{z:Value}{k:IntKind}(D:P.underlying t=some (.slice e))(A:P.underlying p=some (.int k))(y:P.info? e=some i)(E:i.zero=some z){n:Nat}(l:0<n)(C:0<i.size)(B:n<=cH)(m:n*i.bytes<=cH)(f:Option Addr):
 (Builtin.append_ #[t,p] ty #[.slice f 0 0,.int .i64 n]).run P w=.ok (.slice (some ⟨w.heap.size,0,none⟩) n (grownCap w n 0 e)) (w.drew.alloc (.cells (Builtin.zeroCells z.cells n++Builtin.zeroCells z.cells (grownCap w n 0 e-n)) e)):=by
 unfold cH at B m;have q:IntKind.i64.wrap (n:Int)=n:=aij _ (by omega);have s:¬((n:Int)<0):=by omega
 have x:((n:Int)*(i.bytes:Int))<=1099511627776:=by have:=Int.ofNat_le.2 m;rwa[alz]at this
 have u:¬((281474976710656:Int)<(n:Int)*(i.bytes:Int)):=by omega
 have g:n≠0:=by omega
 have v:n*i.size≠0:=Nat.ne_of_gt (alE l C);have d:∀j:World,(Builtin.firstCells i.size 0 (.slice f 0 0)).run P j=.ok #[] j:=by
  intro j;cases f with
  |none=>simp[Builtin.firstCells]
  |some a=>simp only[Builtin.firstCells,ajD];rfl
 have c:¬(9223372036854775807<(n:Int)):=by omega
 have b:¬(281474976710656<Builtin.nextslicecap n 0*i.bytes):=by rw[nextslicecap_zero l];omega
 simp[Builtin.append_,ahW D,ahW A,sizeOf,typeInfo,zeroValue,y,E,asInt,asIntOf,q,s,u,g,c,b,Question.forced,d,newRow,grownCap];intro h;exact absurd h v
def Ve{P:Program}{B:dN P}{G:Gh}{σ:Sto}{w:World}(m:Rel B G σ w){t D ty:TypeId}{sz by' n:Nat}{k:IntKind}(O:BB P t t=some (sz,by'))(q:P.underlying D=some (.int k))(F:0<n)(C:n<=cH)(J:n*by'<=cH)(A:Option Addr):
 ∃u E j,(Builtin.append_ #[t,D] ty #[.slice A 0 0,.int .i64 n]).run P w=.ok u E/\G.Le j/\Rel B j (σ++[.cells [] 0 0]) E/\Rep j (.sl σ.length 0 0 n sz false) u:=by
 obtain⟨e,i,y,z,Q,L,rfl,rfl,g,R,p,s,_⟩:=N0 O;have a:=Ks (P:=P) w (ty:=ty) Q q L R F g C J A;have f:=grownCap_ge w n 0 e;have d:=aln w n 0 e (by unfold maxLen;unfold cH at C;omega);generalize grownCap w n 0 e=gc at a f d;generalize K:Builtin.zeroCells y.cells n++Builtin.zeroCells y.cells (gc-n)=c at a;obtain⟨H,I⟩:=m.drew.bindCells (l:=σ.length) (u:=0) (frz:=0) (cs:=[]) (σ':=σ++[.cells [] 0 0]) (hd:=[]) (tl:=c.toList) (c:=c) e (by simp) (λx M=>by
  rcases ah0 x σ.length with h|h
  ·rw[ahT h]
  ·rw[ahZ h,ah3 h];have:x-σ.length≠0:=by omega
   cases q:x-σ.length with
   |zero=>exact absurd q this
   |succ k=>simp) (by simp) (by
    cases h:G.blk σ.length 0 with
    |none=>rfl
    |some b=>exact absurd (m.blk _ _ _ h).1 (aiS _)) ⟨aiJ _,λS b h=>absurd (m.blk _ _ _ h).1 (aiS _)⟩ (aiJ _) (by simp) (by simp[af])
 refine⟨_,_,_,a,H,I,?_⟩;simp only[Rep];have v:y.cells.size=i.size:=by rw[<-s,(oI G p).length];simp
 refine .inl ⟨w.heap.size,gc,_,by simp[Gh.bind],rfl,f,by unfold maxLen at d;exact d,by simp,by simp[Gh.bind];rfl,?_⟩;rw[<-K,Array.size_append,size_zeroCells,size_zeroCells,v,aiA,<-ajI];exact aiK _ (by omega)
section
variable {P:Program}{T:Tys}{N:Nat}{all:Array Oper}{o:Oper}{r:List Oper}{τ τ' :Env}{σ σ' :Sto}{Kt:Env→Sto→Prop}
def SP{t m:TypeId}{x y:Operand}{sz by' n:Nat}{k:IntKind}(l:o.op=.call {callee:=.builtin .append,args:= #[x,y],argTypes:= #[t,m]})(M:BB P t t=some (sz,by'))(K:P.underlying m=some (.int k))(R:ev τ x=some (.list [] 0 true))(S:ev τ y=some (.int .i64 n))(E:0<n)(L:n<=cH)(I:n*by'<=cH):
 AOp P N o τ σ (λd s=>d=.sl σ.length 0 0 n sz false/\s=σ++[.cells [] 0 0]):=by
 intro B G w a H j next Q i
 have c:=cN j R;have e:=cN j S;simp only[Rep]at c e;obtain⟨v,g,O,V,W,F,X⟩:=c;have J:g=0:=F trivial;subst J;obtain⟨u,p,q,b,A,C,D⟩:=Ve H (ty:=o.type) M K E L I v;have h:(execOp a.eval o).run P w=.ok (.value u) p:=by
  obtain⟨z,Y,ty,U,f,guard⟩:=o;simp only at l b;subst l;unfold execOp;simp only[resolve,ah1,aic,ahU,invoke,builtin,ak1,ahX,ai0,O,e,b]
 unfold Oper.wp;rw[h];exact i u p q _ _ A C D ⟨rfl,rfl⟩
def TA{t e:TypeId}{x:Operand}{cs:List D}{n:Nat}(j:o.op=.call {callee:=.builtin .cap,args:= #[x],argTypes:= #[t]})(v:P.underlying t=some (.slice e))(z:ev τ x=some (.list cs n true)):
 AOp P N o τ σ (λd s=>d=.int .i64 n/\s=σ):=by
 intro B G w a p q next Q i
 have f:=cN q z;simp only[Rep]at f;obtain⟨k,b,y,C,E,m,F⟩:=f;have u:b=n:=m trivial;subst u;have c:(Builtin.cap_ #[t] o.type #[.slice k b b]).run P w=.ok (goInt b) w:=by
  simp[Builtin.cap_,ahW v]
 have h:(execOp a.eval o).run P w=.ok (.value (goInt b)) w:=by
  obtain⟨l,H,I,A,g,guard⟩:=o;simp only at j c;subst j;unfold execOp;simp only[resolve,ah1,aic,ahU,invoke,builtin,ak1,ahX,ai0,y,c]
 unfold Oper.wp;rw[h];exact i _ w G _ _ (.refl G) p (by simp only[Rep];rfl) ⟨rfl,rfl⟩
def ZQ{t e:TypeId}{x y:Operand}{l u n sz by':Nat}(K:o.op=.slice t x none (some y) none)(ht:P.underlying t=some (.slice e))(hs:vX P t=some (sz,by'))(hx:ev τ x=some (.sl l u 0 n sz false))(hy:ev τ y=some (.int .i64 0)):
 AOp P N o τ σ (λd s=>d=.sl l u 0 0 sz false/\s=σ):=by
 intro B G w a hR I next Q C
 have g:=cN I hx;have j:=cN I hy;obtain⟨e',i,L,J,rfl,_⟩:=ED hs;simp only[Rep]at g j;have D:∃v,(Instr.sliceAt t (a.eval x) none (some (.int .i64 0)) none).run P w=.ok v w/\Rep G (.sl l u 0 0 i.size false) v:=by
  rcases g with⟨b,U,E,W,p,X,g4,g5,Y,Z⟩|⟨rfl,F,p⟩
  ·have q:pF n false none (some 0) none=some (0,0,false):=by simp[pF,dC]
   obtain⟨m,c,M,O,R,H,S⟩:=pc (P:=P) (w:=w) true q .none (.some .i64 0) .none X (λh=>by cases h);rw[p];refine⟨.slice (if m=0 then some ⟨b,0,none⟩ else some ⟨b,0,none⟩) 0 m,?_,?_⟩
   ·unfold Instr.sliceAt Instr.slice;simp[ahW L,c,sizeOf,typeInfo,J,jD]
   ·simp only[Rep,ite_self];refine .inl ⟨b,m,E,W,rfl,aiJ _,by omega,λh=>(by cases h),Y,?_⟩;exact ai4 (Nat.add_le_add_left (aiK _ H) _) Z
  ·have q:pF 0 true none (some 0) none=some (0,0,true):=by simp[pF,dC]
   obtain⟨m,c,M,O,R,H,S⟩:=pc (P:=P) (w:=w) true q .none (.some .i64 0) .none (ahS 0) (λ_=>rfl);have A:m=0:=by omega
   subst A;rw[p];refine⟨.slice F 0 0,?_,by simp only[Rep];exact .inr ⟨trivial,F,rfl⟩⟩;unfold Instr.sliceAt Instr.slice;simp[ahW L,c,sizeOf,typeInfo,J]
 obtain⟨v,c,f⟩:=D;have z:(execOp a.eval o).run P w=.ok (.value v) w:=by
  obtain⟨V,op,ty,j3,k,guard⟩:=o;simp only at K;subst K;unfold execOp;simp only[ah1,aic,ahU,Option.map_none,ai7,j,c]
 unfold Oper.wp;rw[z];exact C _ w G _ _ (.refl G) hR f ⟨rfl,rfl⟩
end
def jP(n:Int):Option Bs:=bif decide (0<=n)&&decide (n<=cH) then some [] else none
noncomputable def Rn:oN:=⟨[.nils,.hole (.int .i64)],.byte,λ(n:Int)=>jP n⟩
def ZR{P:Program}{f:FuncId}(k:jt P f)(h:∀{n:Nat},n<=cH->Pm P f [.list [] 0 true,.int .i64 n] [] 0 1):rM P f Rn:=by
 refine⟨k,rfl,λ(x:Int)(y:Bs) a=> ?_⟩;have a:jP x=some y:=a;unfold jP at a;rcases bU a with⟨c,a⟩|⟨_,a⟩<;>try (cases a;done)
 cases a;simp only[ahJ,aiu]at c;obtain⟨n,rfl⟩:=Int.eq_ofNat_of_zero_le c.1;intro g d l b;have:g=[.nils,.int .i64 n]:=by
  have j:some ([SV.nils,SV.int .i64 n],([]:List DV))=some (g,[]):=d;cases j;rfl
 subst this;simp only[VRs,VR]at b;obtain⟨e,p,rfl,rfl,m,i,rfl,rfl,rfl⟩:=b;exact h (by have:=c.2;omega)
def HD{P:Program}{f:FuncId}{d:D}(g:jt P f)(i:D.lo 0 d=true)(k:d.pure=true)(h:fh P f [] d):fG P f ⟨[],.raw d,λ(_:Unit)=>some ()⟩:=by
 refine⟨g,rfl,i,λ(x:Unit)(y:Unit) _=>⟨.raw d,rfl,λS σ=>by simp only[SV.can,VR],λc b j a=> ?_⟩⟩;have:c=[]:=by
  have e:some (([]:List SV),([]:List DV))=some (c,[]):=b;cases e;rfl
 subst this;simp only[VRs]at a;subst a;exact h
end
end Go.Fw
namespace Go.Fw
open Go.RowKit
noncomputable def NN:Nat:=Classical.choose (⟨_,rfl⟩:∃n:Nat,n=1000000000000)
def afP:NN=1000000000000:=aiU (⟨_,rfl⟩:∃n:Nat,n=1000000000000)
structure Bse where
 P:Program
 T:Tys
 H:Tr TC
 O:Tr OH
 tok:TOk T P
 mix:P.follows .mixedOrders=true
@[irreducible] noncomputable def E0{α a:Type}(f:α->a):α->a:=Classical.choose (⟨f,rfl⟩:∃g,g=f)
def E1{α a:Type}(f:α->a):E0 f=f:=by unfold E0;exact aiU (⟨f,rfl⟩:∃g,g=f)
@[irreducible] noncomputable def LX{α a:Type}(f:α->a):α->a:=Classical.choose (⟨f,rfl⟩:∃g,g=f)
def Ro{α a:Type}(f:α->a):LX f=f:=by unfold LX;exact aiU (⟨f,rfl⟩:∃g,g=f)
noncomputable def Ctr.sl(k:Ctr):Ctr:=⟨k.ap,k.rp,E0 k.fn⟩
def Ctr.sl_eq(k:Ctr):k.sl=k:=by unfold Ctr.sl;rw[E1]
noncomputable def oN.sl(k:oN):oN:=⟨k.ap,k.t,E0 k.fn⟩
def oN.sl_eq(k:oN):k.sl=k:=by unfold oN.sl;rw[E1]
noncomputable def rt.sl(k:rt):rt:=⟨k.ap,k.rps,E0 k.fn⟩
def rt.sl_eq(k:rt):k.sl=k:=by unfold rt.sl;rw[E1]
noncomputable def jl.sl(k:jl):jl:=⟨k.fid,k.key,k.i,k.head,k.exits,LX k.fn⟩
def jl.sl_eq(k:jl):k.sl=k:=by unfold jl.sl;rw[Ro]
abbrev KC(b:Bse):={k:FuncId×Ctr // fG b.P k.1 k.2}
abbrev KO(b:Bse):={k:FuncId×oN // rM b.P k.1 k.2}
abbrev KX(b:Bse):={k:FuncId×rt // xh b.P k.1 k.2}
abbrev KL(b:Bse):={e:jl // LOk b.P e}
structure Ctx(b:Bse) where
 C:List (KC b)
 O:List (KO b)
 X:List (KX b)
 L:List (KL b)
 J:Tr cI
structure LD where
 fid:Nat
 key:Nat
 i:Nat
 head:Pat
 exits:cI
def LD.chk(P:Program)(d:LD):Bool:=(Iu P d.fid d.key).isSome&&(ru d.i 0 d.head.objs&&d.exits.all λq=>ru d.i 0 q.2.objs&&rU d.head.objs q.2.objs)
noncomputable def LD.round(d:LD)(cx:Cx):=LW cx d.fid d.key d.i d.head d.exits
def Ku(P:Program)(f:FuncId)(ap:List PV)(rp:PV):Bool:=(okF P f).isSome&&(PV.chks [] ap&&(PV.chk [] rp&&(PV.pures ap&&rp.pure)))
section
variable {b:Bse}
def Ctx.cx(c:Ctx b):Cx:=⟨b.P,b.T,b.H,b.O,c.C.map (·.1),c.O.map (·.1),c.X.map (·.1),c.L.map (·.1),c.J⟩
noncomputable def Ctx.cxs(c:Ctx b):Cx:=⟨b.P,b.T,b.H,b.O,c.C.map λk=>(k.1.1,k.1.2.sl),c.O.map λk=>(k.1.1,k.1.2.sl),c.X.map λk=>(k.1.1,k.1.2.sl),c.L.map λk=>k.1.sl,c.J⟩
def Ctx.cxs_eq(c:Ctx b):c.cxs=c.cx:=by simp only[Ctx.cxs,Ctx.cx,Ctr.sl_eq,oN.sl_eq,rt.sl_eq,jl.sl_eq]
def Pp{α:Type}{p:α->Prop}{l:List {x // p x}}{x:α}(h:x∈l.map (·.1)):p x:=by
 obtain⟨y,_,rfl⟩:=aiG.1 h;exact y.2
def Ctx.ok(c:Ctx b):nT c.cx:=⟨b.tok,b.mix,λ_ _ h=>Pp (p:=λk:FuncId×Ctr=>fG b.P k.1 k.2) h,λ_ _ h=>Pp (p:=λk:FuncId×oN=>rM b.P k.1 k.2) h,λ_ _ h=>Pp (p:=λk:FuncId×rt=>xh b.P k.1 k.2) h⟩
def Ctx.lok(c:Ctx b):∀e∈c.cx.L,LOk b.P e:=λ_ h=>Pp (p:=λe=>LOk b.P e) h
noncomputable def fC(f:FuncId)(c:Ctx b)(ap:List PV)(rp:PV)(fn:Tup (PV.tcss ap)->Option (Tup rp.tcs))(a:Ku b.P f ap rp=true)(l:∀x,AF c.cx f ap rp x=fn x):KC b:=⟨(f,⟨ap,rp,fn⟩),by
 simp only[Ku,ahJ]at a;obtain⟨d,e,h,i,j⟩:=a;obtain⟨g,k⟩:=aiY.1 d;exact Ty c.ok c.lok k e h i j l⟩
structure AD(b:Bse) where
 f:FuncId
 c:Ctx b
 ap:List PV
 rp:PV
@[irreducible] noncomputable def AD.run(d:AD b)(x:Tup (PV.tcss d.ap)):Option (Tup d.rp.tcs):=AF d.c.cxs d.f d.ap d.rp x
def AD.run_eq(d:AD b)(x:Tup (PV.tcss d.ap)):d.run x=AF d.c.cxs d.f d.ap d.rp x:=by unfold AD.run;rfl
noncomputable def AD.k(d:AD b)(a:Ku b.P d.f d.ap d.rp=true):KC b:=fC d.f d.c d.ap d.rp d.run a λx=>by rw[d.run_eq,Ctx.cxs_eq]
noncomputable def fL(c:Ctx b)(d:LD)(fn:Nat->Tup d.head.tcs->Option (XS d.exits.tcs))(h:d.chk b.P=true)(l:∀x,fn 0 x=none)(g:∀n x,d.round c.cx (fn n) x=fn (n+1) x):KL b:=⟨⟨d.fid,d.key,d.i,d.head,d.exits,fn NN⟩,by
 simp only[LD.chk,ahJ]at h;obtain⟨⟨f,j,i⟩,a⟩:=aiY.1 h.1;have e:Iu c.cx.P d.fid d.key=some (f,j,i):=a;unfold LD.round LW at g;rw[e]at g;unfold Iu at a;obtain⟨k,m,a⟩:=ak a;obtain⟨q,o,a⟩:=ak a;split at a<;>cases a;rename_i p;exact Tz c.ok c.lok m o p (by simp only[ahJ];exact h.2) l g NN⟩
noncomputable def aL(c:Ctx b)(d:LD)(a:d.chk b.P=true):KL b:=fL c d (λn=>Nat.rec (λ_=>none) (λ_ L=>d.round c.cxs L) n) a (λ_=>rfl) λ_ _=>by rw[<-Ctx.cxs_eq]
noncomputable def fR(f:FuncId)(ap:List PV)(rp:PV)(fn:Nat->Tup (PV.tcss ap)->Option (Tup rp.tcs))(c:∀m,fG b.P f ⟨ap,rp,fn m⟩->Ctx b)(a:Ku b.P f ap rp=true)(e:∀x,fn 0 x=none)(g:∀m h x,AF (c m h).cx f ap rp x=fn (m+1) x)(m:Nat):KC b:=⟨(f,⟨ap,rp,fn m⟩),by
 induction m with
 |zero=>
  simp only[Ku,ahJ]at a;exact ahf f _ a.1 (by simp only[ahJ];exact⟨a.2.1,a.2.2.1⟩) e
 |succ m d=>exact(fC f (c m d) ap rp (fn (m+1)) a (g m d)).2⟩
noncomputable def gC(f:FuncId)(c:Ctx b)(ap:List PV)(rp:PV)(fn:Tup (PV.tcss ap)->Option (Tup rp.tcs))(h:(Ku b.P f ap rp,AF c.cx f ap rp)=(true,fn)):KC b:=fC f c ap rp fn (ain Prod.fst h) λx=>akr (ain Prod.snd h) x
noncomputable def gL(c:Ctx b)(d:LD)(fn:Nat->Tup d.head.tcs->Option (XS d.exits.tcs))(h:(d.chk b.P,fn 0,λn=>d.round c.cx (fn n))=(true,λ_=>none,λn=>fn (n+1))):KL b:=fL c d fn (ain Prod.fst h) (λx=>akr (ain (λy=>y.2.1) h) x) λn x=>akr (akr (ain (λy=>y.2.2) h) n) x
end
end Go.Fw
namespace Go.Fw
structure Syb where
 f:∀{α β:Type},α->β->Prop
 t:Type->Type->Prop
 n:∀{α β:Type},Nat->α->β->Prop
def S0:Syb:=⟨λ_ _=>True,λ_ _=>True,λ_ _ _=>True⟩
def s_b{α c g d:Type}{x:Option α}{f:Option c}{k:α->Option g}{e:c->Option d}(t:S0.t α c)(_:S0.f x f)(co:c->α)(_:∀a,S0.f (k (co a)) (e a)):S0.f (x.bind k) (f.bind e):=trivial
def s_a{n:Nat}{α c g d:Type}{x:Option α}{f:Option c}{k:α->Option g}{e:c->Option d}(t:S0.t α c)(_:S0.f x f)(co:c->α)(_:∀a,S0.f (k (co a)) (e a)):S0.f (agree (List.replicate n x) k) (agree (List.replicate n f) e):=trivial
def s_c{α d:Type}{c g:Bool}{a b:α}{e f:d}(c0:S0.f c g)(_:S0.f a e)(_:S0.f b f):S0.f (cond c a b) (cond g e f):=trivial
def ahg{α a:Type}:S0.f (none:Option α) (none:Option a):=trivial
def ahh{a b c d:Int}(_:S0.f a c)(_:S0.f b d):S0.f (decide (a<b)) (decide (c<d)):=trivial
def ahi{a b c d:Int}(_:S0.f a c)(_:S0.f b d):S0.f (decide (a<=b)) (decide (c<=d)):=trivial
def ahj{a b c d:Int}(_:S0.f a c)(_:S0.f b d):S0.f (decide (a>b)) (decide (c>d)):=trivial
def ahk{a b c d:Int}(_:S0.f a c)(_:S0.f b d):S0.f (decide (a>=b)) (decide (c>=d)):=trivial
def afQ{a b c d:Bool}(_:S0.f a c)(_:S0.f b d):S0.f (a&&b) (c&&d):=trivial
def s_s{α a γ:Type}{f:α->Option a}{x:α}{y:γ}(_:S0.f (f x) y):S0.f (E0 f x) y:=trivial
def s_l{α a γ:Type}{f:α->Option a}{x:α}{y:γ}(_:S0.f (f x) y):S0.f (LX f x) y:=trivial
def aep{α a c γ:Type}{f:α->c}{x:α}{d:a}{z:γ}(t:S0.t α a)(co:(α->c)->a->c)(_:S0.f x d)(_:S0.f (co f d) z):S0.f (f x) z:=trivial
def ZX{α d a c:Type}(_:S0.t α a)(_:S0.t d c):S0.t (α×d) (a×c):=trivial
def ZY{α a:Type}(_:S0.t α a):S0.t (List α) (List a):=trivial
def ZZ{α d a c:Type}(_:S0.t α a)(_:S0.t d c):S0.t (α⊕d) (a⊕c):=trivial
def s_p{α g c d:Type}{a:α}{b:g}{e:c}{f:d}(_:S0.f a e)(_:S0.f b f):S0.f (a,b) (e,f):=trivial
def s_o{α a:Type}{x:α}{c:a}(_:S0.f x c):S0.f (some x) (some c):=trivial
def s_x{α d γ c:Type}(y:α⊕d){f:α⊕d->γ}{g:α->c}{h:d->c}(_:∀a,S0.f (f (.inl a)) (g a))(_:∀b,S0.f (f (.inr b)) (h b)):S0.f (f y) (match y with|.inl a=>g a|.inr b=>h b):=trivial
def s_r{α:Type}(a:α):S0.f a a:=trivial
def s_t(α:Type):S0.t α α:=trivial
def s_h{α a:Type}{L:α}{y:a}{N:Nat}(_:NN=N->S0.f L y):S0.n N L y:=trivial
theorem Iw{α a:Type}(x:α×a):(x.1,x.2)=x:=rfl
theorem y_a(l m:List TC):l++m=l.append m:=rfl
theorem y_n(f:PO->List TC):List.flatMap f []=[]:=rfl
theorem y_c(f:PO->List TC)(x:PO)(l:List PO):List.flatMap f (x::l)=(f x).append (List.flatMap f l):=rfl
attribute [irreducible] S0
@[reducible] def syv{α d:Type}(N:Nat)(L:α){y:d}(_:S0.n N L y:=by
  apply s_h;intro c
  repeat' (first
   |(intro y;apply s_x y)
   |((try intro _);(conv=>arg 2;whnf);first
    |(apply s_c;(case c0=>((repeat' first|apply ahj|apply ahk|apply ahh|apply ahi|apply afQ);all_goals (try ((conv=>arg 2;try dsimp only[dC,Iw,TC.Den,Tup,XS,PV.tcss,PV.tcs,PO.tcs,Pat.tcs,List.map,y_a,y_n,y_c,List.append]);exact s_r _)))))
    |(apply s_s;(conv=>arg 2;whnf;try dsimp only[dC,Iw,TC.Den,Tup,XS,PV.tcss,PV.tcs,PO.tcs,Pat.tcs,List.map,y_a,y_n,y_c,List.append]);(try rw[c]);exact s_r _)
    |(apply s_l;(conv=>arg 2;whnf;try dsimp only[dC,Iw,TC.Den,Tup,XS,PV.tcss,PV.tcs,PO.tcs,Pat.tcs,List.map,y_a,y_n,y_c,List.append]);(try rw[c]);apply aep;(case t=>(repeat' ((conv=>arg 2;whnf);first|apply ZX|apply ZY|apply ZZ|exact s_t _)));(case co=>exact λf=>f);(repeat' apply s_p);all_goals (try exact s_r _))
    |((first|apply s_b|apply s_a);(case t=>(repeat' ((conv=>arg 2;whnf);first|apply ZX|apply ZY|apply ZZ|exact s_t _)));(case co=>exact λa=>a))
    |(apply s_o;(conv=>arg 2;try dsimp only[dC,Iw,TC.Den,Tup,XS,PV.tcss,PV.tcs,PO.tcs,Pat.tcs,List.map,y_a,y_n,y_c,List.append]);exact s_r _)
    |exact ahg
    |((conv=>arg 2;try dsimp only[dC,Iw,TC.Den,Tup,XS,PV.tcss,PV.tcs,PO.tcs,Pat.tcs,List.map,y_a,y_n,y_c,List.append]);apply aep;(case t=>(repeat' ((conv=>arg 2;whnf);first|apply ZX|apply ZY|apply ZZ|exact s_t _)));(case co=>exact λf=>f);(repeat' apply s_p);all_goals (try exact s_r _))
    |((conv=>arg 2;try dsimp only[dC,Iw,TC.Den,Tup,XS,PV.tcss,PV.tcs,PO.tcs,Pat.tcs,List.map,y_a,y_n,y_c,List.append]);exact s_r _)))):d:=y
section
variable {b:Bse}
@[reducible] noncomputable def AD.go(d:AD b)(x:Tup (PV.tcss d.ap)):Option (Tup d.rp.tcs):=AF d.c.cxs d.f d.ap d.rp x
noncomputable def gA(d:AD b)(fn:Tup (PV.tcss d.ap)->Option (Tup d.rp.tcs))(h:(Ku b.P d.f d.ap d.rp,AF d.c.cx d.f d.ap d.rp)=(true,fn)):KC b:=gC d.f d.c d.ap d.rp fn h
end
end Go.Fw
