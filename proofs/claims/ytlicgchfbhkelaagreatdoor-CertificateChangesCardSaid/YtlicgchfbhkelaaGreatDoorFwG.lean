/- A framework for proofs about Go programs in this model: part G. Everything is proved; no condition is added. -/
import Derived.IntWalk
import Derived.Test.YtlicgchfbhkelaaGreatDoorFwF
set_option linter.unusedVariables false
set_option linter.unusedSimpArgs false
set_option linter.defProp false
namespace Go.Fw
noncomputable section
open Go.RowKit
section
variable {α:Type}
def Po(fr:Nat->Bool)(cx:Cx)(fid N:Nat)(A:Res)(m:Nat)(o:Oper)(i:Nat)(b τ:ax)(S:ae)(a:Res)(f e:DCh)(next:ax->ae->Res->DCh->DCh->Option α):Option α:=
 match Rv o i a with
 |true=>match a with
  |(_,l,_)::rest'=>iM N o.dst (.raw (.ptr l 0 0)) τ λτ2=>next τ2 S rest' f e
  |[]=>none
 |false=>match isW (By cx fid o.dst) o.op with
  |true=>match Ka A m (fpW b o.op) S.length f e&& !(fr i) with
   |true=>sW cx.T cx.H cx.CO (By cx fid o.dst) b S o.op λv g=>iM N o.dst v τ λτ2=>next τ2 g a f (e++[(i,fpW b o.op++[S.length])])
   |false=>none
  |false=>match NW o.op with
   |some c=>(wW cx.T b c).bind λp=>match lk cx.T.ext p.1 with
    |some k=>JV k p.2 λv=>iM N o.dst v τ λτ2=>next τ2 S a (f++[(i,[])]) e
    |none=>Gy p.1 S p.2 (λv=>iM N o.dst v τ λτ2=>next τ2 S a (f++[(i,[])]) e) cx.C
   |none=>match vg A m (Du b o.op)&&e.all (λc=>Gv m c.1||Gu (Du b o.op) c.2) with
    |true=>sR cx.T cx.H b S o.op λv=>iM N o.dst v τ λτ2=>next τ2 S a (f++[(i,Du b o.op)]) e
    |false=>none
def XG(fr:Nat->Bool)(cx:Cx)(fid N:Nat)(all:Array Oper)(A:Res)(M:List Nat)(o:Oper)(k:Nat->ax->ae->Res->DCh->DCh->(ax->ae->Option α)->Option α)(i:Nat)(τ:ax)(S:ae)(c:Res)(h g:DCh)(K:ax->ae->Option α):Option α:=match o.guard with
 |none=>Po fr cx fid N A (M.getD i 0) o i (so all o τ) τ S c h g λτ2 l a f e=>k (i+1) τ2 l a f e K
 |some (j,want)=>match (all[j]?).bind (·.dst) with
  |none=>none
  |some t=>match kT (so all o τ) t with
   |some (.bool b)=>match want with
    |true=>cond b (Po fr cx fid N A (M.getD i 0) o i (so all o ((t,.bool true)::τ)) ((t,.bool true)::τ) S c h g λτ2 l a f e=>k (i+1) τ2 l a f e K)
     (iM N o.dst (.tup []) ((t,.bool false)::τ) λτ2=>k (i+1) τ2 S c h g K)
    |false=>cond b (iM N o.dst (.tup []) ((t,.bool true)::τ) λτ2=>k (i+1) τ2 S c h g K)
     (Po fr cx fid N A (M.getD i 0) o i (so all o ((t,.bool false)::τ)) ((t,.bool false)::τ) S c h g λτ2 l a f e=>k (i+1) τ2 l a f e K)
   |some (.tup _)=>iM N o.dst (.tup []) τ λτ2=>k (i+1) τ2 S c h g K
   |_=>none
def sdg(fr:Nat->Bool)(cx:Cx)(fid N:Nat)(all:Array Oper)(A:Res)(M:List Nat)(l:List Oper):Nat->ax->ae->Res->DCh->DCh->(ax->ae->Option α)->Option α:=List.rec (λ_ τ S a _ _ K=>match a with
 |[]=>K τ S
 |_::_=>none) (λo _ b=>XG fr cx fid N all A M o b) l
variable{Z:List Nat}{Y:Env->Sto->Prop}{X W:DCh}
def VP{cx:Cx}{fid N:Nat}{all:Array Oper}{A:Res}{M:List Nat}{fr:Nat->Bool}{i:Nat}{τ:ax}{S:ae}{a:Res}{K:ax->ae->Option α}:sdg fr cx fid N all A M [] i τ S a W X K=match a with
 |[]=>K τ S
 |_::_=>none:=rfl
def T0{cx:Cx}{fid N:Nat}{all:Array Oper}{A:Res}{M:List Nat}{fr:Nat->Bool}{o:Oper}{r:List Oper}:sdg (α:=α) fr cx fid N all A M (o::r)=XG (α:=α) fr cx fid N all A M o (sdg fr cx fid N all A M r):=rfl
end
section
variable {P:Program}{T:Tys}{N:Nat}{ops:Array Oper}{A:Res}{M:List Nat}{fr:Nat→Bool}{o:Oper}{r:List Oper}{i:Nat}{τ τ2:Env}{S:List Sto}{C:List Nat}{tab:List Rc}{K:Env→Sto→Prop}{d:D}{σ:Sto}
def ahp(a:gx (λ(x:Nat×Nat×List D)=>∃r:Rc,tab[x.1]?=some r/\r.kd=.alloc x.2.1 x.2.2) A)(b:S.getLast?=some σ)(h:K τ σ):ADg P N ops A M fr [] i τ S C tab K:=⟨a,σ,b,h⟩
def ai2(a:bw ops (rst ops o τ) o=some false)(b:eg N o.dst (.tuple []) τ=some τ2)(h:ADg P N ops A M fr r (i+1) τ2 S C (tab++[⟨o,rst ops o τ,.tuple [],.skip⟩]) K):ADg P N ops A M fr (o::r) i τ S C tab K:=
 .inl ⟨a,τ2,b,h⟩
def VQ(b:bw ops (rst ops o τ) o=some true)(c:gx (λs=>AOp P N o (rst ops o τ) s λa f=>a=d/\f=s) ((nr (M.getD i 0) S C).flatMap λσ=>(fj A (M.getD i 0)).map (cp · σ)))
 (e:eg N o.dst d τ=some τ2)(h:ADg P N ops A M fr r (i+1) τ2 S C (tab++[⟨o,rst ops o τ,d,.read⟩]) K):ADg P N ops A M fr (o::r) i τ S C tab K:=
 .inr (.inl ⟨b,d,τ2,c,e,h⟩)
def acC(tok:TOk T P){e:TypeId}{l:Nat}{cs:List D}(a:bw ops (rst ops o τ) o=some true)(b:o.op=.alloc e)(c:tG A i=some (l,cs))(f:lk T.zero e=some cs)(g:eg N o.dst (.ptr l 0 0) τ=some τ2)
 (h:ADg P N ops A M fr r (i+1) τ2 S C (tab++[⟨o,rst ops o τ,.ptr l 0 0,.alloc l cs⟩]) K):ADg P N ops A M fr (o::r) i τ S C tab K:=
 .inr (.inr (.inr ⟨a,e,l,cs,τ2,b,c,fU tok.zero f,g,h⟩))
end
section
variable {α:Type}{cx:Cx}{fid N:Nat}{all:Array Oper}{A:Res}{M:List Nat}{r:α}
variable{Z:List Nat}{Y:Env->Sto->Prop}{X W:DCh}
def afg(f:kU cx){fr:Nat->Bool}{o:Oper}{l l' pre:List Oper}{i:Nat}{τ:ax}{τ':Env}{S:ae}{σ:Sto}{m done:Res}{Ss:List Sto}{tab:List Rc}{next:ax->ae->Res->DCh->DCh->Option α}
 (V:all.toList=pre++o::l')(Z:pre.length=i)(hA:∀x∈A,∃(k:Nat)(o:Oper)(e:TypeId),x.1=k/\all.toList[k]?=some o/\o.op=.alloc e/\lk cx.T.zero e=some x.2.2)
 (t:DI cx.P N A M i σ Ss tab done m W X)(I:StR S σ)(U:ER S σ τ τ')(hw:bw all (rst all o τ') o=some true)
 (h:Po fr cx fid N A (M.getD i 0) o i (so all o τ) τ S m W X next=some r)
 (J:∀τ2 g S2 w n D O B Q y,DI cx.P N A M (i+1) w Q y D n O B->StR S2 w->ER S2 w g τ2->aK S σ S2 w->next g S2 n O B=some r->ADg cx.P N all A M fr l (i+1) τ2 Q (B.map (·.1)) y Y):
 ADg cx.P N all A M fr (o::l) i τ' Ss (X.map (·.1)) tab Y:=by
 have E:=U.rst all o;unfold Po at h;split at h
 ·rename_i hr;split at h<;>try (cases h;done)
  rename_i j lo z j5;unfold Rv at hr;split at hr<;>try (cases hr;done)
  rename_i e _ _ _ _ _ a F;cases F;have hj:=bq hr;subst hj;obtain⟨k,o',e',u,q,G,H⟩:=hA (j,lo,z) (by rw[t.all];simp);simp only at u H;subst u;have ho:o'=o:=by
   rw[V,<-Z,ale (ak7 _)]at q;simp at q;exact q.symm
  subst ho;rw[a]at G;cases G;obtain⟨τ2,g,k1,k2,L⟩:=kZ (d:=.ptr lo 0 0) U (by simp only[VR]) h;exact acC f.tok hw a t.res H k1 (J _ _ _ _ _ _ _ _ _ _ t.alloc I k2 (.refl _ _) L)
 ·split at h
  ·split at h<;>try (cases h;done)
   rename_i b;simp only[akY,amu]at b;obtain⟨b,j3⟩:=b;obtain⟨v,S',d,up,u,q,G,H,h5,h6⟩:=adO (N:=N) f.tok f.ctrO I E rfl h;obtain⟨τ2,g,k1,k2,L⟩:=kZ (U.pres h5) G u;rw[I.len]at b L;obtain⟨g1,g2,g3,g4⟩:=t.chains h6 b q;have e9:=t.chain (o:=o) (env:=rst all o τ') (d:=d) h6 b (X.map (·.1)).length;have:=J _ _ _ _ _ _ _ _ _ _ e9 H k2 h5 L;rw[al9]at this;exact .inr (.inr (.inl ⟨hw,g1,j3,d,τ2,σ,up.ap σ,t.last,g2,g3,g4,k1,this⟩))
  ·split at h
   ·rename_i c b;obtain⟨p,hp,h⟩:=am h;obtain⟨ds,u,q⟩:=zJ E hp;have ho:o.op=.call c:=by
     unfold NW at b;split at b<;>try (cases b;done)
     rename_i a;split at b<;>cases b;exact a
    have j4:∃v d,(iM N o.dst v τ λτ2=>next τ2 S m (W++[(i,[])]) X)=some r/\VR S σ v d/\∀s,AOp cx.P N o (rst all o τ') s λR s'=>R=d/\s'=s:=by
     split at h
     ·rename_i k J;exact Mg (N:=N) f.tok ho u J q h
     ·exact Gz (N:=N) f.tok ho u q cx.C f.ctr h
    obtain⟨v,d,k1,k2,L⟩:=j4;obtain⟨τ2,g,m1,m2,m3⟩:=kZ U k2 k1;have hh:vg A (M.getD i 0) []=true:=by unfold vg Gt;simp
    have a:∀s:Sto,(∀l∈([]:List Nat),s[l]?=σ[l]?)->AOp cx.P N o (rst all o τ') s λR s'=>R=d/\s'=s:=λs _=>L s;exact VQ hw (t.reads a hh (by simp[Gu])) m1 (J _ _ _ _ _ _ _ _ _ _ (t.read a hh) I m2 (.refl _ _) m3)
   ·split at h<;>try (cases h;done)
    rename_i b;simp only[akY]at b;obtain⟨v,d0,d,u,q,G,H⟩:=Xu I E h;obtain⟨τ2,g,m1,m2,m3⟩:=kZ U q u;have a:∀s:Sto,(∀l∈Du (so all o τ) o.op,s[l]?=σ[l]?)->AOp cx.P N o (rst all o τ') s λR s'=>R=d/\s'=s:=λs hs=>(aO f.tok (H s hs)).weak G;exact VQ hw (t.reads a b.1 b.2) m1 (J _ _ _ _ _ _ _ _ _ _ (t.read a b.1) I m2 (.refl _ _) m3)
def T1(F:kU cx){fr:Nat->Bool}{suf:List Oper}{K:ax->ae->Option α}(R:∀x∈A,∃(k:Nat)(o:Oper)(e:TypeId),x.1=k/\all.toList[k]?=some o/\o.op=.alloc e/\lk cx.T.zero e=some x.2.2):∀(l pre:List Oper)(i:Nat)(τ:ax)(τ':Env)(S:ae)(σ:Sto)(a done:Res)(z n:DCh)(D:List Sto)(tab:List Rc)(u:Env->Sto->Prop),
 all.toList=pre++(l++suf)->pre.length=i->DI cx.P N A M i σ D tab done a z n->StR S σ->ER S σ τ τ'->sdg fr cx fid N all A M l i τ S a z n K=some r->(∀τ2 s,my S σ K r τ2 s->u τ2 s)->ADg cx.P N all A M fr l i τ' D (n.map (·.1)) tab u
 |[],pre,i,τ,τ',S,σ,a,done,z,n,D,tab,u,_,_,hD,hS,f,h,L=>by
  simp only[VP,T0,XG]at h;split at h<;>try (cases h;done)
  refine ahp (gx.mk λx hx=> ?_) hD.last (L _ _ ⟨τ,S,f,hS,.refl _ _,h⟩);rw[hD.all,alm]at hx;exact(hD.dn x hx).2
 |o::l,pre,i,τ,τ',S,σ,a,done,z,n,D,tab,u,hall,hpre,hD,hS,f,h,L=>by
  have g:∀{τ:ax},ER S σ τ τ'->bw all (rst all o τ') o=some true->(Po fr cx fid N A (M.getD i 0) o i (so all o τ) τ S a z n λτ2 O c B y=>sdg fr cx fid N all A M l (i+1) τ2 O c B y K)=some r->ADg cx.P N all A M fr (o::l) i τ' D (n.map (·.1)) tab u:=by
   intro τ f v h;refine afg (l':=l++suf) F hall hpre R hD hS f v h ?_;intro τ2 G O s c E B y Q H U W V Y h2;exact T1 (suf:=suf) F R l (pre++[o]) (i+1) G τ2 O s c E B y Q H u (by simp[hall]) (by simp[hpre]) U W V h2 λj3 e9 x=>L _ _ (x.trans Y)
  have skip:∀{τ:ax},ER S σ τ τ'->bw all (rst all o τ') o=some false->(iM N o.dst (.tup []) τ λτ2=>sdg fr cx fid N all A M l (i+1) τ2 S a z n K)=some r->ADg cx.P N all A M fr (o::l) i τ' D (n.map (·.1)) tab u:=by
   intro τ f v h;obtain⟨τ2,G,k1,k2,k3⟩:=kZ (d:=.tuple []) f (by simp only[VR,VRs];exact⟨[],rfl,rfl⟩) h;exact ai2 v k1 (T1 (suf:=suf) F R l (pre++[o]) (i+1) G τ2 S σ a done z n D _ u (by simp[hall]) (by simp[hpre]) hD.skip hS k2 k3 L)
  simp only[VP,T0,XG]at h;split at h
  ·rename_i J;exact g f (by unfold bw;rw[J]) h
  ·rename_i j w J;split at h<;>try (cases h;done)
   rename_i t Z;split at h<;>try (cases h;done)
   ·rename_i b X;obtain⟨d,I,m⟩:=f.rst all o t _ X;simp only[VR]at m;subst m;have q:=(pX (p:=λt=>(o.looksAt all).contains t) I).2;have v:bw all (rst all o τ') o=some (b==w):=by unfold bw;rw[J];simp only[Z,I]
    cases w
    ·rcases aR h with⟨rfl,h⟩|⟨rfl,h⟩
     ·exact skip (f.setB q) v h
     ·exact g (f.setB q) v h
    ·rcases aR h with⟨rfl,h⟩|⟨rfl,h⟩
     ·exact g (f.setB q) v h
     ·exact skip (f.setB q) v h
   ·rename_i vs X;obtain⟨d,I,m⟩:=f.rst all o t _ X;simp only[VR]at m;obtain⟨ds,rfl,_⟩:=m;exact skip f (by unfold bw;rw[J];simp only[Z,I]) h
end
def agree{β α:Type}:List (Option β)->(β->Option α)->Option α
 |[],_=>none
 |o::a,K=>haveI:=Classical.propDecidable (∀x∈a,x=o);if ∀x∈a,x=o then o.bind K else none
def ZF{β α:Type}{b:List (Option β)}{K:β->Option α}{r:α}(h:agree b K=some r):∃y,(∀o∈b,o=some y)/\K y=some r:=by
 cases b with
 |nil=>cases h
 |cons o b=>
  simp only[agree]at h;split at h<;>try (cases h;done)
  rename_i a;obtain⟨y,e,h⟩:=am h;refine⟨y,λx c=> ?_,h⟩;rcases alr.1 c with rfl|c
  ·exact e
  ·rw[a x c];exact e
def lL{β α:Type}(n:Nat)(o:Option β)(K:β->Option α):agree (List.replicate (n+1) o) K=o.bind K:=by
 simp only[List.replicate_succ,agree];rw[ali];intro x a;exact(List.mem_replicate.1 a).2
def vj:List Nat->ae->ae
 |[],S=>S
 |l::a,S=>(vj a S).set l (.raw .dead)
def T2:∀(ls:List Nat){S:ae}{σ:Sto},StR S σ->StR (vj ls S) (cp ls σ)/\aK S σ (vj ls S) (cp ls σ)
 |[],S,σ,h=>⟨h,.refl _ _⟩
 |l::ls,S,σ,h=>by
  obtain⟨a,c⟩:=T2 ls h;simp only[vj,cp];rcases alf l (vj ls S).length with b|b
  ·have f:(vj ls S)[l]?=some (vj ls S)[l]:=akZ b;have g:aK (vj ls S) (cp ls σ) ((vj ls S).set l (.raw .dead)) ((cp ls σ).set l .dead):=aK.setOther a f (λ_ _ _ _ e=>by cases e);exact⟨a.set f g rfl,c.trans g⟩
  ·rw[List.set_eq_of_length_le b,List.set_eq_of_length_le (by rw[<-a.len];exact b)];exact⟨a,c⟩
def XH(a:List Nat)(τ:ax):ax:=τ.filter λq=> !(C5 q.1 a)
variable{Z:List Nat}{Y:Env->Sto->Prop}{X W:DCh}
def acD{S:ae}{σ:Sto}{τ:ax}{τ':Env}(h:ER S σ τ τ'):ER S σ (XH Z τ) (Ww Z τ'):=by
 intro t v f;obtain⟨a,b⟩:=xn (p:=λt=> !(C5 t Z)) f;obtain⟨d,c,e⟩:=h t v b;exact⟨d,Dv (p:=λt=> !(C5 t Z)) a c,e⟩
def vn(T:Tys):List Oper->Nat->List Nat->Nat->Option Res
 |[],_,_,_=>some []
 |o::r,i,a,l=>match o.guard with
  |some _=>vn T r (i+1) a l
  |none=>match o.op with
   |.alloc e=>(lk T.zero e).bind λz=>match a with
    |n::a=>(vn T r (i+1) a l).bind λA=>some ((i,n,z)::A)
    |[]=>(vn T r (i+1) [] (l+1)).bind λA=>some ((i,l,z)::A)
   |_=>vn T r (i+1) a l
def Jn{T:Tys}{x:Nat×Nat×List D}:∀{ops:List Oper}{i:Nat}{c:List Nat}{l:Nat}{A:Res},vn T ops i c l=some A->x∈A->∃(k:Nat)(o:Oper)(e:TypeId),x.1=i+k/\ops[k]?=some o/\o.op=.alloc e/\lk T.zero e=some x.2.2
 |[],_,_,_,A,h,b=>by cases h;simp at b
 |o::r,i,c,l,A,h,b=>by
  have a:∀{c:List Nat}{l:Nat}{A:Res},vn T r (i+1) c l=some A->x∈A->∃(k:Nat)(o':Oper)(e:TypeId),x.1=i+k/\(o::r)[k]?=some o'/\o'.op=.alloc e/\lk T.zero e=some x.2.2:=by
   intro c l A h b;obtain⟨k,o',e,f,n,p⟩:=Jn h b;exact⟨k+1,o',e,omq,by simpa using n,p⟩
  simp only[vn]at h;split at h
  ·exact a h b
  ·split at h
   ·rename_i e g;obtain⟨z,j,h⟩:=am h;split at h
    ·obtain⟨m,f,h⟩:=am h;cases h;rcases alr.1 b with rfl|b
     ·exact⟨0,o,e,rfl,rfl,g,j⟩
     ·exact a f b
    ·obtain⟨m,f,h⟩:=am h;cases h;rcases alr.1 b with rfl|b
     ·exact⟨0,o,e,rfl,rfl,g,j⟩
     ·exact a f b
   ·exact a h b
def qi:Res->ae->ae
 |[],s=>s
 |(_,l,a)::A,s=>(qi A s).set l (.cells (ky a) false)
def T3(S:ae)(l:Nat):Bool:=match S[l]? with
 |some (.raw .dead)=>true
 |_=>false
def ZG{S:ae}{l:Nat}(h:T3 S l=true):S[l]?=some (.raw .dead):=by
 unfold T3 at h;split at h
 ·assumption
 ·cases h
def NX:List Nat->Bool
 |[]=>true
 |x::r=> !(C5 x r)&&NX r
def Qw:∀{l:List Nat},NX l=true->l.Nodup
 |[],_=>List.nodup_nil
 |x::r,h=>by
  simp only[NX,akY,amu]at h;exact an9.2 ⟨λa=>(by rw[Lz.2 a]at h;cases h.1),Qw h.2⟩
def NY:∀(A:Res){S:ae}{σ:Sto},StR S σ->(A.map (·.2.1)).Nodup->(∀x∈A,S[x.2.1]?=some (.raw .dead))->StR (qi A S) (dS A σ)/\aK S σ (qi A S) (dS A σ)/\∀y,y ∉ A.map (·.2.1)->(qi A S)[y]?=S[y]?
 |[],S,σ,h,_,_=>⟨h,.refl _ _,λ_ _=>rfl⟩
 |(j,l,a)::A,S,σ,h,b,k=>by
  simp only[alc,an9]at b;obtain⟨f,p,g⟩:=NY A h b.2 λx q=>k x (alj _ q);have m:(qi A S)[l]?=some (.raw .dead):=by rw[g l b.1];exact k _ (alG ..)
  have n:aK (qi A S) (dS A σ) ((qi A S).set l (.cells (ky a) false)) ((dS A σ).set l (.cells a 0 0)):=aK.setOther f m (λ_ _ _ _ e=>by cases e);refine⟨f.set m n ⟨a,0,rfl,λ_=>rfl,jl _ _ a⟩,p.trans n,λy c=> ?_⟩;simp only[alc,alr,not_or]at c;simp only[qi];rw[alI (amO c.1)];exact g y c.2
def StR.deads{S:ae}{σ:Sto}(h:StR S σ):∀n,StR (S++List.replicate n (il.raw .dead)) (σ++List.replicate n aq.dead)/\aK S σ (S++List.replicate n (il.raw .dead)) (σ++List.replicate n aq.dead)
 |0=>by simp only[List.replicate_zero,alm];exact⟨h,.refl _ _⟩
 |n+1=>by
  obtain⟨a,b⟩:=StR.deads h n;rw[List.replicate_succ',List.replicate_succ',<-alp,<-alp];exact⟨a.push rfl,b.trans (aK.push a.len _ _)⟩
def XI(A:Res)(n:Nat)(S:ae):Option ae:=match NX (A.map (·.2.1))&&A.all λx=>T3 (S++List.replicate n (.raw .dead)) x.2.1 with
 |true=>some (qi A (S++List.replicate n (.raw .dead)))
 |false=>none
def VS{A:Res}{n:Nat}{S S2:ae}{σ:Sto}(h:XI A n S=some S2)(p:StR S σ):∃s,Ini A s σ/\StR S2 (dS A s)/\aK S σ S2 (dS A s):=by
 unfold XI at h;split at h<;>cases h;rename_i c;simp only[akY,alv]at c;obtain⟨g,k⟩:=StR.deads p n;have b:=Qw c.1;have j:∀x∈A,(S++List.replicate n (il.raw .dead))[x.2.1]?=some (.raw .dead):=λx f=>ZG (c.2 x f);obtain⟨l,m,_⟩:=NY A g b j;refine⟨_,⟨b,λx f=> ?_,n,rfl⟩,l,k.trans m⟩;obtain⟨a,q,e⟩:=g.obj _ _ (j x f);rw[q];have e:a=.dead:=e;rw[e]
def ZH{P:Program}{N:Nat}{A:Res}{M:List Nat}{s σ:Sto}(h:Ini A s σ):DI P N A M 0 (dS A s) [dS A s] [] [] A [] []:=by
 refine⟨rfl,rfl,?_,?_,?_,?_,rfl,?_,rfl⟩
 ·intro k f b l _;cases k with
  |zero=>simp at b;subst b;rfl
  |succ k=>simp at b
 ·exact λx a _=>h.get x a
 ·exact λx a=>aj (h.get x a)
 ·intro j e c;simp at c
 ·intro x a;simp at a
def NZ{α:Type}(cx:Cx)(fid N:Nat)(ops:Array Oper)(b:List Nat)(τ:ax)(S:ae)(K:ax->ae->Option α):Option α:=
 Jh S 0 λn=>(vn cx.T ops.toList 0 b n).bind λA=>match dR ops (bj ops.toList []) with
  |true=>(XI A (Nat.sub A.length b.length) S).bind λa=>Gr a λa=>sdr cx fid N ops A (bj ops.toList []) ops.toList 0 τ a A [] [] K
  |false=>none
def N0{α:Type}{cx:Cx}{fid N:Nat}{r:α}(f:kU cx){ops:Array Oper}{τ:ax}{τ':Env}{S:ae}{σ:Sto}{K:ax->ae->Option α}(q:StR S σ)(p:ER S σ τ τ')(h:NZ cx fid N ops Z τ S K=some r)(u:∀τ2 b,my S σ K r τ2 b->Y τ2 b):
 Drn cx.P N ops τ' σ Y:=by
 simp only[NZ,Af,qh,alS]at h;obtain⟨A,n,h⟩:=am h;split at h<;>try (cases h;done)
 rename_i v;obtain⟨y,t,h⟩:=am h;obtain⟨s,a,c,g⟩:=VS t q;refine⟨A,s,v,a,?_⟩;refine Jm (A:=A) (M:=bj ops.toList []) (done:=[]) (suf:=[]) f (λx w=> ?_) ops.toList [] 0 τ τ' _ _ A [] [] _ [] _ siq rfl (ZH a) c (p.pres g) h λτ2 b x=>u _ _ (x.trans g);obtain⟨k,o,e,z,j,l,m⟩:=Jn n w;exact⟨k,o,e,omq,j,l,m⟩
def T4:List Oper->Nat->Option Nat
 |[],_=>none
 |o::r,i=>match o.op with
  |.call c=>match c.callee with
   |.builtin _=>T4 r (i+1)
   |_=>some i
  |_=>T4 r (i+1)
def Jo{α β:Type}(cx:Cx)(fid N:Nat)(a:mw β)(ops:Array Oper)(f:List Nat)(c:Nat)(b:Array Oper->List Nat->ax->ae->Option β)(j:β->Option α)(τ:ax)(S:ae):Option α:=
 (ops[c]?).bind λl=>match pY ops&&(dR ops (bj ops.toList [])&&dR (dN ops (bW (bj ops.toList []) c ops.size)) (bj (dN ops (bW (bj ops.toList []) c ops.size)).toList [])) with
 |true=>(vn cx.T (dN ops (bW (bj ops.toList []) c ops.size)).toList 0 f S.length).bind λA=>(XI A (Nat.sub A.length f.length) S).bind λS0=>
  sdg (λk=> !(Nat.testBit ((bj ops.toList []).getD c 0) ((bW (bj ops.toList []) c ops.size).getD k 0))) cx fid N (dN ops (bW (bj ops.toList []) c ops.size)) A (bj (dN ops (bW (bj ops.toList []) c ops.size)).toList []) (dN ops (bW (bj ops.toList []) c ops.size)).toList 0 τ S0 A [] [] λe g=>
   agree ((Rh ((bj ops.toList []).getD c 0) (bj (dN ops (bW (bj ops.toList []) c ops.size)).toList []) (bW (bj ops.toList []) c ops.size)).map λD=>
    Gd cx fid N a ops [l] (XH (rC (dN ops (bW (bj ops.toList []) c ops.size)).toList D) e) (vj (nW D A) g) λτ2 h=>b (dN ops (nV (bj ops.toList []) c ops.size D)) (nW D A) τ2 h) j
 |false=>none
def T5{β:Type}(cx:Cx)(fid N:Nat)(b:mw β)(a:ax->ae->Option β):Nat->Array Oper->List Nat->ax->ae->Option β
 |0,ops,e,τ,S=>NZ cx fid N ops e τ S a
 |n+1,ops,e,τ,S=>match T4 ops.toList 0 with
  |some c=>Jo cx fid N b ops e c (T5 cx fid N b a n) some τ S
  |none=>NZ cx fid N ops e τ S a
section
variable {α β:Type}{cx:Cx}{fid N:Nat}{r:α}
def N1(z:kU cx){b:mw β}(q:tm cx.P b){i c:Nat}{ops:Array Oper}{τ:ax}{τ':Env}{S:ae}{σ:Sto}{g:ax->ae->Option β}{j:Array Oper->List Nat->ax->ae->Option β}{G:β->Option α}(hS:StR S σ)(hE:ER S σ τ τ')
 (u:∀(ops:Array Oper)(Z:List Nat)(τ:ax)(τ':Env)(S:ae)(σ:Sto)(y:β),StR S σ->ER S σ τ τ'->j ops Z τ S=some y->∀Q:AEx->Env->Sto->Prop,(∀τ2 a,my S σ g y τ2 a->Q .normal τ2 a)->Fh i cx.P N ops τ' σ Q)
 (h:Jo cx fid N b ops Z c j G τ S=some r){Q:AEx->Env->Sto->Prop}(hQ:∀y,G y=some r->∀τ2 a,my S σ g y τ2 a->Q .normal τ2 a):Fh i cx.P N ops τ' σ Q:=by
 unfold Jo at h;obtain⟨oc,O,h⟩:=am h;split at h<;>try (cases h;done)
 rename_i p;simp only[akY]at p;obtain⟨hg,hp,R⟩:=p;obtain⟨A,hA,h⟩:=am h;obtain⟨S0,hi,h⟩:=am h;obtain⟨s0,n,J,V⟩:=VS hi hS;refine YA (M:=bj ops.toList []) A O hg rfl hp rfl rfl R n (λk=> !(Nat.testBit ((bj ops.toList []).getD c 0) ((bW (bj ops.toList []) c ops.size).getD k 0))) ?_ (K:=λB m=>∃y l v,G y=some r/\ER v m l B/\StR v m/\aK S σ v m/\
  ∀D∈Rh ((bj ops.toList []).getD c 0) (bj (dN ops (bW (bj ops.toList []) c ops.size)).toList []) (bW (bj ops.toList []) c ops.size),(Gd cx fid N b ops [oc] (XH (rC (dN ops (bW (bj ops.toList []) c ops.size)).toList D) l) (vj (nW D A) v) λτ2 E=>j (dN ops (nV (bj ops.toList []) c ops.size D)) (nW D A) τ2 E)=some y) ?_ ?_
 ·intro k i hk L;simp only[Bool.not_eq_false']at L;have e:(bW (bj ops.toList []) c ops.size).getD k 0=i:=by rw[alk,hk];rfl
  rw[e]at L;exact L
 ·refine T1 (A:=A) (done:=[]) (suf:=[]) z (λx hx=> ?_) _ [] 0 τ τ' _ _ A [] [] _ [] _ siq rfl ?_ J (hE.pres V) h ?_
  ·obtain⟨k,o,e,F,w,H,Y⟩:=Jn hA hx;exact⟨k,o,e,omq,w,H,Y⟩
  ·exact ZH n
  ·rintro τ2 a ⟨l,E,F,w,t,H⟩;obtain⟨y,f,s⟩:=ZF H;exact⟨y,l,E,s,F,w,V.trans t,λD I=>f _ (alW.2 ⟨D,I,rfl⟩)⟩
 ·rintro B m ⟨y,l,v,s,F,w,t,f⟩ D I;obtain⟨k1,W⟩:=T2 (nW D A) w;refine eR.monoK ?_ _ _ _ (EG z q _ _ _ _ _ k1 (acD (F.pres W)) (f D I));rintro τ2 a ⟨X,E,m1,m2,U,m3⟩;exact u _ _ _ _ _ _ y m2 m1 m3 Q λj3 e9 x=>hQ y s _ _ (x.trans (t.trans (W.trans U)))
def afh(f:kU cx){b:mw β}(c:tm cx.P b){i:Nat}{a:ax->ae->Option β}:∀(n:Nat)(ops:Array Oper)(m:List Nat)(τ:ax)(τ':Env)(S:ae)(σ:Sto)(y:β),StR S σ->ER S σ τ τ'->T5 cx fid N b a n ops m τ S=some y->
 ∀Q:AEx->Env->Sto->Prop,(∀τ2 g,my S σ a y τ2 g->Q .normal τ2 g)->Fh i cx.P N ops τ' σ Q:=by
 intro n;induction n with
 |zero=>exact λops m τ τ' S σ y l j h Q k=>(N0 f l j h k).any
 |succ n p=>
  intro ops m τ τ' S σ y l j h Q k;simp only[T5]at h;split at h
  ·exact N1 f c l j p h λq e=>by cases e;exact k
  ·exact(N0 f l j h k).any
def ZI(g:kU cx){a:mw β}(b:tm cx.P a){i id c:Nat}{ops:Array Oper}{τ:ax}{τ':Env}{S:ae}{σ:Sto}{f:ax->ae->Option β}{k:β->Option α}(m:StR S σ)(l:ER S σ τ τ')(h:Jo cx fid N a ops [] c (T5 cx fid N a f 4) k τ S=some r):
 AWp i cx.P N (.region id ops true) τ' σ λe τ2 j=>e=.normal/\∃y,k y=some r/\my S σ f y τ2 j:=
 (N1 g b m l (afh g b 4) h λy n _ _ x=>⟨rfl,y,n,x⟩).awp g.mix
end
end
end Go.Fw
namespace Go.Fw
noncomputable section
open Go.RowKit
section
variable {P:Program}{B:bE P}{G:Gh}{σ:Sto}{w:World}
def Rel.raise(c:Rel B G σ w){l f j v:Nat}{cs:List D}(k:σ[l]?=some (.cells cs f v))(t:f<=j)(m:j<=cs.length):Rel B G (σ.set l (.cells cs j v)) w:=by
 have n:=aj k;have look:∀{a:Nat}{d:aq},(σ.set l (.cells cs j v))[a]?=some d->(a=l/\d=.cells cs j v)∨(a≠l/\σ[a]?=some d):=by
  intro a d h;by_cases e:a=l
  ·subst e;rw[alP n]at h;exact .inl ⟨rfl,(alX h).symm⟩
  ·rw[alI (amO e)]at h;exact .inr ⟨e,h⟩
 refine⟨c.below,c.imm,c.mimm,c.siz,λa r b g=> ?_,c.inj,λa d b i g=> ?_,λa s p r b i g o x q=> ?_,λa u y b i g=> ?_,λa d i=> ?_,λa d i=> ?_,c.bimm,c.bmimm⟩
 ·rw[ams];exact c.blk a r b g
 ·rcases look i with⟨rfl,rfl⟩|⟨_,h⟩
  ·exact c.obj a (.cells cs f v) b k g
  ·exact c.obj a d b h g
 ·rcases look i with⟨rfl,h⟩|⟨_,h⟩
  ·cases h;exact alO (c.own a _ _ _ b k g o x q) t
  ·exact c.own a _ _ _ b h g o x q
 ·rcases look i with⟨_,h⟩|⟨_,h⟩
  ·cases h
  ·exact c.ownm a u y b h g
 ·rcases look i with⟨rfl,rfl⟩|⟨_,h⟩
  ·have:=c.ver a _ k;exact⟨by simp only[aq.ver,aq.len]at this⊢;omega,this.2⟩
  ·exact c.ver a d h
 ·rcases look i with⟨rfl,rfl⟩|⟨_,h⟩
  ·simp only[aq.frz,aq.len];exact m
  ·exact c.frzle a d h
def afi{G:Gh}{l u n sz:Nat}{cs:List D}{v v':Value}(d:cs.length=n*sz)(p:Rep G (.sl l u 0 n sz false) v)(q:Rep G (.list cs n false) v)(g:Rep G (.sl l u 0 n sz false) v'):Rep G (.list cs n false) v':=by
 simp only[Rep]at p q g⊢;by_cases i:n=0
 ·subst i;have c:cs=[]:=by
   rw[amZ]at d;exact alF d
  rcases g with⟨b,e,j,m,rfl,s,t,_⟩|⟨_,a,rfl⟩
  ·exact⟨_,e,rfl,s,t,(λh=>absurd h deq),.inr c⟩
  ·exact⟨a,0,rfl,ak7 _,omq,λ_=>rfl,.inr c⟩
 ·rcases p with⟨b,e,j,m,rfl,_⟩|⟨h,_⟩
  ·rcases g with⟨A,f,r,o,rfl,y,z,_⟩|⟨h,_⟩
   ·rw[m]at o;cases o;refine⟨_,f,rfl,y,z,(λh=>absurd h deq),?_⟩;obtain⟨a,k,x,_,_,_,c⟩:=q;rcases c with⟨C,E,rfl,c⟩|c
    ·cases x;exact .inl ⟨_,_,rfl,c⟩
    ·exact .inr c
   ·exact absurd h i
  ·exact absurd h i
end
def Pp(S:ae)(i o:Nat):Option ae:=match S[i]? with
 |some (.cells a e)=>match a[o]? with
  |some (.own l g)=>match S[l]? with
   |some (.arr c d _ b)=>match Nat.beq g b with
    |true=>some ((S.set l (.arr c d true b)).set i (.cells (a.set o (.sl c d false)) e))
    |false=>none
   |_=>none
  |_=>none
 |_=>none
def XJ{P:Program}{S S':ae}{σ:Sto}{i o:Nat}(h:Pp S i o=some S')(M:StR S σ):
 ∃p,StR S' p/\aK S σ S' p/\∀(N:Nat)(τ:Env),pM P N τ σ τ p:=by
 unfold Pp at h;split at h<;>try (cases h;done)
 rename_i V W D;split at h<;>try (cases h;done)
 rename_i l g hc;split at h<;>try (cases h;done)
 rename_i c b j3 g' E;split at h<;>try (cases h;done)
 rename_i R;have R:=bq R;subst R;cases h;obtain⟨a,ha,I,A,rfl,Q,s⟩:=M.obj _ _ D;obtain⟨e,Y,t⟩:=s.get hc;simp only[VR]at t;obtain⟨e9,u,F,rfl⟩:=(t.2 _ _ _ _ E).2 rfl;have m:(c.flat b).length=b.length*c.sz:=eK _ _;have z:i≠l:=λe=>by rw[e,E]at D;cases D
 have n:aK S σ (S.set l (.arr c b true g)) (σ.set l (.cells (c.flat b) (c.flat b).length u)):=aK.setSame M E F rfl;have Z:StR (S.set l (.arr c b true g)) (σ.set l (.cells (c.flat b) (c.flat b).length u)):=M.set E n ⟨_,u,rfl,λh=>by cases h⟩;have y:(S.set l (.arr c b true g))[i]?=some (.cells V W):=by rw[alI z.symm];exact D
 have r:(σ.set l (.cells (c.flat b) (c.flat b).length u))[i]?=some (.cells I A 0):=by rw[alI z.symm];exact ha
 have j:=aK.setCells Z (cs':=V.set o (.sl c b false)) (fz':=W) (a:=.cells (I.set o (.list (c.flat b) b.length false)) A 0) y;have O:=Z.set y j ⟨_,A,rfl,Q,VRs.set (v:=.sl c b false) (d:=.list (c.flat b) b.length false) (by simp only[VR];exact⟨false,rfl,λh=>by cases h⟩) (VRs.pres (n.trans j) _ _ s)⟩;refine⟨_,O,n.trans j,λN τ B G w H L X=> ?_⟩;have J:∀f,G.Le f->Rel B f (σ.set l (.cells (c.flat b) (c.flat b).length u)) w->(∀U,Rep f (.sl l u 0 b.length c.sz false) U->Rep f (.list (c.flat b) b.length false) U)->
  ∃f,G.Le f/\Rel B f ((σ.set l (.cells (c.flat b) (c.flat b).length u)).set i (.cells (I.set o (.list (c.flat b) b.length false)) A 0)) w/\de f N τ H:=by
  intro f q K C;exact⟨f,q,K.weakObj r siq λvs k=>af.set_weak (λv k=>C v k) Y k,X.mono q⟩
 by_cases x:∃v,Rep G (.sl l u 0 b.length c.sz false) v
 ·obtain⟨v,k⟩:=x;obtain⟨f,q,K,C⟩:=B5 L F (by rw[m];omega) k;rw[alR,alw (by rw[m];exact ak7 _)]at C;exact J f q K λU T=>afi m (Rep.mono q _ _ k) C T
 ·refine⟨G,.refl G,(L.raise F (L.frzle _ _ F) (ak7 _)).weakObj r siq λvs k=> ?_,X⟩;exact af.set_weak (λv k=>absurd ⟨v,k⟩ x) Y k
def AWp.preG{i:Nat}{P:Program}{N:Nat}{c:Code}{τ τ':Env}{σ σ':Sto}{Q:AEx->Env->Sto->Prop}(j:pM P N τ σ τ' σ')(h:AWp i P N c τ' σ' Q):AWp i P N c τ σ Q:=by
 intro B G w a f g;obtain⟨b,k,d,l⟩:=j B G w a f g;exact aoH (h B b w a d l) λe a w x=>lP k.b (λ_ _ _ h=>h) e a w x
def XK:List Nat->ae->Option ae
 |[],S=>some S
 |p::r,S=>(Pp S (Nat.div p 1024) (Nat.mod p 1024)).bind (XK r)
def akB(a:aZ):List Nat:=a.flatMap λq=>q.2.env.map λp=>p.1
def VT{P:Program}:∀{l:List Nat}{S S':ae}{σ:Sto},XK l S=some S'->StR S σ->∃a,StR S' a/\aK S σ S' a/\∀(N:Nat)(τ:Env),pM P N τ σ τ a
 |[],S,S',σ,h,hS=>by cases h;exact⟨σ,hS,.refl _ _,λN τ=>.refl N τ σ⟩
 |p::r,S,S',σ,h,hS=>by
  simp only[XK]at h;obtain⟨n,j,k⟩:=am h;obtain⟨m,c,d,e⟩:=XJ (P:=P) j hS;obtain⟨b,f,g,i⟩:=VT (P:=P) k c;exact⟨b,f,d.trans g,λN τ=>(e N τ).trans (i N τ)⟩
end
end Go.Fw
namespace Go.Fw
noncomputable section
open Go.RowKit
def Xn{α:Type}(T:Tys)(τ:ax)(S:ae)(r:ResultVar)(K:SV->Option α):Option α:=match r with
 |.tmp t=>(kT τ t).bind K
 |.cell t a=>Rs T τ S a (.tmp t) K
def Rp{α:Type}(T:Tys)(τ:ax)(S:ae):List ResultVar->(List SV->Option α)->Option α
 |[],K=>K []
 |r::a,K=>Xn T τ S r λv=>Rp T τ S a λb=>K (v::b)
def Jc{α:Type}(T:Tys)(τ:ax)(S:ae)(b:List ResultVar)(K:SV->Option α):Option α:=Rp T τ S b λa=>match a with
 |[v]=>K v
 |a=>K (.tup a)
section
variable {α:Type}{T:Tys}{S:ae}{σ:Sto}{τ:ax}{τ' :Env}{r:α}
def acd(m:StR S σ)(g:ER S σ τ τ'){x:ResultVar}{K:SV->Option α}(h:Xn T τ S x K=some r):∃v b d,K v=some r/\VR S σ v d/\aB b d/\RW T τ' σ x=some b:=by
 unfold Xn at h;cases x with
 |tmp t=>
  obtain⟨v,n,h⟩:=am h;obtain⟨d,c,e⟩:=g t v n;exact⟨v,d,d,h,e,aB.refl _,c⟩
 |cell t o=>
  obtain⟨v,b,d,c,e,i,j⟩:=TJ m g h;have f:=j σ λ_ _=>rfl;refine⟨v,b,d,c,e,i,?_⟩;simp only[aop,amK,aln]at f;obtain⟨a,k,l,_⟩:=f;subst l;exact k
def TD(g:StR S σ)(f:ER S σ τ τ'):∀{e:List ResultVar}{K:List SV->Option α},Rp T τ S e K=some r->∃c a b,K c=some r/\VRs S σ c b/\bp a b/\wt T τ' σ e=some a
 |[],K,h=>⟨[],[],[],h,by simp only[VRs],rfl,rfl⟩
 |x::e,K,h=>by
  simp only[Rp]at h;obtain⟨v,i,d,j,k,l,m⟩:=acd g f h;obtain⟨c,a,b,n,o,p,q⟩:=TD g f j;exact⟨v::c,i::a,d::b,n,by simp only[VRs];exact⟨d,b,rfl,k,o⟩,⟨l,p⟩,by simp only[wt,m,q]⟩
def Pb(q:StR S σ)(p:ER S σ τ τ'){n:List ResultVar}{K:SV->Option α}(h:Jc T τ S n K=some r):∃v f d,K v=some r/\VR S σ v d/\aB f d/\tE T n τ' σ=some f:=by
 unfold Jc at h;obtain⟨k,a,l,j,g,c,m⟩:=TD q p h;have s:=g.length;have b:=c.length;split at j
 ·rename_i v;simp only[VRs]at g;obtain⟨e,t,rfl,o,rfl⟩:=g
  match a,c with
  |[f],c=>exact⟨v,f,e,j,o,c.1,by simp only[tE,m]⟩
 ·rename_i i;refine⟨.tup k,.tuple a,.tuple l,j,by simp only[VR];exact⟨l,rfl,g⟩,aB.tuple c,?_⟩;unfold tE;rw[m]
  match a,b with
  |[],_=>rfl
  |[d],b=>
   exfalso;have:k.length=1:=by rw[<-s,<-b];rfl
   match k,this with
   |[v],_=>exact i v rfl
  |_::_::_,_=>rfl
end
def Xo:AEx->AEx->Bool
 |.normal,.normal=>true
 |.exit a,.exit b=>Nat.beq a b
 |.goto a,.goto b=>Nat.beq a b
 |.ret,.ret=>true
 |_,_=>false
def ace{a b:AEx}(h:Xo a b=true):a=b:=by
 cases a<;>cases b<;>simp only[Xo]at h<;>first|rfl|(cases h;done)|(rw[bq h])
def Jd:aZ->AEx->Nat->Option (Nat×Pat)
 |[],_,_=>none
 |(e,p)::r,a,m=>match Xo e a with
  |true=>some (m,p)
  |false=>Jd r a (m+1)
def Qk:∀{x:aZ}{e:AEx}{m n:Nat}{p:Pat},Jd x e m=some (n,p)->∃k,n=m+k/\x[k]?=some (e,p)
 |[],_,_,_,_,h=>by simp[Jd]at h
 |(c,f)::r,e,m,n,p,h=>by
  simp only[Jd]at h;split at h
  ·rename_i b;have:=ace b;subst this;cases h;exact⟨0,rfl,rfl⟩
  ·obtain⟨k,d,a⟩:=Qk h;exact⟨k+1,omq,by simpa using a⟩
def Mi:ae->Nat
 |[]=>0
 |o::S=>match o with
  |.arr _ _ _ g=>max (g+1) (Mi S)
  |_=>Mi S
def Vx:∀{S:ae}{l:Nat}{t:TC}{xs:List t.Den}{fz:Bool}{g:Nat},S[l]?=some (.arr t xs fz g)->g<Mi S
 |[],l,_,_,_,_,h=>by simp at h
 |o::S,0,t,xs,fz,g,h=>by
  simp at h;subst h;simp only[Mi];omega
 |o::S,l+1,t,xs,fz,g,h=>by
  have:=Vx (S:=S) (l:=l) (by simpa using h);cases o<;>simp only[Mi]<;>omega
def uY:ae->List PO->Bool
 |_,[]=>true
 |[],p::a=>(match p with|.arr _ _ _=>false|_=>true)&&uY [] a
 |o::S,p::a=>(match p with|.arr _ _ _=>(match o with|.arr _ _ _ _=>true|_=>false)|_=>true)&&uY S a
def mz(i:Nat)(S:ae)(σ:Sto)(S':ae)(σ':Sto):Prop:=(∀l g d,l<i->Bx S σ l g d->Bx S' σ' l g d)/\∀l g k o d,l<i->ApR S σ l g k o d->ApR S' σ' l g k o d
def mz.trans{i:Nat}{S c S2:ae}{σ b σ2:Sto}(h:mz i S σ c b)(k:mz i c b S2 σ2):mz i S σ S2 σ2:=
 ⟨λl g d a x=>k.1 l g d a (h.1 l g d a x),λl g j o d a x=>k.2 l g j o d a (h.2 l g j o d a x)⟩
def aK.i{i:Nat}{S b:ae}{σ a:Sto}(h:aK S σ b a):mz i S σ b a:=⟨λl g d _ x=>h.own l g d x,λl g j o d _ x=>h.ap l g j o d x⟩
def mz.full{S b:ae}{σ a:Sto}(h:mz S.length S σ b a):aK S σ b a:=⟨λl g d x=>h.1 l g d x.1 x,λl g j o d x=>h.2 l g j o d x.1 x⟩
def PO.put_arr{G:Nat->Nat}{j:Nat}{p:PO}{l r:List DV}{o:il}(h:p.put G j l=some (o,r)){t:TC}{xs:List t.Den}{fz:Bool}{g:Nat}(e:o=.arr t xs fz g):g=G j/\∃c a b,p=.arr c a b:=by
 cases p<;>simp only[PO.put]at h
 case cells=>split at h<;>cases h;cases e
 case arr=>split at h<;>cases h;cases e;exact⟨rfl,_,_,_,rfl⟩
 case it=>split at h<;>cases h;cases e
 case smap=>split at h<;>cases h;cases e
 case dead=>cases h;cases e
 case junk=>cases h;cases e
def PO.puts_arr{G:Nat->Nat}:∀{m:List PO}{i:Nat}{l r:List DV}{k:ae}{S:ae},PO.puts G i m l=some (k,r)->uY S m=true->∀{j:Nat}{t:TC}{xs:List t.Den}{fz:Bool}{g:Nat},k[j]?=some (.arr t xs fz g)->g=G (i+j)/\(∃d n c e,S[j]?=some (.arr d n c e))/\∃v q u,m[j]?=some (.arr v q u)
 |[],i,l,r,k,S,h,_,j,t,xs,fz,g,a=>by
  simp only[PO.puts,ak1,aln]at h;rw[<-h.1]at a;simp at a
 |p::m,i,l,r,k,S,h,b,j,t,xs,fz,g,a=>by
  simp only[PO.puts]at h;split at h<;>try (cases h;done)
  rename_i o C y;split at h<;>try (cases h;done)
  rename_i A D w;cases h;cases j with
  |zero=>
   simp at a;obtain⟨f,d,c,B,rfl⟩:=PO.put_arr y a;refine⟨f,?_,_,_,_,rfl⟩;cases S with
   |nil=>simp[uY]at b
   |cons x S=>
    cases x<;>simp[uY]at b;exact⟨_,_,_,_,rfl⟩
  |succ j=>
   cases S with
   |nil=>
    simp only[uY,akY]at b;obtain⟨f,⟨d,n,c,e,s⟩,_⟩:=PO.puts_arr w b.2 (j:=j) (by simpa using a);simp at s
   |cons x S=>
    simp only[uY,akY]at b;obtain⟨f,⟨d,n,c,e,s⟩,v,q,u,z⟩:=PO.puts_arr w b.2 (j:=j) (by simpa using a);exact⟨by rw[show i+(j+1)=i+1+j from omq];exact f,⟨d,n,c,e,by simpa using s⟩,v,q,u,by simpa using z⟩
def Rq(S0:ae)(objs:List PO)(l:Nat):Nat:=match objs[l]? with
 |some (.arr _ _ true)=>match S0[l]? with
  |some (.arr _ _ _ g)=>g
  |_=>Mi S0
 |_=>Mi S0
def KpO(p:Pat)(S0:ae)(a:Sto)(S:ae)(σ:Sto):Prop:=∀(l:Nat) t0 f0,p.objs[l]?=some (.arr t0 f0 true)->∀g f h c,S0[l]?=some (.arr f h c g)->
 ∃t i e b,S[l]?=some (.arr t i e b)/\(∀d,Bx S0 a l g d->Bx S σ l b d)/\∀k o d,ApR S0 a l g k o d->ApR S σ l b k o d
def Pat.put_pres{i:Nat}{p:Pat}{l:List DV}{τ:ax}{S S2:ae}{σ σ2:Sto}(h:p.put (Rq S p.objs) l=some (τ,S2))(H:uY S p.objs=true)(O:i<=S2.length)(E:KpO p S σ S2 σ2):mz i S σ S2 σ2:=by
 unfold Pat.put at h;split at h<;>try (cases h;done)
 split at h<;>try (cases h;done)
 rename_i N J;cases h;have y:∀{j:Nat}{t:TC}{A:List t.Den}{z:Bool}{v:Nat},S2[j]?=some (.arr t A z v)->∃q u f n,S[j]?=some (.arr q u f n)/\((v=n/\∃s m,p.objs[j]?=some (.arr s m true))∨n<v):=by
  intro j t A z v b;obtain⟨a,⟨q,u,f,n,c⟩,s,m,K,e⟩:=PO.puts_arr J H b;rw[alS]at a;refine⟨q,u,f,n,c,?_⟩;unfold Rq at a;rw[e]at a;cases K
  ·exact .inr (by rw[a];exact Vx c)
  ·simp only[c]at a;exact .inl ⟨a,s,m,e⟩
 refine⟨λj g d I x=>⟨omq,λt A z v b=> ?_⟩,λj g k o d I x=>⟨omq,λt A z v b=> ?_⟩⟩
 ·obtain⟨q,u,f,n,c,e⟩:=y b;have B:=(x.2 _ _ _ _ c).1;rcases e with⟨rfl,s,m,C⟩|e
  ·refine⟨B,λa=> ?_⟩;subst a;obtain⟨L,M,F,G,w,D,_⟩:=E j s m C g q u f c;rw[b]at w;cases w;exact((D d x).2 _ _ _ _ b).2 rfl
  ·exact⟨omq,λa=>omq⟩
 ·obtain⟨q,u,f,n,c,e⟩:=y b;have B:=(x.2 _ _ _ _ c).1;rcases e with⟨rfl,s,m,C⟩|e
  ·refine⟨B,λa=> ?_⟩;subst a;obtain⟨L,M,F,G,w,_,D⟩:=E j s m C g q u f c;rw[b]at w;cases w;exact((D k o d x).2 _ _ _ _ b).2 rfl
  ·exact⟨omq,λa=>omq⟩
def adM{α:Type}(S0:ae)(x:aZ)(m:Nat)(l:List DV)(k:AEx->ax->ae->Option α):Option α:=(x[m]?).bind λq=>match uY S0 q.2.objs with
 |true=>(q.2.put (Rq S0 q.2.objs) l).bind λw=>k q.1 w.1 w.2
 |false=>none
def Bz(x:aZ)(i:Nat)(S0:ae)(e:AEx)(τ:ax)(S:ae):Option (XS x.tcs):=(Jd x e 0).bind λq=>(q.2.get i S0 τ S).bind λl=>Ji x.tcs q.1 l
def sgo{α:Type}(S0:ae)(x:aZ)(y:XS x.tcs)(k:AEx->ax->ae->Option α):Option α:=zO x.tcs y λm l=>adM S0 x m l k
def uZ{α:Type}(i:Nat)(S0:ae)(b:Sto)(k:AEx->ax->ae->Option α)(r:α):AEx->Env->Sto->Prop:=λe τ' a=>∃τ S,ER S a τ τ'/\StR S a/\mz i S0 b S a/\k e τ S=some r
def vc(i:Nat)(x:aZ)(y:XS x.tcs)(S0:ae)(b:Sto):AEx->Env->Sto->Prop:=λe τ' a=>∃m p l,x[m]?=some (e,p)/\(∀(α:Type)(f:Nat->List DV->Option α),zO x.tcs y f=f m l)/\∀G,∃τ S,p.put G l=some (τ,S)/\i<=S.length/\ER S a τ τ'/\StR S a/\KpO p S0 b S a
def KpR.o{i:Nat}{p:Pat}{S0 S S2:ae}{h σ σ2:Sto}{G:Nat->Nat}(H:KpR p S0 S σ σ2)(C:mz i S0 h S σ)(B:∀(l:Nat) b a,p.objs[l]?=some (.arr b a true)->l<i)
 (F:∀(j:Nat) b a,p.objs[j]?=some (.arr b a true)->∀t f n g,S[j]?=some (.arr t f n g)->∃c,S2[j]?=some (.arr t f c (G j))):KpO p S0 h S2 σ2:=by
 intro l b a m g J K I E;obtain⟨t,f,n,q,s,e,A⟩:=H l b a m;unfold Ab at e;rw[E]at e;have e:=bq e;subst e;obtain⟨c,v⟩:=F l b a m t f n q s;refine⟨t,f,c,G l,v,λd z=> ?_,λk o d z=> ?_⟩
 ·have w:=C.1 l q d (B l b a m) z;obtain⟨D,u,x,y⟩:=(w.2 _ _ _ _ s).2 rfl;exact .mk v (by rw[A];exact x) y
 ·have w:=C.2 l q k o d (B l b a m) z;obtain⟨D,u,x,y⟩:=(w.2 _ _ _ _ s).2 rfl;exact .mk v (by rw[A];exact x) y
def qV(i:Nat):Nat->List PO->Bool
 |_,[]=>true
 |j,p::a=>(match p with|.arr _ _ true=>Nat.blt j i|_=>true)&&qV i (j+1) a
def Pc{i:Nat}:∀{j:Nat}{d:List PO},qV i j d=true->∀(l:Nat) c a,d[l]?=some (.arr c a true)->j+l<i
 |j,[],_,l,c,a,h=>by simp at h
 |j,p::d,b,0,c,a,h=>by
  simp at h;subst h;simp only[qV,akY]at b;exact alb b.1
 |j,p::d,b,l+1,c,a,h=>by
  simp only[qV,akY]at b;have:=Pc b.2 l c a (by simpa using h);omega
def pN{P:Program}{x:aZ}{i j N:Nat}{e:AEx}{τ:ax}{S0 S:ae}{τ':Env}{d σ:Sto}{y:XS x.tcs}(h:Bz x i S0 e τ S=some y)(z:ER S σ τ τ')(B:StR S σ)(C:mz j S0 d S σ)(E:∀q∈x,qV j 0 q.2.objs=true):
 ∃b a,XD P i N τ' σ b a/\vc i x y S0 d e b a:=by
 unfold Bz at h;obtain⟨q,D,h⟩:=am h;obtain⟨l,g,h⟩:=am h;obtain⟨m,p⟩:=q;obtain⟨k,s,c⟩:=Qk D;rw[alS]at s;subst s;obtain⟨b,a,v,w,A⟩:=Pat.norm (N:=N) g z B;refine⟨b,a,v,m,p,l,c,λα f=>Qu _ h,λG=> ?_⟩;obtain⟨o,t,F,H,I,J,K⟩:=A G;have n:=E _ (alz c);exact⟨o,t,F,H,I,J,w.o C (λl L u g=>by have:=Pc n l L u g;omega) K⟩
variable{Z:ae}{Y:Sto}
def vc.go{α:Type}{i j:Nat}{x:aZ}{y:XS x.tcs}{e:AEx}{τ':Env}{σ:Sto}{k:AEx->ax->ae->Option α}{r:α}(h:vc j x y Z Y e τ' σ)(u:i<=j)(a:sgo Z x y k=some r):uZ i Z Y k r e τ' σ:=by
 obtain⟨m,p,l,f,g,n⟩:=h;unfold sgo at a;rw[g α]at a;unfold adM at a;rw[f]at a;obtain⟨q,v,a⟩:=am a;cases v;split at a<;>try (cases a;done)
 rename_i d;obtain⟨w,b,a⟩:=am a;obtain⟨τ,S,c,z,o,s,t⟩:=n (Rq Z p.objs);simp only at b d;rw[c]at b;cases b;exact⟨τ,S,o,s,Pat.put_pres c d omq t,a⟩
def LOk(P:Program)(e:fA):Prop:=∀a c,P.funcs[e.fid]?=some a->a.body=some c->∀b∈cI e.key c,∀x y,e.fn x=some y->∀τ S,e.head.put (λ_=>0) (eH _ x)=some (τ,S)->
 ∀τ' σ,ER S σ τ τ'->StR S σ->LWp e.i P a.ntmps b τ' σ (vc e.i e.exits y S σ)
def rM(head:List PO)(objs:List PO):Bool:=match objs,head with
 |[],_=>true
 |p::a,[]=>(match p with|.arr _ _ true=>false|_=>true)&&rM [] a
 |p::a,q::b=>(match p with|.arr _ _ true=>(match q with|.arr _ _ true=>true|_=>false)|_=>true)&&rM b a
def Ge:∀{e j:List PO},rM j e=true->∀(l:Nat) c b,e[l]?=some (.arr c b true)->∃g d,j[l]?=some (.arr g d true)
 |[],_,_,l,c,b,h=>by simp at h
 |p::e,[],a,l,c,b,h=>by
  simp only[rM,akY]at a;cases l with
  |zero=>simp at h;subst h;simp at a
  |succ l=>
   obtain⟨g,d,i⟩:=Ge a.2 l c b (by simpa using h);simp at i
 |p::e,q::j,a,l,c,b,h=>by
  simp only[rM,akY]at a;cases l with
  |zero=>
   simp at h;subst h;cases q with
   |arr t f k=>cases k<;>simp at a;exact⟨t,f,rfl⟩
   |cells _ _=>simp at a
   |it=>simp at a
   |smap=>simp at a
   |dead=>simp at a
   |junk=>simp at a
  |succ l=>
   obtain⟨g,d,i⟩:=Ge a.2 l c b (by simpa using h);exact⟨g,d,by simpa using i⟩
def tn{P:Program}{T:Tys}{i:Nat}{σ:Sto}(k:TOk T P){f:FuncId}{fn:Func}{c:Code}{ds:List D}{R:D->Sto->Prop}(z:P.funcs[f]?=some fn)(y:fn.body=some c)(A:ds.length<=fn.ntmps)
 (h:AWp i P fn.ntmps c (env0 0 ds) σ λe τ' g=>(e=.normal∨e=.ret)/\∃d,tE T fn.results.toList τ' g=some d/\∃a b,R a b/\Gho P g b d a):qX i P f ds σ R:=by
 have l:=E8 (R:=λd s=>∃a b,R a b/\Gho P s b d a) k z y A h;intro B G w j x C;refine(l B G w j x C).mono ?_;rintro e I ⟨v,m,d,g,rfl,o,p,q,a,b,t,u⟩;obtain⟨n,E,F,H⟩:=u B m I v p q;exact⟨v,n,a,b,rfl,o.trans E.b,F,H,t⟩
def Gf:ax->List Nat->ax
 |[],_=>[]
 |(t,d)::r,seen=>match seen.any (Nat.beq t) with
  |true=>Gf r seen
  |false=>(t,d)::Gf r (t::seen)
def Gg:∀(τ:ax)(seen:List Nat)(t:Nat)(d:SV),kT (Gf τ seen) t=some d->seen.any (Nat.beq t)=false/\kT τ t=some d
 |[],_,_,_,h=>by simp[Gf,kT]at h
 |(i,x)::r,seen,t,d,h=>by
  simp only[Gf]at h;split at h
  ·rename_i c;obtain⟨a,b⟩:=Gg r seen t d h;refine⟨a,?_⟩;have:i≠t:=λe=>by subst e;rw[c]at a;cases a
   rw[tk,alJ this];exact b
  ·rename_i c;rw[tk]at h⊢;by_cases e:i=t
   ·subst e;rw[ali rfl]at h⊢;exact⟨c,h⟩
   ·rw[alJ e]at h⊢;obtain⟨a,b⟩:=Gg r (i::seen) t d h;simp only[List.any_cons,aoy]at a;exact⟨a.2,b⟩
def ER.tidy{S:ae}{σ:Sto}{τ:ax}{τ':Env}(h:ER S σ τ τ'):ER S σ (Gf τ []) τ':=λt v a=>h t v (Gg τ [] t v a).2
def Ac{α:Type}(fid key i:Nat):List fA->ax->ae->(AEx->ax->ae->Option α)->Option α->Option α
 |[],_,_,_,a=>a
 |e::b,τ,S,k,a=>match Nat.beq e.fid fid&&Nat.beq e.key key&&Nat.ble i e.i with
  |true=>match (e.head.get e.i S τ S).bind (kK e.head.tcs) with
   |some x=>match e.exits.all λq=>rM e.head.objs q.2.objs with
    |true=>(e.fn x).bind λy=>sgo S e.exits y k
    |false=>none
   |none=>Ac fid key i b τ S k a
  |false=>Ac fid key i b τ S k a
def JX(x:Operand)(b:Bool)(τ:ax):ax:=match x with
 |.tmp t=>(t,.bool b)::τ
 |_=>τ
def ve:Nat->List SV->ax
 |_,[]=>[]
 |i,v::a=>(i,v)::ve (i+1) a
def zM:AEx->Bool
 |.normal=>true
 |.ret=>true
 |_=>false
def TE:ae->Nat->Nat
 |[],k=>k
 |_::S,k=>TE S (Nat.add k 1)
def JY(cx:Cx)(run:(h:Type)->Nat->Nat->Nat->Code->ax->ae->(AEx->ax->ae->Option h)->Option h){α:Type}:mw α:=λf g S K=>match okF cx.P f with
 |some b=>match b.body,Nat.ble g.length b.ntmps with
  |some c,true=>match lk cx.J (TE S (Nat.add 2199023255552 (Nat.mul f 4096))) with
   |some d=>match d.all λq=>qV S.length 0 q.2.objs with
    |true=>(run (XS d.tcs) f b.ntmps S.length c (ve 0 g) S λe τ' a=>Bz d S.length S e τ' a).bind λy=>sgo S d y λe τ' a=>match zM e with
     |true=>Jc cx.T τ' a b.results.toList λv=>K v a
     |false=>none
    |false=>none
   |none=>run α f b.ntmps S.length c (ve 0 g) S λe τ' a=>match zM e with
    |true=>Jc cx.T τ' a b.results.toList λv=>K v a
    |false=>none
  |_,_=>none
 |none=>none
def akr(a:aZ):List Nat:=a.flatMap λq=>q.2.env.filterMap λp=>match p.2 with
 |.hole _=>some p.1
 |_=>none
def Vy:ae->Nat->Nat
 |[],k=>k
 |o::S,k=>match o with
  |.raw .dead=>Nat.add k 512
  |_=>Vy S k
def Vz(J:Tr aZ)(k:Nat):Nat->Option (Nat×aZ)
 |0=>none
 |n+1=>match lk J (Nat.add k n) with
  |some a=>some (n,a)
  |none=>Vz J k n
def ry(cx:Cx)(g:(α:Type)->Nat->Nat->Nat->Nat->Code->ax->ae->(AEx->ax->ae->Option α)->Option α)(α:Type)(fid N i lr:Nat)(c:Code)(τ:ax)(S:ae)(k:AEx->ax->ae->Option α):Option α:=match c with
 |.skip=>k .normal τ S
 |.label _=>k .normal τ S
 |.ret=>k .ret τ S
 |.exit id=>k (.exit id) τ S
 |.seq a b=>g α fid N i lr a τ S λe τ' d=>match e with
  |.normal=>g α fid N i (CP lr a) b τ' d k
  |e=>k e τ' d
 |.cond x a b=>match sev τ x with
  |some (.bool t)=>match lk cx.J (TE S (Nat.mul (Nat.add (Nat.mul fid 65536) lr) 1024)) with
   |some l=>match l.all λq=>qV i 0 q.2.objs with
    |true=>(cond t (g _ fid N i lr a (JX x true τ) S λe τ' d=>Bz l i S e τ' d) (g _ fid N i lr b (JX x false τ) S λe τ' d=>Bz l i S e τ' d)).bind λy=>sgo S l y k
    |false=>none
   |none=>cond t (g α fid N i lr a (JX x true τ) S k) (g α fid N i lr b (JX x false τ) S k)
  |_=>none
 |.block id b=>g α fid N i lr b τ S λe τ' d=>match e with
  |.exit j=>match Nat.beq j id with
   |true=>k .normal τ' d
   |false=>k (.exit j) τ' d
  |e=>k e τ' d
 |.loop b=>Ac fid (uX b) i cx.L τ S k (g α fid N i lr b (Gf τ []) S λe τ' d=>match e with
  |.normal=>g α fid N i lr (.loop b) τ' d k
  |e=>k e τ' d)
 |.scope b=>g α fid N i lr b τ S λe τ' d=>match e with
  |.goto _=>none
  |e=>k e τ' d
 |.region _ ops false=>Gd cx fid N (JY cx λh f N i c τ S k=>g h f N i 65535 c τ S k) ops ops.toList τ S λτ' d=>k .normal τ' d
 |.region id ops true=>match Rx ops with
  |some q=>TZ cx fid N (JY cx λh f N i c τ S k=>g h f N i 65535 c τ S k) ops q.1 q.2 τ S λτ' d=>k .normal τ' d
  |none=>match Vz cx.J (Vy S (Nat.add 1099511627776 (Nat.mul (Nat.add (Nat.mul fid 65536) id) 1024))) ops.size with
   |some q=>match q.2.all λp=>qV i 0 p.2.objs with
    |true=>Jo cx fid N (JY cx λh f N i c τ S k=>g h f N i 65535 c τ S k) ops [] q.1 (T5 cx fid N (JY cx λh f N i c τ S k=>g h f N i 65535 c τ S k) (λτ' d=>Mh (akr q.2) τ' d λm o=>Bz q.2 i S .normal m o) 4) (λy=>sgo S q.2 y k) τ S
    |false=>none
   |none=>match lk cx.J (Nat.add 4398046511104 (Nat.add (Nat.mul fid 65536) id)) with
    |some q=>(XK (akB q) S).bind λn=>Rw cx fid N ops τ n λτ' d=>k .normal τ' d
    |none=>Rw cx fid N ops τ S λτ' d=>k .normal τ' d
 |_=>none
def xm(cx:Cx)(n:Nat){α:Type}:Nat->Nat->Nat->Nat->Code->ax->ae->(AEx->ax->ae->Option α)->Option α:=(Nat.rec (motive:=λ_=>(α:Type)->Nat->Nat->Nat->Nat->Code->ax->ae->(AEx->ax->ae->Option α)->Option α) (λ_ _ _ _ _ _ _ _ _=>none) (λ_ a=>ry cx a) n:(α:Type)->Nat->Nat->Nat->Nat->Code->ax->ae->(AEx->ax->ae->Option α)->Option α) α
def lJ{cx:Cx}{α:Type}{fid N i lr:Nat}{c:Code}{τ:ax}{S:ae}{k:AEx->ax->ae->Option α}:xm cx 0 fid N i lr c τ S k=none:=rfl
def lK{cx:Cx}{n:Nat}{α:Type}{fid N i lr:Nat}{c:Code}{τ:ax}{S:ae}{k:AEx->ax->ae->Option α}:xm cx (n+1) fid N i lr c τ S k=ry cx (λ_=>xm cx n) α fid N i lr c τ S k:=rfl
def ER.env0{S:ae}{σ:Sto}:∀{vs:List SV}{ds:List D}{i:Nat},VRs S σ vs ds->ER S σ (ve i vs) (env0 i ds)
 |[],_,_,h=>λt v c=>by simp[ve,kT]at c
 |v::vs,_,i,h=>by
  simp only[VRs]at h;obtain⟨e,d,rfl,a,b⟩:=h;exact(ER.env0 b).push a
def Mj(c body:Code):Prop:=∀a b,b∈cI a c->b∈cI a body
def LWp.low{i j N:Nat}{P:Program}{c:Code}{τ:Env}{σ:Sto}{Q:AEx->Env->Sto->Prop}(g:i<=j)(h:LWp j P N c τ σ Q):LWp i P N c τ σ Q:=by
 intro B G w a s t b k p;obtain⟨e,o,y,x,f⟩:=h B G w a s t b k p;refine⟨e,o,y,?_,f⟩;have m:∀{G d:Gh},G.LeB j d->G.LeB i d:=λh=>⟨h.imm,h.mimm,h.siz,λl u b v=>h.blk l u b (alO v g)⟩;cases e<;>simp only[jH]at x⊢<;>first
  |exact x
  |(obtain⟨d,τ',n,q,f⟩:=x;exact⟨d,τ',n,m q,f⟩)
def vc.back{i:Nat}{x:aZ}{y:XS x.tcs}{head:Pat}{S S2:ae}{σ σ2:Sto}{e:AEx}{τ':Env}{σ':Sto}(h:vc i x y S2 σ2 e τ' σ')(U:KpR head S S σ σ2)(V:∀q∈x,rM head.objs q.2.objs=true)
 (R:∀(j:Nat) f b,head.objs[j]?=some (.arr f b true)->∀t H N g,S[j]?=some (.arr t H N g)->∃a,S2[j]?=some (.arr t H a 0)):vc i x y S σ e τ' σ':=by
 obtain⟨m,p,l,C,P,Q⟩:=h;refine⟨m,p,l,C,P,λG=> ?_⟩;obtain⟨τ,I,W,X,Y,Z,k5⟩:=Q G;refine⟨τ,I,W,X,Y,Z,λj f b E g t1 x1 f1 c=> ?_⟩;obtain⟨F,B,D⟩:=Ge (V _ (alz C)) j f b E;obtain⟨t3,x3,f3,g3,z,_,A⟩:=U j F B D;rw[c]at z;cases z;obtain⟨a,n⟩:=R j F B D _ _ _ _ c;obtain⟨t4,x4,L,O,c1,J,K⟩:=k5 j f b E 0 _ _ _ n;refine⟨t4,x4,L,O,c1,λd w=>J d ?_,λk o d w=>K k o d ?_⟩
 ·obtain⟨M,u,s,v⟩:=(w.2 _ _ _ _ c).2 rfl;exact .mk n (by rw[A];exact s) v
 ·obtain⟨M,u,s,v⟩:=(w.2 _ _ _ _ c).2 rfl;exact .mk n (by rw[A];exact s) v
def NM{α:Type}{P:Program}{fid key i:Nat}{S:ae}{σ:Sto}{τ:ax}{τ':Env}{k:AEx->ax->ae->Option α}{j:Option α}{r:α}{fn:Func}{body b:Code}(f:P.funcs[fid]?=some fn)(u:fn.body=some body)(w:b∈cI key body)(s:ER S σ τ τ')(t:StR S σ):
 ∀(L:List fA),(∀e∈L,LOk P e)->Ac fid key i L τ S k j=some r->j=some r∨LWp i P fn.ntmps b τ' σ (uZ i S σ k r)
 |[],_,h=>.inl h
 |e::q,hL,h=>by
  have a:Ac fid key i q τ S k j=some r->j=some r∨LWp i P fn.ntmps b τ' σ (uZ i S σ k r):=λh=>NM f u w s t q (λe J=>hL e (alj _ J)) h;simp only[Ac]at h;split at h
  ·rename_i g;simp only[akY]at g;have A:=bq g.1.1;have B:=bq g.1.2;have v:=alb g.2;split at h
   ·rename_i x m;obtain⟨l,K,m⟩:=am m;split at h<;>try (cases h;done)
    rename_i d;obtain⟨y,O,h⟩:=am h;have c:=io _ m;obtain⟨o,n,F,I,H⟩:=Pat.norm (N:=fn.ntmps) K s t;obtain⟨p,z,C,V,D,E,G⟩:=H λ_=>0;refine .inr (LWp.low v (LWp.sgho F (LWp.mono (hL e (alG ..) fn body (by rw[A];exact f) u b (by rw[B];exact w) x y O p z (by rw[c];exact C) o n D E) ?_)));exact λU R Q M=>(M.back I (alv.1 d) G).go v h
   ·exact a h
  ·exact a h
def uZ.trans{α:Type}{i:Nat}{S0 c:ae}{a b:Sto}{k:AEx->ax->ae->Option α}{r:α}(h:mz i S0 a c b){e:AEx}{τ':Env}{σ':Sto}(x:uZ i c b k r e τ' σ'):uZ i S0 a k r e τ' σ':=by
 obtain⟨τ,S,d,f,g,j⟩:=x;exact⟨τ,S,d,f,h.trans g,j⟩
def mz.refl(i:Nat)(S:ae)(σ:Sto):mz i S σ S σ:=(aK.refl S σ).i
def COk(cx:Cx)(n:Nat):Prop:=∀(α:Type)(d i f:Nat)(c:Code)(τ:ax)(S:ae)(k:AEx->ax->ae->Option α)(r:α)(e:Func)(a:Code),
    cx.P.funcs[d]?=some e->e.body=some a->Mj c a->xm cx n d e.ntmps i f c τ S k=some r->∀(τ':Env)(σ:Sto),ER S σ τ τ'->StR S σ->
    AWp i cx.P e.ntmps c τ' σ (uZ i S σ k r)/\∀b,c=.loop b->LWp i cx.P e.ntmps b τ' σ (uZ i S σ k r)
def Mk{cx:Cx}(t:kU cx){n:Nat}(R:COk cx n){α:Type}:tm cx.P (α:=α) (JY cx λβ f N i c τ S k=>xm cx n f N i 65535 c τ S k):=by
 intro f V S K r h;unfold JY at h;split at h<;>try (cases h;done)
 rename_i b u;obtain⟨z,X⟩:=eY u;split at h<;>try (cases h;done)
 rename_i q l Q;refine⟨X,λσ C o G=> ?_⟩;have P:=G.length;have s:∀{e:AEx}{g:Env}{a:Sto},uZ S.length S σ (λe τ' p=>match zM e with|true=>Jc cx.T τ' p b.results.toList λv=>K v p|false=>none) r e g a->
  (e=.normal∨e=.ret)/\∃d,tE cx.T b.results.toList g a=some d/\∃O U,Post S σ K r O U/\Gho cx.P a U d O:=by
  rintro e g a ⟨L,M,D,A,F,m⟩;simp only at m;split at m<;>try (cases m;done)
  rename_i he;refine⟨by cases e<;>first|exact .inl rfl|exact .inr rfl|(simp[zM]at he),?_⟩;obtain⟨v,W,d,k1,k2,k3,k4⟩:=Pb A D m;exact⟨W,k4,d,a,⟨v,M,k1,k2,A,F.full⟩,Gho.weak k3⟩
 split at h
 ·rename_i ex e9;split at h<;>try (cases h;done)
  rename_i j;have j:=alv.1 j;obtain⟨y,hy,E⟩:=am h;have B:=(R _ f S.length 65535 q (ve 0 V) S _ y b q z l (λ_ _ H=>H) hy (env0 0 C) σ (ER.env0 G) o).1;have w:AWp S.length cx.P b.ntmps q (env0 0 C) σ (uZ S.length S σ (λe τ' p=>match zM e with|true=>Jc cx.T τ' p b.results.toList λv=>K v p|false=>none) r):=by
   refine AWp.post (B.mono ?_);rintro e g a ⟨L,M,D,A,F,m⟩;obtain⟨J,I,Y,Z⟩:=pN (N:=b.ntmps) m D A F j;exact⟨J,I,Y,Z.go (ak7 _) E⟩
  rw[o.len]at w;exact tn t.tok z l (by rw[P];exact alb Q) (w.mono λe g a x=>by rw[<-o.len]at x;exact s x)
 ·have B:=(R _ f S.length 65535 q (ve 0 V) S _ r b q z l (λ_ _ H=>H) h (env0 0 C) σ (ER.env0 G) o).1;rw[o.len]at B;exact tn t.tok z l (by rw[P];exact alb Q) (B.mono λe g a x=>by rw[<-o.len]at x;exact s x)
def Ql{cx:Cx}(y:∀e∈cx.L,LOk cx.P e){n:Nat}(w:COk cx n){α:Type}{fid i lr:Nat}{b:Code}{τ:ax}{S:ae}{k:AEx->ax->ae->Option α}{r:α}{fn:Func}{body:Code}
 (d:cx.P.funcs[fid]?=some fn)(p:fn.body=some body)(a:Mj (.loop b) body)(h:xm cx (n+1) fid fn.ntmps i lr (.loop b) τ S k=some r){τ':Env}{σ:Sto}(u:ER S σ τ τ')(v:StR S σ):LWp i cx.P fn.ntmps b τ' σ (uZ i S σ k r):=by
 simp only[lJ,lK,ry,reduceCtorEq]at h;have z:b∈cI (uX b) body:=a _ b (by simp[cI]);have B:Mj b body:=λq x A=>a q x (by simp[cI,A]);rcases NM d p z u v cx.L y h with h|h
 ·refine I6 ((w _ fid i lr b _ S _ r fn body d p B h τ' σ u.tidy v).1.mono ?_);rintro e t s ⟨c,f,g,j,o,m⟩;cases e with
  |normal=>exact((w _ fid i lr (.loop b) c f k r fn body d p a m t s g j).2 b rfl).mono λe τ σ x=>x.trans o
  |exit id=>exact⟨c,f,g,j,o,m⟩
  |goto l=>exact⟨c,f,g,j,o,m⟩
  |ret=>exact⟨c,f,g,j,o,m⟩
 ·exact h
def BA{cx:Cx}(H:kU cx)(hL:∀e∈cx.L,LOk cx.P e):∀(n:Nat),COk cx n
 |0=>λα F i V c τ S k r K g _ _ _ h _ _ _ _=>by simp[lJ]at h
 |n+1=>by
  have L:=BA H hL n;intro α F i V c τ S k r K g C R v h τ' σ J I;refine⟨?_,λb e=>by subst e;exact Ql hL L C R v h J I⟩;cases c<;>(try (simp[lK,ry]at h;done))
  case skip=>exact nq ⟨τ,S,J,I,.refl _ _ _,h⟩
  case label=>exact PR ⟨τ,S,J,I,.refl _ _ _,h⟩
  case ret=>exact nT ⟨τ,S,J,I,.refl _ _ _,h⟩
  case exit id=>exact Lu ⟨τ,S,J,I,.refl _ _ _,h⟩
  case seq a b=>
   simp only[lJ,lK,ry,reduceCtorEq]at h;refine cV ((L _ F i V a τ S _ r K g C R (λA x M=>v A x (by simp[cI,M])) h τ' σ J I).1.mono ?_);rintro e E D ⟨f,z,m,p,s,j⟩;cases e with
   |normal=>exact(L _ F i _ b f z k r K g C R (λA x M=>v A x (by simp[cI,M])) j E D m p).1.mono λe τ σ x=>x.trans s
   |exit id=>exact⟨f,z,m,p,s,j⟩
   |goto l=>exact⟨f,z,m,p,s,j⟩
   |ret=>exact⟨f,z,m,p,s,j⟩
  case cond x a b=>
   simp only[lJ,lK,ry,reduceCtorEq]at h;split at h<;>try (cases h;done)
   rename_i t ht;obtain⟨d,Y,Z⟩:=eZ J ht;simp only[VR]at Z;subst Z;have U:ER S σ (JX x t τ) τ':=by
    unfold JX;split
    ·exact J.setB Y
    ·exact J
   have sa:Mj a g:=λA x M=>v A x (by simp[cI,M]);have sb:Mj b g:=λA x M=>v A x (by simp[cI,M]);split at h
   ·rename_i ex j4;split at h<;>try (cases h;done)
    rename_i u;have u:=alv.1 u;obtain⟨y,hy,hk⟩:=am h;clear h;refine AWp.post ?_;rcases aR hy with⟨rfl,hy⟩|⟨rfl,hy⟩
    ·refine pJ Y ((L _ F i V a _ S _ y K g C R sa hy τ' σ U I).1.mono ?_);rintro e E D ⟨f,z,m,p,s,j⟩;obtain⟨Q,O,W,X⟩:=pN (N:=K.ntmps) j m p s u;exact⟨Q,O,W,X.go (ak7 _) hk⟩
    ·refine jU Y ((L _ F i V b _ S _ y K g C R sb hy τ' σ U I).1.mono ?_);rintro e E D ⟨f,z,m,p,s,j⟩;obtain⟨Q,O,W,X⟩:=pN (N:=K.ntmps) j m p s u;exact⟨Q,O,W,X.go (ak7 _) hk⟩
   ·rcases aR h with⟨rfl,h⟩|⟨rfl,h⟩
    ·exact pJ Y (L _ F i V a _ S k r K g C R sa h τ' σ U I).1
    ·exact jU Y (L _ F i V b _ S k r K g C R sb h τ' σ U I).1
  case block id b=>
   simp only[lJ,lK,ry,reduceCtorEq]at h;refine BY ((L _ F i V b τ S _ r K g C R (λA x M=>v A x (by simpa[cI] using M)) h τ' σ J I).1.mono ?_);rintro e E D ⟨f,z,m,p,s,j⟩;cases e with
   |normal=>exact⟨f,z,m,p,s,j⟩
   |exit j5=>
    simp only[MN];simp only at j;split at j
    ·rename_i he;rw[ali (bq he)];exact⟨f,z,m,p,s,j⟩
    ·rename_i he;rw[alJ (λe=>by subst e;rw[an2]at he;cases he)];exact⟨f,z,m,p,s,j⟩
   |goto l=>exact⟨f,z,m,p,s,j⟩
   |ret=>exact⟨f,z,m,p,s,j⟩
  case scope b=>
   simp only[lJ,lK,ry,reduceCtorEq]at h;refine Qg ((L _ F i V b τ S _ r K g C R (λA x M=>v A x (by simpa[cI] using M)) h τ' σ J I).1.mono ?_);rintro e E D ⟨f,z,m,p,s,j⟩;cases e with
   |normal=>exact⟨f,z,m,p,s,j⟩
   |exit id=>exact⟨f,z,m,p,s,j⟩
   |goto l=>cases j
   |ret=>exact⟨f,z,m,p,s,j⟩
  case loop b=>exact Qf (Ql hL L C R v h J I)
  case region id ops draw=>
   cases draw with
   |true=>
    simp only[lJ,lK,ry,reduceCtorEq]at h;split at h
    ·rename_i q hq;refine(ZE (pre:=q.1) (o:=q.2) H (Mk H L) I J (by rw[hq]) h).mono ?_;rintro e E D ⟨rfl,f,z,m,p,s,j⟩;exact⟨f,z,m,p,s.i,j⟩
    ·split at h
     ·rename_i q hq;split at h<;>try (cases h;done)
      rename_i u;have u:=alv.1 u;refine AWp.post ((ZI H (Mk H L) I J h).mono ?_);rintro e E D ⟨rfl,y,e9,f,z,m,p,s,j⟩;obtain⟨j8,j3,S4,j7,g1,g2,g3,g4,j⟩:=EF (P:=cx.P) (N:=K.ntmps) _ p m j;obtain⟨Q,O,W,X⟩:=pN (N:=K.ntmps) j g3 g2 (s.trans g4).i u;refine⟨Q,O,λB G w a hR hT=> ?_,X.go (ak7 _) e9⟩;obtain⟨G1,l1,R1,t1⟩:=g1 B G w a hR hT;obtain⟨G2,l2,R2,t2⟩:=W B G1 w a R1 t1;exact⟨G2,l1.b.trans l2,R2,t2⟩
     ·split at h
      ·obtain⟨S1,hf,h⟩:=am h;obtain⟨j6,f1,f2,f3⟩:=VT (P:=cx.P) hf I;refine AWp.preG (f3 _ _) ((TY H f1 (J.pres f2) h).mono ?_);rintro e E D ⟨rfl,f,z,m,p,s,j⟩;exact⟨f,z,m,p,(f2.trans s).i,j⟩
      ·refine(TY H I J h).mono ?_;rintro e E D ⟨rfl,f,z,m,p,s,j⟩;exact⟨f,z,m,p,s.i,j⟩
   |false=>
    simp only[lJ,lK,ry,reduceCtorEq]at h;refine bJ (eR.monoK ?_ _ _ _ (EG H (Mk H L) _ _ _ _ _ I J h));rintro E D ⟨f,z,m,p,s,j⟩;exact⟨f,z,m,p,s.i,j⟩
end
end Go.Fw
namespace Go.Fw
noncomputable section
open Go.RowKit
def CQ:∀(a:List TC)(x:Tup a),(eH a x).map (·.t)=a
 |[],_=>rfl
 |[_],_=>rfl
 |t::u::a,x=>by simp only[eH,alc,CQ (u::a) x.2]
mutual
def PV.put_some(G:Nat->Nat):∀(p:PV)(l r:List DV),l.map (·.t)=p.tcs->∃v,p.put G (l++r)=some (v,r)
 |.hole t,l,r,h=>by
  match l,h with
  |[x],_=>exact⟨kV x,rfl⟩
  |[],h=>simp[PV.tcs]at h
  |_::_::_,h=>simp[PV.tcs]at h
 |.raw d,l,r,h=>by
  have:l=[]:=by simpa[PV.tcs] using h
  subst this;exact⟨_,rfl⟩
 |.ptr i o,l,r,h=>by
  have:l=[]:=by simpa[PV.tcs] using h
  subst this;exact⟨_,rfl⟩
 |.nils,l,r,h=>by
  have:l=[]:=by simpa[PV.tcs] using h
  subst this;exact⟨_,rfl⟩
 |.own i,l,r,h=>by
  have:l=[]:=by simpa[PV.tcs] using h
  subst this;exact⟨_,rfl⟩
 |.junk,l,r,h=>by
  have:l=[]:=by simpa[PV.tcs] using h
  subst this;exact⟨_,rfl⟩
 |.ilit _ _,l,r,h=>by
  have:l=[]:=by simpa[PV.tcs] using h
  subst this;exact⟨_,rfl⟩
 |.slit _,l,r,h=>by
  have:l=[]:=by simpa[PV.tcs] using h
  subst this;exact⟨_,rfl⟩
 |.blit _,l,r,h=>by
  have:l=[]:=by simpa[PV.tcs] using h
  subst this;exact⟨_,rfl⟩
 |.mp _,l,r,h=>by
  have:l=[]:=by simpa[PV.tcs] using h
  subst this;exact⟨_,rfl⟩
 |.rp t o,l,r,h=>by
  match l,h with
  |[x],_=>exact⟨.rp x.t x.x o,rfl⟩
  |[],h=>simp[PV.tcs]at h
  |_::_::_,h=>simp[PV.tcs]at h
 |.agg ps,l,r,h=>by
  obtain⟨vs,hv⟩:=PV.puts_some G ps l r h;exact⟨.agg vs,by simp only[PV.put,hv]⟩
 |.tup ps,l,r,h=>by
  obtain⟨vs,hv⟩:=PV.puts_some G ps l r h;exact⟨.tup vs,by simp only[PV.put,hv]⟩
 |.func fn a b,l,r,h=>by
  simp only[PV.tcs]at h;obtain⟨l1,l2,rfl,h1,h2⟩:=List.map_eq_append_iff.1 h;obtain⟨va,ha⟩:=PV.puts_some G a l1 (l2++r) h1;obtain⟨vb,hb⟩:=PV.puts_some G b l2 r h2;exact⟨.func fn va vb,by simp only[PV.put,alp,ha,hb]⟩
 |.iface t p,l,r,h=>by
  obtain⟨v,hv⟩:=PV.put_some G p l r h;exact⟨.iface t v,by simp only[PV.put,hv]⟩
 |.rc ps o,l,r,h=>by
  obtain⟨vs,hv⟩:=PV.puts_some G ps l r h;exact⟨.rc vs o,by simp only[PV.put,hv]⟩
def PV.puts_some (G:Nat->Nat):∀(ps:List PV)(l r:List DV),l.map (·.t)=PV.tcss ps->∃vs,PV.puts G ps (l++r)=some (vs,r)
 |[],l,r,h=>by
  have:l=[]:=by simpa[PV.tcss] using h
  subst this;exact⟨[],rfl⟩
 |p::ps,l,r,h=>by
  simp only[PV.tcss]at h;obtain⟨l1,l2,rfl,h1,h2⟩:=List.map_eq_append_iff.1 h;obtain⟨v,hv⟩:=PV.put_some G p l1 (l2++r) h1;obtain⟨vs,hs⟩:=PV.puts_some G ps l2 r h2;exact⟨v::vs,by simp only[PV.puts,alp,hv,hs]⟩
end
mutual
def PV.pure:PV->Bool
 |.raw d=>d.pure
 |.ptr _ _=>false
 |.own _=>false
 |.rp _ _=>false
 |.mp _=>false
 |.agg ps=>PV.pures ps
 |.tup ps=>PV.pures ps
 |.func _ a b=>PV.pures a&&PV.pures b
 |.iface _ p=>p.pure
 |.rc ps _=>PV.pures ps
 |_=>true
def PV.pures:List PV->Bool
 |[]=>true
 |p::ps=>p.pure&&PV.pures ps
end
def Dr:∀(t:TC)(x:t.Den),SV.pures (t.scells x)=true
 |.byte,_=>rfl
 |.int _,_=>rfl
 |.bool,_=>rfl
 |.str,_=>rfl
 |.sl _,_=>rfl
 |.pair a b,x=>by
  have app:∀{l m:List SV},SV.pures l=true->SV.pures m=true->SV.pures (l++m)=true:=by
   intro l;induction l with
   |nil=>intro m _ h;exact h
   |cons v l e=>intro m c d;simp only[SV.pures,alT,akY]at c⊢;exact⟨c.1,e c.2 d⟩
  exact app (Dr a x.1) (Dr b x.2)
 |.unit,_=>rfl
 |.node,.mk _ _ _ _ _=>rfl
 |.spot,.mk _ _ (.mk _ _ _ _ _) _=>rfl
def Zu(x:DV):(kV x).pure=true:=by
 unfold kV;split<;>first|rfl|exact Dr _ _
mutual
def PV.put_pure{G:Nat->Nat}:∀(p:PV){l r:List DV}{v:SV},p.put G l=some (v,r)->p.pure=true->v.pure=true
 |.hole t,l,r,v,h,_=>by
  simp only[PV.put]at h;split at h<;>cases h;exact Zu _
 |.raw d,l,r,v,h,hp=>by cases h;exact hp
 |.ptr i o,l,r,v,h,hp=>by cases hp
 |.nils,l,r,v,h,hp=>by cases h;rfl
 |.own i,l,r,v,h,hp=>by cases hp
 |.junk,l,r,v,h,hp=>by cases h;rfl
 |.ilit _ _,l,r,v,h,hp=>by cases h;rfl
 |.slit _,l,r,v,h,hp=>by cases h;rfl
 |.blit _,l,r,v,h,hp=>by cases h;rfl
 |.rp _ _,l,r,v,h,hp=>by cases hp
 |.mp _,l,r,v,h,hp=>by cases hp
 |.agg ps,l,r,v,h,hp=>by
  simp only[PV.put]at h;split at h<;>cases h;rename_i hs;exact PV.puts_pure ps hs hp
 |.tup ps,l,r,v,h,hp=>by
  simp only[PV.put]at h;split at h<;>cases h;rename_i hs;exact PV.puts_pure ps hs hp
 |.func fn a b,l,r,v,h,hp=>by
  simp only[PV.put]at h;split at h<;>try (cases h;done)
  rename_i ha;split at h<;>cases h;rename_i hb;simp only[PV.pure,akY]at hp;simp only[SV.pure,PV.puts_pure a ha hp.1,PV.puts_pure b hb hp.2,amJ]
 |.iface t p,l,r,v,h,hp=>by
  simp only[PV.put]at h;split at h<;>cases h;rename_i hs;have:=PV.put_pure p hs hp;exact this
 |.rc ps o,l,r,v,h,hp=>by
  simp only[PV.put]at h;split at h<;>cases h;rename_i hs;exact PV.puts_pure ps hs hp
def PV.puts_pure {G:Nat->Nat}:∀(ps:List PV){l r:List DV}{vs:List SV},PV.puts G ps l=some (vs,r)->PV.pures ps=true->SV.pures vs=true
 |[],l,r,vs,h,_=>by
  simp only[PV.puts,ak1,aln]at h;rw[<-h.1];rfl
 |p::ps,l,r,vs,h,hp=>by
  simp only[PV.puts]at h;split at h<;>try (cases h;done)
  rename_i h1;split at h<;>cases h;rename_i h2;simp only[PV.pures,akY]at hp;simp only[SV.pures,PV.put_pure p h1 hp.1,PV.puts_pure ps h2 hp.2,amJ]
end
def HA{P:Program}{i:Nat}{f:FuncId}{ds:List D}{d:D}(B:bo ds=true)(p:d.pure=true)(h:qX i P f ds [] λm _=>m=d):cq P f ds d:=by
 intro G w c k A C;let B0:bE P:=⟨w,G,A,λb o v h=>ed (k.imm b o v h),λb t h=>bB (k.mimm b t h).1⟩;have z:Rel B0 G.strip [] w:=by
  refine⟨amh _ _,k.imm,k.mimm,k.siz,?_,?_,?_,?_,?_,?_,?_,λ_ _ _=>rfl,λ_ _=>rfl⟩
  ·intro l u b n;cases n
  ·intro l u J K b n;cases n
  ·intro l s b a;simp at a
  ·intro l H y u b a;simp at a
  ·intro l I L b a;simp at a
  ·intro l s a;simp at a
  ·intro l s a;simp at a
 refine(h B0 G.strip w c z (af.pure (G:=G) (G':=G.strip) (λ_ _ _ x=>x) (λ_ _ x=>x) ds c B C)).mono ?_;rintro e M ⟨v,q,m,F,rfl,g,j,E,rfl⟩;let r:Gh:={q with blk:=G.blk};refine⟨v,r,rfl,?_,Rep.pure (G:=q) (G':=r) (λ_ _ _ x=>x) (λ_ _ x=>x) m v p E⟩;exact {
  le:=⟨g.imm,g.mimm,λ_ _ _ x=>x,g.siz⟩
  below:=j.below
  blk:=rfl
  imm:=j.imm
  mimm:=j.mimm
  siz:=j.siz
  imm_new:=j.bimm
  mimm_new:=j.bmimm}
mutual
def Je(S:ae)(σ:Sto):∀(v:SV),v.pure=true->VR S σ v v.can
 |.int _ _,_=>by simp only[SV.can,VR]
 |.bool _,_=>by simp only[SV.can,VR]
 |.str _,_=>by simp only[SV.can,VR]
 |.sl t xs f,_=>by simp only[SV.can,VR];exact⟨f,rfl,id⟩
 |.nils,_=>by simp only[SV.can,VR]
 |.lst cs n f,p=>by simp only[SV.can,VR];exact⟨_,f,rfl,id,nJ S σ cs p⟩
 |.agg cs,p=>by simp only[SV.can,VR];exact⟨_,rfl,nJ S σ cs p⟩
 |.tup cs,p=>by simp only[SV.can,VR];exact⟨_,rfl,nJ S σ cs p⟩
 |.func _ a b,p=>by
  simp only[SV.pure,akY]at p;simp only[SV.can,VR];exact⟨_,_,rfl,nJ S σ a p.1,nJ S σ b p.2⟩
 |.iface _ v,p=>by simp only[SV.can,VR];exact⟨_,rfl,Je S σ v p⟩
 |.own _ _,p=>by cases p
 |.ap _ _ _ _,p=>by cases p
 |.rp _ _ _,p=>by cases p
 |.rc cs _,p=>by simp only[SV.can,VR];exact⟨_,rfl,nJ S σ cs p⟩
 |.raw _,_=>by simp only[SV.can,VR]
def nJ (S:ae) (σ:Sto):∀(vs:List SV),SV.pures vs=true->VRs S σ vs (SV.cans vs)
 |[],_=>by simp only[SV.cans,VRs]
 |v::vs,p=>by
  simp only[SV.pures,akY]at p;simp only[SV.cans,VRs];exact⟨_,_,rfl,Je S σ v p.1,nJ S σ vs p.2⟩
end
def TF{v:SV}(p:v.pure=true)(S:ae)(σ:Sto):VR S σ v v.can:=Je S σ v p
def BB(cx:Cx)(f:FuncId)(ap:List PV)(rp:PV)(x:Tup (PV.tcss ap)):Option (Tup rp.tcs):=
 (okF cx.P f).bind λa=>a.body.bind λc=>(PV.puts (λ_=>0) ap (eH _ x)).bind λq=>match Nat.ble q.1.length a.ntmps with
   |true=>xm cx 100000 f a.ntmps 0 65535 c (ve 0 q.1) [] λe b S=>match zM e with
    |true=>Jc cx.T b S a.results.toList λv=>(lZ S v).bind λw=>(PV.get w.2 rp w.1).bind (kK _)
    |false=>none
   |false=>none
def VA{cx:Cx}(p:kU cx)(Z:∀e∈cx.L,LOk cx.P e){f:FuncId}{c:Ctr}{fn:Func}(O:okF cx.P f=some fn)(C:PV.chks [] c.ap=true)(t:PV.chk [] c.rp=true)(F:PV.pures c.ap=true)(H:c.rp.pure=true)
 (h:∀x,BB cx f c.ap c.rp x=c.fn x):cD cx.P f c:=by
 obtain⟨L,X⟩:=eY O;refine⟨X,C,t,λx y b=> ?_⟩;obtain⟨v,A⟩:=PV.put_some (λ_=>0) c.rp (eH _ y) [] (CQ _ y);rw[alm]at A;have i:=PV.put_pure _ A H;rw[<-h x]at b;unfold BB at b;rw[O]at b;obtain⟨W,r,b⟩:=am b;cases r;obtain⟨j,N,b⟩:=am b;obtain⟨q,P,b⟩:=am b;split at b<;>try (cases b;done)
 rename_i E;have E:=alb E;obtain⟨n,r0⟩:=q;obtain⟨e9,a⟩:=PV.puts_some (λ_=>0) c.ap (eH _ x) [] (CQ _ x);rw[alm]at a;rw[a]at P;cases P;have I:=PV.puts_pure _ a F;have w:∀k,VRs [] [] n k->qX 0 cx.P f k [] λT _=>T=v.can/\VR [] [] v v.can:=by
  intro k g;have J:=(BA p Z 100000 _ f 0 65535 j (ve 0 n) [] _ y fn j L N (λ_ _ hx=>hx) b (env0 0 k) [] (ER.env0 g) ⟨rfl,λl o D=>by simp at D⟩).1;refine tn p.tok L N (by rw[g.length];exact E) (J.mono ?_);rintro e j3 σ2 ⟨j4,S2,Y,M,hp,z⟩;simp only at z;split at z<;>try (cases z;done)
  rename_i he;refine⟨by cases e<;>first|exact .inl rfl|exact .inr rfl|(simp[zM]at he),?_⟩;obtain⟨v0,U,d,k1,k2,k3,k4⟩:=Pb M Y z;obtain⟨⟨v1,S1⟩,J,k5⟩:=am k1;obtain⟨l,D,k6⟩:=am k5;obtain⟨V,K,m1,m2,m3,m4⟩:=EO v0 J M k2;obtain⟨d2,n1,n2,nG⟩:=PV.get_ok (objs:=[]) _ v1 l V D t m1;obtain⟨v',B,n4⟩:=nG λ_=>0;have m:=io _ k6;have B:=B [];rw[alm,<-m,A]at B;cases B;obtain⟨Q,R,a3⟩:=SV.can_ok (S2:=[]) (σ2:=[]) v d2 i (n4 [] [] (EE _ _ _ _ _));exact⟨U,k4,v.can,K,⟨rfl,R⟩,(Gho.weak k3).trans (m4.trans (Gho.weak (n1.trans Q)))⟩
 refine⟨v,A,?_,λvs u k g=> ?_⟩
 ·intro S σ;exact(SV.can_ok (S:=S) (σ:=σ) (S2:=S) (σ2:=σ) v v.can i (TF i S σ)).2.1
 ·rw[a]at u;cases u;obtain⟨_,G⟩:=VRs.pure (S':=[]) (σ':=[]) n k I g;refine HA G ?_ ((w k g).mono λd s x=>x.1);exact(SV.can_ok (S:=[]) (σ:=[]) (S2:=[]) (σ2:=[]) v v.can i (TF i [] [])).2.2
def adN(t:TC)(v:SV)(S:ae):Option (List t.Den):=match v with
 |.own l g=>match S[l]? with
  |some (.arr c d a b)=>match decEq c t,Nat.beq g b&& !a with
   |isTrue h,true=>some (h▸d)
   |_,_=>none
  |_=>none
 |_=>none
def JZ(cx:Cx)(f:FuncId)(ap:List PV)(t:TC)(x:Tup (PV.tcss ap)):Option (List t.Den):=
 (okF cx.P f).bind λa=>a.body.bind λc=>(PV.puts (λ_=>0) ap (eH _ x)).bind λq=>match Nat.ble q.1.length a.ntmps with
   |true=>xm cx 100000 f a.ntmps 0 65535 c (ve 0 q.1) [] λe b S=>match zM e with
    |true=>Jc cx.T b S a.results.toList λv=>adN t v S
    |false=>none
   |false=>none
def acf{cx:Cx}(p:kU cx)(V:∀e∈cx.L,LOk cx.P e){f:FuncId}{c:lY}{fn:Func}(L:okF cx.P f=some fn)(z:PV.chks [] c.ap=true)(C:PV.pures c.ap=true)
 (h:∀x,JZ cx f c.ap c.t x=c.fn x):pL cx.P f c:=by
 obtain⟨H,T⟩:=eY L;refine⟨T,z,λx y i=> ?_⟩;rw[<-h x]at i;unfold JZ at i;rw[L]at i;obtain⟨R,r,i⟩:=am i;cases r;obtain⟨k,K,i⟩:=am i;obtain⟨q,M,i⟩:=am i;split at i<;>try (cases i;done)
 rename_i B;have B:=alb B;obtain⟨t,r0⟩:=q;obtain⟨e9,b⟩:=PV.puts_some (λ_=>0) c.ap (eH _ x) [] (CQ _ x);rw[alm]at b;rw[b]at M;cases M;have E:=PV.puts_pure _ b C;intro vs s G m;rw[b]at s;cases s;obtain⟨_,D⟩:=VRs.pure (S':=[]) (σ':=[]) t G E m;refine I8 D (TC.flat_pure _ _) ?_;have X:=(BA p V 100000 _ f 0 65535 k (ve 0 t) [] _ y fn k H K (λ_ _ Y=>Y) i (env0 0 G) [] (ER.env0 m) ⟨rfl,λl o w=>by simp at w⟩).1;refine tn p.tok H K (by rw[m.length];exact B) (X.mono ?_);rintro e j3 F ⟨j4,S2,U,I,hp,v⟩;simp only at v;split at v<;>try (cases v;done)
 rename_i W;refine⟨by cases e<;>first|exact .inl rfl|exact .inr rfl|(simp[zM]at W),?_⟩;obtain⟨v0,Q,d,j,O,Z,k4⟩:=Pb I U v;unfold adN at j;split at j<;>try (cases j;done)
 rename_i l g;split at j<;>try (cases j;done)
 rename_i t' xs fz g' w;split at j<;>try (cases j;done)
 rename_i N _ n;obtain⟨ca,ct,cf⟩:=c;simp only at N j y⊢;subst N;cases j;simp only[akY,amu]at n;obtain⟨n,rfl⟩:=n;have n:=bq n;subst n;simp only[VR]at O;obtain⟨fr,u,P,rfl⟩:=(O.2 _ _ _ _ w).2 rfl;obtain⟨a,J,S,u',rfl,A⟩:=I.obj _ _ w;rw[P]at J;cases J;have:=A rfl;subst this;exact⟨Q,k4,_,F,⟨l,u,rfl,P⟩,Gho.weak Z⟩
def TG(cx:Cx)(fid N i:Nat)(head:Pat)(exits:aZ)(b:Code)(rec:Tup head.tcs->Option (XS exits.tcs))(x:Tup head.tcs):Option (XS exits.tcs):=
 (head.put (λ_=>0) (eH _ x)).bind λq=>xm cx 100000 fid N i 65535 b q.1 q.2 λe a S=>match e with
   |.normal=>((head.get i q.2 a S).bind (kK _)).bind rec
   |e=>Bz exits i q.2 e a S
def ae6{key:Nat}{b:Code}:∀{c:Code},b∈cI key c->Mj b c:=by
 intro c;induction c with
 |loop c g=>
  intro h k x d;simp only[cI,alM]at h⊢;rcases h with h|h
  ·split at h
   ·simp at h;subst h;exact .inr d
   ·simp at h
  ·exact .inr (g h k x d)
 |seq a c e f=>
  intro h k x d;simp only[cI,alM]at h⊢;exact h.imp (λh=>e h k x d) (λh=>f h k x d)
 |cond o a c e f=>
  intro h k x d;simp only[cI,alM]at h⊢;exact h.imp (λh=>e h k x d) (λh=>f h k x d)
 |block id c g=>intro h k x d;exact g h k x d
 |scope c g=>intro h k x d;exact g h k x d
 |_=>intro h;simp[cI]at h
def vc.round{i:Nat}{x:aZ}{y:XS x.tcs}{head:Pat}{S s S2:ae}{σ f σ2:Sto}{e:AEx}{τ':Env}{σ':Sto}(h:vc i x y S2 σ2 e τ' σ')(K:mz i S σ s f)(Y:KpR head S s f σ2)
 (hx:∀q∈x,rM head.objs q.2.objs=true)(D:qV i 0 head.objs=true)
 (X:∀(j:Nat) r n,head.objs[j]?=some (.arr r n true)->∀t M T g,s[j]?=some (.arr t M T g)->∃b,S2[j]?=some (.arr t M b 0)):vc i x y S σ e τ' σ':=by
 obtain⟨m,p,l,J,V,W⟩:=h;refine⟨m,p,l,J,V,λG=> ?_⟩;obtain⟨τ,N,k1,k2,k3,k4,k5⟩:=W G;refine⟨τ,N,k1,k2,k3,k4,λj r n L g t1 x1 f1 Z=> ?_⟩;obtain⟨F,z,C⟩:=Ge (hx _ (alz J)) j r n L;obtain⟨t3,x3,f3,I,v,a,H⟩:=Y j F z C;unfold Ab at a;rw[Z]at a;have a:=bq a;subst a;have c:j<i:=by have:=Pc D j F z C;omega
 obtain⟨b,w⟩:=X j F z C _ _ _ _ v;obtain⟨t4,x4,Q,U,c1,O,P⟩:=k5 j r n L 0 _ _ _ w;refine⟨t4,x4,Q,U,c1,λd E=>O d ?_,λk o d E=>P k o d ?_⟩
 ·obtain⟨R,u,A,B⟩:=((K.1 j I d c E).2 _ _ _ _ v).2 rfl;exact .mk w (by rw[H];exact A) B
 ·obtain⟨R,u,A,B⟩:=((K.2 j I k o d c E).2 _ _ _ _ v).2 rfl;exact .mk w (by rw[H];exact A) B
def VC{cx:Cx}(H:kU cx)(X:∀e∈cx.L,LOk cx.P e){fid key i:Nat}{head:Pat}{exits:aZ}{L:Nat->Tup head.tcs->Option (XS exits.tcs)}{fn:Func}{body b:Code}(k:cx.P.funcs[fid]?=some fn)(G:fn.body=some body)
 (I:cI key body=[b])(v:(qV i 0 head.objs&&exits.all λq=>qV i 0 q.2.objs&&rM head.objs q.2.objs)=true)(U:∀x,L 0 x=none)(Y:∀n x,TG cx fid fn.ntmps i head exits b (L n) x=L (n+1) x):∀n,LOk cx.P ⟨fid,key,i,head,exits,L n⟩:=by
 simp only[akY,alv]at v;obtain⟨K,w⟩:=v;have p:∀q∈exits,qV i 0 q.2.objs=true:=λq t=>(w q t).1;have M:∀q∈exits,rM head.objs q.2.objs=true:=λq t=>(w q t).2;intro n;induction n with
 |zero=>
  intro E T _ _ D _ x y g;simp only[U]at g;cases g
 |succ n ih=>
  intro E T d u D f x y g Q S h O P V F;simp only at d f g h;rw[k]at d;cases d;rw[G]at u;cases u;rw[I]at f;simp at f;subst f;rw[<-Y]at g;unfold TG at g;obtain⟨q,t,g⟩:=am g;rw[h]at t;cases t;have Z:=(BA H X 100000 _ fid i 65535 D Q S _ y fn body k G (ae6 (by rw[I];simp)) g O P V F).1;refine I6 (AWp.post (Z.mono ?_));rintro e j3 e9 ⟨j4,S2,A,B,C,j⟩;cases e with
  |normal=>
   simp only at j;obtain⟨x',o,j⟩:=am j;obtain⟨l,J,o⟩:=am o;have m:=io _ o;obtain⟨c,a,r,W,kG⟩:=Pat.norm (N:=fn.ntmps) J A B;obtain⟨z,R,s,k3,k4,k5,k6⟩:=kG λ_=>0;refine⟨c,a,r,(ih fn body k G D (by simp only[I];simp) x' y j z R (by simp only;rw[m];exact s) c a k4 k5).mono ?_⟩;exact λe Q P hx=>vc.round hx C W M K k6
  |exit id=>
   obtain⟨c,a,r,s⟩:=pN (N:=fn.ntmps) j A B C p;exact⟨c,a,r,s⟩
  |goto l=>
   obtain⟨c,a,r,s⟩:=pN (N:=fn.ntmps) j A B C p;exact⟨c,a,r,s⟩
  |ret=>
   obtain⟨c,a,r,s⟩:=pN (N:=fn.ntmps) j A B C p;exact⟨c,a,r,s⟩
end
end Go.Fw
namespace Go.Fw
noncomputable section
open Go.RowKit
def EH(P:Program):List (FuncId×Ctr)->Prop
 |[]=>True
 |(f,c)::r=>cD P f c/\EH P r
def Ad(P:Program):List (FuncId×lY)->Prop
 |[]=>True
 |(f,c)::r=>pL P f c/\Ad P r
def Ad.mem{P:Program}:∀{l:List (FuncId×lY)},Ad P l->∀f c,(f,c)∈l->pL P f c
 |[],_,_,_,h=>by simp at h
 |(g,d)::r,h,f,c,a=>by
  rcases alr.1 a with e|a
  ·cases e;exact h.1
  ·exact Ad.mem h.2 f c a
def Ae(P:Program):List (FuncId×qU)->Prop
 |[]=>True
 |(f,c)::r=>xX P f c/\Ae P r
def Ae.mem{P:Program}:∀{l:List (FuncId×qU)},Ae P l->∀f c,(f,c)∈l->xX P f c
 |[],_,_,_,h=>by simp at h
 |(g,d)::r,h,f,c,a=>by
  rcases alr.1 a with e|a
  ·cases e;exact h.1
  ·exact Ae.mem h.2 f c a
def Pd(P:Program):List fA->Prop
 |[]=>True
 |e::r=>LOk P e/\Pd P r
def EH.mem{P:Program}:∀{l:List (FuncId×Ctr)},EH P l->∀f c,(f,c)∈l->cD P f c
 |[],_,_,_,h=>by simp at h
 |(g,d)::r,h,f,c,a=>by
  rcases alr.1 a with e|a
  ·cases e;exact h.1
  ·exact EH.mem h.2 f c a
def Pd.mem{P:Program}:∀{l:List fA},Pd P l->∀e∈l,LOk P e
 |[],_,_,h=>by simp at h
 |d::r,h,e,a=>by
  rcases alr.1 a with rfl|a
  ·exact h.1
  ·exact Pd.mem h.2 e a
def BC{cx:Cx}(tok:TOk cx.T cx.P)(mix:cx.P.follows .mixedOrders=true)(j:EH cx.P cx.C)(hO:Ad cx.P cx.CO)(l:Ae cx.P cx.CX)(k:Pd cx.P cx.L)(f:FuncId)(c:Ctr)(m:(okF cx.P f).isSome=true)
 (b:(PV.chks [] c.ap&&(PV.chk [] c.rp&&(PV.pures c.ap&&c.rp.pure)))=true)(h:∀x,BB cx f c.ap c.rp x=c.fn x):cD cx.P f c:=by
 simp only[akY]at b;obtain⟨d,e,g,i⟩:=b;obtain⟨n,a⟩:=amb.1 m;exact VA ⟨tok,mix,j.mem,hO.mem,l.mem⟩ k.mem a d e g i h
def aks{P:Program}(f:FuncId)(c:Ctr)(e:(okF P f).isSome=true)(b:(PV.chks [] c.ap&&PV.chk [] c.rp)=true)(h:∀x,c.fn x=none):cD P f c:=by
 simp only[akY]at b;obtain⟨g,a⟩:=amb.1 e;exact⟨(eY a).2,b.1,b.2,λx y d=>by rw[h]at d;cases d⟩
def J0(P:Program)(fid key:Nat):Option (Func×Code×Code):=(P.funcs[fid]?).bind λa=>a.body.bind λc=>match cI key c with
 |[b]=>some (a,c,b)
 |_=>none
def NO(cx:Cx)(fid key i:Nat)(head:Pat)(exits:aZ)(rec:Tup head.tcs->Option (XS exits.tcs))(x:Tup head.tcs):Option (XS exits.tcs):=match J0 cx.P fid key with
 |some (a,_,b)=>TG cx fid a.ntmps i head exits b rec x
 |none=>none
def sn{cx:Cx}(tok:TOk cx.T cx.P)(mix:cx.P.follows .mixedOrders=true)(l:EH cx.P cx.C)(hO:Ad cx.P cx.CO)(o:Ae cx.P cx.CX)(m:Pd cx.P cx.L)(fid key i:Nat)(head:Pat)(exits:aZ)(L:Nat->Tup head.tcs->Option (XS exits.tcs))
 (p:(J0 cx.P fid key).isSome=true)(e:(qV i 0 head.objs&&exits.all λq=>qV i 0 q.2.objs&&rM head.objs q.2.objs)=true)(g:∀x,L 0 x=none)(d:∀n x,NO cx fid key i head exits (L n) x=L (n+1) x):
 ∀n,LOk cx.P ⟨fid,key,i,head,exits,L n⟩:=by
 obtain⟨⟨s,c,b⟩,a⟩:=amb.1 p;unfold NO at d;rw[a]at d;unfold J0 at a;obtain⟨f,h,a⟩:=am a;obtain⟨r,j,a⟩:=am a;split at a<;>cases a;rename_i k;exact VC ⟨tok,mix,l.mem,hO.mem,o.mem⟩ m.mem h j k e g d
end
end Go.Fw
namespace Go.Fw
open Go.RowKit
def cw(x:Bs):Option Bs:=app 1 [] x
def Pe:Ctr:=⟨[.hole (.sl .byte)],.hole (.sl .byte),λ(x:Bs)=>cw x⟩
def Zv{P:Program}{f:FuncId}(k:fI P f)(h:∀{cs:List D}{n:Nat}{d:Bool},cs.length=n*1->cs.all D.isCell=true->bo cs=true->n*1<=ba->cq P f [.list cs n d] (.list cs n (Nat.beq n 0))):cD P f Pe:=by
 refine⟨k,rfl,rfl,λ(x:Bs)(y:Bs) b=> ?_⟩;have b:cw x=some y:=b;unfold cw app at b;split at b<;>cases b;rename_i l;refine⟨.sl .byte x false,rfl,λS p=>by simp only[SV.can,VR];exact⟨false,rfl,id⟩,λg c m a=> ?_⟩;have:g=[.sl .byte x false]:=by
  have j:some ([SV.sl .byte x false],([]:List DV))=some (g,[]):=c;cases j;rfl
 subst this;simp only[VRs,VR]at a;obtain⟨e,o,rfl,⟨d,rfl,_⟩,rfl⟩:=a;have i:(TC.flat .byte x).length=x.length*1:=eK (TC.enc .byte) x;exact(h i (CE (TC.enc .byte) x) (TC.flat_pure .byte x) (by simp at l;omega)).weak (aB.listF (by intro h;cases h))
end Go.Fw
def alA:=@Go.IntWalk.i64_in
namespace Go.Fw
noncomputable section
open Go.RowKit
def Ml{P:Program}(w:World){t p ty e:TypeId}{i:TypeInfo}{z:Value}{k:IntKind}(D:P.underlying t=some (.slice e))(A:P.underlying p=some (.int k))(y:P.info? e=some i)(E:i.zero=some z){n:Nat}(l:0<n)(C:0<i.size)(B:n<=ba)(m:n*i.bytes<=ba)(f:Option Addr):
 (Builtin.append_ #[t,p] ty #[.slice f 0 0,.int .i64 n]).run P w=.ok (.slice (some ⟨w.heap.size,0,none⟩) n (grownCap w n 0 e)) (w.drew.alloc (.cells (Builtin.zeroCells z.cells n++Builtin.zeroCells z.cells (grownCap w n 0 e-n)) e)):=by
 unfold ba at B m;have q:IntKind.i64.wrap (n:Int)=n:=alA _ omq;have s:¬((n:Int)<0):=omq;have x:((n:Int)*(i.bytes:Int))<=1099511627776:=by have:=Int.ofNat_le.2 m;rwa[aoD]at this
 have u:¬((281474976710656:Int)<(n:Int)*(i.bytes:Int)):=omq;have g:n≠0:=omq;have v:n*i.size≠0:=Nat.ne_of_gt (ao4 l C);have d:∀j:World,(Builtin.firstCells i.size 0 (.slice f 0 0)).run P j=.ok #[] j:=by
  intro j;cases f with
  |none=>simp[Builtin.firstCells]
  |some a=>simp only[Builtin.firstCells,amZ];rfl
 have c:¬(9223372036854775807<(n:Int)):=omq;have b:¬(281474976710656<Builtin.nextslicecap n 0*i.bytes):=by rw[nextslicecap_zero l];omega
 simp[Builtin.append_,ald D,ald A,sizeOf,typeInfo,zeroValue,y,E,asInt,asIntOf,q,s,u,g,c,b,Question.forced,d,newRow,grownCap];intro h;exact absurd h v
def Xp{P:Program}{B:bE P}{G:Gh}{σ:Sto}{w:World}(m:Rel B G σ w){t D ty:TypeId}{sz by' n:Nat}{k:IntKind}(O:CG P t t=some (sz,by'))(q:P.underlying D=some (.int k))(F:0<n)(C:n<=ba)(J:n*by'<=ba)(A:Option Addr):
 ∃u E j,(Builtin.append_ #[t,D] ty #[.slice A 0 0,.int .i64 n]).run P w=.ok u E/\G.Le j/\Rel B j (σ++[.cells [] 0 0]) E/\Rep j (.sl σ.length 0 0 n sz false) u:=by
 obtain⟨e,i,y,z,Q,L,rfl,rfl,g,R,p,s,_⟩:=P1 O;have a:=Ml (P:=P) w (ty:=ty) Q q L R F g C J A;have f:=grownCap_ge w n 0 e;have d:=aoM w n 0 e (by unfold maxLen;unfold ba at C;omega);generalize grownCap w n 0 e=gc at a f d;generalize K:Builtin.zeroCells y.cells n++Builtin.zeroCells y.cells (gc-n)=c at a;obtain⟨H,I⟩:=m.drew.bindCells (l:=σ.length) (u:=0) (frz:=0) (cs:=[]) (σ':=σ++[.cells [] 0 0]) (hd:=[]) (tl:=c.toList) (c:=c) e siq (λx M=>by
  rcases alf x σ.length with h|h
  ·rw[ak8 h]
  ·rw[ale h,alg h];have:x-σ.length≠0:=omq;cases q:x-σ.length with
   |zero=>exact absurd q this
   |succ k=>simp) siq (by
    cases h:G.blk σ.length 0 with
    |none=>rfl
    |some b=>exact absurd (m.blk _ _ _ h).1 (ama _)) ⟨al2 _,λS b h=>absurd (m.blk _ _ _ h).1 (ama _)⟩ (al2 _) siq (by simp[af])
 refine⟨_,_,_,a,H,I,?_⟩;simp only[Rep];have v:y.cells.size=i.size:=by rw[<-s,(mY G p).length];simp
 refine .inl ⟨w.heap.size,gc,_,by simp[Gh.bind],rfl,f,by unfold maxLen at d;exact d,by simp,by simp[Gh.bind];rfl,?_⟩;rw[<-K,Array.size_append,size_zeroCells,size_zeroCells,v,alS,<-am3];exact al6 _ omq
section
variable {P:Program}{T:Tys}{N:Nat}{all:Array Oper}{o:Oper}{r:List Oper}{τ τ' :Env}{σ σ' :Sto}{Kt:Env→Sto→Prop}
def U6{t m:TypeId}{x y:Operand}{sz by' n:Nat}{k:IntKind}(l:o.op=.call {callee:=.builtin .append,args:= #[x,y],argTypes:= #[t,m]})(M:CG P t t=some (sz,by'))(K:P.underlying m=some (.int k))(R:ev τ x=some (.list [] 0 true))(S:ev τ y=some (.int .i64 n))(E:0<n)(L:n<=ba)(I:n*by'<=ba):
 AOp P N o τ σ (λd s=>d=.sl σ.length 0 0 n sz false/\s=σ++[.cells [] 0 0]):=by
 intro B G w a H j next Q i
 have c:=bg j R;have e:=bg j S;simp only[Rep]at c e;obtain⟨v,g,O,V,W,F,X⟩:=c;have J:g=0:=F trivial;subst J;obtain⟨u,p,q,b,A,C,D⟩:=Xp H (ty:=o.type) M K E L I v;have h:(execOp a.eval o).run P w=.ok (.value u) p:=by
  obtain⟨z,Y,ty,U,f,guard⟩:=o;simp only at l b;subst l;unfold execOp;simp only[resolve,alh,als,ak9,invoke,builtin,aon,alc,amj,O,e,b]
 unfold Oper.wp;rw[h];exact i u p q _ _ A C D ⟨rfl,rfl⟩
def VD{t e:TypeId}{x:Operand}{cs:List D}{n:Nat}(j:o.op=.call {callee:=.builtin .cap,args:= #[x],argTypes:= #[t]})(v:P.underlying t=some (.slice e))(z:ev τ x=some (.list cs n true)):
 AOp P N o τ σ (λd s=>d=.int .i64 n/\s=σ):=by
 intro B G w a p q next Q i
 have f:=bg q z;simp only[Rep]at f;obtain⟨k,b,y,C,E,m,F⟩:=f;have u:b=n:=m trivial;subst u;have c:(Builtin.cap_ #[t] o.type #[.slice k b b]).run P w=.ok (goInt b) w:=by
  simp[Builtin.cap_,ald v]
 have h:(execOp a.eval o).run P w=.ok (.value (goInt b)) w:=by
  obtain⟨l,H,I,A,g,guard⟩:=o;simp only at j c;subst j;unfold execOp;simp only[resolve,alh,als,ak9,invoke,builtin,aon,alc,amj,y,c]
 unfold Oper.wp;rw[h];exact i _ w G _ _ (.refl G) p (by simp only[Rep];rfl) ⟨rfl,rfl⟩
def acg{t e:TypeId}{x y:Operand}{l u n sz by':Nat}(K:o.op=.slice t x none (some y) none)(ht:P.underlying t=some (.slice e))(hs:wO P t=some (sz,by'))(hx:ev τ x=some (.sl l u 0 n sz false))(hy:ev τ y=some (.int .i64 0)):
 AOp P N o τ σ (λd s=>d=.sl l u 0 0 sz false/\s=σ):=by
 intro B G w a hR I next Q C
 have g:=bg I hx;have j:=bg I hy;obtain⟨e',i,L,J,rfl,_⟩:=FZ hs;simp only[Rep]at g j;have D:∃v,(Instr.sliceAt t (a.eval x) none (some (.int .i64 0)) none).run P w=.ok v w/\Rep G (.sl l u 0 0 i.size false) v:=by
  rcases g with⟨b,U,E,W,p,X,g4,g5,Y,Z⟩|⟨rfl,F,p⟩
  ·have q:oz n false none (some 0) none=some (0,0,false):=by simp[oz,bz]
   obtain⟨m,c,M,O,R,H,S⟩:=nF (P:=P) (w:=w) true q .none (.some .i64 0) .none X (λh=>by cases h);rw[p];refine⟨.slice (if m=0 then some ⟨b,0,none⟩ else some ⟨b,0,none⟩) 0 m,?_,?_⟩
   ·unfold Instr.sliceAt Instr.slice;simp[ald L,c,sizeOf,typeInfo,J,fP]
   ·simp only[Rep,ite_self];refine .inl ⟨b,m,E,W,rfl,al2 _,omq,λh=>(by cases h),Y,?_⟩;exact amo (Nat.add_le_add_left (al6 _ H) _) Z
  ·have q:oz 0 true none (some 0) none=some (0,0,true):=by simp[oz,bz]
   obtain⟨m,c,M,O,R,H,S⟩:=nF (P:=P) (w:=w) true q .none (.some .i64 0) .none (ak7 0) (λ_=>rfl);have A:m=0:=omq;subst A;rw[p];refine⟨.slice F 0 0,?_,by simp only[Rep];exact .inr ⟨trivial,F,rfl⟩⟩;unfold Instr.sliceAt Instr.slice;simp[ald L,c,sizeOf,typeInfo,J]
 obtain⟨v,c,f⟩:=D;have z:(execOp a.eval o).run P w=.ok (.value v) w:=by
  obtain⟨V,op,ty,e9,k,guard⟩:=o;simp only at K;subst K;unfold execOp;simp only[alh,als,ak9,Option.map_none,amA,j,c]
 unfold Oper.wp;rw[z];exact C _ w G _ _ (.refl G) hR f ⟨rfl,rfl⟩
end
def fH(n:Int):Option Bs:=bif decide (0<=n)&&decide (n<=ba) then some [] else none
def TH:lY:=⟨[.nils,.hole (.int .i64)],.byte,λ(n:Int)=>fH n⟩
def ach{P:Program}{f:FuncId}(k:fI P f)(h:∀{n:Nat},n<=ba->Ro P f [.list [] 0 true,.int .i64 n] [] 0 1):pL P f TH:=by
 refine⟨k,rfl,λ(x:Int)(y:Bs) a=> ?_⟩;have a:fH x=some y:=a;unfold fH at a;rcases aR a with⟨c,a⟩|⟨_,a⟩<;>try (cases a;done)
 cases a;simp only[akY,alL]at c;obtain⟨n,rfl⟩:=Int.eq_ofNat_of_zero_le c.1;intro g d l b;have:g=[.nils,.int .i64 n]:=by
  have j:some ([SV.nils,SV.int .i64 n],([]:List DV))=some (g,[]):=d;cases j;rfl
 subst this;simp only[VRs,VR]at b;obtain⟨e,p,rfl,rfl,m,i,rfl,rfl,rfl⟩:=b;exact h (by have:=c.2;omega)
def Jf{P:Program}{f:FuncId}{d:D}(g:fI P f)(i:D.lo 0 d=true)(k:d.pure=true)(h:cq P f [] d):cD P f ⟨[],.raw d,λ(_:Unit)=>some ()⟩:=by
 refine⟨g,rfl,i,λ(x:Unit)(y:Unit) _=>⟨.raw d,rfl,λS σ=>by simp only[SV.can,VR],λc b j a=> ?_⟩⟩;have:c=[]:=by
  have e:some (([]:List SV),([]:List DV))=some (c,[]):=b;cases e;rfl
 subst this;simp only[VRs]at a;subst a;exact h
end
end Go.Fw
namespace Go.Fw
open Go.RowKit
noncomputable def NN:Nat:=Classical.choose (⟨_,rfl⟩:∃n:Nat,n=1000000000000)
def aiZ:NN=1000000000000:=ame (⟨_,rfl⟩:∃n:Nat,n=1000000000000)
structure Bse where
 P:Program
 T:Tys
 H:Tr TC
 O:Tr OH
 tok:TOk T P
 mix:P.follows .mixedOrders=true
@[irreducible] noncomputable def Gi{α a:Type}(f:α->a):α->a:=Classical.choose (⟨f,rfl⟩:∃g,g=f)
def Gj{α a:Type}(f:α->a):Gi f=f:=by unfold Gi;exact ame (⟨f,rfl⟩:∃g,g=f)
@[irreducible] noncomputable def NP{α a:Type}(f:α->a):α->a:=Classical.choose (⟨f,rfl⟩:∃g,g=f)
def TI{α a:Type}(f:α->a):NP f=f:=by unfold NP;exact ame (⟨f,rfl⟩:∃g,g=f)
noncomputable def Ctr.sl(k:Ctr):Ctr:=⟨k.ap,k.rp,Gi k.fn⟩
def Ctr.sl_eq(k:Ctr):k.sl=k:=by unfold Ctr.sl;rw[Gj]
noncomputable def lY.sl(k:lY):lY:=⟨k.ap,k.t,Gi k.fn⟩
def lY.sl_eq(k:lY):k.sl=k:=by unfold lY.sl;rw[Gj]
noncomputable def qU.sl(k:qU):qU:=⟨k.ap,k.rps,Gi k.fn⟩
def qU.sl_eq(k:qU):k.sl=k:=by unfold qU.sl;rw[Gj]
noncomputable def fA.sl(k:fA):fA:=⟨k.fid,k.key,k.i,k.head,k.exits,NP k.fn⟩
def fA.sl_eq(k:fA):k.sl=k:=by unfold fA.sl;rw[TI]
abbrev KC(b:Bse):={k:FuncId×Ctr // cD b.P k.1 k.2}
abbrev KO(b:Bse):={k:FuncId×lY // pL b.P k.1 k.2}
abbrev KX(b:Bse):={k:FuncId×qU // xX b.P k.1 k.2}
abbrev KL(b:Bse):={e:fA // LOk b.P e}
structure Ctx(b:Bse) where
 C:List (KC b)
 O:List (KO b)
 X:List (KX b)
 L:List (KL b)
 J:Tr aZ
structure LD where
 fid:Nat
 key:Nat
 i:Nat
 head:Pat
 exits:aZ
def LD.chk(P:Program)(d:LD):Bool:=(J0 P d.fid d.key).isSome&&(qV d.i 0 d.head.objs&&d.exits.all λq=>qV d.i 0 q.2.objs&&rM d.head.objs q.2.objs)
noncomputable def LD.round(d:LD)(cx:Cx):=NO cx d.fid d.key d.i d.head d.exits
def Mm(P:Program)(f:FuncId)(ap:List PV)(rp:PV):Bool:=(okF P f).isSome&&(PV.chks [] ap&&(PV.chk [] rp&&(PV.pures ap&&rp.pure)))
def Xq(P:Program)(f:FuncId)(ap:List PV):Bool:=(okF P f).isSome&&(PV.chks [] ap&&PV.pures ap)
section
variable {b:Bse}
def Ctx.cx(c:Ctx b):Cx:=⟨b.P,b.T,b.H,b.O,c.C.map (·.1),c.O.map (·.1),c.X.map (·.1),c.L.map (·.1),c.J⟩
noncomputable def Ctx.cxs(c:Ctx b):Cx:=⟨b.P,b.T,b.H,b.O,c.C.map λk=>(k.1.1,k.1.2.sl),c.O.map λk=>(k.1.1,k.1.2.sl),c.X.map λk=>(k.1.1,k.1.2.sl),c.L.map λk=>k.1.sl,c.J⟩
def Ctx.cxs_eq(c:Ctx b):c.cxs=c.cx:=by simp only[Ctx.cxs,Ctx.cx,Ctr.sl_eq,lY.sl_eq,qU.sl_eq,fA.sl_eq]
def Rr{α:Type}{p:α->Prop}{l:List {x // p x}}{x:α}(h:x∈l.map (·.1)):p x:=by
 obtain⟨y,_,rfl⟩:=alW.1 h;exact y.2
def Ctx.ok(c:Ctx b):kU c.cx:=⟨b.tok,b.mix,λ_ _ h=>Rr (p:=λk:FuncId×Ctr=>cD b.P k.1 k.2) h,λ_ _ h=>Rr (p:=λk:FuncId×lY=>pL b.P k.1 k.2) h,λ_ _ h=>Rr (p:=λk:FuncId×qU=>xX b.P k.1 k.2) h⟩
def Ctx.lok(c:Ctx b):∀e∈c.cx.L,LOk b.P e:=λ_ h=>Rr (p:=λe=>LOk b.P e) h
noncomputable def fC(f:FuncId)(c:Ctx b)(ap:List PV)(rp:PV)(fn:Tup (PV.tcss ap)->Option (Tup rp.tcs))(a:Mm b.P f ap rp=true)(l:∀x,BB c.cx f ap rp x=fn x):KC b:=⟨(f,⟨ap,rp,fn⟩),by
 simp only[Mm,akY]at a;obtain⟨d,e,h,i,j⟩:=a;obtain⟨g,k⟩:=amb.1 d;exact VA c.ok c.lok k e h i j l⟩
structure AD(b:Bse) where
 f:FuncId
 c:Ctx b
 ap:List PV
 rp:PV
@[irreducible] noncomputable def AD.run(d:AD b)(x:Tup (PV.tcss d.ap)):Option (Tup d.rp.tcs):=BB d.c.cxs d.f d.ap d.rp x
def AD.run_eq(d:AD b)(x:Tup (PV.tcss d.ap)):d.run x=BB d.c.cxs d.f d.ap d.rp x:=by unfold AD.run;rfl
noncomputable def AD.k(d:AD b)(a:Mm b.P d.f d.ap d.rp=true):KC b:=fC d.f d.c d.ap d.rp d.run a λx=>by rw[d.run_eq,Ctx.cxs_eq]
noncomputable def fO(f:FuncId)(c:Ctx b)(ap:List PV)(t:TC)(fn:Tup (PV.tcss ap)->Option (List t.Den))(a:Xq b.P f ap=true)(e:∀x,JZ c.cx f ap t x=fn x):KO b:=⟨(f,⟨ap,t,fn⟩),by
 simp only[Xq,akY]at a;obtain⟨g,d⟩:=amb.1 a.1;exact acf c.ok c.lok d a.2.1 a.2.2 e⟩
noncomputable def fL(c:Ctx b)(d:LD)(fn:Nat->Tup d.head.tcs->Option (XS d.exits.tcs))(h:d.chk b.P=true)(l:∀x,fn 0 x=none)(g:∀n x,d.round c.cx (fn n) x=fn (n+1) x):KL b:=⟨⟨d.fid,d.key,d.i,d.head,d.exits,fn NN⟩,by
 simp only[LD.chk,akY]at h;obtain⟨⟨f,j,i⟩,a⟩:=amb.1 h.1;have e:J0 c.cx.P d.fid d.key=some (f,j,i):=a;unfold LD.round NO at g;rw[e]at g;unfold J0 at a;obtain⟨k,m,a⟩:=am a;obtain⟨q,o,a⟩:=am a;split at a<;>cases a;rename_i p;exact VC c.ok c.lok m o p (by simp only[akY];exact h.2) l g NN⟩
noncomputable def aL(c:Ctx b)(d:LD)(a:d.chk b.P=true):KL b:=fL c d (λn=>Nat.rec (λ_=>none) (λ_ L=>d.round c.cxs L) n) a (λ_=>rfl) λ_ _=>by rw[<-Ctx.cxs_eq]
noncomputable def fR(f:FuncId)(ap:List PV)(rp:PV)(fn:Nat->Tup (PV.tcss ap)->Option (Tup rp.tcs))(c:∀m,cD b.P f ⟨ap,rp,fn m⟩->Ctx b)(a:Mm b.P f ap rp=true)(e:∀x,fn 0 x=none)(g:∀m h x,BB (c m h).cx f ap rp x=fn (m+1) x)(m:Nat):KC b:=⟨(f,⟨ap,rp,fn m⟩),by
 induction m with
 |zero=>
  simp only[Mm,akY]at a;exact aks f _ a.1 (by simp only[akY];exact⟨a.2.1,a.2.2.1⟩) e
 |succ m d=>exact(fC f (c m d) ap rp (fn (m+1)) a (g m d)).2⟩
noncomputable def gC(f:FuncId)(c:Ctx b)(ap:List PV)(rp:PV)(fn:Tup (PV.tcss ap)->Option (Tup rp.tcs))(h:(Mm b.P f ap rp,BB c.cx f ap rp)=(true,fn)):KC b:=fC f c ap rp fn (alD Prod.fst h) λx=>anE (alD Prod.snd h) x
noncomputable def gO(f:FuncId)(c:Ctx b)(ap:List PV)(t:TC)(fn:Tup (PV.tcss ap)->Option (List t.Den))(h:(Xq b.P f ap,JZ c.cx f ap t)=(true,fn)):KO b:=fO f c ap t fn (alD Prod.fst h) λx=>anE (alD Prod.snd h) x
noncomputable def gL(c:Ctx b)(d:LD)(fn:Nat->Tup d.head.tcs->Option (XS d.exits.tcs))(h:(d.chk b.P,fn 0,λn=>d.round c.cx (fn n))=(true,λ_=>none,λn=>fn (n+1)):=by kernel_rfl):KL b:=fL c d fn (alD Prod.fst h) (λx=>anE (alD (λy=>y.2.1) h) x) λn x=>anE (anE (alD (λy=>y.2.2) h) n) x
end
end Go.Fw
namespace Go.Fw
structure Syb where
 f:∀{α β:Type},α->β->Prop
 t:Type->Type->Prop
 n:∀{α β:Type},Nat->α->β->Prop
def S0:Syb:=⟨λ_ _=>True,λ_ _=>True,λ_ _ _=>True⟩
def s_b{α c g d:Type}{x:Option α}{f:Option c}{k:α->Option g}{e:c->Option d}(t:S0.t α c)(_:S0.f x f)(co:c->α)(_:∀a,S0.f (k (co a)) (e a)):S0.f (x.bind k) (f.bind e):=trivial
def s_a{n:Nat}{α c g d:Type}{x:Option α}{f:Option c}{k:α->Option g}{e:c->Option d}(t:S0.t α c)(_:S0.f x f)(co:c->α)(_:∀a,S0.f (k (co a)) (e a)):S0.f (agree (List.replicate n x) k) (agree (List.replicate n f) e):=trivial
def s_c{α d:Type}{c g:Bool}{a b:α}{e f:d}(c0:S0.f c g)(_:S0.f a e)(_:S0.f b f):S0.f (cond c a b) (cond g e f):=trivial
def akt{α a:Type}:S0.f (none:Option α) (none:Option a):=trivial
def aku{a b c d:Int}(_:S0.f a c)(_:S0.f b d):S0.f (decide (a<b)) (decide (c<d)):=trivial
def akv{a b c d:Int}(_:S0.f a c)(_:S0.f b d):S0.f (decide (a<=b)) (decide (c<=d)):=trivial
def akw{a b c d:Int}(_:S0.f a c)(_:S0.f b d):S0.f (decide (a>b)) (decide (c>d)):=trivial
def akx{a b c d:Int}(_:S0.f a c)(_:S0.f b d):S0.f (decide (a>=b)) (decide (c>=d)):=trivial
def ai0{a b c d:Bool}(_:S0.f a c)(_:S0.f b d):S0.f (a&&b) (c&&d):=trivial
def s_s{α a γ:Type}{f:α->Option a}{x:α}{y:γ}(_:S0.f (f x) y):S0.f (Gi f x) y:=trivial
def s_l{α a γ:Type}{f:α->Option a}{x:α}{y:γ}(_:S0.f (f x) y):S0.f (NP f x) y:=trivial
def ahl{α a c γ:Type}{f:α->c}{x:α}{d:a}{z:γ}(t:S0.t α a)(co:(α->c)->a->c)(_:S0.f x d)(_:S0.f (co f d) z):S0.f (f x) z:=trivial
def acn{α d a c:Type}(_:S0.t α a)(_:S0.t d c):S0.t (α×d) (a×c):=trivial
def aco{α a:Type}(_:S0.t α a):S0.t (List α) (List a):=trivial
def acp{α d a c:Type}(_:S0.t α a)(_:S0.t d c):S0.t (α⊕d) (a⊕c):=trivial
def s_p{α g c d:Type}{a:α}{b:g}{e:c}{f:d}(_:S0.f a e)(_:S0.f b f):S0.f (a,b) (e,f):=trivial
def s_o{α a:Type}{x:α}{c:a}(_:S0.f x c):S0.f (some x) (some c):=trivial
def s_x{α d γ c:Type}(y:α⊕d){f:α⊕d->γ}{g:α->c}{h:d->c}(_:∀a,S0.f (f (.inl a)) (g a))(_:∀b,S0.f (f (.inr b)) (h b)):S0.f (f y) (match y with|.inl a=>g a|.inr b=>h b):=trivial
def s_r{α:Type}(a:α):S0.f a a:=trivial
def s_t(α:Type):S0.t α α:=trivial
def s_h{α a:Type}{L:α}{y:a}{N:Nat}(_:NN=N->S0.f L y):S0.n N L y:=trivial
theorem J2{α a:Type}(x:α×a):(x.1,x.2)=x:=rfl
theorem y_a(l m:List TC):l++m=l.append m:=rfl
theorem y_n(f:PO->List TC):List.flatMap f []=[]:=rfl
theorem y_c(f:PO->List TC)(x:PO)(l:List PO):List.flatMap f (x::l)=(f x).append (List.flatMap f l):=rfl
def ai1{α a:Type}{N:Nat}{L:α}{y:a}:S0.n N L y:=trivial
attribute [irreducible] S0
@[reducible] def syv{α d:Type}(N:Nat)(L:α){y:d}(_:S0.n N L y:=by
  refine(?f: ?A->?A) ?p
  (case p=>
   apply s_h;intro c
   repeat' (first
    |(intro y;apply s_x y)
    |((try intro _);(conv=>arg 2;whnf);first
     |(apply s_c;(case c0=>((repeat' first|apply akw|apply akx|apply aku|apply akv|apply ai0);all_goals (try ((conv=>arg 2;try dsimp only[bz,J2,TC.Den,Tup,XS,PV.tcss,PV.tcs,PO.tcs,Pat.tcs,List.map,y_a,y_n,y_c,List.append]);exact s_r _)))))
     |(apply s_s;(conv=>arg 2;whnf;try dsimp only[bz,J2,TC.Den,Tup,XS,PV.tcss,PV.tcs,PO.tcs,Pat.tcs,List.map,y_a,y_n,y_c,List.append]);(try rw[c]);exact s_r _)
     |(apply s_l;(conv=>arg 2;whnf;try dsimp only[bz,J2,TC.Den,Tup,XS,PV.tcss,PV.tcs,PO.tcs,Pat.tcs,List.map,y_a,y_n,y_c,List.append]);(try rw[c]);apply ahl;(case t=>(repeat' ((conv=>arg 2;whnf);first|apply acn|apply aco|apply acp|exact s_t _)));(case co=>exact λf=>f);(repeat' apply s_p);all_goals (try exact s_r _))
     |((first|apply s_b|apply s_a);(case t=>(repeat' ((conv=>arg 2;whnf);first|apply acn|apply aco|apply acp|exact s_t _)));(case co=>exact λa=>a))
     |(apply s_o;(conv=>arg 2;try dsimp only[bz,J2,TC.Den,Tup,XS,PV.tcss,PV.tcs,PO.tcs,Pat.tcs,List.map,y_a,y_n,y_c,List.append]);exact s_r _)
     |exact akt
     |((conv=>arg 2;try dsimp only[bz,J2,TC.Den,Tup,XS,PV.tcss,PV.tcs,PO.tcs,Pat.tcs,List.map,y_a,y_n,y_c,List.append]);apply ahl;(case t=>(repeat' ((conv=>arg 2;whnf);first|apply acn|apply aco|apply acp|exact s_t _)));(case co=>exact λf=>f);(repeat' apply s_p);all_goals (try exact s_r _))
     |((conv=>arg 2;try dsimp only[bz,J2,TC.Den,Tup,XS,PV.tcss,PV.tcs,PO.tcs,Pat.tcs,List.map,y_a,y_n,y_c,List.append]);exact s_r _))))
  (case f=>exact λ_=>ai1)):d:=y
structure ADO(b:Bse) where
 f:FuncId
 c:Ctx b
 ap:List PV
 t:TC
section
variable {b:Bse}
@[reducible] noncomputable def AD.go(d:AD b)(x:Tup (PV.tcss d.ap)):Option (Tup d.rp.tcs):=BB d.c.cxs d.f d.ap d.rp x
@[reducible] noncomputable def ADO.go(d:ADO b)(x:Tup (PV.tcss d.ap)):Option (List d.t.Den):=JZ d.c.cxs d.f d.ap d.t x
noncomputable def gA(d:AD b)(fn:Tup (PV.tcss d.ap)->Option (Tup d.rp.tcs))(h:(Mm b.P d.f d.ap d.rp,BB d.c.cx d.f d.ap d.rp)=(true,fn):=by kernel_rfl):KC b:=gC d.f d.c d.ap d.rp fn h
noncomputable def gAO(d:ADO b)(fn:Tup (PV.tcss d.ap)->Option (List d.t.Den))(h:(Xq b.P d.f d.ap,JZ d.c.cx d.f d.ap d.t)=(true,fn):=by kernel_rfl):KO b:=gO d.f d.c d.ap d.t fn h
end
end Go.Fw
