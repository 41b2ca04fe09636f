/- A framework for proofs about Go programs in this model: part F. Everything is proved; no condition is added. -/
import Derived.Test.YtlicgchfbhkelaaGreatDoorFwE
set_option linter.unusedVariables false
set_option linter.unusedSimpArgs false
set_option linter.defProp false
namespace Go.Fw
noncomputable section
open Go.RowKit
structure nT(cx:Cx):Prop where
 tok:TOk cx.T cx.P
 mix:cx.P.follows .mixedOrders=true
 ctr:∀f c,(f,c)∈cx.C->fG cx.P f c
 ctrO:∀f c,(f,c)∈cx.CO->rM cx.P f c
 ctrX:∀f c,(f,c)∈cx.CX->xh cx.P f c
section
variable {α:Type}{cx:Cx}{N:Nat}{o:Oper}{S:ae}{σ:Sto}{τ:ax}{τ' :Env}{K:SV→ae→Option α}{r:α}{call:oe α}
variable{Z:Op}{Y:Option OH}
def Nm(a:nT cx)(b:StR S σ)(c:ER S σ τ τ')(d:o.op=Z)(h:sR cx.T cx.H τ S Z (λv=>K v S)=some r):GOk cx.P N o S σ τ' K r:=by
 subst d;exact(Vi b c h).g a.tok b
def ack(g:nT cx)(z:ti cx.P call)(i:StR S σ)(q:ER S σ τ τ'){own:Option OH}(j:o.op=Z)(h:ZK cx own call τ S Z K=some r):GOk cx.P N o S σ τ' K r:=by
 cases Z<;>simp only[ZK]at h
 case alloc e=>exact(Oo g.tok i j h).g
 case box t x=>
  obtain⟨v,u,h⟩:=bD h;exact(TJ g.tok i q j u h).g
 case store t p x=>
  obtain⟨vp,P,h⟩:=bD h;obtain⟨vx,C,h⟩:=bD h;exact(Os g.tok i q j P C h).g
 case makeSlice t l c=>
  obtain⟨R,n,hn,h⟩:=BJ h;obtain⟨T,m,hm,h⟩:=BJ h;exact(Z7 g.tok i q j hn hm h).g
 case buildSlice t len ps=>
  split at h
  ·exact Rb g.tok i q j h
  ·exact Nm g i q j h
 case call c=>
  have D:∀{f:FuncId}{E:List SV},wh cx.T τ c=some (f,E)->(match lk cx.T.ext f with
   |some k=>Iq k E λv=>K v S
   |none=>U9 cx own f S E K (call f E S K))=some r->GOk cx.P N o S σ τ' K r:=by
   intro f E hc h;obtain⟨W,H,I⟩:=yG q hc;split at h
   ·rename_i k hk;obtain⟨v,d,R,T,k3⟩:=Km (N:=N) g.tok j H hk I h;refine(k3 σ).mono ?_;rintro d' s ⟨rfl,rfl⟩;exact⟨v,S,R,T,i,.refl _ _⟩
   unfold U9 at h;split at h
   ·exact Kj g.tok j H i I cx.CO g.ctrO h
   refine Nl g.tok j H i I (λh=>Kk g.tok j H i I (λh=> ?_) cx.CX g.ctrX h) cx.C g.ctr h;obtain⟨hf,O⟩:=z f E S K r h;exact qx g.tok j H (λ_ G _ _ hR u=>⟨G,.refl G,hR,u⟩) hf (O σ W i I)
  split at h
  ·rename_i b M;have U:sBi cx.T S τ b c.args.toList c.argTypes.toList (λv=>K v S)=some r->GOk cx.P N o S σ τ' K r:=by
    intro h;refine Nm g i q j ?_;obtain⟨V,Q,F⟩:=c;simp only at M;subst M;exact h
   split at h
   ·split at h<;>try (cases h;done)
    rename_i x y t tx L J;obtain⟨v,u,h⟩:=bD h;obtain⟨w,hw,h⟩:=bD h;refine(TM g.tok i q (a:=x) (b:=y) ?_ u hw h).g;obtain⟨V,Q,F⟩:=c;simp only at M L J;subst M;have X:Q= #[x,y]:=ajV (by simpa using L);have Y:F= #[t,tx]:=ajV (by simpa using J);rw[j,X,Y]
   ·exact U h
  ·obtain⟨p,hp,h⟩:=ak h;exact D hp h
 case makeMap t l=>
  cases l with
  |none=>exact WX g.tok i j h
  |some l=>exact Nm g i q j h
 case lookup t m k ok=>
  obtain⟨vm,B,h⟩:=bD h;split at h
  ·rename_i l hl _;have:=Oj hl;subst this;obtain⟨vk,A,h⟩:=bD h;exact WY g.tok i q j B A h
  ·cases h
  ·exact Nm g i q j h
 case mapUpdate t m k x=>
  obtain⟨vm,B,h⟩:=bD h;obtain⟨vk,A,h⟩:=bD h;obtain⟨vx,C,h⟩:=bD h;exact ZH g.tok i q j B A C h
 case range t x=>
  obtain⟨v,u,h⟩:=bD h;exact WZ g.tok i q j u h
 case next x b=>
  cases b with
  |true=>
   obtain⟨v,u,h⟩:=bD h;exact ZJ g.tok i q j u h
  |false=>exact Nm g i q j h
 all_goals exact Nm g i q j h
end
def lE{α:Type}(N:Nat)(dst:Option Tmp)(v:SV)(τ:ax)(K:ax->Option α):Option α:=match dst with
 |none=>K τ
 |some t=>match Nat.blt t N with
  |true=>Vj v λv=>K ((t,v)::τ)
  |false=>none
def AC(cx:Cx)(fid:Nat)(dst:Option Tmp):Option OH:=match dst with
 |some t=>lk cx.ow (Nat.add (Nat.mul fid 65536) t)
 |none=>none
def aeo:Operand->List Nat
 |.tmp t=>[t]
 |_=>[]
def afO:Op->List Nat
 |.slice _ x _ _ _=>aeo x
 |.buildSlice _ _ a=>a.toList.flatMap λp=>aeo p.2
 |_=>[]
def Kn{α:Type}:List Nat->ax->ae->(ax->ae->Option α)->Option α
 |[],τ,S,K=>K τ S
 |t::a,τ,S,K=>match nj τ t with
  |some (.own l g)=>(nU S (.own l g)).bind λw=>Kn a ((t,w.1)::τ) w.2 K
  |some (.agg b)=>(nU S (.agg b)).bind λw=>Kn a ((t,w.1)::τ) w.2 K
  |_=>Kn a τ S K
def qy(P:Program)(N:Nat)(τ:Env)(σ:Sto)(d:Env)(c:Sto):Prop:=∀(B:dN P)(G:Gh)(w:World)(a:Act),Rel B G σ w->gw G N τ a->∃b,G.Le b/\Rel B b c w/\gw b N d a
def qy.refl{P:Program}(N:Nat)(τ:Env)(σ:Sto):qy P N τ σ τ σ:=λ_ G _ _ a b=>⟨G,.refl G,a,b⟩
def qy.trans{P:Program}{N:Nat}{τ c d:Env}{σ b σ2:Sto}(h:qy P N τ σ c b)(k:qy P N c b d σ2):qy P N τ σ d σ2:=λB G w a j l=>by
 obtain⟨e,m,g,p⟩:=h B G w a j l;obtain⟨f,n,i,q⟩:=k B e w a g p;exact⟨f,m.trans n,i,q⟩
def qy.slot{P:Program}{N:Nat}{τ:Env}{σ b:Sto}{t:Nat}{d g:D}(h:Gho P σ b d g)(n:get τ t=some d):qy P N τ σ ((t,g)::τ) b:=λB G w a m c=>by
 obtain⟨j,i,k,p⟩:=h B G w _ m (c.slot t d n);refine⟨j,i,k,c.size,c.defers,λq l f=> ?_⟩;simp only[get]at f;split at f
 ·rename_i e;subst e;cases f;exact p
 ·exact Rep.mono i _ _ (c.slot q l f)
def AOp.pre{P:Program}{N:Nat}{o:Oper}{τ c:Env}{σ b:Sto}{K:D->Sto->Prop}(j:qy P N τ σ c b)(h:AOp P N o c b K):AOp P N o τ σ K:=by
 intro B G w a g i next Q k
 obtain⟨e,l,f,m⟩:=j B G w a g i;exact h B e w a f m next Q λv w' G' d σ' h1 h2 h3 h4=>k v w' G' d σ' (l.trans h1) h2 h3 h4
def Ds{α:Type}{P:Program}{N:Nat}{r:α}{K:ax->ae->Option α}:∀(l:List Nat){τ:ax}{τ':Env}{S:ae}{σ:Sto},StR S σ->ER S σ τ τ'->Kn l τ S K=some r->
 ∃c a e b,qy P N τ' σ a b/\StR e b/\ER e b c a/\bC S σ e b/\K c e=some r
 |[],τ,τ',S,σ,hS,hE,h=>⟨τ,τ',S,σ,.refl _ _ _,hS,hE,.refl _ _,h⟩
 |t::A,τ,τ',S,σ,hS,hE,h=>by
  simp only[Kn]at h;split at h
  ·rename_i l g p;obtain⟨w,s,h⟩:=ak h;obtain⟨d,n,q⟩:=hE t _ p;obtain⟨B,b,j,k,i,m⟩:=Dz _ (v':=w.1) (S':=w.2) s hS q;obtain⟨c,a,e,f,u,v,x,y,z⟩:=Ds A k ((hE.pres i).push j (t:=t)) h;exact⟨c,a,e,f,(qy.slot m n).trans u,v,x,i.trans y,z⟩
  ·rename_i C p;obtain⟨w,s,h⟩:=ak h;obtain⟨d,n,q⟩:=hE t _ p;obtain⟨B,b,j,k,i,m⟩:=Dz _ (v':=w.1) (S':=w.2) s hS q;obtain⟨c,a,e,f,u,v,x,y,z⟩:=Ds A k ((hE.pres i).push j (t:=t)) h;exact⟨c,a,e,f,(qy.slot m n).trans u,v,x,i.trans y,z⟩
  ·exact Ds A hS hE h
def ZL(h:Option OH)(a:Op)(τ:ax):Option (Nat×TC):=match h with
 |some (.val b)=>match a with
  |.call c=>match c.callee with
   |.builtin .append=>match c.args.toList with
    |x::_=>match x with
     |.tmp t=>match nj τ t with
      |some .nils=>some (t,b)
      |_=>none
     |_=>none
    |[]=>none
   |_=>none
  |_=>none
 |_=>none
variable{Z:Op}{Y:Option OH}
def acl{τ:ax}{q:Nat×TC}(a:ZL Y Z τ=some q):nj τ q.1=some .nils:=by
 unfold ZL at a
 repeat' (split at a<;>try (cases a;done))
 cases a;assumption
def Va{α:Type}(h:Option OH)(a:Op)(τ:ax)(S:ae)(K:ax->ae->Option α):Option α:=match ZL h a τ with
 |some q=>K ((q.1,.own S.length 0)::τ) (S++[.arr q.2 [] false 0])
 |none=>K τ S
def ZM{α:Type}{P:Program}{N:Nat}{r:α}{K:ax->ae->Option α}{τ:ax}{τ':Env}{S:ae}{σ:Sto}(g:StR S σ)(f:ER S σ τ τ')(h:Va Y Z τ S K=some r):
 ∃c b e a,qy P N τ' σ b a/\StR e a/\ER e a c b/\bC S σ e a/\K c e=some r:=by
 unfold Va at h;split at h
 ·rename_i q m;obtain⟨d,l,i⟩:=f _ _ (acl m);simp only[VR]at i;subst i;obtain⟨p,j,s⟩:=IC g q.2;exact⟨_,_,_,_,qy.slot (λB G w x k n=>⟨G,.refl G,k.newObj,Dj n⟩) l,p,(f.pres j).push s,j,h⟩
 ·exact⟨τ,τ',S,σ,.refl _ _ _,g,f,.refl _ _,h⟩
def Ir{α:Type}(cx:Cx)(fid N:Nat)(call:oe α)(o:Oper)(τ:ax)(S:ae)(K:ax->ae->Option α):Option α:=
 Kn (afO o.op) τ S λa c=>Va (AC cx fid o.dst) o.op a c λa c=>ZK cx (AC cx fid o.dst) call a c o.op λv b=>ZG (AC cx fid o.dst) v b λv b=>lE N o.dst v τ λτ'=>K τ' b
noncomputable def Vb{α:Type}(cx:Cx)(fid N:Nat)(call:oe α)(all:Array Oper)(o:Oper)(a:ax->ae->(ax->ae->Option α)->Option α)(τ:ax)(S:ae)(K:ax->ae->Option α):Option α:=match o.guard with
 |none=>Ir cx fid N call o τ S λτ' c=>a τ' c K
 |some (j,want)=>match (all[j]?).bind (·.dst) with
  |none=>none
  |some t=>match nj τ t with
   |some (.bool b)=>match want with
    |true=>cond b (Ir cx fid N call o ((t,.bool true)::τ) S λτ' c=>a τ' c K) (lE N o.dst (.tup []) ((t,.bool false)::τ) λτ'=>a τ' S K)
    |false=>cond b (lE N o.dst (.tup []) ((t,.bool true)::τ) λτ'=>a τ' S K) (Ir cx fid N call o ((t,.bool false)::τ) S λτ' c=>a τ' c K)
   |some (.tup _)=>lE N o.dst (.tup []) τ λτ'=>a τ' S K
   |_=>none
noncomputable def EU{α:Type}(cx:Cx)(fid N:Nat)(call:oe α)(all:Array Oper)(l:List Oper):ax->ae->(ax->ae->Option α)->Option α:=List.rec (λτ S K=>K τ S) (λo _ a=>Vb cx fid N call all o a) l
def Xa{α:Type}{cx:Cx}{fid N:Nat}{call:oe α}{all:Array Oper}{o:Oper}{r:List Oper}:EU cx fid N call all (o::r)=Vb cx fid N call all o (EU cx fid N call all r):=rfl
def og{α:Type}(S0:ae)(b:Sto)(K:ax->ae->Option α)(r:α):Env->Sto->Prop:=λτ' a=>∃τ S,ER S a τ τ'/\StR S a/\bC S0 b S a/\K τ S=some r
def og.trans{α:Type}{S0 c:ae}{a b:Sto}{K:ax->ae->Option α}{r:α}(h:bC S0 a c b){τ':Env}{σ':Sto}(x:og c b K r τ' σ'):og S0 a K r τ' σ':=by
 obtain⟨τ,S,d,e,f,g⟩:=x;exact⟨τ,S,d,e,h.trans f,g⟩
def ER.setB{S:ae}{σ:Sto}{τ:ax}{τ':Env}{t:Nat}{b:Bool}(d:ER S σ τ τ')(h:get τ' t=some (.bool b)):ER S σ ((t,.bool b)::τ) τ':=by
 intro c v a;rw[th]at a;by_cases e:t=c
 ·rw[ah2 e]at a;subst e;cases a;exact⟨_,h,by simp only[VR]⟩
 ·rw[air e]at a;exact d c v a
section
variable {α:Type}{cx:Cx}{fid N:Nat}{call:oe α}{r:α}
def np{S:ae}{σ:Sto}{τ:ax}{τ':Env}{dst:Option Tmp}{v:SV}{d:D}{K:ax->Option α}(e:ER S σ τ τ')(f:VR S σ v d)(h:lE N dst v τ K=some r):∃a b,iq N dst d τ'=some a/\ER S σ b a/\K b=some r:=by
 unfold lE at h;split at h
 ·exact⟨τ',τ,rfl,e,h⟩
 ·split at h<;>try (cases h;done)
  rename_i t _ c;rw[TH]at h;have c:t<N:=ahV c;exact⟨(t,d)::τ',(t,v)::τ,by simp only[iq,ah2 c],e.push f,h⟩
def ZN(j:nT cx)(b:ti cx.P call){o:Oper}{S:ae}{σ:Sto}{τ:ax}{τ':Env}{K:ax->ae->Option α}(C:StR S σ)(m:ER S σ τ τ')(h:Ir cx fid N call o τ S K=some r){l:Env->Sto->Prop}(E:∀a e,og S σ K r a e->l a e):
 AOp cx.P N o τ' σ λd c=>∃a,iq N o.dst d τ'=some a/\l a c:=by
 unfold Ir at h;obtain⟨L,n,S0,I,s,t,u,w,h⟩:=Ds (P:=cx.P) (N:=N) _ C m h;obtain⟨M,p,O,J,g,x,y,i,h⟩:=ZM (P:=cx.P) (N:=N) t u h;have g:=s.trans g;have i:=w.trans i;have D:=AOp.pre g (acj (ack (N:=N) j b x y rfl h));refine D.mono ?_;rintro d c ⟨v,q,z,A,B,f⟩;have f:=i.trans f;obtain⟨a,k,F,G,H⟩:=np (m.pres f) A z;exact⟨a,F,E _ _ ⟨k,q,G,B,f,H⟩⟩
def Dt(m:nT cx)(a:ti cx.P call){all:Array Oper}{K:ax->ae->Option α}:∀(l:List Oper)(S:ae)(σ:Sto)(τ:ax)(τ':Env),StR S σ->ER S σ τ τ'->EU cx fid N call all l τ S K=some r->iN cx.P N all l τ' σ (og S σ K r)
 |[],S,σ,τ,τ',hS,c,h=>⟨τ,S,c,hS,.refl _ _,h⟩
 |o::l,S,σ,τ,τ',hS,c,h=>by
  have e:∀{τ:ax},ER S σ τ τ'->df all τ' o=some true->(Ir cx fid N call o τ S λτ' w=>EU cx fid N call all l τ' w K)=some r->iN cx.P N all (o::l) τ' σ (og S σ K r):=by
   intro τ c i h;refine .inl ⟨i,ZN m a hS c h ?_⟩;rintro g u ⟨p,y,z,A,C,B⟩;exact iN.monoK (λ_ _ x=>x.trans C) _ _ _ (Dt m a l y u p g A z B)
  have skip:∀{τ:ax},ER S σ τ τ'->df all τ' o=some false->(lE N o.dst (.tup []) τ λτ'=>EU cx fid N call all l τ' S K)=some r->iN cx.P N all (o::l) τ' σ (og S σ K r):=by
   intro τ c i h;obtain⟨g,p,D,E,F⟩:=np (d:=.tuple []) c (by simp only[VR,VRs];exact⟨[],rfl,rfl⟩) h;exact .inr ⟨i,g,D,Dt m a l S σ p g hS E F⟩
  simp only[Xa,Vb]at h;split at h
  ·rename_i q;exact e c (by unfold df;rw[q]) h
  ·rename_i j k q;split at h<;>try (cases h;done)
   rename_i t v;split at h<;>try (cases h;done)
   ·rename_i b s;obtain⟨d,n,f⟩:=c t _ s;simp only[VR]at f;subst f;have i:df all τ' o=some (b==k):=by unfold df;rw[q];simp only[v,n]
    cases k
    ·rcases bU h with⟨rfl,h⟩|⟨rfl,h⟩
     ·exact skip (c.setB n) i h
     ·exact e (c.setB n) i h
    ·rcases bU h with⟨rfl,h⟩|⟨rfl,h⟩
     ·exact e (c.setB n) i h
     ·exact skip (c.setB n) i h
   ·rename_i H s;obtain⟨d,n,f⟩:=c t _ s;simp only[VR]at f;obtain⟨G,rfl,_⟩:=f;exact skip c (by unfold df;rw[q];simp only[v,n]) h
end
end
end Go.Fw
def ak3:=@List.any_eq_true
namespace Go.Fw
noncomputable section
open Go.RowKit
def Fa(x:Nat)(l:List Nat):Bool:=l.any (Nat.beq x)
def Z8{x:Nat}{l:List Nat}:Fa x l=true↔x∈l:=by
 unfold Fa;rw[ak3];constructor
 ·rintro⟨y,a,h⟩;rw[dd h];exact a
 ·intro h;exact⟨x,h,akF x⟩
def yM{x:Nat}{l:List Nat}:Fa x l=false↔x ∉ l:=by
 rw[<-Z8];simp
def Fb(a b:List Nat):Bool:=a.all λx=> !Fa x b
def Ry{a b:List Nat}(h:Fb a b=true):∀x∈a,x ∉ b:=by
 intro x c;have:=aie.1 h x c;simp only[ajs]at this;exact yM.1 this
def Fc:Nat->Nat->Bool
 |m,0=>Nat.beq (Nat.mod m 2) 1
 |m,i+1=>Fc (Nat.div m 2) i
def zc:∀(i m:Nat),Fc m i=Nat.testBit m i
 |0,m=>by
  rw[Nat.testBit_zero,Bool.eq_iff_iff,aiu];exact⟨ai5,λh=>by show Nat.beq (m % 2) 1=true;rw[h];rfl⟩
 |i+1,m=>by
  rw[Nat.testBit_succ,<-zc i];rfl
def uI(A:Res)(m:Nat)(a:List Nat):Bool:=A.all λx=>Fc m x.1|| !Fa x.2.1 a
def xj{m:Nat}:∀{A:Res}{ls:List Nat},ls∈jg A m->∀l∈ls,∃x∈A,x.2.1=l/\Nat.testBit m x.1=false
 |[],ls,h,l,b=>by simp[jg]at h;subst h;simp at b
 |(j,a,i)::A,ls,h,l,b=>by
  simp only[jg]at h;split at h
  ·obtain⟨x,d,c⟩:=xj h l b;exact⟨x,ah4 _ d,c⟩
  ·rename_i f;rcases aiv.1 h with h|h
   ·obtain⟨x,d,c⟩:=xj h l b;exact⟨x,ah4 _ d,c⟩
   ·obtain⟨g,c,rfl⟩:=aiG.1 h;rcases aib.1 b with rfl|b
    ·exact⟨_,aio ..,rfl,f⟩
    ·obtain⟨x,d,e⟩:=xj c l b;exact⟨x,ah4 _ d,e⟩
def Fd{A:Res}{m:Nat}{a ls:List Nat}(h:uI A m a=true)(d:ls∈jg A m):∀l∈a,l ∉ ls:=by
 intro l c e;obtain⟨x,f,rfl,b⟩:=xj d l e;have:=aie.1 h x f;simp only[zc,b,Bool.false_or,ajs]at this;exact yM.1 this c
def Ox{m:Nat}{s:Sto}:∀{S:List Sto}{C:List Nat},s∈oV m S C->∃k:Nat,S[k]?=some s/\∀(b c:Nat),k<=b->C[b]?=some c->Nat.testBit m c=false
 |[],_,h=>by simp[oV]at h
 |a::S,C,h=>by
  have d:s∈oV m S C.tail->∃k:Nat,(a::S)[k]?=some s/\∀(b c:Nat),k<=b->C[b]?=some c->Nat.testBit m c=false:=by
   intro h;obtain⟨k,g,i⟩:=Ox h;refine⟨k+1,by simpa using g,λb c f e=> ?_⟩
   match b,f with
   |b+1,f=>exact i b c (by omega) (by rw[List.getElem?_tail];exact e)
  simp only[oV]at h;split at h
  ·rename_i j;rcases aib.1 h with rfl|h
   ·refine⟨0,rfl,λb c _ e=> ?_⟩;have:=aie.1 j c (aik e);simpa using this
   ·exact d h
  ·exact d h
def kg.mk{α:Type}{f:α->Prop}:∀{l:List α},(∀x∈l,f x)->kg f l
 |[],_=>trivial
 |x::l,h=>⟨h x (aio ..),kg.mk λy a=>h y (ah4 _ a)⟩
def HI{ls:List Nat}{σ:Sto}{l:Nat}(h:l ∉ ls):(fg ls σ)[l]?=σ[l]? :=by
 rw[lA,air (λx=>h x.1)]
variable{Z:Upd}
def Z9{ls c:List Nat}{σ:Sto}(d:Z.inFp c)(h:∀l∈c,l ∉ ls)(f:∀l∈ls,l<σ.length):Z.ap (fg ls σ)=fg ls (Z.ap σ):=by
 cases Z with
 |same=>rfl
 |set l g=>
  simp only[Upd.inFp]at d;simp only[Upd.ap];refine ajh λx=> ?_;rw[lA,ajT,pV,lA,ajH,ajT];by_cases e:l=x
  ·subst e;have:¬(l∈ls/\l<σ.length):=λy=>h l d y.1;simp[this]
  ·simp[e]
 |push g=>
  simp only[Upd.ap];refine ajh λx=> ?_;rw[lA,ahN,ajg];rcases ah0 x σ.length with a|a
  ·rw[ahT (by rw[pV];exact a),lA,ahT a];by_cases b:x∈ls
   ·rw[ah2 ⟨b,a⟩,ah2 ⟨b,by omega⟩]
   ·rw[air (λy=>b y.1),air (λy=>b y.1)]
  ·rw[ahZ (by rw[pV];exact a),pV,air (λy=>by have:=f x y.1;omega),ahZ a]
def Rz{b:List Nat}{σ:Sto}(c:Z.inFp b){l:Nat}(h:l ∉ b)(f:l≠σ.length):(Z.ap σ)[l]?=σ[l]? :=by
 cases Z with
 |same=>rfl
 |set k d=>
  simp only[Upd.inFp]at c;simp only[Upd.ap];rw[ajT,air (λe=>h (by rw[<-e];exact c))]
 |push d=>
  simp only[Upd.ap];rcases ah0 l σ.length with a|a
  ·rw[ahT a]
  ·rw[ah3 a,ah3 (by simp;omega)]
def acw{σ:Sto}(a:Upd):σ.length<=(a.ap σ).length:=by
 cases a<;>simp[Upd.ap]
def sx(ops:Array Oper)(o:Oper)(τ:ax):ax:=τ.filter λp=>(o.looksAt ops).contains p.1
def wx{p:Nat->Bool}:∀{τ:ax}{t:Nat}{v:SV},nj (τ.filter λq=>p q.1) t=some v->p t=true/\nj τ t=some v
 |[],_,_,h=>by simp[nj]at h
 |(i,x)::r,t,v,h=>by
  rw[ak2]at h;split at h
  ·rename_i a;rw[th]at h⊢;split at h
   ·rename_i e;subst e;rw[ah2 rfl];exact⟨a,h⟩
   ·rename_i e;rw[air e];exact wx h
  ·rename_i a;obtain⟨b,c⟩:=wx h;rw[th,air (λe=>a (by rw[show i=t from e];exact b))];exact⟨b,c⟩
def Cl{p:Nat->Bool}:∀{τ:Env}{t:Nat}{d:D},p t=true->get τ t=some d->get (τ.filter λq=>p q.1) t=some d
 |[],_,_,_,h=>by simp[get]at h
 |(i,x)::r,t,d,a,h=>by
  rw[ak2];simp only[get]at h;split at h
  ·rename_i e;split
   ·simp only[get,ah2 e];exact h
   ·rename_i c;exact absurd (by rw[show i=t from e];exact a) c
  ·rename_i e;have b:=Cl a h;split
   ·simp only[get,air e];exact b
   ·exact b
def ER.rst{S:ae}{σ:Sto}{τ:ax}{τ':Env}(h:ER S σ τ τ')(ops:Array Oper)(o:Oper):ER S σ (sx ops o τ) (rst ops o τ'):=by
 intro t v f;obtain⟨a,b⟩:=wx (p:=λt=>(o.looksAt ops).contains t) f;obtain⟨d,c,e⟩:=h t v b;exact⟨d,Cl (p:=λt=>(o.looksAt ops).contains t) a c,e⟩
end
end Go.Fw
def aiN:=@List.mem_singleton
namespace Go.Fw
noncomputable section
open Go.RowKit
abbrev DCh:=List (Nat×List Nat)
structure DI(P:Program)(N:Nat)(A:Res)(M:List Nat)(i:Nat)(σ:Sto)(Ss:List Sto)(tab:List Rc)(done rest:Res)(Rd Ch:DCh):Prop where
 last:Ss.getLast?=some σ
 len:Ss.length=Ch.length+1
 old:∀(k:Nat) s,Ss[k]?=some s->∀l,(∀(m:Nat) c,Ch[m]?=some c->k<=m->l ∉ c.2)->s[l]?=σ[l]?
 ini:∀x∈A,(∀c∈Ch,x.2.1 ∉ c.2)->σ[x.2.1]?=some (.cells x.2.2 0 0)
 alt:∀x∈A,x.2.1<σ.length
 rd:∀(j:Nat) rc,tab[j]?=some rc->rc.kd=.read->(∀c∈Ch,Nat.testBit (M.getD c.1 0) j=false)->
  ∃fp,(j,fp)∈Rd/\(∀s:Sto,(∀l∈fp,s[l]?=σ[l]?)->AOp P N rc.o rc.env s λd' s'=>d'=rc.v/\s'=s)/\uI A (M.getD j 0) fp=true
 all:A=done++rest
 dn:∀x∈done,x.1<i/\∃r,tab[x.1]?=some r/\r.kd=.alloc x.2.1 x.2.2
 tl:tab.length=i
section
variable {P:Program}{N i:Nat}{A:Res}{M:List Nat}{σ:Sto}{Ss:List Sto}{tab:List Rc}{done rest:Res}{Rd Ch:DCh}{o:Oper}{env:Env}{d:D}
def Fe{rc:Rc}{x:Rc}{j:Nat}(h:(tab++[rc])[j]?=some x):tab[j]?=some x∨(j=tab.length/\x=rc):=by
 rcases mI h with h|h
 ·exact .inl h.2
 ·exact .inr h
def DI.dn'(h:DI P N A M i σ Ss tab done rest Rd Ch)(rc:Rc):∀x∈done,x.1<i+1/\∃r,(tab++[rc])[x.1]?=some r/\r.kd=.alloc x.2.1 x.2.2:=by
 intro x c;obtain⟨e,r,a,b⟩:=h.dn x c;exact⟨by omega,r,ju a,b⟩
def DI.skip(h:DI P N A M i σ Ss tab done rest Rd Ch):DI P N A M (i+1) σ Ss (tab++[⟨o,env,d,.skip⟩]) done rest Rd Ch where
 last:=h.last
 len:=h.len
 old:=h.old
 ini:=h.ini
 alt:=h.alt
 rd:=λj e a b c=>by
  rcases Fe a with a|⟨_,rfl⟩
  ·exact h.rd j e a b c
  ·cases b
 all:=h.all
 dn:=h.dn' _
 tl:=by simp[h.tl]
def DI.alloc{l:Nat}{cs:List D}(h:DI P N A M i σ Ss tab done ((i,l,cs)::rest) Rd Ch):DI P N A M (i+1) σ Ss (tab++[⟨o,env,d,.alloc l cs⟩]) (done++[(i,l,cs)]) rest Rd Ch where
 last:=h.last
 len:=h.len
 old:=h.old
 ini:=h.ini
 alt:=h.alt
 rd:=λj f b c e=>by
  rcases Fe b with b|⟨_,rfl⟩
  ·exact h.rd j f b c e
  ·cases c
 all:=by rw[h.all];simp
 dn:=λx a=>by
  rcases aiv.1 a with a|a
  ·exact h.dn' _ x a
  ·simp at a;subst a;exact⟨by simp,⟨o,env,d,.alloc l cs⟩,by rw[ahZ (by simp[h.tl])];simp[h.tl],rfl⟩
 tl:=by simp[h.tl]
def DI.res{l:Nat}{cs:List D}(h:DI P N A M i σ Ss tab done ((i,l,cs)::rest) Rd Ch):tB A i=some (l,cs):=by
 unfold tB;have:A.find? (λx=>x.1==i)=some (i,l,cs):=by
  rw[h.all,List.find?_append];have:done.find? (λx=>x.1==i)=none:=by
   rw[List.find?_eq_none];intro x a;have:=(h.dn x a).1;simp;omega
  rw[this];simp
 rw[this]
variable{Z:List Nat}{Y:Upd}
def DI.read(h:DI P N A M i σ Ss tab done rest Rd Ch)(c:∀s:Sto,(∀l∈Z,s[l]?=σ[l]?)->AOp P N o env s λf r=>f=d/\r=s)(n:uI A (M.getD i 0) Z=true):
 DI P N A M (i+1) σ Ss (tab++[⟨o,env,d,.read⟩]) done rest (Rd++[(i,Z)]) Ch where
 last:=h.last
 len:=h.len
 old:=h.old
 ini:=h.ini
 alt:=h.alt
 rd:=λj q a p m=>by
  rcases Fe a with a|⟨b,rfl⟩
  ·obtain⟨Z,g,k⟩:=h.rd j q a p m;exact⟨Z,ajx _ g,k⟩
  ·have e:=b.trans h.tl;subst e;exact⟨Z,by simp,c,n⟩
 all:=h.all
 dn:=h.dn' _
 tl:=by simp[h.tl]
def DI.reads(h:DI P N A M i σ Ss tab done rest Rd Ch)(g:∀s:Sto,(∀l∈Z,s[l]?=σ[l]?)->AOp P N o env s λb n=>b=d/\n=s)(v:uI A (M.getD i 0) Z=true)
 (u:(Ch.all λc=>Fc (M.getD i 0) c.1||Fb Z c.2)=true):
 kg (λs=>AOp P N o env s λb n=>b=d/\n=s) ((oV (M.getD i 0) Ss (Ch.map (·.1))).flatMap λσ=>(jg A (M.getD i 0)).map (fg · σ)):=by
 refine kg.mk λs j=> ?_;obtain⟨y,r,j⟩:=akE.1 j;obtain⟨z,f,rfl⟩:=aiG.1 j;obtain⟨k,w,x⟩:=Ox r;refine g _ λl q=> ?_;rw[HI (Fd v f l q)];refine h.old k y w l λm c a e=> ?_;have p:=aie.1 u c (aik a);have t:=x m c.1 e (by simp[a]);rw[zc,t,Bool.false_or]at p;exact Ry p l q
def Vr(m:Nat)(Ch:DCh):Bool:=match Ch.getLast? with
 |none=>true
 |some q=>Fc m q.1
def RA(m:Nat)(Ch:DCh):Vr m Ch=DS m (Ch.map (·.1)):=by
 unfold Vr DS;rw[List.getLast?_map];cases Ch.getLast? with
 |none=>rfl
 |some q=>exact zc q.1 m
def ID(A:Res)(m:Nat)(a:List Nat)(n:Nat)(Rd Ch:DCh):Bool:=
 Vr m Ch&&(uI A m a&&((Rd.all λq=>Fc m q.1||Fb q.2 (a++[n]))&&A.all λx=>Fc m x.1||(!Fa x.2.1 a&&Ch.all λc=> !Fa x.2.1 c.2)))
def DI.agree(b:Y.inFp Z){l:Nat}(a:l ∉ Z++[σ.length]):(Y.ap σ)[l]?=σ[l]? :=by
 simp only[aiv,aiN,not_or]at a;exact Rz b a.1 a.2
def DI.chain(h:DI P N A M i σ Ss tab done rest Rd Ch)(r:Y.inFp Z)(a:ID A (M.getD i 0) Z σ.length Rd Ch=true)(k:Nat):
 DI P N A M (i+1) (Y.ap σ) (Ss++[Y.ap σ]) (tab++[⟨o,env,d,.chain k⟩]) done rest Rd (Ch++[(i,Z++[σ.length])]):=by
 unfold ID at a;rw[RA]at a;simp only[zc,ahJ,aie,ajm]at a;obtain⟨_,_,z,_⟩:=a;refine⟨by simp,by simp[h.len],?_,?_,?_,?_,h.all,h.dn' _,by simp[h.tl]⟩
 ·intro k s f l b;rcases mI f with⟨n,f⟩|⟨n,rfl⟩
  ·rw[DI.agree r]
   ·exact h.old k s f l λm c B u=>b m c (ju B) u
   ·exact b Ch.length (i,Z++[σ.length]) (by simp) (by have:=h.len;omega)
  ·rfl
 ·intro x v b;rw[DI.agree r (b _ (ajK _ (aiN.2 rfl)))];exact h.ini x v λc a=>b c (ajx _ a)
 ·intro x v;exact aix (h.alt x v) (acw Y)
 ·intro j D t f g;rcases Fe t with t|⟨_,rfl⟩
  ·obtain⟨p,n,w,y⟩:=h.rd j D t f λc a=>g c (ajx _ a);refine⟨p,n,λs C=>w s λl b=> ?_,y⟩;rw[C l b];refine DI.agree r ?_;have e:=z _ n;have q:=g (i,Z++[σ.length]) (ajK _ (aiN.2 rfl));simp only at e q;rcases e with e|e
   ·rw[e]at q;cases q
   ·exact Ry e l b
  ·cases f
def TN{C:List Nat}{σ:Sto}{q:Rc×Sto}:∀{tab:List Rc}{j0:Nat},q∈reS A M C σ j0 tab->∃(j:Nat)(ls:List Nat),tab[j]?=some q.1/\q.1.kd=.read/\(∀c∈C,Nat.testBit (M.getD c 0) (j0+j)=false)/\ls∈jg A (M.getD (j0+j) 0)/\q.2=fg ls σ
 |[],_,h=>by simp[reS]at h
 |r::e,j0,h=>by
  have rest:q∈reS A M C σ (j0+1) e->∃(j:Nat)(ls:List Nat),(r::e)[j]?=some q.1/\q.1.kd=.read/\(∀c∈C,Nat.testBit (M.getD c 0) (j0+j)=false)/\ls∈jg A (M.getD (j0+j) 0)/\q.2=fg ls σ:=by
   intro h;obtain⟨j,ls,b,f,g,k,l⟩:=TN h;exact⟨j+1,ls,by simpa using b,f,by rw[show j0+(j+1)=j0+1+j from by omega];exact g,by rw[show j0+(j+1)=j0+1+j from by omega];exact k,l⟩
  simp only[reS]at h;split at h
  ·rename_i n;split at h
   ·rename_i a;rcases aiv.1 h with h|h
    ·obtain⟨ls,b,rfl⟩:=aiG.1 h;exact⟨0,ls,rfl,n,λc m=>by simpa using List.all_eq_true.1 a c m,b,rfl⟩
    ·exact rest h
   ·exact rest h
  ·exact rest h
def DI.chains(h:DI P N A M i σ Ss tab done rest Rd Ch)(r:Y.inFp Z)(g:ID A (M.getD i 0) Z σ.length Rd Ch=true)
 (t:∀s:Sto,(∀l∈Z,s[l]?=σ[l]?)->s.length=σ.length->AOp P N o env s λf n=>f=d/\n=Upd.ap Y s):
 DS (M.getD i 0) (Ch.map (·.1))=true/\kg (λe=>AOp P N o env (fg e σ) λf n=>f=d/\n=fg e (Y.ap σ)) (jg A (M.getD i 0))/\
  kg (λ(x:Rc×Sto)=>AOp P N x.1.o x.1.env x.2 λf n=>f=x.1.v/\n=x.2) (reS A M (Ch.map (·.1)++[i]) (Y.ap σ) 0 tab)/\
  kg (λ(x:Nat×Nat×List D)=>match Nat.testBit (M.getD i 0) x.1 with|true=>True|false=>(Y.ap σ)[x.2.1]?=some (.cells x.2.2 0 0)) A:=by
 have hc0:=g;unfold ID at g;rw[RA]at g;simp only[zc,ahJ,aie,ajm,ajs]at g;obtain⟨z,u,L,B⟩:=g;have halt:∀e,e∈jg A (M.getD i 0)->∀l∈e,l<σ.length:=by
  intro e b l k;obtain⟨x,m,rfl,_⟩:=xj b l k;exact h.alt x m
 refine⟨z,kg.mk λe b=> ?_,kg.mk λq F=> ?_,kg.mk λx m=> ?_⟩
 ·rw[<-Z9 r (Fd u b) (halt e b)];exact t _ (λl k=>HI (Fd u b l k)) (pV _ _)
 ·obtain⟨j,e,G,H,v,w,I⟩:=TN F;simp only[aiA]at v w;have C:=h.chain (o:=o) (env:=env) (d:=d) r hc0 0;obtain⟨y,O,J,K⟩:=C.rd j q.1 (ju G) H (λc a=>v c.1 (by
   rcases aiv.1 a with a|a
   ·exact ajx _ (aiG.2 ⟨c,a,rfl⟩)
   ·simp at a;subst a;exact ajK _ (aiN.2 rfl)))
  rw[I];exact J _ λl k=>HI (Fd K w l k)
 ·split
  ·trivial
  ·rename_i E;have p:=B x m;rw[E]at p;simp only[aiC,false_or]at p;rw[Rz r (yM.1 p.1) (by have:=h.alt x m;omega)];exact h.ini x m λc a=>yM.1 (p.2 c a)
end
end
end Go.Fw
def aku:=@List.singleton_append
namespace Go.Fw
noncomputable section
open Go.RowKit
def isW(own:Option OH):Op->Bool
 |.alloc _=>true
 |.box _ _=>true
 |.store _ _ _=>true
 |.call c=>match c.callee with
  |.builtin .append=>true
  |.builtin _=>false
  |_=>match own with
   |some .res=>true
   |_=>false
 |_=>false
def DA{α:Type}(f:FuncId)(S:ae)(vs:List SV)(K:SV->ae->Option α):List (FuncId×oN)->Option α
 |[]=>none
 |(g,c)::r=>match Nat.beq g f with
  |false=>DA f S vs K r
  |true=>match (PV.gets S c.ap vs).bind (mV _) with
   |some x=>(c.fn x).bind λy=>K (.own S.length 0) (S++[.arr c.t y false 0])
   |none=>DA f S vs K r
def L7:Op->Option Call
 |.call c=>match c.callee with
  |.builtin _=>none
  |_=>some c
 |_=>none
def fpW(τ:ax):Op->List Nat
 |.store _ p _=>fpO τ p
 |.call c=>match c.args.toList with
  |[x,y]=>fpO τ x++fpO τ y
  |_=>[]
 |_=>[]
section
variable {α:Type}
def sW(T:Tys)(H:Tr TC)(CO:List (FuncId×oN))(own:Option OH)(τ:ax)(S:ae)(a:Op)(K:SV->ae->Option α):Option α:=match a with
 |.alloc e=>LZ T S e K
 |.box _ x=>fA τ x λv=>Vl S v K
 |.store t p x=>fA τ p λd=>fA τ x λf=>L5 T S t d f K
 |.call c=>match c.callee with
  |.builtin .append=>match c.args.toList,c.argTypes.toList with
   |[x,y],[t,b]=>fA τ x λv=>fA τ y λw=>Vn T H S t b v w K
   |_,_=>none
  |.builtin _=>none
  |_=>match own with
   |some .res=>(wh T τ c).bind λp=>DA p.1 S p.2 K CO
   |_=>none
 |_=>none
def Ff(f:FuncId)(S:ae)(vs:List SV)(K:SV->Option α):List (FuncId×Ctr)->Option α
 |[]=>none
 |(g,c)::r=>match Nat.beq g f with
  |false=>Ff f S vs K r
  |true=>match (PV.gets S c.ap vs).bind (mV _) with
   |some x=>(c.fn x).bind λy=>(c.rp.put (λ_=>0) (jm _ y)).bind λw=>K w.1
   |none=>Ff f S vs K r
end
section
variable {α:Type}{P:Program}{T:Tys}{N:Nat}{o:Oper}{S:ae}{σ:Sto}{τ:ax}{τ' :Env}{r:α}
def RB{x:Operand}{v:SV}(h:sev τ x=some v):fpO τ x=fpV v:=by unfold fpO;rw[h]
variable{Z:Call}{Y X:DCh}
def HK(tok:TOk T P){f:FuncId}{vs:List SV}{ds:List D}{B:List Nat}{K:SV->ae->Option α}(p:o.op=.call Z)(j:nE T τ' Z=some (f,ds))(d:StR S σ)(v:VRs S σ vs ds):
 ∀(C:List (FuncId×oN)),(∀g c,(g,c)∈C->rM P g c)->DA f S vs K C=some r->WOk P N o S σ τ' B K r
 |[],_,h=>by simp[DA]at h
 |(g,c)::C,a,h=>by
  simp only[DA]at h;split at h
  ·exact HK tok p j d v C (λg c n=>a g c (ah4 _ n)) h
  ·rename_i m;have m:=dd m;subst m;split at h
   ·rename_i x w;obtain⟨l,H,w⟩:=ak w;obtain⟨y,I,E⟩:=ak h;obtain⟨G,k,a⟩:=a g c (aio ..);have a:=a x y I;have b:=kT _ w;obtain⟨i,J,Q,O⟩:=PV.gets_ok (objs:=[]) _ _ l ds H k v;obtain⟨z,e,L⟩:=O λ_=>0;have e:=e [];rw[ah6,<-b]at e;have F:=a z e i (L [] [] (Dr _ _ _ _ _));refine⟨_,_,.sl σ.length (c.t.flat y).length 0 y.length c.t.sz false,.push (.cells (c.t.flat y) 0 (c.t.flat y).length),E,λs _ q=> ?_,?_,d.push ⟨0,_,rfl,λ_=>rfl⟩,bC.push d.len _ _,trivial⟩
    ·rw[<-q];exact qx tok p j (rx.weak J) G (F s)
    ·simp only[VR];exact .mk (t:=c.t) (xs:=y) (fz:=false) (fr:=0) (u:=(c.t.flat y).length) (by simp) (by rw[d.len];simp[Upd.ap]) (by rw[d.len])
   ·exact HK tok p j d v C (λg c n=>a g c (ah4 _ n)) h
def abd(tok:TOk T P){H:Tr TC}{CO:List (FuncId×oN)}(s:∀g c,(g,c)∈CO->rM P g c){own:Option OH}(f:StR S σ)(l:ER S σ τ τ'){n:Op}(i:o.op=n){K:SV->ae->Option α}(h:sW T H CO own τ S n K=some r):WOk P N o S σ τ' (fpW τ n) K r:=by
 cases n<;>simp only[sW]at h<;>try (cases h;done)
 case alloc e=>exact Oo tok f i h
 case box t x=>
  obtain⟨v,m,h⟩:=bD h;exact TJ tok f l i m h
 case store t p x=>
  obtain⟨Q,k,h⟩:=bD h;obtain⟨R,u,h⟩:=bD h;have:=Os (N:=N) tok f l i k u h;simp only[fpW,RB k];exact this
 case call c=>
  split at h<;>try (cases h;done)
  rotate_left
  ·split at h<;>try (cases h;done)
   obtain⟨p,I,h⟩:=ak h;obtain⟨O,F,G⟩:=yG l I;exact HK tok i F f G CO s h
  rename_i z;split at h<;>try (cases h;done)
  rename_i x y t J d j;obtain⟨v,m,h⟩:=bD h;obtain⟨w,B,h⟩:=bD h;simp only[fpW,d,RB m,RB B];refine TM tok f l (a:=x) (b:=y) ?_ m B h;obtain⟨L,C,q⟩:=c;simp only at z d j;subst z;have D:C= #[x,y]:=ajV (by simpa using d);have E:q= #[t,J]:=ajV (by simpa using j);rw[i,D,E]
def Fg(tok:TOk T P){f:FuncId}{vs:List SV}{ds:List D}{K:SV->Option α}(p:o.op=.call Z)(j:nE T τ' Z=some (f,ds))(q:VRs S σ vs ds):
 ∀(C:List (FuncId×Ctr)),(∀g c,(g,c)∈C->fG P g c)->Ff f S vs K C=some r->∃v d,K v=some r/\VR S σ v d/\∀s,AOp P N o τ' s λF W=>F=d/\W=s
 |[],_,h=>by simp[Ff]at h
 |(g,c)::C,a,h=>by
  simp only[Ff]at h;split at h
  ·exact Fg tok p j q C (λg c n=>a g c (ah4 _ n)) h
  ·rename_i m;have m:=dd m;subst m;split at h
   ·rename_i x z;obtain⟨l,O,z⟩:=ak z;obtain⟨y,Q,G⟩:=ak h;obtain⟨w,E,H⟩:=ak G;obtain⟨L,k,J,a⟩:=a g c (aio ..);obtain⟨v,t,u,a⟩:=a x y Q;have b:=kT _ z;obtain⟨i,R,X,V⟩:=PV.gets_ok (objs:=[]) _ _ l ds O k q;obtain⟨B,e,U⟩:=V λ_=>0;have e:=e [];rw[ah6,<-b]at e;have I:=a B e i (U [] [] (Dr _ _ _ _ _));rw[t]at E;cases E;exact⟨v,v.can,H,u _ _,λs=>qx tok p j (rx.weak R) L (I.acall s)⟩
   ·exact Fg tok p j q C (λg c n=>a g c (ah4 _ n)) h
end
def rO(T:Tys):List Oper->Nat->Nat->Option Res
 |[],_,_=>some []
 |o::r,i,l=>match o.guard with
  |some _=>rO T r (i+1) l
  |none=>match o.op with
   |.alloc e=>(lk T.zero e).bind λz=>(rO T r (i+1) (l+1)).bind λA=>some ((i,l,z)::A)
   |_=>rO T r (i+1) l
def uJ{T:Tys}:∀{ops:List Oper}{i l:Nat}{A:Res},rO T ops i l=some A->A.map (·.2.1)=List.range' l A.length
 |[],_,_,A,h=>by cases h;rfl
 |o::r,i,l,A,h=>by
  simp only[rO]at h;split at h
  ·exact uJ h
  ·split at h
   ·obtain⟨z,_,h⟩:=ak h;obtain⟨b,a,h⟩:=ak h;cases h;simp only[ahX,ahP,uJ a];rfl
   ·exact uJ h
def HM{T:Tys}{x:Nat×Nat×List D}:∀{ops:List Oper}{i l:Nat}{A:Res},rO T ops i l=some A->x∈A->∃(k:Nat)(o:Oper)(e:TypeId),x.1=i+k/\ops[k]?=some o/\o.op=.alloc e/\lk T.zero e=some x.2.2
 |[],_,_,A,h,b=>by cases h;simp at b
 |o::r,i,l,A,h,b=>by
  have a:∀{l:Nat}{A:Res},rO T r (i+1) l=some A->x∈A->∃(k:Nat)(o':Oper)(e:TypeId),x.1=i+k/\(o::r)[k]?=some o'/\o'.op=.alloc e/\lk T.zero e=some x.2.2:=by
   intro l A h b;obtain⟨k,o',e,c,d,f⟩:=HM h b;exact⟨k+1,o',e,by omega,by simpa using d,f⟩
  simp only[rO]at h;split at h
  ·exact a h b
  ·split at h
   ·rename_i e g;obtain⟨z,j,h⟩:=ak h;obtain⟨m,c,h⟩:=ak h;cases h;rcases aib.1 b with rfl|b
    ·exact⟨0,o,e,rfl,rfl,g,j⟩
    ·exact a c b
   ·exact a h b
def Pt(o:Oper)(i:Nat)(a:Res):Bool:=match o.guard,o.op,a with
 |none,.alloc _,(j,_,_)::_=>Nat.beq j i
 |_,_,_=>false
section
variable {α:Type}
def sdX(cx:Cx)(fid N:Nat)(A:Res)(m:Nat)(o:Oper)(i:Nat)(d τ:ax)(S:ae)(a:Res)(f e:DCh)(next:ax->ae->Res->DCh->DCh->Option α):Option α:=
 match Pt o i a with
 |true=>match a with
  |(_,l,_)::rest'=>lE N o.dst (.raw (.ptr l 0 0)) τ λb=>next b S rest' f e
  |[]=>none
 |false=>match isW (AC cx fid o.dst) o.op with
  |true=>match ID A m (fpW d o.op) S.length f e with
   |true=>sW cx.T cx.H cx.CO (AC cx fid o.dst) d S o.op λv g=>lE N o.dst v τ λb=>next b g a f (e++[(i,fpW d o.op++[S.length])])
   |false=>none
  |false=>match L7 o.op with
   |some c=>(wh cx.T d c).bind λp=>match lk cx.T.ext p.1 with
    |some k=>Iq k p.2 λv=>lE N o.dst v τ λb=>next b S a (f++[(i,[])]) e
    |none=>Ff p.1 S p.2 (λv=>lE N o.dst v τ λb=>next b S a (f++[(i,[])]) e) cx.C
   |none=>match uI A m (Ck d o.op)&&e.all (λc=>Fc m c.1||Fb (Ck d o.op) c.2) with
    |true=>sR cx.T cx.H d S o.op λv=>lE N o.dst v τ λb=>next b S a (f++[(i,Ck d o.op)]) e
    |false=>none
noncomputable def Vs(cx:Cx)(fid N:Nat)(all:Array Oper)(A:Res)(M:List Nat)(o:Oper)(k:Nat->ax->ae->Res->DCh->DCh->(ax->ae->Option α)->Option α)(i:Nat)(τ:ax)(S:ae)(d:Res)(h g:DCh)(K:ax->ae->Option α):Option α:=match o.guard with
 |none=>sdX cx fid N A (M.getD i 0) o i (sx all o τ) τ S d h g λc l a f e=>k (i+1) c l a f e K
 |some (j,want)=>match (all[j]?).bind (·.dst) with
  |none=>none
  |some t=>match nj (sx all o τ) t with
   |some (.bool b)=>match want with
    |true=>cond b (sdX cx fid N A (M.getD i 0) o i (sx all o ((t,.bool true)::τ)) ((t,.bool true)::τ) S d h g λc l a f e=>k (i+1) c l a f e K)
     (lE N o.dst (.tup []) ((t,.bool false)::τ) λc=>k (i+1) c S d h g K)
    |false=>cond b (lE N o.dst (.tup []) ((t,.bool true)::τ) λc=>k (i+1) c S d h g K)
     (sdX cx fid N A (M.getD i 0) o i (sx all o ((t,.bool false)::τ)) ((t,.bool false)::τ) S d h g λc l a f e=>k (i+1) c l a f e K)
   |some (.tup _)=>lE N o.dst (.tup []) τ λc=>k (i+1) c S d h g K
   |_=>none
noncomputable def sdr(cx:Cx)(fid N:Nat)(all:Array Oper)(A:Res)(M:List Nat)(l:List Oper):Nat->ax->ae->Res->DCh->DCh->(ax->ae->Option α)->Option α:=List.rec (λ_ τ S a _ _ K=>match a with
 |[]=>K τ S
 |_::_=>none) (λo _ b=>Vs cx fid N all A M o b) l
variable{Z:Call}{Y X:DCh}
def TO{cx:Cx}{fid N:Nat}{all:Array Oper}{A:Res}{M:List Nat}{i:Nat}{τ:ax}{S:ae}{a:Res}{K:ax->ae->Option α}:sdr cx fid N all A M [] i τ S a X Y K=match a with
 |[]=>K τ S
 |_::_=>none:=rfl
def RC{cx:Cx}{fid N:Nat}{all:Array Oper}{A:Res}{M:List Nat}{o:Oper}{r:List Oper}:sdr (α:=α) cx fid N all A M (o::r)=Vs (α:=α) cx fid N all A M o (sdr cx fid N all A M r):=rfl
noncomputable def Pv(cx:Cx)(fid N:Nat)(ops:Array Oper)(τ:ax)(S:ae)(K:ax->ae->Option α):Option α:=
 HF S 0 λn=>(rO cx.T ops.toList 0 n).bind λA=>match hZ ops (cV ops.toList []) with
  |true=>E8 (S++A.map λx=>kR.cells (mP x.2.2) false) λa=>sdr cx fid N ops A (cV ops.toList []) ops.toList 0 τ a A [] [] K
  |false=>none
end
section
variable {α:Type}{cx:Cx}{fid N:Nat}{all:Array Oper}{A:Res}{M:List Nat}{r:α}
variable{Z:Call}{Y X:DCh}
def aes(f:nT cx){o:Oper}{l l' pre:List Oper}{i:Nat}{τ:ax}{τ':Env}{S:ae}{σ:Sto}{n done:Res}{Ss:List Sto}{j3:List Rc}{next:ax->ae->Res->DCh->DCh->Option α}{Kt:Env->Sto->Prop}
 (U:all.toList=pre++o::l')(V:pre.length=i)(hA:∀x∈A,∃(k:Nat)(o:Oper)(e:TypeId),x.1=k/\all.toList[k]?=some o/\o.op=.alloc e/\lk cx.T.zero e=some x.2.2)
 (u:DI cx.P N A M i σ Ss j3 done n X Y)(I:StR S σ)(R:ER S σ τ τ')(hw:df all (rst all o τ') o=some true)
 (h:sdX cx fid N A (M.getD i 0) o i (sx all o τ) τ S n X Y next=some r)
 (J:∀b m S2 y q D L C O B,DI cx.P N A M (i+1) y O B D q L C->StR S2 y->ER S2 y m b->bC S σ S2 y->next m S2 q L C=some r->ADr cx.P N all A M l (i+1) b O (C.map (·.1)) B Kt):
 ADr cx.P N all A M (o::l) i τ' Ss (Y.map (·.1)) j3 Kt:=by
 have E:=R.rst all o;unfold sdX at h;split at h
 ·rename_i hr;split at h<;>try (cases h;done)
  rename_i j lo z j6;unfold Pt at hr;split at hr<;>try (cases hr;done)
  rename_i e _ _ _ _ _ a F;cases F;have hj:=dd hr;subst hj;obtain⟨k,o',e',w,t,G,H⟩:=hA (j,lo,z) (by rw[u.all];simp);simp only at w H;subst w;have ho:o'=o:=by
   rw[U,<-V,ahZ (ahS _)]at t;simp at t;exact t.symm
  subst ho;rw[a]at G;cases G;obtain⟨b,m,W,Z,K⟩:=np (d:=.ptr lo 0 0) R (by simp only[VR]) h;exact aaO f.tok hw a u.res H W (J _ _ _ _ _ _ _ _ _ _ u.alloc I Z (.refl _ _) K)
 ·split at h
  ·split at h<;>try (cases h;done)
   rename_i g;obtain⟨v,S',d,up,w,t,G,H,h5,h6⟩:=abd (N:=N) f.tok f.ctrO I E rfl h;obtain⟨b,m,W,Z,K⟩:=np (R.pres h5) G w;rw[I.len]at g K;obtain⟨g1,g2,g3,g4⟩:=u.chains h6 g t;have j4:=u.chain (o:=o) (env:=rst all o τ') (d:=d) h6 g (Y.map (·.1)).length;have:=J _ _ _ _ _ _ _ _ _ _ j4 H Z h5 K;rw[aiR]at this;exact .inr (.inr (.inl ⟨hw,g1,d,b,σ,up.ap σ,u.last,g2,g3,g4,W,this⟩))
  ·split at h
   ·rename_i c g;obtain⟨p,hp,h⟩:=ak h;obtain⟨ds,w,t⟩:=yG E hp;have ho:o.op=.call c:=by
     unfold L7 at g;split at g<;>try (cases g;done)
     rename_i a;split at g<;>cases g;exact a
    have j5:∃v d,(lE N o.dst v τ λb=>next b S n (X++[(i,[])]) Y)=some r/\VR S σ v d/\∀s,AOp cx.P N o (rst all o τ') s λQ s'=>Q=d/\s'=s:=by
     split at h
     ·rename_i k J;exact Km (N:=N) f.tok ho w J t h
     ·exact Fg (N:=N) f.tok ho w t cx.C f.ctr h
    obtain⟨v,d,W,Z,K⟩:=j5;obtain⟨b,m,m1,m2,m3⟩:=np R Z W;have hh:uI A (M.getD i 0) []=true:=by unfold uI Fa;simp
    have a:∀s:Sto,(∀l∈([]:List Nat),s[l]?=σ[l]?)->AOp cx.P N o (rst all o τ') s λQ s'=>Q=d/\s'=s:=λs _=>K s;exact Uc hw (u.reads a hh (by simp[Fb])) m1 (J _ _ _ _ _ _ _ _ _ _ (u.read a hh) I m2 (.refl _ _) m3)
   ·split at h<;>try (cases h;done)
    rename_i g;simp only[ahJ]at g;obtain⟨v,d0,d,w,t,G,H⟩:=Vi I E h;obtain⟨b,m,m1,m2,m3⟩:=np R t w;have a:∀s:Sto,(∀l∈Ck (sx all o τ) o.op,s[l]?=σ[l]?)->AOp cx.P N o (rst all o τ') s λQ s'=>Q=d/\s'=s:=λs hs=>(bN f.tok (H s hs)).weak G;exact Uc hw (u.reads a g.1 g.2) m1 (J _ _ _ _ _ _ _ _ _ _ (u.read a g.1) I m2 (.refl _ _) m3)
def HN(G:nT cx){suf:List Oper}{K:ax->ae->Option α}(U:∀x∈A,∃(k:Nat)(o:Oper)(e:TypeId),x.1=k/\all.toList[k]?=some o/\o.op=.alloc e/\lk cx.T.zero e=some x.2.2):∀(l pre:List Oper)(i:Nat)(τ:ax)(τ':Env)(S:ae)(σ:Sto)(a done:Res)(C s:DCh)(E:List Sto)(m:List Rc)(w:Env->Sto->Prop),
 all.toList=pre++(l++suf)->pre.length=i->DI cx.P N A M i σ E m done a C s->StR S σ->ER S σ τ τ'->sdr cx fid N all A M l i τ S a C s K=some r->(∀c v,og S σ K r c v->w c v)->ADr cx.P N all A M l i τ' E (s.map (·.1)) m w
 |[],pre,i,τ,τ',S,σ,a,done,C,s,E,m,w,_,_,hD,hS,g,h,O=>by
  simp only[TO,RC,Vs]at h;split at h<;>try (cases h;done)
  refine afd (kg.mk λx hx=> ?_) hD.last (O _ _ ⟨τ,S,g,hS,.refl _ _,h⟩);rw[hD.all,ah6]at hx;exact(hD.dn x hx).2
 |o::l,pre,i,τ,τ',S,σ,a,done,C,s,E,m,w,hall,hpre,hD,hS,g,h,O=>by
  have n:∀{τ:ax},ER S σ τ τ'->df all (rst all o τ') o=some true->(sdX cx fid N A (M.getD i 0) o i (sx all o τ) τ S a C s λc Q f D B=>sdr cx fid N all A M l (i+1) c Q f D B K)=some r->ADr cx.P N all A M (o::l) i τ' E (s.map (·.1)) m w:=by
   intro τ g y h;refine aes (l':=l++suf) G hall hpre U hD hS g y h ?_;intro c H Q v f F D B R I V X W Z h2;exact HN (suf:=suf) G U l (pre++[o]) (i+1) H c Q v f F D B R I w (by simp[hall]) (by simp[hpre]) V X W h2 λj4 j3 x=>O _ _ (x.trans Z)
  have skip:∀{τ:ax},ER S σ τ τ'->df all (rst all o τ') o=some false->(lE N o.dst (.tup []) τ λc=>sdr cx fid N all A M l (i+1) c S a C s K)=some r->ADr cx.P N all A M (o::l) i τ' E (s.map (·.1)) m w:=by
   intro τ g y h;obtain⟨c,H,k1,k2,k3⟩:=np (d:=.tuple []) g (by simp only[VR,VRs];exact⟨[],rfl,rfl⟩) h;exact ags y k1 (HN (suf:=suf) G U l (pre++[o]) (i+1) H c S σ a done C s E _ w (by simp[hall]) (by simp[hpre]) hD.skip hS k2 k3 O)
  simp only[TO,RC,Vs]at h;split at h
  ·rename_i L;exact n g (by unfold df;rw[L]) h
  ·rename_i j z L;split at h<;>try (cases h;done)
   rename_i t ht;split at h<;>try (cases h;done)
   ·rename_i b Y;obtain⟨d,J,q⟩:=g.rst all o t _ Y;simp only[VR]at q;subst q;have u:=(qH (p:=λt=>(o.looksAt all).contains t) J).2;have y:df all (rst all o τ') o=some (b==z):=by unfold df;rw[L];simp only[ht,J]
    cases z
    ·rcases bU h with⟨rfl,h⟩|⟨rfl,h⟩
     ·exact skip (g.setB u) y h
     ·exact n (g.setB u) y h
    ·rcases bU h with⟨rfl,h⟩|⟨rfl,h⟩
     ·exact n (g.setB u) y h
     ·exact skip (g.setB u) y h
   ·rename_i vs Y;obtain⟨d,J,q⟩:=g.rst all o t _ Y;simp only[VR]at q;obtain⟨ds,rfl,_⟩:=q;exact skip g (by unfold df;rw[L];simp only[ht,J]) h
def StR.pushes:∀(B:Res){S:ae}{σ:Sto},StR S σ->StR (S++B.map λx=>kR.cells (mP x.2.2) false) (σ++B.map λx=>am.cells x.2.2 0 0)/\bC S σ (S++B.map λx=>kR.cells (mP x.2.2) false) (σ++B.map λx=>am.cells x.2.2 0 0)
 |[],S,σ,h=>by simp only[ai0,ah6];exact⟨h,.refl _ _⟩
 |x::B,S,σ,h=>by
  have c:StR (S++[kR.cells (mP x.2.2) false]) (σ++[am.cells x.2.2 0 0]):=h.push ⟨x.2.2,0,rfl,λ_=>rfl,lX _ _ x.2.2⟩;have d:=bC.push h.len (kR.cells (mP x.2.2) false) (am.cells x.2.2 0 0);obtain⟨a,b⟩:=StR.pushes B c;simp only[aia,aku]at a b;exact⟨a,d.trans b⟩
def RD(f:nT cx){i id:Nat}{ops:Array Oper}{τ:ax}{τ':Env}{S:ae}{σ:Sto}{K:ax->ae->Option α}(u:StR S σ)(C:ER S σ τ τ')(h:Pv cx fid N ops τ S K=some r):
 AWp i cx.P N (.region id ops true) τ' σ λe m g=>e=.normal/\og S σ K r m g:=by
 simp only[Pv,zb,qO,aiA]at h;obtain⟨A,y,h⟩:=ak h;split at h<;>try (cases h;done)
 rename_i E;obtain⟨v,z⟩:=StR.pushes A u;have c:=uJ y;have b:∀x∈A,∃n:Nat,n<A.length/\x.2.1=σ.length+n/\A[n]?=some x:=by
  intro x a;obtain⟨n,t⟩:=aiT a;have d:(A.map (·.2.1))[n]?=some x.2.1:=by simp[t]
  rw[c,ajS (ah t)]at d;simp at d;exact⟨n,ah t,by rw[<-u.len];exact d.symm,t⟩
 refine NT (f.mix) A rfl E (by rw[c,u.len]) ?_;refine HN (A:=A) (M:=cV ops.toList []) (done:=[]) (suf:=[]) f (λx a=> ?_) ops.toList [] 0 τ τ' _ _ A [] [] _ [] _ (by simp) rfl ?_ v (C.pres z) h ?_
 ·obtain⟨k,o,e,d,p,q,B⟩:=HM y a;exact⟨k,o,e,by omega,p,q,B⟩
 ·refine⟨rfl,rfl,?_,?_,?_,?_,rfl,?_,rfl⟩
  ·intro k s w l _;cases k with
   |zero=>simp at w;subst w;rfl
   |succ k=>simp at w
  ·intro x a _;obtain⟨n,d,p,q⟩:=b x a;rw[p,ahZ (by omega)];simp[q]
  ·intro x a;obtain⟨n,d,p,q⟩:=b x a;simp;omega
  ·intro j F D;simp at D
  ·intro x a;simp at a
 ·intro m g x;exact⟨rfl,x.trans z⟩
end
end
end Go.Fw
def ake:=@List.mem_range
namespace Go.Fw
open Go.RowKit
section
variable {fl:Nat}{P:Program}{N:Nat}{ops:Array Oper}{A:Res}{M:List Nat}{τ0:Env}{s0:Sto}{tab:List Rc}{S:List Sto}{C:List Nat}{τ:Env}
variable{Z:Nat}{Y:Gh}
def Su(O:jh P N ops A M τ0 s0 tab S C τ)(hM:cV ops.toList []=M)(hp:hZ ops M=true)
 (m7:∀x∈A,∃r:Rc,tab[x.1]?=some r/\r.kd=.alloc x.2.1 x.2.2)(m8:∀x∈A,∀y∈A,x.2.1=y.2.1->x.1=y.1)
 {B:dN P}{L:Array Bool}{a:Act}{w:World}(Z:Inv fl ops A τ0 tab S C N B Y L a w){i:Nat}(p8:i<tab.length)(hi:i∈Region.ready .any ops L){Q:Exit->Act->World->Prop}
 {K:Act->World->Prop}(hK:∀a' w',Inv fl ops A τ0 tab S C N B Y (L.setIfInBounds i true) a' w'->K a' w'):wpOp P ops Q i K a w:=by
 obtain⟨H,o,ho,p⟩:=ajv.1 hi;obtain⟨j3,k8⟩:=fE H;obtain⟨r,R⟩:∃r,tab[i]?=some r:=⟨_,ahK p8⟩;obtain⟨n7,f⟩:=O.rc i r R;rw[ho]at n7;cases n7;have j7:=sc (ops:=ops) (L:=L) Z.down ops.toList [] [] (by simp) rfl (λj m oj h=>by simp at h);rw[hM]at j7;have hn:pU L (M.getD i 0):=by
  intro j hj;cases hm:M[i]? with
  |none=>rw[ah5,hm]at hj;simp at hj
  |some m=>
   rw[ah5,hm]at hj;exact j7 i m _ hm ho p j hj
 obtain⟨G,k,σ,h0,hS,hC,hR,t8,t7,q,s⟩:=Z.st;have V:=Z.trel O hM hp q s R H hn;have j5:Win M C i k:=by
  intro k' c u;constructor
  ·intro T;have hL:=(hC k' c u).2 T;cases hb:Nat.testBit (M.getD c 0) i with
   |false=>rfl
   |true=>
    obtain⟨rc,D,_⟩:=O.ch k' c u;have n6:=(O.rc c rc D).1;cases hm:M[c]? with
    |none=>rw[ah5,hm]at hb;simp at hb
    |some m=>
     rw[ah5,hm]at hb;have:=j7 c m _ hm n6 (λe he o9=>Z.down c _ n6 hL e he o9) i hb;rw[k8]at this;cases this
  ·intro F;cases hb:Nat.testBit (M.getD i 0) c with
   |false=>rfl
   |true=>
    have:=(hC k' c u).1 (hn c hb);omega
 have W:∀{b:Bool},df ops r.env r.o=some b->Region.wanted r.o (yielded ops a.tmps)=b:=λh=>we V h;have n:(∀k,r.kd≠.chain k)->∀(t c:Nat),C[t]?=some c->((L.setIfInBounds i true).getD c false=true↔t<k):=by
  intro k9 t c u;have:c≠i:=by
   rintro rfl;obtain⟨rc,D,E⟩:=O.ch t c u;rw[R]at D;cases D;exact k9 _ E
  rw[aje false (ajt this)];exact hC t c u
 have g:(∀l cs,r.kd≠.alloc l cs)->∀x∈A,x.1≠i:=by
  rintro k9 x hx rfl;obtain⟨r',n8,E⟩:=m7 x hx;rw[R]at n8;cases n8;exact k9 _ _ E
 have j4:=DR hn A;unfold MF at f;unfold wpOp;rw[ho];simp only;cases I:r.kd with
 |skip=>
  simp only[I]at f;rw[air (by rw[W f.1];simp)];refine hK _ _ (Z.next O hp R H p ⟨G,h0,.refl G,q,s⟩ hS (n (by rw[I];simp)) ?_ ?_)
  ·rw[mu (pt (g (by rw[I];simp)))];exact hR
  ·rw[f.2];simp only[Rep,undef];exact⟨#[],rfl,by simp[af]⟩
 |read=>
  simp only[I]at f;rw[ah2 (W f.1)];refine .inl (f.2 k σ hS j5 _ j4 B G w a hR V _ _ ?_);rintro v w' G' d s' F J hd ⟨rfl,rfl⟩;refine hK _ _ (Z.next O hp R H p ⟨G,h0,F,q,s⟩ hS (n (by rw[I];simp)) ?_ hd);rw[mu (pt (g (by rw[I];simp)))];exact J
 |chain k0=>
  simp only[I]at f;obtain⟨hw,j8,m5,u0,u7,o7,r9,l0⟩:=f;rw[ah2 (W hw)];have p9:k0=k:=by
   have h1:¬k0<k:=λh=>by
    have:=(hC k0 i j8).2 h;rw[k8]at this;cases this
   rcases ah0 k k0 with X|X
   ·exfalso;obtain⟨t,rfl⟩:∃t,k0=t+1:=⟨k0-1,by omega⟩;have T:=ah j8;obtain⟨c,u⟩:∃c,C[t]?=some c:=⟨C[t],ahK (by omega)⟩;have:=(hC t c u).1 (hn c (m5 t c rfl u));omega
   ·omega
  subst p9;rw[hS]at o7;cases o7;refine .inl (l0 _ j4 B G w a hR V _ _ ?_);rintro v w' G' d s' F J hd ⟨rfl,rfl⟩;refine hK _ _ (Z.next O hp R H p ⟨G,h0,F,q,s⟩ r9 ?_ ?_ hd)
  ·intro t c u;rw[gh j3,hC t c u];constructor
   ·rintro(rfl|h)
    ·obtain⟨rc,D,E⟩:=O.ch t c u;rw[R]at D;cases D;rw[I]at E;cases E;omega
    ·omega
   ·intro h;rcases ah0 t k0 with h'|h'
    ·exact .inr h'
    ·have:t=k0:=by omega
     subst this;rw[j8]at u;cases u;exact .inl rfl
  ·rw[mu (pt (g (by rw[I];simp)))];exact J
 |alloc l cs=>
  simp only[I]at f;obtain⟨hw,o8,hv,e,l0,hz⟩:=f;rw[ah2 (W hw)];obtain⟨x,hx,rfl,m6⟩:∃x∈A,x.1=i/\x.2=(l,cs):=⟨_,o8,rfl,rfl⟩;have j6:σ[l]?=some (.cells cs 0 0):=by
   have:=O.res x hx k σ hS λk' c u T=>(j5 k' c u).1 T;rw[m6]at this;exact this
  have p7:l∈gT L A:=kK.2 ⟨x,hx,k8,by rw[m6]⟩;have j9:(fg (gT L A) σ)[l]?=some .dead:=by
   rw[lA,ah2 ⟨p7,ah j6⟩]
  refine .inl (Gw (N:=N) (τ:=r.env) l0 hz j9 B G w a hR V _ _ ?_);rintro v w' G' d s' F J hd ⟨rfl,rfl⟩;refine hK _ _ (Z.next O hp R H p ⟨G,h0,F,q,s⟩ hS (n (by rw[I];simp)) ?_ (by rw[hv];exact hd));rw[<-P0 (ls:=gT L A) (l:=l) ?_ j6]
  ·exact J
  ·intro y;simp only[kK];constructor
   ·rintro⟨z,h1,X,h3⟩;have U:z.1≠x.1:=by
     intro e';rw[e',(gh j3).2 (.inl rfl)]at X;cases X
    rw[aje false (ajt U)]at X;refine⟨⟨z,h1,X,h3⟩,?_⟩;rintro rfl;exact U (m8 z h1 x hx (by rw[h3,m6]))
   ·rintro⟨⟨z,h1,X,h3⟩,U⟩;refine⟨z,h1,?_,h3⟩;have:z.1≠x.1:=by
     intro e';obtain⟨rz,n9,m9⟩:=m7 z h1;rw[e',R]at n9;cases n9;rw[I]at m9;cases m9;exact U h3.symm
    rw[aje false (ajt this)];exact X
def P3{suf:List Oper}{K:Env->Sto->Prop}:∀(r:List Oper)(τ:Env)(S:List Sto)(C:List Nat)(tab:List Rc)(pre:List Oper),ops.toList=pre++r++suf->tab.length=pre.length->
 jh P N ops A M τ0 s0 tab S C τ->ADr P N ops A M r tab.length τ S C tab K->
 ∃(a:List Rc)(S':List Sto)(g:List Nat)(τ':Env)(σ':Sto),a.length+suf.length=ops.size/\jh P N ops A M τ0 s0 a S' g τ'/\S'.getLast?=some σ'/\K τ' σ'/\(∀x∈A,∃r:Rc,a[x.1]?=some r/\r.kd=.alloc x.2.1 x.2.2)
 |[],τ,S,C,tab,pre,hops,hlen,hT,h=>by
  obtain⟨s,σ,B,D⟩:=h;have:ops.size=pre.length+suf.length:=by have:=ain List.length hops;simpa using this
  exact⟨tab,S,C,τ,σ,by omega,hT,B,D,s.mem⟩
 |o::r,τ,S,C,tab,pre,hops,hlen,hT,h=>by
  have ho:ops[tab.length]?=some o:=by rw[<-ais,hops,hlen,aia];simp
  have next:∀(p:Rc)(τ2:Env)(S':List Sto)(g:List Nat),p.o=o->jh P N ops A M τ0 s0 (tab++[p]) S' g τ2->ADr P N ops A M r (tab.length+1) τ2 S' g (tab++[p]) K->
   ∃(a:List Rc)(S':List Sto)(g:List Nat)(τ':Env)(σ':Sto),a.length+suf.length=ops.size/\jh P N ops A M τ0 s0 a S' g τ'/\S'.getLast?=some σ'/\K τ' σ'/\(∀x∈A,∃r:Rc,a[x.1]?=some r/\r.kd=.alloc x.2.1 x.2.2):=by
   intro p τ2 S' g H q z;exact P3 r τ2 S' g (tab++[p]) (pre++[o]) (by simp[hops]) (by simp[hlen]) q (by simpa using z)
  rcases h with⟨m,τ2,j,h⟩|⟨m,d,τ2,b,j,h⟩|⟨m,i,d,τ2,σ,σ',f,b,w,n,j,h⟩|⟨m,e,l,y,τ2,v,E,F,j,h⟩
  ·exact next ⟨o,rst ops o τ,.tuple [],.skip⟩ τ2 S C rfl (hT.push ho ⟨m,rfl⟩ j rfl) h
  ·refine next ⟨o,rst ops o τ,d,.read⟩ τ2 S C rfl (hT.push ho ⟨m,λk σ hk hwin ls hls=> ?_⟩ j rfl) h
   refine b.mem _ (akE.2 ⟨σ,AY hk λG c hc u=>(hwin G c hc).2 u,aiG.2 ⟨ls,hls,rfl⟩⟩)
  ·refine next ⟨o,rst ops o τ,d,.chain C.length⟩ τ2 (S++[σ']) (C++[tab.length]) rfl (hT.pushC ho rfl ⟨m,by simp,λk1 c hk1 hc=> ?_,σ,σ',?_,?_,λls hls=>b.mem ls hls⟩ w.mem n.mem j rfl) h
   ·have t:C.getLast?=some c:=by
     rw[ahT (by omega)]at hc;rw[aiW,hk1];exact hc
    unfold DS at i;rw[t]at i;exact i
   ·have:S[C.length]?=some σ:=by
     rw[aiW,hT.slen]at f;exact f
    exact ju this
   ·rw[<-hT.slen];simp
  ·refine next ⟨o,rst ops o τ,.ptr l 0 0,.alloc l y⟩ τ2 S C rfl (hT.push ho ⟨m,Gu E,rfl,e,v,F⟩ j rfl) h
def K3(n m:Nat):Bool:=(List.range n).all λj=>Nat.testBit m j
def Yz{n m:Nat}(h:K3 n m=true):∀j,j<n->Nat.testBit m j=true:=λj a=>aie.1 h j (ake.2 a)
def K4{Q:Exit->Act->World->Prop}{L:Array Bool}{a:Act}{w:World}(c:Region.ready .any ops L=[])(h:Q .normal a w):wpAny P .any ops Q Z L a w:=by
 cases Z with
 |zero=>exact⟨c,h⟩
 |succ n=>exact⟨λ_=>h,λi b=>by rw[c]at b;cases b⟩
def We(O:jh P N ops A M τ0 s0 tab S C τ)(hM:cV ops.toList []=M)(hp:hZ ops M=true){o:Oper}(o7:tab.length+1=ops.size)(Z:ops[tab.length]?=some o)(F:K3 tab.length (M.getD tab.length 0)=true)
 (R:∀x∈A,∃r:Rc,tab[x.1]?=some r/\r.kd=.alloc x.2.1 x.2.2)(V:∀x∈A,∀y∈A,x.2.1=y.2.1->x.1=y.1)
 {B:dN P}{Q:AEx->Env->Sto->Prop}{σ:Sto}(q:S.getLast?=some σ)(hQ:iN P N ops [o] τ σ λs f=>Q .normal s f):
 ∀(e:Nat)(L:Array Bool)(a:Act)(w:World),L.toList.count false<=e->L.getD tab.length true=false->Inv fl ops A τ0 tab S C N B Y L a w->wpAny P .any ops (mt fl B Y N Q) e L a w:=by
 have j6:∀(L:Array Bool)(a:Act)(w:World),Inv fl ops A τ0 tab S C N B Y L a w->(∀i,i<tab.length->L.getD i false=true)->∃G,Y.LeB fl G/\Rel B G σ w/\gw G N τ a:=by
  intro L a w E I;obtain⟨G,k,f,h0,hS,hC,K,n6,j9,j3,j4⟩:=E.st;have hk:k=C.length:=by
   have h1:k<S.length:=ah hS;rw[O.slen]at h1;rcases ah0 k C.length with h2|h2
   ·exfalso;obtain⟨c,U⟩:∃c,C[k]?=some c:=⟨C[k],ahK h2⟩;obtain⟨rc,m9,_⟩:=O.ch k c U;have b:=ah m9;have:=(hC k c U).1 (I c b);omega
   ·omega
  have n9:f=σ:=by
   rw[aiW,O.slen]at q;subst hk;have g:S[C.length]?=some σ:=q;rw[hS]at g;exact aiM g
  subst n9;have hh:fg (gT L A) f=f:=by
   rw[mu (ls':=[]) ?_]
   ·rfl
   ·intro x;simp only[kK,aj4,iff_false];rintro⟨y,hy,D,_⟩;obtain⟨r,m8,_⟩:=R y hy;have b:=ah m8;rw[I y.1 b]at D;cases D
  rw[hh]at K;refine⟨G,h0,K,⟨n6,j9,λt d hg=> ?_⟩⟩;rcases O.fin t d hg with⟨j,rj,p,z,k8,rfl⟩|⟨m5,k9⟩
  ·exact j3 j rj t z (I j p) k8
  ·exact j4 t d k9 λj rj z _=>m5 j rj (ah z) z
 intro e;induction e with
 |zero=>
  intro L a w U u E;obtain⟨b,D⟩:=fE u;have:=sd (Nat.le_zero.1 U) tab.length (by simpa using b);simp[ahR,b]at D;simp[b,D]at this
 |succ e ih=>
  intro L a w U u E;refine⟨λhr=> ?_,λi hi=> ?_⟩
  ·obtain⟨j,p⟩:=yv hp E.size tab.length tab.length (ahS _) u;rw[hr]at p;cases p
  obtain⟨n7,oi,ho,T⟩:=ajv.1 hi;obtain⟨b,D⟩:=fE n7;rcases ah0 i tab.length with W|W
  ·refine Su O hM hp R V E W hi λa' w' j7=>ih _ a' w' ?_ ?_ j7
   ·have h1:L.toList[i]?=some false:=by
     simp[ahR,b]at D;simp[b,D]
    have:=pJ h1;rw[ajC];omega
   ·rw[aje true (by omega)];exact u
  ·have l0:i=tab.length:=by
    have:=(aim.1 ho).1;omega
   subst l0;rw[ho]at Z;cases Z;have J:=sc (ops:=ops) (L:=L) E.down ops.toList [] [] (by simp) rfl (λj m oj h=>by simp at h);rw[hM]at J;have hn:pU L (M.getD tab.length 0):=by
    intro j p;cases hm:M[tab.length]? with
    |none=>rw[ah5,hm]at p;simp at p
    |some m=>
     rw[ah5,hm]at p;exact J _ m _ hm ho T j p
   have I:∀j,j<tab.length->L.getD j false=true:=λj p=>hn j (Yz F j p);obtain⟨G,h0,K,l⟩:=j6 L a w E I;have n:Region.ready .any ops (L.setIfInBounds tab.length true)=[]:=by
    rw[aiZ];intro x hx;obtain⟨n8,ox,m7,_⟩:=ajv.1 hx;obtain⟨o8,j5⟩:=fE n8;have o9:=(aim.1 m7).1;have:(L.setIfInBounds tab.length true).getD x false=true:=(gh b).2 (by
     rcases ah0 x tab.length with h|h
     ·exact .inr (I x h)
     ·exact .inl (by omega))
    rw[this]at j5;cases j5
   unfold wpOp;rw[ho];simp only;rcases hQ with⟨hw,m6⟩|⟨hw,s,H,hr⟩
   ·rw[ah2 (we l hw)];refine .inl (m6 B G w a K l _ _ ?_);rintro v w' G' d f X j8 hd ⟨s,H,hr⟩;exact K4 n ⟨G',s,f,h0.trans X.b,j8,Dl (l.mono X) H hd,hr⟩
   ·rw[air (by rw[we l hw];simp)];exact K4 n ⟨G,s,σ,h0,K,Dl l H (by simp only[Rep,undef];exact⟨#[],rfl,by simp[af]⟩),hr⟩
end
variable{Z:Nat}{Y:Gh}
def Up{fl:Nat}{P:Program}{N:Nat}{τ:Env}{σ:Sto}{ops:Array Oper}{Q:AEx->Env->Sto->Prop}(hm:P.follows .mixedOrders=true)(A:Res){M:List Nat}{pre:List Oper}{o:Oper}(l:ops.toList=pre++[o])(E:K3 pre.length (M.getD pre.length 0)=true)
 (hM:cV ops.toList []=M)(hp:hZ ops M=true)(hA:A.map (·.2.1)=List.range' σ.length A.length)
 (h:ADr P N ops A M pre 0 τ [σ++A.map λx=>am.cells x.2.2 0 0] [] [] (λT R=>iN P N ops [o] T R λj4 j3=>Q .normal j4 j3)):AWp fl P N (.region Z ops true) τ σ Q:=by
 intro B G w a hR U;have b:∀x∈A,(σ++A.map λx=>am.cells x.2.2 0 0)[x.2.1]?=some (.cells x.2.2 0 0)/\∃n,A[n]?=some x/\x.2.1=σ.length+n:=by
  intro x q;obtain⟨n,u⟩:=aiT q;have v:(A.map (·.2.1))[n]?=some x.2.1:=by simp[u]
  rw[hA]at v;have g:=ah u;rw[ajS g]at v;simp at v;refine⟨?_,n,u,v.symm⟩;rw[<-v,ahZ (by omega)];simp[u]
 have K:∀x∈A,∀y∈A,x.2.1=y.2.1->x.1=y.1:=by
  intro x q y hy e;obtain⟨_,n,u,v⟩:=b x q;obtain⟨_,m,L,h2⟩:=b y hy;have:n=m:=by omega
  subst this;rw[u]at L;cases L;rfl
 obtain⟨O,S',C',T,R,D,z,F,hK,V⟩:=P3 (suf:=[o]) (τ0:=τ) (s0:=σ++A.map λx=>am.cells x.2.2 0 0) pre τ _ [] [] [] (by simp[l]) rfl ⟨λi r h=>by simp at h,rfl,rfl,λk c h=>by simp at h,
  λx q k s X _=>by
   have:s=σ++A.map λx=>am.cells x.2.2 0 0:=by
    cases k with
    |zero=>simp at X;exact X.symm
    |succ k=>simp at X
   subst this;exact(b x q).1,λi r h=>by simp at h,λt d W=>.inr ⟨λj rj hj _=>absurd hj (akM _),W⟩,λi r t h=>by simp at h⟩ h
 have Y:ops.size=pre.length+1:=by have:=ain List.length l;simpa using this
 have H:O.length=pre.length:=by simp at D;omega
 refine wp_region_any hm (We z hM hp (by simpa using D) (o:=o) (by rw[H,<-Array.getElem?_toList,l];simp) (by rw[H];exact E) V K F hK ops.size _ a _ (by simp) (by simp[ahR,H,Y]) ⟨by simp,λj oj j5 I=> ?_,?_⟩)
 ·exfalso;rcases ah0 j ops.size with f|f
  ·simp[ahR,f]at I
  ·simp[ahR,f]at I
 ·have p:∀j,(Array.replicate ops.size false).getD j false=false:=by
   intro j;rcases ah0 j ops.size with f|f
   ·simp[ahR,f]
   ·simp[ahR,f]
  refine⟨G,0,_,.refl G,z.hd,λk' c hc=> ?_,?_,U.size,U.defers,λi r t _ I _=> ?_,λt d W _=>U.slot t d W⟩
  ·rw[p c];simp
  ·have:fg (gT (Array.replicate ops.size false) A) (σ++A.map λx=>am.cells x.2.2 0 0)=σ++List.replicate A.length .dead:=by
    refine Cv λx=> ?_;rw[lA];have J:x∈gT (Array.replicate ops.size false) A↔(σ.length<=x/\x<σ.length+A.length):=by
     rw[kK];constructor
     ·rintro⟨y,hy,_,rfl⟩;obtain⟨_,n,u,v⟩:=b y hy;have:=ah u;omega
     ·rintro⟨v,h2⟩;have g:x-σ.length<A.length:=by omega
      refine⟨A[x-σ.length],aiL _,p _,?_⟩;obtain⟨_,n,u,h3⟩:=b _ (aiL g);have h4:(A.map (·.2.1))[x-σ.length]?=some (A[x-σ.length]).2.1:=by simp[g]
      rw[hA,ajS g]at h4;simp at h4;omega
    by_cases q:σ.length<=x/\x<σ.length+A.length
    ·rw[ah2 ⟨J.2 q,by simp;exact q.2⟩,ahZ q.1,akS,ah2 (by omega)]
    ·rw[air (λh=>q (J.1 h.1))];rcases ah0 x σ.length with f|f
     ·rw[ahT f,ahT f]
     ·rw[ah3 (by simp;omega),ah3 (by simp;omega)]
   rw[this];exact(hR.dead _).drawn
  ·rw[p i]at I;cases I
end Go.Fw
namespace Go.Fw
noncomputable section
open Go.RowKit
def Pw(ops:Array Oper):Option (List Oper×Oper):=match ops.toList.reverse with
 |[]=>none
 |o::r=>match o.op with
  |.call c=>match c.callee with
   |.builtin _=>none
   |_=>match K3 r.reverse.length ((cV ops.toList []).getD r.reverse.length 0) with
    |true=>some (r.reverse,o)
    |false=>none
  |_=>none
def aaa{ops:Array Oper}{pre:List Oper}{o:Oper}(h:Pw ops=some (pre,o)):ops.toList=pre++[o]/\K3 pre.length ((cV ops.toList []).getD pre.length 0)=true:=by
 unfold Pw at h;split at h<;>try (cases h;done)
 rename_i c r b;split at h<;>try (cases h;done)
 split at h<;>try (cases h;done)
 split at h<;>try (cases h;done)
 rename_i a;cases h;refine⟨?_,a⟩;have:=ain List.reverse b;simpa using this
def RE{α:Type}(cx:Cx)(fid N:Nat)(a:oe α)(ops:Array Oper)(pre:List Oper)(o:Oper)(τ:ax)(S:ae)(K:ax->ae->Option α):Option α:=
 HF S 0 λn=>(rO cx.T ops.toList 0 n).bind λA=>match hZ ops (cV ops.toList []) with
  |true=>E8 (S++A.map λx=>kR.cells (mP x.2.2) false) λb=>sdr cx fid N ops A (cV ops.toList []) pre 0 τ b A [] [] λc b=>EU cx fid N a ops [o] c b K
  |false=>none
section
variable {α:Type}{cx:Cx}{fid N:Nat}{r:α}
def Xl(p:nT cx){b:oe α}(m:ti cx.P b){i id:Nat}{ops:Array Oper}{τ:ax}{τ':Env}{S:ae}{σ:Sto}{K:ax->ae->Option α}(z:StR S σ)(H:ER S σ τ τ'){pre:List Oper}{o:Oper}(J:Pw ops=some (pre,o))(h:RE cx fid N b ops pre o τ S K=some r):
 AWp i cx.P N (.region id ops true) τ' σ λe w v=>e=.normal/\og S σ K r w v:=by
 simp only[RE,zb,qO,aiA]at h;obtain⟨f,q⟩:=aaa J;obtain⟨A,E,h⟩:=ak h;split at h<;>try (cases h;done)
 rename_i L;obtain⟨B,F⟩:=StR.pushes A z;have g:=uJ E;have d:∀x∈A,∃n:Nat,n<A.length/\x.2.1=σ.length+n/\A[n]?=some x:=by
  intro x a;obtain⟨n,y⟩:=aiT a;have c:(A.map (·.2.1))[n]?=some x.2.1:=by simp[y]
  rw[g,ajS (ah y)]at c;simp at c;exact⟨n,ah y,by rw[<-z.len];exact c.symm,y⟩
 refine Up (pre:=pre) (o:=o) (p.mix) A f q rfl L (by rw[g,z.len]) ?_;refine HN (A:=A) (M:=cV ops.toList []) (done:=[]) (suf:=[o]) p (λx a=> ?_) pre [] 0 τ τ' _ _ A [] [] _ [] _ (by simp[f]) rfl ?_ B (H.pres F) h ?_
 ·obtain⟨k,o,e,c,t,u,G⟩:=HM E a;exact⟨k,o,e,by omega,t,u,G⟩
 ·refine⟨rfl,rfl,?_,?_,?_,?_,rfl,?_,rfl⟩
  ·intro k s C l _;cases k with
   |zero=>simp at C;subst C;rfl
   |succ k=>simp at C
  ·intro x a _;obtain⟨n,c,t,u⟩:=d x a;rw[t,ahZ (by omega)];simp[u]
  ·intro x a;obtain⟨n,c,t,u⟩:=d x a;simp;omega
  ·intro j T I;simp at I
  ·intro x a;simp at a
 ·rintro w v ⟨Q,R,c,t,D,u⟩;refine iN.monoK ?_ _ _ _ (Dt p m _ _ _ _ _ t c u);intro P O x;exact⟨rfl,x.trans (F.trans D)⟩
end
end
end Go.Fw
namespace Go.Fw
open Go.RowKit
def zj:List Nat->Nat->Nat->Option Nat
 |[],_,_=>none
 |j::r,i,k=>match Nat.beq j i with
  |true=>some k
  |false=>zj r i (k+1)
def A1{a b:Nat}(h:Nat.beq a b=true):a=b:=ai5 h
def Gx:∀{ids:List Nat}{i k m:Nat},zj ids i k=some m->∃j,m=k+j/\ids[j]?=some i
 |[],_,_,_,h=>by simp[zj]at h
 |x::r,i,k,m,h=>by
  simp only[zj]at h;split at h
  ·rename_i e;cases h;exact⟨0,rfl,by simp[A1 e]⟩
  ·obtain⟨j,b,a⟩:=Gx h;exact⟨j+1,by omega,by simpa using a⟩
def NU:∀{ids:List Nat}{i k:Nat},zj ids i k=none->i ∉ ids
 |[],_,_,_=>by simp
 |x::r,i,k,h=>by
  simp only[zj]at h;split at h
  ·cases h
  ·rename_i e;have:=NU h;simp only[aib,not_or];exact⟨λa=>(by subst a;rw[Nat.beq_refl]at e;cases e),this⟩
def zk(ids:List Nat):List Edge->List Edge
 |[]=>[]
 |e::a=>match Region.binds .any e with
  |true=>match zj ids e.on 0 with
   |some k=>{e with on:=k}::zk ids a
   |none=>zk ids a
  |false=>zk ids a
def P4{ids:List Nat}{b:Edge}:∀{es:List Edge},b∈zk ids es->∃e∈es,Region.binds .any e=true/\zj ids e.on 0=some b.on
 |[],h=>by simp[zk]at h
 |e::es,h=>by
  have a:b∈zk ids es->∃x∈e::es,Region.binds .any x=true/\zj ids x.on 0=some b.on:=λh=>by
   obtain⟨x,c,d⟩:=P4 h;exact⟨x,ah4 _ c,d⟩
  simp only[zk]at h;split at h
  ·rename_i f;split at h
   ·rename_i k g;rcases aib.1 h with rfl|h
    ·exact⟨e,aio ..,f,g⟩
    ·exact a h
   ·exact a h
  ·exact a h
def P5{ids:List Nat}{e:Edge}{k:Nat}(b:Region.binds .any e=true)(c:zj ids e.on 0=some k):∀{es:List Edge},e∈es->({e with on:=k}:Edge)∈zk ids es
 |[],h=>by simp at h
 |x::es,h=>by
  simp only[zk];rcases aib.1 h with rfl|h
  ·rw[b];simp only[c];exact aio ..
  ·have a:=P5 b c h;split
   ·split
    ·exact ah4 _ a
    ·exact a
   ·exact a
def DX(ids:List Nat)(o:Oper):Oper:={o with after:=(zk ids o.after.toList).toArray}
def JG(ops:Array Oper)(all:List Nat):List Nat->List Oper
 |[]=>[]
 |i::r=>match ops[i]? with
  |some o=>DX all o::JG ops all r
  |none=>JG ops all r
def gU(ops:Array Oper)(ids:List Nat):Array Oper:=(JG ops ids ids).toArray
def JH{ops:Array Oper}{all:List Nat}:∀{ids:List Nat},(∀i∈ids,i<ops.size)->(JG ops all ids).length=ids.length/\∀k:Nat,(JG ops all ids)[k]?=(ids[k]?).bind λi=>(ops[i]?).map (DX all)
 |[],_=>by simp[JG]
 |i::r,h=>by
  obtain⟨b,c⟩:=JH (ops:=ops) (all:=all) (ids:=r) (λi a=>h i (ah4 _ a));have a:ops[i]?=some (ops[i]'(h i (aio ..))):=ah8 _;simp only[JG,a];refine⟨by simp[b],λk=> ?_⟩;cases k with
  |zero=>simp[a]
  |succ k=>simpa using c k
section
variable {P:Program}{ops:Array Oper}{ids:List Nat}
def BW(a:∀i∈ids,i<ops.size):(gU ops ids).size=ids.length:=by
 unfold gU;simpa using (JH (ops:=ops) (all:=ids) a).1
def tC(a:∀i∈ids,i<ops.size){k i:Nat}(h:ids[k]?=some i):∃o,ops[i]?=some o/\(gU ops ids)[k]?=some (DX ids o):=by
 have b:ops[i]?=some (ops[i]'(a i (List.mem_of_getElem? h))):=ah8 _;refine⟨_,b,?_⟩;unfold gU;rw[List.getElem?_toArray,(JH (ops:=ops) (all:=ids) a).2 k,h];simp[b]
def Uq(a:∀i∈ids,i<ops.size){k:Nat}{o':Oper}(h:(gU ops ids)[k]?=some o'):∃i o,ids[k]?=some i/\ops[i]?=some o/\o'=DX ids o:=by
 have c:k<ids.length:=by rw[<-BW a];exact(aim.1 h).1
 obtain⟨o,d,b⟩:=tC a (ahK c);rw[h]at b;cases b;exact⟨_,o,ahK c,d,rfl⟩
def qI(ops:Array Oper):Bool:=ops.toList.all λo=>o.guard.isNone
def DY(h:qI ops=true){i:Nat}{o:Oper}(a:ops[i]?=some o):o.guard=none:=by
 have:=aie.1 h o (List.mem_of_getElem? (by rw[ais];exact a));simpa using this
def P6{Q:Exit->Act->World->Prop}{K:Act->World->Prop}{a:Act}{w:World}(g:qI ops=true){k i:Nat}{o:Oper}(b:ops[i]?=some o)(f:(gU ops ids)[k]?=some (DX ids o))(h:wpOp P (gU ops ids) Q k K a w):wpOp P ops Q i K a w:=by
 have c:=DY g b;unfold wpOp at h⊢;rw[f]at h;rw[b];simp only at h⊢;have d:∀y,Region.wanted o y=true:=λy=>by unfold Region.wanted;rw[c]
 have e:∀y,Region.wanted (DX ids o) y=true:=λy=>by unfold Region.wanted DX;simp only[c]
 rw[ah2 (e _)]at h;rw[ah2 (d _)];exact h
def A2{Q:Exit->Act->World->Prop}{K:Act->World->Prop}{a:Act}{w:World}(d:qI ops=true){i:Nat}{o:Oper}(b:ops[i]?=some o)(h:o.wp P a w K Q):wpOp P ops Q i K a w:=by
 have e:=DY d b;unfold wpOp;rw[b];simp only;have c:∀y,Region.wanted o y=true:=λy=>by unfold Region.wanted;rw[e]
 rw[ah2 (c _)];exact .inl h
structure Sb(ids:List Nat)(n:Nat)(L L':Array Bool):Prop where
 s1:L.size=n
 s2:L'.size=ids.length
 at':∀(k i:Nat),ids[k]?=some i->L.getD i false=L'.getD k false
def If{L:Array Bool}{i:Nat}(h:i<L.size):L.getD i true=L.getD i false:=by
 simp[ahR,h]
def SX{L:Array Bool}{i:Nat}(h:L.getD i true=false):L.getD i false=false:=(fE h).2
def Sb.tr{n:Nat}{L L':Array Bool}(h:Sb ids n L L')(b:∀i∈ids,i<n){k i:Nat}(a:ids[k]?=some i):L.getD i true=L'.getD k true:=by
 rw[If (by rw[h.s1];exact b i (List.mem_of_getElem? a)),If (by rw[h.s2];exact(ai8.1 a).1)];exact h.at' k i a
def Sb.set{n:Nat}{L L':Array Bool}(h:Sb ids n L L')(p:ids.Nodup)(g:∀i∈ids,i<n){k i:Nat}(b:ids[k]?=some i):Sb ids n (L.setIfInBounds i true) (L'.setIfInBounds k true):=by
 refine⟨by simp[h.s1],by simp[h.s2],λm j a=> ?_⟩;have d:i<L.size:=by rw[h.s1];exact g i (List.mem_of_getElem? b)
 have f:k<L'.size:=by rw[h.s2];exact(ai8.1 b).1
 by_cases e:m=k
 ·subst e;rw[b]at a;cases a;rw[(gh d).2 (.inl rfl),(gh f).2 (.inl rfl)]
 ·have c:j≠i:=λc=>by
   subst c;obtain⟨q,l⟩:=ai8.1 a;obtain⟨r,o⟩:=ai8.1 b;exact e ((List.getElem_inj p).1 (l.trans o.symm))
  rw[aje false (ajt c),aje false (ajt e)];exact h.at' m j a
def YA{L L':Array Bool}(h:Sb ids ops.size L L')(a:∀i∈ids,i<ops.size)(v:ids.Nodup){k i:Nat}(n:ids[k]?=some i)(u:k∈Region.ready .any (gU ops ids) L')
 (t:∀o,ops[i]?=some o->∀e∈o.after,Region.binds .any e=true->e.on ∉ ids->L.getD e.on false=true):i∈Region.ready .any ops L:=by
 obtain⟨q,w,r,s⟩:=ajv.1 u;obtain⟨o,f,g⟩:=tC a n;rw[r]at g;cases g;refine ajv.2 ⟨by rw[h.tr a n];exact q,o,f,λe l b=> ?_⟩;cases c:zj ids e.on 0 with
 |none=>exact t o f e l b (NU c)
 |some m=>
  obtain⟨j,d,p⟩:=Gx c;rw[aiA]at d;subst d;rw[h.at' m e.on p];have:=P5 b c (es:=o.after.toList) (by simpa using l);exact s {e with on:=m} (by unfold DX;simpa using this) (by simpa[Region.binds] using b)
def JI{L L':Array Bool}(h:Sb ids ops.size L L')(b:∀i∈ids,i<ops.size){k i:Nat}(g:ids[k]?=some i)(u:i∈Region.ready .any ops L):k∈Region.ready .any (gU ops ids) L':=by
 obtain⟨q,o,r,s⟩:=ajv.1 u;obtain⟨v,f,t⟩:=tC b g;rw[r]at f;cases f;refine ajv.2 ⟨by rw[<-h.tr b g];exact q,_,t,λc a _=> ?_⟩;have a:c∈zk ids o.after.toList:=by unfold DX at a;simpa using a
 obtain⟨e,m,n,p⟩:=P4 a;obtain⟨j,d,l⟩:=Gx p;rw[aiA]at d;subst d;rw[<-h.at' c.on e.on l];exact s e (by simpa using m) n
def Wf{Q:Exit->Act->World->Prop}(G:qI ops=true)(c:∀i∈ids,i<ops.size)(C:ids.Nodup)(q:DT ops.toList 0=true):∀(b:Nat)(L L':Array Bool)(a:Act)(w:World),Sb ids ops.size L L'->
 (∀i,i<ops.size->i ∉ ids->L.getD i false=true)->wpAny P .any (gU ops ids) Q b L' a w->wpAny P .any ops Q b L a w:=by
 have s:∀{L:Array Bool},(∀i,i<ops.size->i ∉ ids->L.getD i false=true)->∀{i:Nat} o,ops[i]?=some o->∀e∈o.after,Region.binds .any e=true->e.on ∉ ids->L.getD e.on false=true:=by
  intro L d i o v e F E B;have t:=DU q (i:=i) (o:=o) (by rw[ais];exact v) e F E;have m:=(aim.1 v).1;exact d _ (by omega) B
 have z:∀{L L':Array Bool},Sb ids ops.size L L'->(∀i,i<ops.size->i ∉ ids->L.getD i false=true)->Region.ready .any ops L=[]->Region.ready .any (gU ops ids) L'=[]:=by
  intro L L' h d y;rw[aiZ]at y⊢;intro k f;obtain⟨_,K,m,_⟩:=ajv.1 f;obtain⟨i,o,D,J,_⟩:=Uq c m;exact y i (YA h c C D f λo v=>s d o v)
 have g:∀{L:Array Bool},(∀i,i<ops.size->i ∉ ids->L.getD i false=true)->∀{i:Nat},i∈Region.ready .any ops L->∃k:Nat,ids[k]?=some i:=by
  intro L d i l;obtain⟨t,o,m,_⟩:=ajv.1 l;have n:=(aim.1 m).1;by_cases u:i∈ids
  ·exact aiT u
  ·have:=d i n u;rw[SX t]at this;cases this
 intro b;induction b with
 |zero=>
  intro L L' a w h d r;refine⟨?_,r.2⟩;rw[aiZ];intro i l;obtain⟨k,f⟩:=g d l;have:=JI h c f l;rw[r.1]at this;cases this
 |succ b I=>
  intro L L' a w h d r;refine⟨λy=>r.1 (z h d y),λi l=> ?_⟩;obtain⟨k,f⟩:=g d l;have A:=JI h c f l;obtain⟨o,t,m⟩:=tC c f;refine wpOp_mono (λa w x=>I _ _ a w (h.set C c f) (λj H p=> ?_) x) (P6 G t m (r.2 k A));have u:=List.mem_of_getElem? f;rw[aje false (λe=>p (by rw[<-e];exact u))];exact d j H p
def tA.step{L:Array Bool}(h:tA ops L)(q:L.size=ops.size){i:Nat}(n:i∈Region.ready .any ops L):tA ops (L.setIfInBounds i true):=by
 obtain⟨k,o,l,m⟩:=ajv.1 n;have b:=(fE k).1;intro j p a d e g f;have c:L.getD e.on false=true:=by
  rcases (gh b).1 d with rfl|d
  ·rw[l]at a;cases a;exact m e g f
  ·exact h j p a d e g f
 exact(gh b).2 (.inr c)
def Sv{Q:Exit->Act->World->Prop}{M:List Nat}{c:Nat}{J:Array Bool->Act->World->Prop}(Y:qI ops=true)(r:∀i∈ids,i<ops.size)(hn:ids.Nodup)(X:cV ops.toList []=M)(hp:hZ ops M=true)(I:c<ops.size)(y:c ∉ ids){m:Nat}(Z:1<=m)
 (t:∀i,i<ops.size->i ∉ ids->i≠c->Nat.testBit (M.getD i 0) c=true)
 (u:∀(L':Array Bool)(a:Act)(w:World)(k:Nat),J L' a w->k∈Region.ready .any (gU ops ids) L'->∀K:Act->World->Prop,(∀D E,J (L'.setIfInBounds k true) D E->K D E)->wpOp P (gU ops ids) Q k K a w)
 (f:∀(b:Nat)(L L':Array Bool)(a:Act)(w:World),J L' a w->Sb ids ops.size L L'->(∀i,i<ops.size->i ∉ ids->L.getD i false=false)->tA ops L->pU L (M.getD c 0)->L'.toList.count false+m<=b+1->wpOp P ops Q c (wpAny P .any ops Q b (L.setIfInBounds c true)) a w):
 ∀(b:Nat)(L L':Array Bool)(a:Act)(w:World),J L' a w->Sb ids ops.size L L'->(∀i,i<ops.size->i ∉ ids->L.getD i false=false)->tA ops L->L'.toList.count false+m<=b->wpAny P .any ops Q b L a w:=by
 have v:∀{L L':Array Bool},Sb ids ops.size L L'->(∀i,i<ops.size->i ∉ ids->L.getD i false=false)->∃j,j∈Region.ready .any ops L:=by
  intro L L' h n;exact yv hp h.s1 c c (ahS _) (by rw[If (by rw[h.s1];exact I)];exact n c I y)
 have d:∀{L:Array Bool},tA ops L->∀{i:Nat},i∈Region.ready .any ops L->pU L (M.getD i 0):=by
  intro L p i q;obtain⟨R,o,F,S⟩:=ajv.1 q;have x:=sc (ops:=ops) (L:=L) p ops.toList [] [] (by simp) rfl (λj m oj h=>by simp at h);rw[X]at x;intro j g;cases s:M[i]? with
  |none=>rw[ah5,s]at g;simp at g
  |some m=>
   rw[ah5,s]at g;exact x i m o s F S j g
 intro b;induction b with
 |zero=>
  intro L L' a w G h n p l;exfalso;omega
 |succ b ih=>
  intro L L' a w G h n p l;refine⟨λhr=> ?_,λi q=> ?_⟩
  ·obtain⟨j,g⟩:=v h n;rw[hr]at g;cases g
  obtain⟨R,o,F,S⟩:=ajv.1 q;have N:=(aim.1 F).1;by_cases z:i=c
  ·subst z;exact f b L L' a w G h n p (d p q) l
  by_cases s:i∈ids
  ·obtain⟨k,A⟩:=aiT s;have O:=JI h r A q;obtain⟨o',U,V⟩:=tC r A;refine P6 Y U V (u L' a w k G O _ λD E H=>ih _ _ D E H (h.set hn r A) (λj g C=> ?_) (p.step h.s1 q) ?_)
   ·rw[aje false (λe=>C (by rw[<-e];exact s))];exact n j g C
   ·have T:L'.getD k false=false:=by rw[<-h.at' k i A];exact SX R
    have W:L'.toList[k]?=some false:=by
     have B:k<L'.size:=by rw[h.s2];exact(ai8.1 A).1
     simp[ahR,B]at T;simp[B,T]
    have:=pJ W;rw[ajC];omega
  ·have:=d p q c (t i N s z);rw[n c I y]at this;cases this
end
end Go.Fw
def ai2:=@Bool.not_true
def akN:=@List.nodup_cons
namespace Go.Fw
open Go.RowKit
def ADg(P:Program)(N:Nat)(ops:Array Oper)(A:Res)(M:List Nat)(fr:Nat->Bool):List Oper->Nat->Env->List Sto->List Nat->List Rc->(Env->Sto->Prop)->Prop
 |[],_,τ,S,_,tab,K=>kg (λ(x:Nat×Nat×List D)=>∃r,tab[x.1]?=some r/\r.kd=.alloc x.2.1 x.2.2) A/\∃σ,S.getLast?=some σ/\K τ σ
 |o::r,i,τ,S,C,tab,K=>
  (df ops (rst ops o τ) o=some false/\∃τ2,iq N o.dst (.tuple []) τ=some τ2/\ADg P N ops A M fr r (i+1) τ2 S C (tab++[⟨o,rst ops o τ,.tuple [],.skip⟩]) K)∨
  (df ops (rst ops o τ) o=some true/\∃d τ2,
    kg (λs=>AOp P N o (rst ops o τ) s λb c=>b=d/\c=s) ((oV (M.getD i 0) S C).flatMap λσ=>(jg A (M.getD i 0)).map (fg · σ))/\
    iq N o.dst d τ=some τ2/\ADg P N ops A M fr r (i+1) τ2 S C (tab++[⟨o,rst ops o τ,d,.read⟩]) K)∨
  (df ops (rst ops o τ) o=some true/\DS (M.getD i 0) C=true/\fr i=false/\∃d τ2 σ a,S.getLast?=some σ/\
    kg (λg=>AOp P N o (rst ops o τ) (fg g σ) λb c=>b=d/\c=fg g a) (jg A (M.getD i 0))/\
    kg (λ(x:Rc×Sto)=>AOp P N x.1.o x.1.env x.2 λb c=>b=x.1.v/\c=x.2) (reS A M (C++[i]) a 0 tab)/\
    kg (λ(x:Nat×Nat×List D)=>match Nat.testBit (M.getD i 0) x.1 with|true=>True|false=>a[x.2.1]?=some (.cells x.2.2 0 0)) A/\
    iq N o.dst d τ=some τ2/\ADg P N ops A M fr r (i+1) τ2 (S++[a]) (C++[i]) (tab++[⟨o,rst ops o τ,d,.chain C.length⟩]) K)∨
  (df ops (rst ops o τ) o=some true/\∃e l f τ2,o.op=.alloc e/\tB A i=some (l,f)/\oJ P e=some f/\
    iq N o.dst (.ptr l 0 0) τ=some τ2/\ADg P N ops A M fr r (i+1) τ2 S C (tab++[⟨o,rst ops o τ,.ptr l 0 0,.alloc l f⟩]) K)
section
variable {P:Program}{N:Nat}{ops:Array Oper}{A:Res}{M:List Nat}{τ0:Env}{s0:Sto}{tab:List Rc}{S:List Sto}{C:List Nat}{τ τ2:Env}
def SY{fr:Nat->Bool}{K:Env->Sto->Prop}:∀(r:List Oper)(τ:Env)(S:List Sto)(C:List Nat)(tab:List Rc)(pre:List Oper),ops.toList=pre++r->tab.length=pre.length->
 (∀c∈C,fr c=false)->jh P N ops A M τ0 s0 tab S C τ->ADg P N ops A M fr r tab.length τ S C tab K->
 ∃(a:List Rc)(S':List Sto)(b:List Nat)(τ':Env)(σ':Sto),a.length=ops.size/\jh P N ops A M τ0 s0 a S' b τ'/\S'.getLast?=some σ'/\K τ' σ'/\(∀c∈b,fr c=false)/\(∀x∈A,∃r:Rc,a[x.1]?=some r/\r.kd=.alloc x.2.1 x.2.2)
 |[],τ,S,C,tab,pre,hops,hlen,hF,hT,h=>by
  obtain⟨t,σ,F,G⟩:=h;have:ops.size=pre.length:=by have:=ain List.length hops;simpa using this
  exact⟨tab,S,C,τ,σ,by omega,hT,F,G,hF,t.mem⟩
 |o::r,τ,S,C,tab,pre,hops,hlen,hF,hT,h=>by
  have ho:ops[tab.length]?=some o:=by rw[<-ais,hops,hlen];simp
  have next:∀(p:Rc)(τ2:Env)(S':List Sto)(b:List Nat),p.o=o->(∀c∈b,fr c=false)->jh P N ops A M τ0 s0 (tab++[p]) S' b τ2->ADg P N ops A M fr r (tab.length+1) τ2 S' b (tab++[p]) K->
   ∃(a:List Rc)(S':List Sto)(b:List Nat)(τ':Env)(σ':Sto),a.length=ops.size/\jh P N ops A M τ0 s0 a S' b τ'/\S'.getLast?=some σ'/\K τ' σ'/\(∀c∈b,fr c=false)/\(∀x∈A,∃r:Rc,a[x.1]?=some r/\r.kd=.alloc x.2.1 x.2.2):=by
   intro p τ2 S' b L q s E;exact SY r τ2 S' b (tab++[p]) (pre++[o]) (by simp[hops]) (by simp[hlen]) q s (by simpa using E)
  rcases h with⟨m,τ2,j,h⟩|⟨m,d,τ2,f,j,h⟩|⟨m,i,v,d,τ2,σ,σ',g,f,B,n,j,h⟩|⟨m,e,l,D,τ2,z,H,I,j,h⟩
  ·exact next ⟨o,rst ops o τ,.tuple [],.skip⟩ τ2 S C rfl hF (hT.push ho ⟨m,rfl⟩ j rfl) h
  ·refine next ⟨o,rst ops o τ,d,.read⟩ τ2 S C rfl hF (hT.push ho ⟨m,λk σ hk hwin ls hls=> ?_⟩ j rfl) h
   refine f.mem _ (akE.2 ⟨σ,AY hk λJ c hc y=>(hwin J c hc).2 y,aiG.2 ⟨ls,hls,rfl⟩⟩)
  ·refine next ⟨o,rst ops o τ,d,.chain C.length⟩ τ2 (S++[σ']) (C++[tab.length]) rfl (λc hc=>by rcases aiv.1 hc with hc|hc;exact hF c hc;(simp at hc;subst hc;exact v)) (hT.pushC ho rfl ⟨m,by simp,λO c w hc=> ?_,σ,σ',?_,?_,λls hls=>f.mem ls hls⟩ B.mem n.mem j rfl) h
   ·have u:C.getLast?=some c:=by
     rw[ahT (by omega)]at hc;rw[aiW,w];exact hc
    unfold DS at i;rw[u]at i;exact i
   ·have:S[C.length]?=some σ:=by
     rw[aiW,hT.slen]at g;exact g
    exact ju this
   ·rw[<-hT.slen];simp
  ·refine next ⟨o,rst ops o τ,.ptr l 0 0,.alloc l D⟩ τ2 S C rfl hF (hT.push ho ⟨m,Gu H,rfl,e,z,I⟩ j rfl) h
end
section
variable {fl:Nat}{P:Program}{N:Nat}{ops:Array Oper}{A:Res}{M:List Nat}{τ τ1:Env}{σ:Sto}{tab:List Rc}{S:List Sto}{C:List Nat}
def ia:Res->Sto->Sto
 |[],s=>s
 |(_,l,a)::A,s=>(ia A s).set l (.cells a 0 0)
def DZ:∀(A:Res)(s:Sto),(ia A s).length=s.length
 |[],_=>rfl
 |(_,l,a)::A,s=>by simp[ia,DZ A s]
def Gy:∀(A:Res)(s:Sto)(y:Nat),y ∉ A.map (·.2.1)->(ia A s)[y]?=s[y]?
 |[],_,_,_=>rfl
 |(_,l,a)::A,s,y,h=>by
  simp only[ahX,aib,not_or]at h;simp only[ia];rw[aiq (ajt h.1)];exact Gy A s y h.2
def K5:∀(A:Res)(s:Sto),(A.map (·.2.1)).Nodup->(∀x∈A,x.2.1<s.length)->∀x∈A,(ia A s)[x.2.1]?=some (.cells x.2.2 0 0)
 |[],_,_,_,x,a=>by simp at a
 |(j,l,g)::A,s,b,d,x,a=>by
  simp only[ahX,akN]at b;simp only[ia];rcases aib.1 a with rfl|a
  ·rw[aiD (by rw[DZ];exact d _ (aio ..))]
  ·have c:l≠x.2.1:=λe=>b.1 (e▸aiG.2 ⟨x,a,rfl⟩);rw[aiq c];exact K5 A s b.2 (λy f=>d y (ah4 _ f)) x a
def Sw{A:Res}{s:Sto}(h:∀x∈A,s[x.2.1]?=some .dead):fg (A.map (·.2.1)) (ia A s)=s:=by
 refine Cv λy=> ?_;rw[lA,DZ];by_cases a:y∈A.map (·.2.1)
 ·obtain⟨x,c,rfl⟩:=aiG.1 a;have b:=h x c;rw[ah2 ⟨a,ah b⟩,b]
 ·rw[air (λh=>a h.1),Gy A s y a]
def zl:∀{A:Res},(A.map (·.2.1)).Nodup->∀x∈A,∀y∈A,x.2.1=y.2.1->x.1=y.1
 |[],_,x,d,_,_,_=>by simp at d
 |z::A,c,x,d,y,f,e=>by
  simp only[ahX,akN]at c;rcases aib.1 d with a|a<;>rcases aib.1 f with b|b
  ·rw[a,b]
  ·exact absurd (aiG.2 ⟨y,b,by rw[<-e,a]⟩) c.1
  ·exact absurd (aiG.2 ⟨x,a,by rw[e,b]⟩) c.1
  ·exact zl c.2 x a y b e
structure Ini(A:Res)(s σ:Sto):Prop where
 nd:(A.map (·.2.1)).Nodup
 dead:∀x∈A,s[x.2.1]?=some .dead
 ext:∃n,s=σ++List.replicate n .dead
def Ini.get{s:Sto}(h:Ini A s σ):∀x∈A,(ia A s)[x.2.1]?=some (.cells x.2.2 0 0):=K5 A s h.nd λx a=>ah (h.dead x a)
def adp{s:Sto}(h:Ini A s σ):jh P N ops A M τ (ia A s) [] [ia A s] [] τ:=
 ⟨λi r h=>by simp at h,rfl,rfl,λk c h=>by simp at h,
   λx f k g a _=>by
    have:g=ia A s:=by
     cases k with
     |zero=>simp at a;exact a.symm
     |succ k=>simp at a
    subst this;exact h.get x f,λi r h=>by simp at h,λt d b=>.inr ⟨λj l e _=>absurd e (akM _),b⟩,λi r t h=>by simp at h⟩
def adq{s:Sto}(h:Ini A s σ)(g:jh P N ops A M τ (ia A s) tab S C τ1){B:dN P}{G0 G:Gh}(o:G0.LeB fl G){w:World}{a:Act}(p:Rel B G σ w)(m:gw G N τ a):
 Inv fl ops A τ tab S C N B G0 (Array.replicate ops.size false) a w:=by
 refine⟨by simp,λj E v f=> ?_,?_⟩
 ·exfalso;rcases ah0 j ops.size with e|e
  ·simp[ahR,e]at f
  ·simp[ahR,e]at f
 ·have b:∀j,(Array.replicate ops.size false).getD j false=false:=by
   intro j;rcases ah0 j ops.size with e|e
   ·simp[ahR,e]
   ·simp[ahR,e]
  refine⟨G,0,_,o,g.hd,λD c z=> ?_,?_,m.size,m.defers,λi r t _ f _=> ?_,λt d q _=>m.slot t d q⟩
  ·rw[b c];simp
  ·have:fg (gT (Array.replicate ops.size false) A) (ia A s)=s:=by
    rw[mu (ls':=A.map (·.2.1)) ?_]
    ·exact Sw h.dead
    ·intro y;rw[kK,aiG];exact⟨λ⟨x,k,_,l⟩=>⟨x,k,l⟩,λ⟨x,k,l⟩=>⟨x,k,b _,l⟩⟩
   rw[this];obtain⟨n,u⟩:=h.ext;rw[u];exact p.dead _
  ·rw[b i]at f;cases f
def Drn(P:Program)(N:Nat)(ops:Array Oper)(τ:Env)(σ:Sto)(K:Env->Sto->Prop):Prop:=∃(A:Res)(s:Sto),hZ ops (cV ops.toList [])=true/\Ini A s σ/\
 ADr P N ops A (cV ops.toList []) ops.toList 0 τ [ia A s] [] [] K
variable{Z:Nat}
def Wg{Q:AEx->Env->Sto->Prop}(h:Drn P N ops τ σ λf e=>Q .normal f e){B:dN P}{G0 G:Gh}(k:G0.LeB fl G){w:World}{a:Act}(m:Rel B G σ w)(n:gw G N τ a)(o:ops.size<=Z):
 wpAny P .any ops (mt fl B G0 N Q) Z (Array.replicate ops.size false) a w:=by
 obtain⟨A,s,p,g,h⟩:=h;obtain⟨j,r,q,f,e,d,b,c,l,i⟩:=MG (τ0:=τ) (s0:=ia A s) ops.toList τ _ [] [] [] (by simp) rfl (adp g) h;exact P2 b rfl p d i (zl g.nd) c l Z _ a w (by simp;exact o) (adq g b k m n)
def D0(fl:Nat)(P:Program)(N:Nat)(ops:Array Oper)(τ:Env)(σ:Sto)(Q:AEx->Env->Sto->Prop):Prop:=
 ∀(B:dN P)(G0 G:Gh)(w:World)(a:Act)(b:Nat),G0.LeB fl G->Rel B G σ w->gw G N τ a->ops.size<=b->wpAny P .any ops (mt fl B G0 N Q) b (Array.replicate ops.size false) a w
def D0.awp{Q:AEx->Env->Sto->Prop}(d:P.follows .mixedOrders=true)(h:D0 fl P N ops τ σ Q):AWp fl P N (.region Z ops true) τ σ Q:=
 λB G w a b c=>wp_region_any d (h B G G _ a ops.size (.refl G) b.drawn c (ahS _))
def Drn.any{Q:AEx->Env->Sto->Prop}(h:Drn P N ops τ σ λb a=>Q .normal b a):D0 fl P N ops τ σ Q:=
 λ_ _ _ _ _ _ c d e f=>Wg h c d e f
def eM(M:List Nat)(c n:Nat):List Nat:=(List.range n).filter λj=> !(Nat.beq j c)&& !(Nat.testBit (M.getD j 0) c)
def vP(M:List Nat)(c n:Nat):List Nat:=(List.range n).filter λj=> !(Nat.beq j c)&&Nat.testBit (M.getD j 0) c
def D1{a b:Nat}:Nat.beq a b=false↔a≠b:=by
 constructor
 ·intro h e;subst e;rw[Nat.beq_refl]at h;cases h
 ·intro h;cases c:Nat.beq a b with
  |false=>rfl
  |true=>exact absurd (A1 c) h
def yR{c n j:Nat}:j∈eM M c n↔j<n/\j≠c/\Nat.testBit (M.getD j 0) c=false:=by
 unfold eM;simp[akq,D1]
def zm{c n j:Nat}:j∈vP M c n↔j<n/\j≠c/\Nat.testBit (M.getD j 0) c=true:=by
 unfold vP;simp[akq,D1]
def P7(p q:Nat->Bool):∀l:List Nat,(l.filter λj=> !p j&& !q j).length+(l.filter λj=> !p j&&q j).length+(l.filter p).length=l.length
 |[]=>rfl
 |x::l=>by
  have a:=P7 p q l;simp only[ak2];cases p x<;>cases q x<;>simp<;>omega
def P8{c:Nat}:∀n,c<n->((List.range n).filter λj=>Nat.beq j c).length=1
 |0,h=>by omega
 |n+1,h=>by
  rw[List.range_succ,List.filter_append,ahN];by_cases e:c=n
  ·subst e;have:(List.range c).filter (λj=>Nat.beq j c)=[]:=by
    rw[List.filter_eq_nil_iff];intro x b;have:=ake.1 b;have a:Nat.beq x c=false:=D1.2 (by omega);rw[a];simp
   rw[this];simp
  ·rw[P8 n (by omega)];have:Nat.beq n c=false:=D1.2 (by omega);simp[this]
def P9{c n:Nat}(a:c<n):(eM M c n).length+(vP M c n).length+1=n:=by
 have:=P7 (λj=>Nat.beq j c) (λj=>Nat.testBit (M.getD j 0) c) (List.range n);rw[P8 n a,List.length_range]at this;exact this
def pick:List Nat->List Bool->List Nat
 |i::r,b::D=>match b with
  |true=>pick r D
  |false=>i::pick r D
 |_,_=>[]
def vQ:∀(l:List Nat)(D:List Bool),(pick l D).Sublist l
 |[],D=>by cases D<;>exact List.Sublist.refl _
 |i::r,[]=>by simp[pick]
 |i::r,b::D=>by
  simp only[pick];cases b
  ·exact(vQ r D).cons_cons i
  ·exact(vQ r D).cons i
def Qa:∀(l:List Nat)(D:List Bool),D.length=l.length->(pick l D).length=D.count false
 |[],D,h=>by
  have:D=[]:=ait (by simpa using h);subst this;rfl
 |i::r,[],h=>by simp at h
 |i::r,b::D,h=>by
  have a:=Qa r D (by simpa using h);simp only[pick];cases b<;>simp[a]
def JJ{i:Nat}:∀(l:List Nat)(D:List Bool),D.length=l.length->(i∈pick l D↔∃k:Nat,l[k]?=some i/\D[k]?=some false)
 |[],D,h=>by simp[pick]
 |j::r,[],h=>by simp at h
 |j::r,b::D,h=>by
  have d:=JJ (i:=i) r D (by simpa using h);simp only[pick];cases b
  ·simp only[aib,d];constructor
   ·rintro(rfl|⟨k,a,c⟩)
    ·exact⟨0,rfl,rfl⟩
    ·exact⟨k+1,by simpa using a,by simpa using c⟩
   ·rintro⟨k,a,c⟩;cases k with
    |zero=>simp at a;exact .inl a.symm
    |succ k=>exact .inr ⟨k,by simpa using a,by simpa using c⟩
  ·simp only[d];constructor
   ·rintro⟨k,a,c⟩;exact⟨k+1,by simpa using a,by simpa using c⟩
   ·rintro⟨k,a,c⟩;cases k with
    |zero=>simp at c
    |succ k=>exact⟨k,by simpa using a,by simpa using c⟩
def pu(M:List Nat)(c n:Nat)(D:List Bool):List Nat:=pick (eM M c n) D++vP M c n
def MH(a:Nat):List Nat->List (List Bool)
 |[]=>[[]]
 |i::r=>match Nat.testBit a i with
  |true=>(MH a r).map (true::·)
  |false=>(MH a r).flatMap λl=>[true::l,false::l]
def Qb:∀(l:List Nat)(D:List Bool),D.length=l.length->(∀(k i:Nat),l[k]?=some i->Nat.testBit Z i=true->D.getD k false=true)->D∈MH Z l
 |[],D,h,_=>by
  have:D=[]:=ait (by simpa using h);subst this;simp[MH]
 |i::r,[],h,_=>by simp at h
 |i::r,b::D,h,a=>by
  have c:=Qb r D (by simpa using h) λk j d e=>by
   have:=a (k+1) j (by simpa using d) e;simpa using this
  simp only[MH];cases f:Nat.testBit Z i with
  |true=>
   have:=a 0 i rfl f;simp at this;subst this;exact aiG.2 ⟨D,c,rfl⟩
  |false=>exact akE.2 ⟨D,c,by cases b<;>simp⟩
def aaZ(a:List Nat)(D:List Bool):Bool:=(List.range D.length).all λk=> !(D.getD k false)||(List.range D.length).all λm=> !(Nat.testBit (a.getD k 0) m)||D.getD m false
def Pf(b:Nat)(a ids:List Nat):List (List Bool):=(MH b ids).filter (aaZ a)
def pw(D:List Bool):Res->List Nat
 |[]=>[]
 |(j,l,_)::A=>match D.getD j false with
  |true=>pw D A
  |false=>l::pw D A
def rA{L:Array Bool}{j:Nat}:L.toList.getD j false=L.getD j false:=by
 simp[ahR]
def K6{L:Array Bool}:∀A:Res,pw L.toList A=gT L A
 |[]=>rfl
 |(j,l,a)::A=>by
  simp only[pw,gT,rA,K6 A];cases L.getD j false<;>rfl
def rQ:List Oper->List Bool->List Nat
 |o::r,b::D=>match b with
  |true=>rQ r D
  |false=>match o.dst with
   |some t=>t::rQ r D
   |none=>rQ r D
 |_,_=>[]
def NV{t:Nat}:∀{l:List Oper}{D:List Bool}{k:Nat}{o:Oper},l[k]?=some o->D[k]?=some false->o.dst=some t->t∈rQ l D
 |[],_,_,_,h,_,_=>by simp at h
 |_::_,[],_,_,_,h,_=>by simp at h
 |x::l,b::D,0,o,a,c,d=>by
  simp at a c;subst a c;simp only[rQ,d];exact aio ..
 |x::l,b::D,k+1,o,a,c,d=>by
  have e:=NV (l:=l) (D:=D) (k:=k) (by simpa using a) (by simpa using c) d;simp only[rQ];split
  ·exact e
  ·split
   ·exact ah4 _ e
   ·exact e
def BX(x:Nat)(l:List Nat):Bool:=l.any (Nat.beq x)
def JK{x:Nat}{l:List Nat}:BX x l=true↔x∈l:=by
 unfold BX;rw[List.any_eq_true];exact⟨λ⟨y,a,b⟩=>(A1 b)▸a,λh=>⟨x,h,Nat.beq_refl x⟩⟩
def Ur(a:List Nat)(τ:Env):Env:=τ.filter λq=> !(BX q.1 a)
def Wh{fl:Nat}{Q:AEx->Env->Sto->Prop}(A:Res){c:Nat}{oc:Oper}(m9:ops[c]?=some oc)(hg:qI ops=true)(hM:cV ops.toList []=M)(hp:hZ ops M=true){b:Array Oper}(hP:gU ops (eM M c ops.size)=b){M1:List Nat}(n8:cV b.toList []=M1)(B6:hZ b M1=true)
 {s0:Sto}(hA:Ini A s0 σ)(fr:Nat->Bool)(B1:∀(k i:Nat),(eM M c ops.size)[k]?=some i->fr k=false->Nat.testBit (M.getD c 0) i=true){K:Env->Sto->Prop}
 (h:ADg P N b A M1 fr b.toList 0 τ [ia A s0] [] [] K)
 (hK:∀τ1 F,K τ1 F->∀D∈Pf (M.getD c 0) M1 (eM M c ops.size),iN P N ops [oc] (Ur (rQ b.toList D) τ1) (fg (pw D A) F) λτ2 C1=>D0 fl P N (gU ops (pu M c ops.size D)) τ2 C1 Q):
 D0 fl P N ops τ σ Q:=by
 intro B n6 G0 w a j7 z6 hR hT y9;have j9:c<ops.size:=(aim.1 m9).1;have m6:∀i∈eM M c ops.size,i<ops.size:=λi f=>(yR.1 f).1;have w9:(eM M c ops.size).Nodup:=List.nodup_range.filter _;have x6:(vP M c ops.size).Nodup:=List.nodup_range.filter _;have V:b.size=(eM M c ops.size).length:=by rw[<-hP];exact BW m6
 obtain⟨j6,S',C',τ1,F,j3,g,T,A0,hF,A4⟩:=SY (τ0:=τ) (s0:=ia A s0) b.toList τ _ [] [] [] (by simp) rfl (by simp) (adp hA) h;have hK:=hK τ1 F A0;have o9:c ∉ eM M c ops.size:=λh=>(yR.1 h).2.1 rfl;have y3:DT ops.toList 0=true:=by
  unfold hZ at hp;simp only[ahJ]at hp;exact hp.1.2
 refine(Sv (ids:=eM M c ops.size) (M:=M) (c:=c) (m:=(vP M c ops.size).length+1) (J:=Inv fl b A τ j6 S' C' N B n6) hg m6 w9 hM hp j9 o9 (by omega) ?_ ?_ ?_ j7 _ (Array.replicate b.size false) a _ (adq hA g z6 hR hT) ⟨by simp,by simp[V],?_⟩ ?_ ?_ ?_)
 ·intro i f Z r;cases l:Nat.testBit (M.getD i 0) c with
  |true=>rfl
  |false=>exact absurd (yR.2 ⟨f,r,l⟩) Z
 ·intro L' a w k hI O K2 z8;rw[hP]at O⊢;exact K1 g n8 B6 j3 A4 (zl hA.nd) hI O z8
 ·intro H L L' a w hI E y4 hd m8 C2;have q:L'.size=(eM M c ops.size).length:=E.s2;have j5:∀(k i:Nat),(eM M c ops.size)[k]?=some i->Nat.testBit (M.getD c 0) i=true->L'.getD k false=true:=λk i O l=>by rw[<-E.at' k i O];exact m8 i l
  have z7:L'.toList∈Pf (M.getD c 0) M1 (eM M c ops.size):=by
   refine akq.2 ⟨Qb _ _ (by simp[q]) λk i O l=>by rw[rA];exact j5 k i O l,?_⟩;unfold aaZ;rw[aie];intro k O;rw[rA];cases A1:L'.getD k false with
   |false=>rfl
   |true=>
    rw[ai2,Bool.false_or,aie];intro m w8;rw[rA];cases l:Nat.testBit (M1.getD k 0) m with
    |false=>rfl
    |true=>
     have R:k<b.size:=by rw[V,<-q];simpa using O
     have n9:=sc (ops:=b) (L:=L') hI.down b.toList [] [] (by simp) rfl (λj m oj h=>by simp at h);rw[n8]at n9;cases m7:M1[k]? with
     |none=>rw[ah5,m7]at l;simp at l
     |some mm=>
      rw[ah5,m7]at l;rw[n9 k mm (b[k]'R) m7 (ah8 R) (hI.down k _ (ah8 R) A1) m l];rfl
  have hD:=hK _ z7;obtain⟨G,k,y8,h0,hS,hC,o7,y7,A8,x7,y0⟩:=hI.st;have O:k=C'.length:=by
   have Y:k<S'.length:=ah hS;rw[g.slen]at Y;rcases ah0 k C'.length with h2|h2
   ·exfalso;obtain⟨W,j8⟩:∃W,C'[k]?=some W:=⟨C'[k],ahK h2⟩;have p9:=hF W (List.mem_of_getElem? j8);obtain⟨rc,B9,_⟩:=g.ch k W j8;have A6:W<(eM M c ops.size).length:=by rw[<-V,<-j3];exact ah B9
    have r9:(eM M c ops.size)[W]?=some (eM M c ops.size)[W]:=ahK A6;have:=(hC k W j8).1 (j5 W _ r9 (B1 W _ r9 p9));omega
   ·omega
  have C0:y8=F:=by
   rw[aiW,g.slen]at T;subst O;have u:S'[C'.length]?=some F:=T;rw[hS]at u;exact aiM u
  subst C0;rw[<-K6]at o7;have o8:gw G N (Ur (rQ b.toList L'.toList) τ1) a:=by
   refine⟨y7,A8,λt d k9=> ?_⟩;obtain⟨z,k9⟩:=qH (p:=λt=> !(BX t (rQ b.toList L'.toList))) k9;have z:t ∉ rQ b.toList L'.toList:=λw8=>by rw[JK.2 w8]at z;cases z
   have k8:∀(j:Nat)(X:Rc),j6[j]?=some X->X.o.dst=some t->L'.getD j false=true:=by
    intro j X hj A9;cases l:L'.getD j false with
    |true=>rfl
    |false=>
     exfalso;have t8:=(g.rc j X hj).1;have t7:j<L'.size:=by rw[q,<-V];exact(aim.1 t8).1
     refine z (NV (k:=j) (o:=X.o) (by rw[ais];exact t8) ?_ A9);simp[ahR,t7]at l;simp[t7,l]
   rcases g.fin t d k9 with⟨j,X,hj,U,p7,rfl⟩|⟨B4,B2⟩
   ·exact x7 j X t U (k8 j X U p7) p7
   ·exact y0 t d B2 λj X U _=>B4 j X (ah U) U
  rcases hD with⟨_,B5⟩|⟨hw,_⟩
  ·refine A2 hg m9 (B5 B G w a o7 o8 _ _ ?_);rintro v w' G' d y8 u0 A3 A7 ⟨τ2,B7,p8⟩;have s:L'.toList.length=(eM M c ops.size).length:=by simp[q]
   have j4:∀i∈pu M c ops.size L'.toList,i<ops.size:=by
    intro i f;rcases aiv.1 f with f|f
    ·exact m6 i ((vQ _ _).subset f)
    ·exact(zm.1 f).1
   have x5:(pu M c ops.size L'.toList).Nodup:=by
    refine List.nodup_append.2 ⟨w9.sublist (vQ _ _),x6,λx hx y hy e=> ?_⟩;subst e;have Y:=(yR.1 ((vQ _ _).subset hx)).2.2;rw[(zm.1 hy).2.2]at Y;cases Y
   have B8:(pu M c ops.size L'.toList).length<=H:=by
    unfold pu;rw[ahN,Qa _ _ s];omega
   have u7:∀j,(Array.replicate (pu M c ops.size L'.toList).length false).getD j false=false:=by
    intro j;rcases ah0 j (pu M c ops.size L'.toList).length with I|I
    ·simp[ahR,I]
    ·simp[ahR,I]
   have n7:∀k:Nat,L'.toList[k]?=some false->L'.getD k false=false:=by
    intro k l0;rw[<-rA,ah5,l0];rfl
   have A5:c<L.size:=by rw[E.s1];exact j9
   have y5:=BW (ops:=ops) j4;refine Wf (L':=Array.replicate (pu M c ops.size L'.toList).length false) hg j4 x5 y3 H _ _ _ ⟨by simp[E.s1],by simp,λk i l0=> ?_⟩ (λi f Z=> ?_) ?_
   ·rw[u7 k];have f:=List.mem_of_getElem? l0;have r:c≠i:=by
     intro e;subst e;rcases aiv.1 f with f|f
     ·exact o9 ((vQ _ _).subset f)
     ·exact(zm.1 f).2.1 rfl
    rw[aje false r];rcases aiv.1 f with f|f
    ·obtain⟨k2,Y,h2⟩:=(JJ _ _ s).1 f;rw[E.at' k2 i Y];exact n7 k2 h2
    ·have h3:=zm.1 f;exact y4 i h3.1 λhx=>by rw[(yR.1 hx).2.2]at h3;cases h3.2.2
   ·by_cases r:i=c
    ·exact(gh A5).2 (.inl r)
    ·rw[aje false (ajt r)];have x8:i ∉ pick (eM M c ops.size) L'.toList:=λh=>Z (ajx _ h);have x9:i ∉ vP M c ops.size:=λh=>Z (ajK _ h);have B3:i∈eM M c ops.size:=by
      refine yR.2 ⟨f,r,?_⟩;cases l:Nat.testBit (M.getD i 0) c with
      |false=>rfl
      |true=>exact absurd (zm.2 ⟨f,r,l⟩) x9
     obtain⟨k2,m5⟩:=aiT B3;rw[E.at' k2 i m5];cases l:L'.getD k2 false with
     |true=>rfl
     |false=>
      exfalso;have R:k2<L'.size:=by rw[q];exact(ai8.1 m5).1
      refine x8 ((JJ _ _ s).2 ⟨k2,m5,?_⟩);simp[ahR,R]at l;simp[R,l]
   ·have:=p8 B n6 _ _ _ H (h0.trans u0.b) A3 (Dl (o8.mono u0) B7 A7) (by rw[y5];exact B8);rw[y5]at this;exact this
  ·exfalso;unfold df at hw;rw[DY hg m9]at hw;cases hw
 ·intro k i O;have Y:∀n j,(Array.replicate n false).getD j false=false:=by
   intro n j;rcases ah0 j n with I|I
   ·simp[ahR,I]
   ·simp[ahR,I]
  rw[Y,Y]
 ·intro i f _;simp[ahR,f]
 ·intro j oj C3 hL;exfalso;rcases ah0 j ops.size with I|I
  ·simp[ahR,I]at hL
  ·simp[ahR,I]at hL
 ·have:=P9 (M:=M) j9;simp[V];omega
end
end Go.Fw
