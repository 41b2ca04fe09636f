/- A framework for proofs about Go programs in this model: part F. Everything is proved; no condition is added. -/
import Derived.Test.YtlicgchfbhkelaaGreatDoorFwE
set_option linter.unusedVariables false
set_option linter.unusedSimpArgs false
set_option linter.defProp false
namespace Go.Fw
noncomputable section
open Go.RowKit
structure kU(cx:Cx):Prop where
 tok:TOk cx.T cx.P
 mix:cx.P.follows .mixedOrders=true
 ctr:∀f c,(f,c)∈cx.C->cD cx.P f c
 ctrO:∀f c,(f,c)∈cx.CO->pL cx.P f c
 ctrX:∀f c,(f,c)∈cx.CX->xX cx.P f c
section
variable {α:Type}{cx:Cx}{N:Nat}{o:Oper}{S:ae}{σ:Sto}{τ:ax}{τ' :Env}{K:SV→ae→Option α}{r:α}{call:mw α}
variable{Z:Op}
def Pa(a:kU cx)(b:StR S σ)(c:ER S σ τ τ')(d:o.op=Z)(h:sR cx.T cx.H τ S Z (λv=>K v S)=some r):GOk cx.P N o S σ τ' K r:=by
 subst d;exact(Xu b c h).g a.tok b
def ae4(g:kU cx)(z:tm cx.P call)(i:StR S σ)(q:ER S σ τ τ'){own:Option OH}(j:o.op=Z)(h:ab8 cx own call τ S Z K=some r):GOk cx.P N o S σ τ' K r:=by
 cases Z<;>simp only[ab8]at h
 case alloc e=>exact(Qo g.tok i j h).g
 case box t x=>
  obtain⟨v,u,h⟩:=aM h;exact(VJ g.tok i q j u h).g
 case store t p x=>
  obtain⟨vp,P,h⟩:=aM h;obtain⟨vx,C,h⟩:=aM h;exact(Qq g.tok i q j P C h).g
 case makeSlice t l c=>
  obtain⟨R,n,hn,h⟩:=CR h;obtain⟨T,m,hm,h⟩:=CR h;exact(acy g.tok i q j hn hm h).g
 case buildSlice t len ps=>
  split at h
  ·exact Tv g.tok i q j h
  ·exact Pa g i q j h
 case call c=>
  have D:∀{f:FuncId}{E:List SV},wW cx.T τ c=some (f,E)->(match lk cx.T.ext f with
   |some k=>JV k E λv=>K v S
   |none=>Xk cx own f S E K (call f E S K))=some r->GOk cx.P N o S σ τ' K r:=by
   intro f E hc h;obtain⟨W,H,I⟩:=zJ q hc;split at h
   ·rename_i k hk;obtain⟨v,d,R,T,k3⟩:=Mg (N:=N) g.tok j H hk I h;refine(k3 σ).mono ?_;rintro d' s ⟨rfl,rfl⟩;exact⟨v,S,R,T,i,.refl _ _⟩
   unfold Xk at h;split at h
   ·exact Md g.tok j H i I cx.CO g.ctrO h
   refine O9 g.tok j H i I (λh=>Me g.tok j H i I (λh=> ?_) cx.CX g.ctrX h) cx.C g.ctr h;obtain⟨hf,O⟩:=z f E S K r h;exact pK g.tok j H (λ_ G _ _ hR u=>⟨G,.refl G,hR,u⟩) hf (O σ W i I)
  split at h
  ·rename_i b M;have U:sBi cx.T S τ b c.args.toList c.argTypes.toList (λv=>K v S)=some r->GOk cx.P N o S σ τ' K r:=by
    intro h;refine Pa g i q j ?_;obtain⟨V,Q,F⟩:=c;simp only at M;subst M;exact h
   split at h
   ·split at h<;>try (cases h;done)
    rename_i x y t tx L J;obtain⟨v,u,h⟩:=aM h;obtain⟨w,hw,h⟩:=aM h;refine(VM g.tok i q (a:=x) (b:=y) ?_ u hw h).g;obtain⟨V,Q,F⟩:=c;simp only at M L J;subst M;have X:Q= #[x,y]:=ank (by simpa using L);have Y:F= #[t,tx]:=ank (by simpa using J);rw[j,X,Y]
   ·exact U h
  ·obtain⟨p,hp,h⟩:=am h;exact D hp h
 case makeMap t l=>
  cases l with
  |none=>exact Zq g.tok i j h
  |some l=>exact Pa g i q j h
 case lookup t m k ok=>
  obtain⟨vm,B,h⟩:=aM h;split at h
  ·rename_i l hl _;have:=Qj hl;subst this;obtain⟨vk,A,h⟩:=aM h;exact Zr g.tok i q j B A h
  ·cases h
  ·exact Pa g i q j h
 case mapUpdate t m k x=>
  obtain⟨vm,B,h⟩:=aM h;obtain⟨vk,A,h⟩:=aM h;obtain⟨vx,C,h⟩:=aM h;exact ab5 g.tok i q j B A C h
 case range t x=>
  obtain⟨v,u,h⟩:=aM h;exact Zs g.tok i q j u h
 case next x b=>
  cases b with
  |true=>
   obtain⟨v,u,h⟩:=aM h;exact ab7 g.tok i q j u h
  |false=>exact Pa g i q j h
 all_goals exact Pa g i q j h
end
def iM{α:Type}(N:Nat)(dst:Option Tmp)(v:SV)(τ:ax)(K:ax->Option α):Option α:=match dst with
 |none=>K τ
 |some t=>match Nat.blt t N with
  |true=>Xv v λv=>K ((t,v)::τ)
  |false=>none
def By(cx:Cx)(fid:Nat)(dst:Option Tmp):Option OH:=match dst with
 |some t=>lk cx.ow (Nat.add (Nat.mul fid 65536) t)
 |none=>none
def ahk:Operand->List Nat
 |.tmp t=>[t]
 |_=>[]
def aiY:Op->List Nat
 |.slice _ x _ _ _=>ahk x
 |.buildSlice _ _ a=>a.toList.flatMap λp=>ahk p.2
 |_=>[]
def Mh{α:Type}:List Nat->ax->ae->(ax->ae->Option α)->Option α
 |[],τ,S,K=>K τ S
 |t::a,τ,S,K=>match kT τ t with
  |some (.own l g)=>(lZ S (.own l g)).bind λw=>Mh a ((t,w.1)::τ) w.2 K
  |some (.agg b)=>(lZ S (.agg b)).bind λw=>Mh a ((t,w.1)::τ) w.2 K
  |_=>Mh a τ S K
def pM(P:Program)(N:Nat)(τ:Env)(σ:Sto)(d:Env)(c:Sto):Prop:=∀(B:bE P)(G:Gh)(w:World)(a:Act),Rel B G σ w->de G N τ a->∃b,G.Le b/\Rel B b c w/\de b N d a
def pM.refl{P:Program}(N:Nat)(τ:Env)(σ:Sto):pM P N τ σ τ σ:=λ_ G _ _ a b=>⟨G,.refl G,a,b⟩
def pM.trans{P:Program}{N:Nat}{τ c d:Env}{σ b σ2:Sto}(h:pM P N τ σ c b)(k:pM P N c b d σ2):pM P N τ σ d σ2:=λB G w a j l=>by
 obtain⟨e,m,g,p⟩:=h B G w a j l;obtain⟨f,n,i,q⟩:=k B e w a g p;exact⟨f,m.trans n,i,q⟩
def pM.slot{P:Program}{N:Nat}{τ:Env}{σ b:Sto}{t:Nat}{d g:D}(h:Gho P σ b d g)(n:get τ t=some d):pM P N τ σ ((t,g)::τ) b:=λB G w a m c=>by
 obtain⟨j,i,k,p⟩:=h B G w _ m (c.slot t d n);refine⟨j,i,k,c.size,c.defers,λq l f=> ?_⟩;simp only[get]at f;split at f
 ·rename_i e;subst e;cases f;exact p
 ·exact Rep.mono i _ _ (c.slot q l f)
def AOp.pre{P:Program}{N:Nat}{o:Oper}{τ c:Env}{σ b:Sto}{K:D->Sto->Prop}(j:pM P N τ σ c b)(h:AOp P N o c b K):AOp P N o τ σ K:=by
 intro B G w a g i next Q k
 obtain⟨e,l,f,m⟩:=j B G w a g i;exact h B e w a f m next Q λv w' G' d σ' h1 h2 h3 h4=>k v w' G' d σ' (l.trans h1) h2 h3 h4
def EF{α:Type}{P:Program}{N:Nat}{r:α}{K:ax->ae->Option α}:∀(l:List Nat){τ:ax}{τ':Env}{S:ae}{σ:Sto},StR S σ->ER S σ τ τ'->Mh l τ S K=some r->
 ∃c a e b,pM P N τ' σ a b/\StR e b/\ER e b c a/\aK S σ e b/\K c e=some r
 |[],τ,τ',S,σ,hS,hE,h=>⟨τ,τ',S,σ,.refl _ _ _,hS,hE,.refl _ _,h⟩
 |t::A,τ,τ',S,σ,hS,hE,h=>by
  simp only[Mh]at h;split at h
  ·rename_i l g p;obtain⟨w,s,h⟩:=am h;obtain⟨d,n,q⟩:=hE t _ p;obtain⟨B,b,j,k,i,m⟩:=EO _ (v':=w.1) (S':=w.2) s hS q;obtain⟨c,a,e,f,u,v,x,y,z⟩:=EF A k ((hE.pres i).push j (t:=t)) h;exact⟨c,a,e,f,(pM.slot m n).trans u,v,x,i.trans y,z⟩
  ·rename_i C p;obtain⟨w,s,h⟩:=am h;obtain⟨d,n,q⟩:=hE t _ p;obtain⟨B,b,j,k,i,m⟩:=EO _ (v':=w.1) (S':=w.2) s hS q;obtain⟨c,a,e,f,u,v,x,y,z⟩:=EF A k ((hE.pres i).push j (t:=t)) h;exact⟨c,a,e,f,(pM.slot m n).trans u,v,x,i.trans y,z⟩
  ·exact EF A hS hE h
def ab9(h:Option OH)(a:Op)(τ:ax):Option (Nat×TC):=match h with
 |some (.val b)=>match a with
  |.call c=>match c.callee with
   |.builtin .append=>match c.args.toList with
    |x::_=>match x with
     |.tmp t=>match kT τ t with
      |some .nils=>some (t,b)
      |_=>none
     |_=>none
    |[]=>none
   |_=>none
  |_=>none
 |_=>none
variable{Z:Op}
def ae5{h:Option OH}{τ:ax}{q:Nat×TC}(a:ab9 h Z τ=some q):kT τ q.1=some .nils:=by
 unfold ab9 at a
 repeat' (split at a<;>try (cases a;done))
 cases a;assumption
def Xl{α:Type}(h:Option OH)(a:Op)(τ:ax)(S:ae)(K:ax->ae->Option α):Option α:=match ab9 h a τ with
 |some q=>K ((q.1,.own S.length 0)::τ) (S++[.arr q.2 [] false 0])
 |none=>K τ S
def aca{α:Type}{P:Program}{N:Nat}{r:α}{K:ax->ae->Option α}{k:Option OH}{τ:ax}{τ':Env}{S:ae}{σ:Sto}(g:StR S σ)(f:ER S σ τ τ')(h:Xl k Z τ S K=some r):
 ∃c b e a,pM P N τ' σ b a/\StR e a/\ER e a c b/\aK S σ e a/\K c e=some r:=by
 unfold Xl at h;split at h
 ·rename_i q n;obtain⟨d,m,i⟩:=f _ _ (ae5 n);simp only[VR]at i;subst i;obtain⟨s,j,t⟩:=J9 g q.2;exact⟨_,_,_,_,pM.slot (λB G w x l p=>⟨G,.refl G,l.newObj,Ew p⟩) m,s,(f.pres j).push t,j,h⟩
 ·exact⟨τ,τ',S,σ,.refl _ _ _,g,f,.refl _ _,h⟩
def JW{α:Type}(cx:Cx)(fid N:Nat)(call:mw α)(o:Oper)(τ:ax)(S:ae)(K:ax->ae->Option α):Option α:=
 Mh (aiY o.op) τ S λa c=>Xl (By cx fid o.dst) o.op a c λa c=>ab8 cx (By cx fid o.dst) call a c o.op λv b=>ab4 (By cx fid o.dst) v b λv b=>iM N o.dst v τ λτ'=>K τ' b
def Xm{α:Type}(cx:Cx)(fid N:Nat)(call:mw α)(all:Array Oper)(o:Oper)(a:ax->ae->(ax->ae->Option α)->Option α)(τ:ax)(S:ae)(K:ax->ae->Option α):Option α:=match o.guard with
 |none=>JW cx fid N call o τ S λτ' c=>a τ' c K
 |some (j,want)=>match (all[j]?).bind (·.dst) with
  |none=>none
  |some t=>match kT τ t with
   |some (.bool b)=>match want with
    |true=>cond b (JW cx fid N call o ((t,.bool true)::τ) S λτ' c=>a τ' c K) (iM N o.dst (.tup []) ((t,.bool false)::τ) λτ'=>a τ' S K)
    |false=>cond b (iM N o.dst (.tup []) ((t,.bool true)::τ) λτ'=>a τ' S K) (JW cx fid N call o ((t,.bool false)::τ) S λτ' c=>a τ' c K)
   |some (.tup _)=>iM N o.dst (.tup []) τ λτ'=>a τ' S K
   |_=>none
def Gd{α:Type}(cx:Cx)(fid N:Nat)(call:mw α)(all:Array Oper)(l:List Oper):ax->ae->(ax->ae->Option α)->Option α:=List.rec (λτ S K=>K τ S) (λo _ a=>Xm cx fid N call all o a) l
def Zt{α:Type}{cx:Cx}{fid N:Nat}{call:mw α}{all:Array Oper}{o:Oper}{r:List Oper}:Gd cx fid N call all (o::r)=Xm cx fid N call all o (Gd cx fid N call all r):=rfl
def my{α:Type}(S0:ae)(b:Sto)(K:ax->ae->Option α)(r:α):Env->Sto->Prop:=λτ' a=>∃τ S,ER S a τ τ'/\StR S a/\aK S0 b S a/\K τ S=some r
def my.trans{α:Type}{S0 c:ae}{a b:Sto}{K:ax->ae->Option α}{r:α}(h:aK S0 a c b){τ':Env}{σ':Sto}(x:my c b K r τ' σ'):my S0 a K r τ' σ':=by
 obtain⟨τ,S,d,e,f,g⟩:=x;exact⟨τ,S,d,e,h.trans f,g⟩
def ER.setB{S:ae}{σ:Sto}{τ:ax}{τ':Env}{t:Nat}{b:Bool}(d:ER S σ τ τ')(h:get τ' t=some (.bool b)):ER S σ ((t,.bool b)::τ) τ':=by
 intro c v a;rw[tk]at a;by_cases e:t=c
 ·rw[ali e]at a;subst e;cases a;exact⟨_,h,by simp only[VR]⟩
 ·rw[alJ e]at a;exact d c v a
section
variable {α:Type}{cx:Cx}{fid N:Nat}{call:mw α}{r:α}
def kZ{S:ae}{σ:Sto}{τ:ax}{τ':Env}{dst:Option Tmp}{v:SV}{d:D}{K:ax->Option α}(e:ER S σ τ τ')(f:VR S σ v d)(h:iM N dst v τ K=some r):∃a b,eg N dst d τ'=some a/\ER S σ b a/\K b=some r:=by
 unfold iM at h;split at h
 ·exact⟨τ',τ,rfl,e,h⟩
 ·split at h<;>try (cases h;done)
  rename_i t _ c;rw[VH]at h;have c:t<N:=alb c;exact⟨(t,d)::τ',(t,v)::τ,by simp only[eg,ali c],e.push f,h⟩
def acb(j:kU cx)(b:tm cx.P call){o:Oper}{S:ae}{σ:Sto}{τ:ax}{τ':Env}{K:ax->ae->Option α}(C:StR S σ)(m:ER S σ τ τ')(h:JW cx fid N call o τ S K=some r){l:Env->Sto->Prop}(E:∀a e,my S σ K r a e->l a e):
 AOp cx.P N o τ' σ λd c=>∃a,eg N o.dst d τ'=some a/\l a c:=by
 unfold JW at h;obtain⟨L,n,S0,I,s,t,u,w,h⟩:=EF (P:=cx.P) (N:=N) _ C m h;obtain⟨M,p,O,J,g,x,y,i,h⟩:=aca (P:=cx.P) (N:=N) t u h;have g:=s.trans g;have i:=w.trans i;have D:=AOp.pre g (ae3 (ae4 (N:=N) j b x y rfl h));refine D.mono ?_;rintro d c ⟨v,q,z,A,B,f⟩;have f:=i.trans f;obtain⟨a,k,F,G,H⟩:=kZ (m.pres f) A z;exact⟨a,F,E _ _ ⟨k,q,G,B,f,H⟩⟩
def EG(m:kU cx)(a:tm cx.P call){all:Array Oper}{K:ax->ae->Option α}:∀(l:List Oper)(S:ae)(σ:Sto)(τ:ax)(τ':Env),StR S σ->ER S σ τ τ'->Gd cx fid N call all l τ S K=some r->eR cx.P N all l τ' σ (my S σ K r)
 |[],S,σ,τ,τ',hS,c,h=>⟨τ,S,c,hS,.refl _ _,h⟩
 |o::l,S,σ,τ,τ',hS,c,h=>by
  have e:∀{τ:ax},ER S σ τ τ'->bw all τ' o=some true->(JW cx fid N call o τ S λτ' w=>Gd cx fid N call all l τ' w K)=some r->eR cx.P N all (o::l) τ' σ (my S σ K r):=by
   intro τ c i h;refine .inl ⟨i,acb m a hS c h ?_⟩;rintro g u ⟨p,y,z,A,C,B⟩;exact eR.monoK (λ_ _ x=>x.trans C) _ _ _ (EG m a l y u p g A z B)
  have skip:∀{τ:ax},ER S σ τ τ'->bw all τ' o=some false->(iM N o.dst (.tup []) τ λτ'=>Gd cx fid N call all l τ' S K)=some r->eR cx.P N all (o::l) τ' σ (my S σ K r):=by
   intro τ c i h;obtain⟨g,p,D,E,F⟩:=kZ (d:=.tuple []) c (by simp only[VR,VRs];exact⟨[],rfl,rfl⟩) h;exact .inr ⟨i,g,D,EG m a l S σ p g hS E F⟩
  simp only[Zt,Xm]at h;split at h
  ·rename_i q;exact e c (by unfold bw;rw[q]) h
  ·rename_i j k q;split at h<;>try (cases h;done)
   rename_i t v;split at h<;>try (cases h;done)
   ·rename_i b s;obtain⟨d,n,f⟩:=c t _ s;simp only[VR]at f;subst f;have i:bw all τ' o=some (b==k):=by unfold bw;rw[q];simp only[v,n]
    cases k
    ·rcases aR h with⟨rfl,h⟩|⟨rfl,h⟩
     ·exact skip (c.setB n) i h
     ·exact e (c.setB n) i h
    ·rcases aR h with⟨rfl,h⟩|⟨rfl,h⟩
     ·exact e (c.setB n) i h
     ·exact skip (c.setB n) i h
   ·rename_i H s;obtain⟨d,n,f⟩:=c t _ s;simp only[VR]at f;obtain⟨G,rfl,_⟩:=f;exact skip c (by unfold bw;rw[q];simp only[v,n]) h
end
end
end Go.Fw
def aoq:=@List.any_eq_true
namespace Go.Fw
noncomputable section
open Go.RowKit
def Gt(x:Nat)(l:List Nat):Bool:=l.any (Nat.beq x)
def acz{x:Nat}{l:List Nat}:Gt x l=true↔x∈l:=by
 unfold Gt;rw[aoq];constructor
 ·rintro⟨y,a,h⟩;rw[bq h];exact a
 ·intro h;exact⟨x,h,an2 x⟩
def zP{x:Nat}{l:List Nat}:Gt x l=false↔x ∉ l:=by
 rw[<-acz];simp
def Gu(a b:List Nat):Bool:=a.all λx=> !Gt x b
def TT{a b:List Nat}(h:Gu a b=true):∀x∈a,x ∉ b:=by
 intro x c;have:=alv.1 h x c;simp only[amu]at this;exact zP.1 this
def Gv:Nat->Nat->Bool
 |m,0=>Nat.beq (Nat.mod m 2) 1
 |m,i+1=>Gv (Nat.div m 2) i
def Ag:∀(i m:Nat),Gv m i=Nat.testBit m i
 |0,m=>by
  rw[Nat.testBit_zero,Bool.eq_iff_iff,alL];exact⟨amp,λh=>by show Nat.beq (m % 2) 1=true;rw[h];rfl⟩
 |i+1,m=>by
  rw[Nat.testBit_succ,<-Ag i];rfl
def vg(A:Res)(m:Nat)(a:List Nat):Bool:=A.all λx=>Gv m x.1|| !Gt x.2.1 a
def xY{m:Nat}:∀{A:Res}{ls:List Nat},ls∈fj A m->∀l∈ls,∃x∈A,x.2.1=l/\Nat.testBit m x.1=false
 |[],ls,h,l,b=>by simp[fj]at h;subst h;simp at b
 |(j,a,i)::A,ls,h,l,b=>by
  simp only[fj]at h;split at h
  ·obtain⟨x,d,c⟩:=xY h l b;exact⟨x,alj _ d,c⟩
  ·rename_i f;rcases alM.1 h with h|h
   ·obtain⟨x,d,c⟩:=xY h l b;exact⟨x,alj _ d,c⟩
   ·obtain⟨g,c,rfl⟩:=alW.1 h;rcases alr.1 b with rfl|b
    ·exact⟨_,alG ..,rfl,f⟩
    ·obtain⟨x,d,e⟩:=xY c l b;exact⟨x,alj _ d,e⟩
def Gw{A:Res}{m:Nat}{a ls:List Nat}(h:vg A m a=true)(d:ls∈fj A m):∀l∈a,l ∉ ls:=by
 intro l c e;obtain⟨x,f,rfl,b⟩:=xY d l e;have:=alv.1 h x f;simp only[Ag,b,Bool.false_or,amu]at this;exact zP.1 this c
def Qv{m:Nat}{s:Sto}:∀{S:List Sto}{C:List Nat},s∈nr m S C->∃k:Nat,S[k]?=some s/\∀(b c:Nat),k<=b->C[b]?=some c->Nat.testBit m c=false
 |[],_,h=>by simp[nr]at h
 |a::S,C,h=>by
  have d:s∈nr m S C.tail->∃k:Nat,(a::S)[k]?=some s/\∀(b c:Nat),k<=b->C[b]?=some c->Nat.testBit m c=false:=by
   intro h;obtain⟨k,g,i⟩:=Qv h;refine⟨k+1,by simpa using g,λb c f e=> ?_⟩
   match b,f with
   |b+1,f=>exact i b c omq (by rw[List.getElem?_tail];exact e)
  simp only[nr]at h;split at h
  ·rename_i j;rcases alr.1 h with rfl|h
   ·refine⟨0,rfl,λb c _ e=> ?_⟩;have:=alv.1 j c (alz e);simpa using this
   ·exact d h
  ·exact d h
def gx.mk{α:Type}{f:α->Prop}:∀{l:List α},(∀x∈l,f x)->gx f l
 |[],_=>trivial
 |x::l,h=>⟨h x (alG ..),gx.mk λy a=>h y (alj _ a)⟩
def Jj{ls:List Nat}{σ:Sto}{l:Nat}(h:l ∉ ls):(cp ls σ)[l]?=σ[l]? :=by
 rw[iI,alJ (λx=>h x.1)]
variable{Z:Upd}
def acA{ls c:List Nat}{σ:Sto}(d:Z.inFp c)(h:∀l∈c,l ∉ ls)(f:∀l∈ls,l<σ.length):Z.ap (cp ls σ)=cp ls (Z.ap σ):=by
 cases Z with
 |same=>rfl
 |set l g=>
  simp only[Upd.inFp]at d;simp only[Upd.ap];refine amv λx=> ?_;rw[iI,anh,oT,iI,ams,anh];by_cases e:l=x
  ·subst e;have:¬(l∈ls/\l<σ.length):=λy=>h l d y.1;simp[this]
  ·simp[e]
 |push g=>
  simp only[Upd.ap];refine amv λx=> ?_;rw[iI,ak2,amr];rcases alf x σ.length with a|a
  ·rw[ak8 (by rw[oT];exact a),iI,ak8 a];by_cases b:x∈ls
   ·rw[ali ⟨b,a⟩,ali ⟨b,omq⟩]
   ·rw[alJ (λy=>b y.1),alJ (λy=>b y.1)]
  ·rw[ale (by rw[oT];exact a),oT,alJ (λy=>by have:=f x y.1;omega),ale a]
def TU{b:List Nat}{σ:Sto}(c:Z.inFp b){l:Nat}(h:l ∉ b)(f:l≠σ.length):(Z.ap σ)[l]?=σ[l]? :=by
 cases Z with
 |same=>rfl
 |set k d=>
  simp only[Upd.inFp]at c;simp only[Upd.ap];rw[anh,alJ (λe=>h (by rw[<-e];exact c))]
 |push d=>
  simp only[Upd.ap];rcases alf l σ.length with a|a
  ·rw[ak8 a]
  ·rw[alg a,alg soq]
def aff{σ:Sto}(a:Upd):σ.length<=(a.ap σ).length:=by
 cases a<;>simp[Upd.ap]
def so(ops:Array Oper)(o:Oper)(τ:ax):ax:=τ.filter λp=>(o.looksAt ops).contains p.1
def xn{p:Nat->Bool}:∀{τ:ax}{t:Nat}{v:SV},kT (τ.filter λq=>p q.1) t=some v->p t=true/\kT τ t=some v
 |[],_,_,h=>by simp[kT]at h
 |(i,x)::r,t,v,h=>by
  rw[aoo]at h;split at h
  ·rename_i a;rw[tk]at h⊢;split at h
   ·rename_i e;subst e;rw[ali rfl];exact⟨a,h⟩
   ·rename_i e;rw[alJ e];exact xn h
  ·rename_i a;obtain⟨b,c⟩:=xn h;rw[tk,alJ (λe=>a (by rw[show i=t from e];exact b))];exact⟨b,c⟩
def Dv{p:Nat->Bool}:∀{τ:Env}{t:Nat}{d:D},p t=true->get τ t=some d->get (τ.filter λq=>p q.1) t=some d
 |[],_,_,_,h=>by simp[get]at h
 |(i,x)::r,t,d,a,h=>by
  rw[aoo];simp only[get]at h;split at h
  ·rename_i e;split
   ·simp only[get,ali e];exact h
   ·rename_i c;exact absurd (by rw[show i=t from e];exact a) c
  ·rename_i e;have b:=Dv a h;split
   ·simp only[get,alJ e];exact b
   ·exact b
def ER.rst{S:ae}{σ:Sto}{τ:ax}{τ':Env}(h:ER S σ τ τ')(ops:Array Oper)(o:Oper):ER S σ (so ops o τ) (rst ops o τ'):=by
 intro t v f;obtain⟨a,b⟩:=xn (p:=λt=>(o.looksAt ops).contains t) f;obtain⟨d,c,e⟩:=h t v b;exact⟨d,Dv (p:=λt=>(o.looksAt ops).contains t) a c,e⟩
end
end Go.Fw
def al3:=@List.mem_singleton
namespace Go.Fw
noncomputable section
open Go.RowKit
abbrev DCh:=List (Nat×List Nat)
structure DI(P:Program)(N:Nat)(A:Res)(M:List Nat)(i:Nat)(σ:Sto)(Ss:List Sto)(tab:List Rc)(done rest:Res)(Rd Ch:DCh):Prop where
 last:Ss.getLast?=some σ
 len:Ss.length=Ch.length+1
 old:∀(k:Nat) s,Ss[k]?=some s->∀l,(∀(m:Nat) c,Ch[m]?=some c->k<=m->l ∉ c.2)->s[l]?=σ[l]?
 ini:∀x∈A,(∀c∈Ch,x.2.1 ∉ c.2)->σ[x.2.1]?=some (.cells x.2.2 0 0)
 alt:∀x∈A,x.2.1<σ.length
 rd:∀(j:Nat) rc,tab[j]?=some rc->rc.kd=.read->(∀c∈Ch,Nat.testBit (M.getD c.1 0) j=false)->
  ∃fp,(j,fp)∈Rd/\(∀s:Sto,(∀l∈fp,s[l]?=σ[l]?)->AOp P N rc.o rc.env s λd' s'=>d'=rc.v/\s'=s)/\vg A (M.getD j 0) fp=true
 all:A=done++rest
 dn:∀x∈done,x.1<i/\∃r,tab[x.1]?=some r/\r.kd=.alloc x.2.1 x.2.2
 tl:tab.length=i
section
variable {P:Program}{N i:Nat}{A:Res}{M:List Nat}{σ:Sto}{Ss:List Sto}{tab:List Rc}{done rest:Res}{Rd Ch:DCh}{o:Oper}{env:Env}{d:D}
def Gx{rc:Rc}{x:Rc}{j:Nat}(h:(tab++[rc])[j]?=some x):tab[j]?=some x∨(j=tab.length/\x=rc):=by
 rcases jY h with h|h
 ·exact .inl h.2
 ·exact .inr h
def DI.dn'(h:DI P N A M i σ Ss tab done rest Rd Ch)(rc:Rc):∀x∈done,x.1<i+1/\∃r,(tab++[rc])[x.1]?=some r/\r.kd=.alloc x.2.1 x.2.2:=by
 intro x c;obtain⟨e,r,a,b⟩:=h.dn x c;exact⟨omq,r,fJ a,b⟩
def DI.skip(h:DI P N A M i σ Ss tab done rest Rd Ch):DI P N A M (i+1) σ Ss (tab++[⟨o,env,d,.skip⟩]) done rest Rd Ch where
 last:=h.last
 len:=h.len
 old:=h.old
 ini:=h.ini
 alt:=h.alt
 rd:=λj e a b c=>by
  rcases Gx a with a|⟨_,rfl⟩
  ·exact h.rd j e a b c
  ·cases b
 all:=h.all
 dn:=h.dn' _
 tl:=by simp[h.tl]
def DI.alloc{l:Nat}{cs:List D}(h:DI P N A M i σ Ss tab done ((i,l,cs)::rest) Rd Ch):DI P N A M (i+1) σ Ss (tab++[⟨o,env,d,.alloc l cs⟩]) (done++[(i,l,cs)]) rest Rd Ch where
 last:=h.last
 len:=h.len
 old:=h.old
 ini:=h.ini
 alt:=h.alt
 rd:=λj f b c e=>by
  rcases Gx b with b|⟨_,rfl⟩
  ·exact h.rd j f b c e
  ·cases c
 all:=by rw[h.all];simp
 dn:=λx a=>by
  rcases alM.1 a with a|a
  ·exact h.dn' _ x a
  ·simp at a;subst a;exact⟨by simp,⟨o,env,d,.alloc l cs⟩,by rw[ale (by simp[h.tl])];simp[h.tl],rfl⟩
 tl:=by simp[h.tl]
def DI.res{l:Nat}{cs:List D}(h:DI P N A M i σ Ss tab done ((i,l,cs)::rest) Rd Ch):tG A i=some (l,cs):=by
 unfold tG;have:A.find? (λx=>x.1==i)=some (i,l,cs):=by
  rw[h.all,List.find?_append];have:done.find? (λx=>x.1==i)=none:=by
   rw[List.find?_eq_none];intro x a;have:=(h.dn x a).1;simp;omega
  rw[this];simp
 rw[this]
variable{Z:List Nat}{Y:Upd}
def DI.read(h:DI P N A M i σ Ss tab done rest Rd Ch)(c:∀s:Sto,(∀l∈Z,s[l]?=σ[l]?)->AOp P N o env s λf r=>f=d/\r=s)(n:vg A (M.getD i 0) Z=true):
 DI P N A M (i+1) σ Ss (tab++[⟨o,env,d,.read⟩]) done rest (Rd++[(i,Z)]) Ch where
 last:=h.last
 len:=h.len
 old:=h.old
 ini:=h.ini
 alt:=h.alt
 rd:=λj q a p m=>by
  rcases Gx a with a|⟨b,rfl⟩
  ·obtain⟨Z,g,k⟩:=h.rd j q a p m;exact⟨Z,amT _ g,k⟩
  ·have e:=b.trans h.tl;subst e;exact⟨Z,by simp,c,n⟩
 all:=h.all
 dn:=h.dn' _
 tl:=by simp[h.tl]
def DI.reads(h:DI P N A M i σ Ss tab done rest Rd Ch)(g:∀s:Sto,(∀l∈Z,s[l]?=σ[l]?)->AOp P N o env s λb n=>b=d/\n=s)(v:vg A (M.getD i 0) Z=true)
 (u:(Ch.all λc=>Gv (M.getD i 0) c.1||Gu Z c.2)=true):
 gx (λs=>AOp P N o env s λb n=>b=d/\n=s) ((nr (M.getD i 0) Ss (Ch.map (·.1))).flatMap λσ=>(fj A (M.getD i 0)).map (cp · σ)):=by
 refine gx.mk λs j=> ?_;obtain⟨y,r,j⟩:=an1.1 j;obtain⟨z,f,rfl⟩:=alW.1 j;obtain⟨k,w,x⟩:=Qv r;refine g _ λl q=> ?_;rw[Jj (Gw v f l q)];refine h.old k y w l λm c a e=> ?_;have p:=alv.1 u c (alz a);have t:=x m c.1 e (by simp[a]);rw[Ag,t,Bool.false_or]at p;exact TT p l q
def XE(m:Nat)(Ch:DCh):Bool:=match Ch.getLast? with
 |none=>true
 |some q=>Gv m q.1
def TV(m:Nat)(Ch:DCh):XE m Ch=Fa m (Ch.map (·.1)):=by
 unfold XE Fa;rw[List.getLast?_map];cases Ch.getLast? with
 |none=>rfl
 |some q=>exact Ag q.1 m
def Ka(A:Res)(m:Nat)(a:List Nat)(n:Nat)(Rd Ch:DCh):Bool:=
 XE m Ch&&(vg A m a&&((Rd.all λq=>Gv m q.1||Gu q.2 (a++[n]))&&A.all λx=>Gv m x.1||(!Gt x.2.1 a&&Ch.all λc=> !Gt x.2.1 c.2)))
def DI.agree(b:Y.inFp Z){l:Nat}(a:l ∉ Z++[σ.length]):(Y.ap σ)[l]?=σ[l]? :=by
 simp only[alM,al3,not_or]at a;exact TU b a.1 a.2
def DI.chain(h:DI P N A M i σ Ss tab done rest Rd Ch)(r:Y.inFp Z)(a:Ka A (M.getD i 0) Z σ.length Rd Ch=true)(k:Nat):
 DI P N A M (i+1) (Y.ap σ) (Ss++[Y.ap σ]) (tab++[⟨o,env,d,.chain k⟩]) done rest Rd (Ch++[(i,Z++[σ.length])]):=by
 unfold Ka at a;rw[TV]at a;simp only[Ag,akY,alv,amI]at a;obtain⟨_,_,z,_⟩:=a;refine⟨by simp,by simp[h.len],?_,?_,?_,?_,h.all,h.dn' _,by simp[h.tl]⟩
 ·intro k s f l b;rcases jY f with⟨n,f⟩|⟨n,rfl⟩
  ·rw[DI.agree r]
   ·exact h.old k s f l λm c B u=>b m c (fJ B) u
   ·exact b Ch.length (i,Z++[σ.length]) siq (by have:=h.len;omega)
  ·rfl
 ·intro x v b;rw[DI.agree r (b _ (am5 _ (al3.2 rfl)))];exact h.ini x v λc a=>b c (amT _ a)
 ·intro x v;exact alO (h.alt x v) (aff Y)
 ·intro j D t f g;rcases Gx t with t|⟨_,rfl⟩
  ·obtain⟨p,n,w,y⟩:=h.rd j D t f λc a=>g c (amT _ a);refine⟨p,n,λs C=>w s λl b=> ?_,y⟩;rw[C l b];refine DI.agree r ?_;have e:=z _ n;have q:=g (i,Z++[σ.length]) (am5 _ (al3.2 rfl));simp only at e q;rcases e with e|e
   ·rw[e]at q;cases q
   ·exact TT e l b
  ·cases f
def VN{C:List Nat}{σ:Sto}{q:Rc×Sto}:∀{tab:List Rc}{j0:Nat},q∈reS A M C σ j0 tab->∃(j:Nat)(ls:List Nat),tab[j]?=some q.1/\q.1.kd=.read/\(∀c∈C,Nat.testBit (M.getD c 0) (j0+j)=false)/\ls∈fj A (M.getD (j0+j) 0)/\q.2=cp ls σ
 |[],_,h=>by simp[reS]at h
 |r::e,j0,h=>by
  have rest:q∈reS A M C σ (j0+1) e->∃(j:Nat)(ls:List Nat),(r::e)[j]?=some q.1/\q.1.kd=.read/\(∀c∈C,Nat.testBit (M.getD c 0) (j0+j)=false)/\ls∈fj A (M.getD (j0+j) 0)/\q.2=cp ls σ:=by
   intro h;obtain⟨j,ls,b,f,g,k,l⟩:=VN h;exact⟨j+1,ls,by simpa using b,f,by rw[show j0+(j+1)=j0+1+j from omq];exact g,by rw[show j0+(j+1)=j0+1+j from omq];exact k,l⟩
  simp only[reS]at h;split at h
  ·rename_i n;split at h
   ·rename_i a;rcases alM.1 h with h|h
    ·obtain⟨ls,b,rfl⟩:=alW.1 h;exact⟨0,ls,rfl,n,λc m=>by simpa using List.all_eq_true.1 a c m,b,rfl⟩
    ·exact rest h
   ·exact rest h
  ·exact rest h
def DI.chains(h:DI P N A M i σ Ss tab done rest Rd Ch)(r:Y.inFp Z)(g:Ka A (M.getD i 0) Z σ.length Rd Ch=true)
 (t:∀s:Sto,(∀l∈Z,s[l]?=σ[l]?)->s.length=σ.length->AOp P N o env s λf n=>f=d/\n=Upd.ap Y s):
 Fa (M.getD i 0) (Ch.map (·.1))=true/\gx (λe=>AOp P N o env (cp e σ) λf n=>f=d/\n=cp e (Y.ap σ)) (fj A (M.getD i 0))/\
  gx (λ(x:Rc×Sto)=>AOp P N x.1.o x.1.env x.2 λf n=>f=x.1.v/\n=x.2) (reS A M (Ch.map (·.1)++[i]) (Y.ap σ) 0 tab)/\
  gx (λ(x:Nat×Nat×List D)=>match Nat.testBit (M.getD i 0) x.1 with|true=>True|false=>(Y.ap σ)[x.2.1]?=some (.cells x.2.2 0 0)) A:=by
 have hc0:=g;unfold Ka at g;rw[TV]at g;simp only[Ag,akY,alv,amI,amu]at g;obtain⟨z,u,L,B⟩:=g;have halt:∀e,e∈fj A (M.getD i 0)->∀l∈e,l<σ.length:=by
  intro e b l k;obtain⟨x,m,rfl,_⟩:=xY b l k;exact h.alt x m
 refine⟨z,gx.mk λe b=> ?_,gx.mk λq F=> ?_,gx.mk λx m=> ?_⟩
 ·rw[<-acA r (Gw u b) (halt e b)];exact t _ (λl k=>Jj (Gw u b l k)) (oT _ _)
 ·obtain⟨j,e,G,H,v,w,I⟩:=VN F;simp only[alS]at v w;have C:=h.chain (o:=o) (env:=env) (d:=d) r hc0 0;obtain⟨y,O,J,K⟩:=C.rd j q.1 (fJ G) H (λc a=>v c.1 (by
   rcases alM.1 a with a|a
   ·exact amT _ (alW.2 ⟨c,a,rfl⟩)
   ·simp at a;subst a;exact am5 _ (al3.2 rfl)))
  rw[I];exact J _ λl k=>Jj (Gw K w l k)
 ·split
  ·trivial
  ·rename_i E;have p:=B x m;rw[E]at p;simp only[alU,false_or]at p;rw[TU r (zP.1 p.1) (by have:=h.alt x m;omega)];exact h.ini x m λc a=>zP.1 (p.2 c a)
end
end
end Go.Fw
def anS:=@List.singleton_append
namespace Go.Fw
noncomputable section
open Go.RowKit
def isW(own:Option OH):Op->Bool
 |.alloc _=>true
 |.box _ _=>true
 |.store _ _ _=>true
 |.call c=>match c.callee with
  |.builtin .append=>true
  |.builtin _=>false
  |_=>match own with
   |some .res=>true
   |_=>false
 |_=>false
def EP{α:Type}(f:FuncId)(S:ae)(vs:List SV)(K:SV->ae->Option α):List (FuncId×lY)->Option α
 |[]=>none
 |(g,c)::r=>match Nat.beq g f with
  |false=>EP f S vs K r
  |true=>match (PV.gets S c.ap vs).bind (kK _) with
   |some x=>(c.fn x).bind λy=>K (.own S.length 0) (S++[.arr c.t y false 0])
   |none=>EP f S vs K r
def NW:Op->Option Call
 |.call c=>match c.callee with
  |.builtin _=>none
  |_=>some c
 |_=>none
def fpW(τ:ax):Op->List Nat
 |.store _ p _=>fpO τ p
 |.call c=>match c.args.toList with
  |[x,y]=>fpO τ x++fpO τ y
  |_=>[]
 |_=>[]
section
variable {α:Type}
def sW(T:Tys)(H:Tr TC)(CO:List (FuncId×lY))(own:Option OH)(τ:ax)(S:ae)(a:Op)(K:SV->ae->Option α):Option α:=match a with
 |.alloc e=>NR T S e K
 |.box _ x=>cy τ x λv=>Xx S v K
 |.store t p x=>cy τ p λd=>cy τ x λf=>NU T S t d f K
 |.call c=>match c.callee with
  |.builtin .append=>match c.args.toList,c.argTypes.toList with
   |[x,y],[t,b]=>cy τ x λv=>cy τ y λw=>Xz T H S t b v w K
   |_,_=>none
  |.builtin _=>none
  |_=>match own with
   |some .res=>(wW T τ c).bind λp=>EP p.1 S p.2 K CO
   |_=>none
 |_=>none
def Gy(f:FuncId)(S:ae)(vs:List SV)(K:SV->Option α):List (FuncId×Ctr)->Option α
 |[]=>none
 |(g,c)::r=>match Nat.beq g f with
  |false=>Gy f S vs K r
  |true=>match (PV.gets S c.ap vs).bind (kK _) with
   |some x=>(c.fn x).bind λy=>(c.rp.put (λ_=>0) (eH _ y)).bind λw=>K w.1
   |none=>Gy f S vs K r
end
section
variable {α:Type}{P:Program}{T:Tys}{N:Nat}{o:Oper}{S:ae}{σ:Sto}{τ:ax}{τ' :Env}{r:α}
def TW{x:Operand}{v:SV}(h:sev τ x=some v):fpO τ x=fpV v:=by unfold fpO;rw[h]
variable{Z Y:DCh}{X:Call}
def Jk(tok:TOk T P){f:FuncId}{vs:List SV}{ds:List D}{B:List Nat}{K:SV->ae->Option α}(p:o.op=.call X)(j:lI T τ' X=some (f,ds))(d:StR S σ)(v:VRs S σ vs ds):
 ∀(C:List (FuncId×lY)),(∀g c,(g,c)∈C->pL P g c)->EP f S vs K C=some r->WOk P N o S σ τ' B K r
 |[],_,h=>by simp[EP]at h
 |(g,c)::C,a,h=>by
  simp only[EP]at h;split at h
  ·exact Jk tok p j d v C (λg c n=>a g c (alj _ n)) h
  ·rename_i m;have m:=bq m;subst m;split at h
   ·rename_i x w;obtain⟨l,H,w⟩:=am w;obtain⟨y,I,E⟩:=am h;obtain⟨G,k,a⟩:=a g c (alG ..);have a:=a x y I;have b:=io _ w;obtain⟨i,J,Q,O⟩:=PV.gets_ok (objs:=[]) _ _ l ds H k v;obtain⟨z,e,L⟩:=O λ_=>0;have e:=e [];rw[alm,<-b]at e;have F:=a z e i (L [] [] (EE _ _ _ _ _));refine⟨_,_,.sl σ.length (c.t.flat y).length 0 y.length c.t.sz false,.push (.cells (c.t.flat y) 0 (c.t.flat y).length),E,λs _ q=> ?_,?_,d.push ⟨0,_,rfl,λ_=>rfl⟩,aK.push d.len _ _,trivial⟩
    ·rw[<-q];exact pK tok p j (qW.weak J) G (F s)
    ·simp only[VR];exact .mk (t:=c.t) (xs:=y) (fz:=false) (fr:=0) (u:=(c.t.flat y).length) siq (by rw[d.len];simp[Upd.ap]) (by rw[d.len])
   ·exact Jk tok p j d v C (λg c n=>a g c (alj _ n)) h
def adO(tok:TOk T P){H:Tr TC}{CO:List (FuncId×lY)}(s:∀g c,(g,c)∈CO->pL P g c){own:Option OH}(f:StR S σ)(l:ER S σ τ τ'){n:Op}(i:o.op=n){K:SV->ae->Option α}(h:sW T H CO own τ S n K=some r):WOk P N o S σ τ' (fpW τ n) K r:=by
 cases n<;>simp only[sW]at h<;>try (cases h;done)
 case alloc e=>exact Qo tok f i h
 case box t x=>
  obtain⟨v,m,h⟩:=aM h;exact VJ tok f l i m h
 case store t p x=>
  obtain⟨Q,k,h⟩:=aM h;obtain⟨R,u,h⟩:=aM h;have:=Qq (N:=N) tok f l i k u h;simp only[fpW,TW k];exact this
 case call c=>
  split at h<;>try (cases h;done)
  rotate_left
  ·split at h<;>try (cases h;done)
   obtain⟨p,I,h⟩:=am h;obtain⟨O,F,G⟩:=zJ l I;exact Jk tok i F f G CO s h
  rename_i z;split at h<;>try (cases h;done)
  rename_i x y t J d j;obtain⟨v,m,h⟩:=aM h;obtain⟨w,B,h⟩:=aM h;simp only[fpW,d,TW m,TW B];refine VM tok f l (a:=x) (b:=y) ?_ m B h;obtain⟨L,C,q⟩:=c;simp only at z d j;subst z;have D:C= #[x,y]:=ank (by simpa using d);have E:q= #[t,J]:=ank (by simpa using j);rw[i,D,E]
def Gz(tok:TOk T P){f:FuncId}{vs:List SV}{ds:List D}{K:SV->Option α}(p:o.op=.call X)(j:lI T τ' X=some (f,ds))(q:VRs S σ vs ds):
 ∀(C:List (FuncId×Ctr)),(∀g c,(g,c)∈C->cD P g c)->Gy f S vs K C=some r->∃v d,K v=some r/\VR S σ v d/\∀s,AOp P N o τ' s λF W=>F=d/\W=s
 |[],_,h=>by simp[Gy]at h
 |(g,c)::C,a,h=>by
  simp only[Gy]at h;split at h
  ·exact Gz tok p j q C (λg c n=>a g c (alj _ n)) h
  ·rename_i m;have m:=bq m;subst m;split at h
   ·rename_i x z;obtain⟨l,O,z⟩:=am z;obtain⟨y,Q,G⟩:=am h;obtain⟨w,E,H⟩:=am G;obtain⟨L,k,J,a⟩:=a g c (alG ..);obtain⟨v,t,u,a⟩:=a x y Q;have b:=io _ z;obtain⟨i,R,Y,V⟩:=PV.gets_ok (objs:=[]) _ _ l ds O k q;obtain⟨B,e,U⟩:=V λ_=>0;have e:=e [];rw[alm,<-b]at e;have I:=a B e i (U [] [] (EE _ _ _ _ _));rw[t]at E;cases E;exact⟨v,v.can,H,u _ _,λs=>pK tok p j (qW.weak R) L (I.acall s)⟩
   ·exact Gz tok p j q C (λg c n=>a g c (alj _ n)) h
end
def rA(T:Tys):List Oper->Nat->Nat->Option Res
 |[],_,_=>some []
 |o::r,i,l=>match o.guard with
  |some _=>rA T r (i+1) l
  |none=>match o.op with
   |.alloc e=>(lk T.zero e).bind λz=>(rA T r (i+1) (l+1)).bind λA=>some ((i,l,z)::A)
   |_=>rA T r (i+1) l
def vi{T:Tys}:∀{ops:List Oper}{i l:Nat}{A:Res},rA T ops i l=some A->A.map (·.2.1)=List.range' l A.length
 |[],_,_,A,h=>by cases h;rfl
 |o::r,i,l,A,h=>by
  simp only[rA]at h;split at h
  ·exact vi h
  ·split at h
   ·obtain⟨z,_,h⟩:=am h;obtain⟨b,a,h⟩:=am h;cases h;simp only[alc,ak4,vi a];rfl
   ·exact vi h
def Jl{T:Tys}{x:Nat×Nat×List D}:∀{ops:List Oper}{i l:Nat}{A:Res},rA T ops i l=some A->x∈A->∃(k:Nat)(o:Oper)(e:TypeId),x.1=i+k/\ops[k]?=some o/\o.op=.alloc e/\lk T.zero e=some x.2.2
 |[],_,_,A,h,b=>by cases h;simp at b
 |o::r,i,l,A,h,b=>by
  have a:∀{l:Nat}{A:Res},rA T r (i+1) l=some A->x∈A->∃(k:Nat)(o':Oper)(e:TypeId),x.1=i+k/\(o::r)[k]?=some o'/\o'.op=.alloc e/\lk T.zero e=some x.2.2:=by
   intro l A h b;obtain⟨k,o',e,c,d,f⟩:=Jl h b;exact⟨k+1,o',e,omq,by simpa using d,f⟩
  simp only[rA]at h;split at h
  ·exact a h b
  ·split at h
   ·rename_i e g;obtain⟨z,j,h⟩:=am h;obtain⟨m,c,h⟩:=am h;cases h;rcases alr.1 b with rfl|b
    ·exact⟨0,o,e,rfl,rfl,g,j⟩
    ·exact a c b
   ·exact a h b
def Rv(o:Oper)(i:Nat)(a:Res):Bool:=match o.guard,o.op,a with
 |none,.alloc _,(j,_,_)::_=>Nat.beq j i
 |_,_,_=>false
section
variable {α:Type}
def sdX(cx:Cx)(fid N:Nat)(A:Res)(m:Nat)(o:Oper)(i:Nat)(d τ:ax)(S:ae)(a:Res)(f e:DCh)(next:ax->ae->Res->DCh->DCh->Option α):Option α:=
 match Rv o i a with
 |true=>match a with
  |(_,l,_)::rest'=>iM N o.dst (.raw (.ptr l 0 0)) τ λb=>next b S rest' f e
  |[]=>none
 |false=>match isW (By cx fid o.dst) o.op with
  |true=>match Ka A m (fpW d o.op) S.length f e with
   |true=>sW cx.T cx.H cx.CO (By cx fid o.dst) d S o.op λv g=>iM N o.dst v τ λb=>next b g a f (e++[(i,fpW d o.op++[S.length])])
   |false=>none
  |false=>match NW o.op with
   |some c=>(wW cx.T d c).bind λp=>match lk cx.T.ext p.1 with
    |some k=>JV k p.2 λv=>iM N o.dst v τ λb=>next b S a (f++[(i,[])]) e
    |none=>Gy p.1 S p.2 (λv=>iM N o.dst v τ λb=>next b S a (f++[(i,[])]) e) cx.C
   |none=>match vg A m (Du d o.op)&&e.all (λc=>Gv m c.1||Gu (Du d o.op) c.2) with
    |true=>sR cx.T cx.H d S o.op λv=>iM N o.dst v τ λb=>next b S a (f++[(i,Du d o.op)]) e
    |false=>none
def XF(cx:Cx)(fid N:Nat)(all:Array Oper)(A:Res)(M:List Nat)(o:Oper)(k:Nat->ax->ae->Res->DCh->DCh->(ax->ae->Option α)->Option α)(i:Nat)(τ:ax)(S:ae)(d:Res)(h g:DCh)(K:ax->ae->Option α):Option α:=match o.guard with
 |none=>sdX cx fid N A (M.getD i 0) o i (so all o τ) τ S d h g λc l a f e=>k (i+1) c l a f e K
 |some (j,want)=>match (all[j]?).bind (·.dst) with
  |none=>none
  |some t=>match kT (so all o τ) t with
   |some (.bool b)=>match want with
    |true=>cond b (sdX cx fid N A (M.getD i 0) o i (so all o ((t,.bool true)::τ)) ((t,.bool true)::τ) S d h g λc l a f e=>k (i+1) c l a f e K)
     (iM N o.dst (.tup []) ((t,.bool false)::τ) λc=>k (i+1) c S d h g K)
    |false=>cond b (iM N o.dst (.tup []) ((t,.bool true)::τ) λc=>k (i+1) c S d h g K)
     (sdX cx fid N A (M.getD i 0) o i (so all o ((t,.bool false)::τ)) ((t,.bool false)::τ) S d h g λc l a f e=>k (i+1) c l a f e K)
   |some (.tup _)=>iM N o.dst (.tup []) τ λc=>k (i+1) c S d h g K
   |_=>none
def sdr(cx:Cx)(fid N:Nat)(all:Array Oper)(A:Res)(M:List Nat)(l:List Oper):Nat->ax->ae->Res->DCh->DCh->(ax->ae->Option α)->Option α:=List.rec (λ_ τ S a _ _ K=>match a with
 |[]=>K τ S
 |_::_=>none) (λo _ b=>XF cx fid N all A M o b) l
variable{Z Y:DCh}{X:Call}
def VO{cx:Cx}{fid N:Nat}{all:Array Oper}{A:Res}{M:List Nat}{i:Nat}{τ:ax}{S:ae}{a:Res}{K:ax->ae->Option α}:sdr cx fid N all A M [] i τ S a Y Z K=match a with
 |[]=>K τ S
 |_::_=>none:=rfl
def TX{cx:Cx}{fid N:Nat}{all:Array Oper}{A:Res}{M:List Nat}{o:Oper}{r:List Oper}:sdr (α:=α) cx fid N all A M (o::r)=XF (α:=α) cx fid N all A M o (sdr cx fid N all A M r):=rfl
def Rw(cx:Cx)(fid N:Nat)(ops:Array Oper)(τ:ax)(S:ae)(K:ax->ae->Option α):Option α:=
 Jh S 0 λn=>(rA cx.T ops.toList 0 n).bind λA=>match dR ops (bj ops.toList []) with
  |true=>Gr (S++A.map λx=>il.cells (ky x.2.2) false) λa=>sdr cx fid N ops A (bj ops.toList []) ops.toList 0 τ a A [] [] K
  |false=>none
end
section
variable {α:Type}{cx:Cx}{fid N:Nat}{all:Array Oper}{A:Res}{M:List Nat}{r:α}
variable{Z Y:DCh}{X:Call}
def aho(f:kU cx){o:Oper}{l l' pre:List Oper}{i:Nat}{τ:ax}{τ':Env}{S:ae}{σ:Sto}{n done:Res}{Ss:List Sto}{e9:List Rc}{next:ax->ae->Res->DCh->DCh->Option α}{Kt:Env->Sto->Prop}
 (U:all.toList=pre++o::l')(V:pre.length=i)(hA:∀x∈A,∃(k:Nat)(o:Oper)(e:TypeId),x.1=k/\all.toList[k]?=some o/\o.op=.alloc e/\lk cx.T.zero e=some x.2.2)
 (u:DI cx.P N A M i σ Ss e9 done n Y Z)(I:StR S σ)(R:ER S σ τ τ')(hw:bw all (rst all o τ') o=some true)
 (h:sdX cx fid N A (M.getD i 0) o i (so all o τ) τ S n Y Z next=some r)
 (J:∀b m S2 y q D L C O B,DI cx.P N A M (i+1) y O B D q L C->StR S2 y->ER S2 y m b->aK S σ S2 y->next m S2 q L C=some r->ADr cx.P N all A M l (i+1) b O (C.map (·.1)) B Kt):
 ADr cx.P N all A M (o::l) i τ' Ss (Z.map (·.1)) e9 Kt:=by
 have E:=R.rst all o;unfold sdX at h;split at h
 ·rename_i hr;split at h<;>try (cases h;done)
  rename_i j lo z j5;unfold Rv at hr;split at hr<;>try (cases hr;done)
  rename_i e _ _ _ _ _ a F;cases F;have hj:=bq hr;subst hj;obtain⟨k,o',e',w,t,G,H⟩:=hA (j,lo,z) (by rw[u.all];simp);simp only at w H;subst w;have ho:o'=o:=by
   rw[U,<-V,ale (ak7 _)]at t;simp at t;exact t.symm
  subst ho;rw[a]at G;cases G;obtain⟨b,m,W,X,K⟩:=kZ (d:=.ptr lo 0 0) R (by simp only[VR]) h;exact adi f.tok hw a u.res H W (J _ _ _ _ _ _ _ _ _ _ u.alloc I X (.refl _ _) K)
 ·split at h
  ·split at h<;>try (cases h;done)
   rename_i g;obtain⟨v,S',d,up,w,t,G,H,h5,h6⟩:=adO (N:=N) f.tok f.ctrO I E rfl h;obtain⟨b,m,W,X,K⟩:=kZ (R.pres h5) G w;rw[I.len]at g K;obtain⟨g1,g2,g3,g4⟩:=u.chains h6 g t;have j3:=u.chain (o:=o) (env:=rst all o τ') (d:=d) h6 g (Z.map (·.1)).length;have:=J _ _ _ _ _ _ _ _ _ _ j3 H X h5 K;rw[al9]at this;exact .inr (.inr (.inl ⟨hw,g1,d,b,σ,up.ap σ,u.last,g2,g3,g4,W,this⟩))
  ·split at h
   ·rename_i c g;obtain⟨p,hp,h⟩:=am h;obtain⟨ds,w,t⟩:=zJ E hp;have ho:o.op=.call c:=by
     unfold NW at g;split at g<;>try (cases g;done)
     rename_i a;split at g<;>cases g;exact a
    have j4:∃v d,(iM N o.dst v τ λb=>next b S n (Y++[(i,[])]) Z)=some r/\VR S σ v d/\∀s,AOp cx.P N o (rst all o τ') s λQ s'=>Q=d/\s'=s:=by
     split at h
     ·rename_i k J;exact Mg (N:=N) f.tok ho w J t h
     ·exact Gz (N:=N) f.tok ho w t cx.C f.ctr h
    obtain⟨v,d,W,X,K⟩:=j4;obtain⟨b,m,m1,m2,m3⟩:=kZ R X W;have hh:vg A (M.getD i 0) []=true:=by unfold vg Gt;simp
    have a:∀s:Sto,(∀l∈([]:List Nat),s[l]?=σ[l]?)->AOp cx.P N o (rst all o τ') s λQ s'=>Q=d/\s'=s:=λs _=>K s;exact Wh hw (u.reads a hh (by simp[Gu])) m1 (J _ _ _ _ _ _ _ _ _ _ (u.read a hh) I m2 (.refl _ _) m3)
   ·split at h<;>try (cases h;done)
    rename_i g;simp only[akY]at g;obtain⟨v,d0,d,w,t,G,H⟩:=Xu I E h;obtain⟨b,m,m1,m2,m3⟩:=kZ R t w;have a:∀s:Sto,(∀l∈Du (so all o τ) o.op,s[l]?=σ[l]?)->AOp cx.P N o (rst all o τ') s λQ s'=>Q=d/\s'=s:=λs hs=>(aO f.tok (H s hs)).weak G;exact Wh hw (u.reads a g.1 g.2) m1 (J _ _ _ _ _ _ _ _ _ _ (u.read a g.1) I m2 (.refl _ _) m3)
def Jm(G:kU cx){suf:List Oper}{K:ax->ae->Option α}(U:∀x∈A,∃(k:Nat)(o:Oper)(e:TypeId),x.1=k/\all.toList[k]?=some o/\o.op=.alloc e/\lk cx.T.zero e=some x.2.2):∀(l pre:List Oper)(i:Nat)(τ:ax)(τ':Env)(S:ae)(σ:Sto)(a done:Res)(C s:DCh)(E:List Sto)(m:List Rc)(w:Env->Sto->Prop),
 all.toList=pre++(l++suf)->pre.length=i->DI cx.P N A M i σ E m done a C s->StR S σ->ER S σ τ τ'->sdr cx fid N all A M l i τ S a C s K=some r->(∀c v,my S σ K r c v->w c v)->ADr cx.P N all A M l i τ' E (s.map (·.1)) m w
 |[],pre,i,τ,τ',S,σ,a,done,C,s,E,m,w,_,_,hD,hS,g,h,O=>by
  simp only[VO,TX,XF]at h;split at h<;>try (cases h;done)
  refine aid (gx.mk λx hx=> ?_) hD.last (O _ _ ⟨τ,S,g,hS,.refl _ _,h⟩);rw[hD.all,alm]at hx;exact(hD.dn x hx).2
 |o::l,pre,i,τ,τ',S,σ,a,done,C,s,E,m,w,hall,hpre,hD,hS,g,h,O=>by
  have n:∀{τ:ax},ER S σ τ τ'->bw all (rst all o τ') o=some true->(sdX cx fid N A (M.getD i 0) o i (so all o τ) τ S a C s λc Q f D B=>sdr cx fid N all A M l (i+1) c Q f D B K)=some r->ADr cx.P N all A M (o::l) i τ' E (s.map (·.1)) m w:=by
   intro τ g y h;refine aho (l':=l++suf) G hall hpre U hD hS g y h ?_;intro c H Q v f F D B R I V X W Z h2;exact Jm (suf:=suf) G U l (pre++[o]) (i+1) H c Q v f F D B R I w (by simp[hall]) (by simp[hpre]) V X W h2 λj3 e9 x=>O _ _ (x.trans Z)
  have skip:∀{τ:ax},ER S σ τ τ'->bw all (rst all o τ') o=some false->(iM N o.dst (.tup []) τ λc=>sdr cx fid N all A M l (i+1) c S a C s K)=some r->ADr cx.P N all A M (o::l) i τ' E (s.map (·.1)) m w:=by
   intro τ g y h;obtain⟨c,H,k1,k2,k3⟩:=kZ (d:=.tuple []) g (by simp only[VR,VRs];exact⟨[],rfl,rfl⟩) h;exact ajD y k1 (Jm (suf:=suf) G U l (pre++[o]) (i+1) H c S σ a done C s E _ w (by simp[hall]) (by simp[hpre]) hD.skip hS k2 k3 O)
  simp only[VO,TX,XF]at h;split at h
  ·rename_i L;exact n g (by unfold bw;rw[L]) h
  ·rename_i j z L;split at h<;>try (cases h;done)
   rename_i t ht;split at h<;>try (cases h;done)
   ·rename_i b Y;obtain⟨d,J,q⟩:=g.rst all o t _ Y;simp only[VR]at q;subst q;have u:=(pX (p:=λt=>(o.looksAt all).contains t) J).2;have y:bw all (rst all o τ') o=some (b==z):=by unfold bw;rw[L];simp only[ht,J]
    cases z
    ·rcases aR h with⟨rfl,h⟩|⟨rfl,h⟩
     ·exact skip (g.setB u) y h
     ·exact n (g.setB u) y h
    ·rcases aR h with⟨rfl,h⟩|⟨rfl,h⟩
     ·exact n (g.setB u) y h
     ·exact skip (g.setB u) y h
   ·rename_i vs Y;obtain⟨d,J,q⟩:=g.rst all o t _ Y;simp only[VR]at q;obtain⟨ds,rfl,_⟩:=q;exact skip g (by unfold bw;rw[L];simp only[ht,J]) h
def StR.pushes:∀(B:Res){S:ae}{σ:Sto},StR S σ->StR (S++B.map λx=>il.cells (ky x.2.2) false) (σ++B.map λx=>aq.cells x.2.2 0 0)/\aK S σ (S++B.map λx=>il.cells (ky x.2.2) false) (σ++B.map λx=>aq.cells x.2.2 0 0)
 |[],S,σ,h=>by simp only[amj,alm];exact⟨h,.refl _ _⟩
 |x::B,S,σ,h=>by
  have c:StR (S++[il.cells (ky x.2.2) false]) (σ++[aq.cells x.2.2 0 0]):=h.push ⟨x.2.2,0,rfl,λ_=>rfl,jl _ _ x.2.2⟩;have d:=aK.push h.len (il.cells (ky x.2.2) false) (aq.cells x.2.2 0 0);obtain⟨a,b⟩:=StR.pushes B c;simp only[alp,anS]at a b;exact⟨a,d.trans b⟩
def TY(f:kU cx){i id:Nat}{ops:Array Oper}{τ:ax}{τ':Env}{S:ae}{σ:Sto}{K:ax->ae->Option α}(u:StR S σ)(C:ER S σ τ τ')(h:Rw cx fid N ops τ S K=some r):
 AWp i cx.P N (.region id ops true) τ' σ λe m g=>e=.normal/\my S σ K r m g:=by
 simp only[Rw,Af,qh,alS]at h;obtain⟨A,y,h⟩:=am h;split at h<;>try (cases h;done)
 rename_i E;obtain⟨v,z⟩:=StR.pushes A u;have c:=vi y;have b:∀x∈A,∃n:Nat,n<A.length/\x.2.1=σ.length+n/\A[n]?=some x:=by
  intro x a;obtain⟨n,t⟩:=amc a;have d:(A.map (·.2.1))[n]?=some x.2.1:=by simp[t]
  rw[c,ang (aj t)]at d;simp at d;exact⟨n,aj t,by rw[<-u.len];exact d.symm,t⟩
 refine PT (f.mix) A rfl E (by rw[c,u.len]) ?_;refine Jm (A:=A) (M:=bj ops.toList []) (done:=[]) (suf:=[]) f (λx a=> ?_) ops.toList [] 0 τ τ' _ _ A [] [] _ [] _ siq rfl ?_ v (C.pres z) h ?_
 ·obtain⟨k,o,e,d,p,q,B⟩:=Jl y a;exact⟨k,o,e,omq,p,q,B⟩
 ·refine⟨rfl,rfl,?_,?_,?_,?_,rfl,?_,rfl⟩
  ·intro k s w l _;cases k with
   |zero=>simp at w;subst w;rfl
   |succ k=>simp at w
  ·intro x a _;obtain⟨n,d,p,q⟩:=b x a;rw[p,ale omq];simp[q]
  ·intro x a;obtain⟨n,d,p,q⟩:=b x a;simp;omega
  ·intro j F D;simp at D
  ·intro x a;simp at a
 ·intro m g x;exact⟨rfl,x.trans z⟩
end
end
end Go.Fw
def anD:=@List.mem_range
namespace Go.Fw
open Go.RowKit
section
variable {fl:Nat}{P:Program}{N:Nat}{ops:Array Oper}{A:Res}{M:List Nat}{τ0:Env}{s0:Sto}{tab:List Rc}{S:List Sto}{C:List Nat}{τ:Env}
variable{Z:Gh}{Y:Nat}
def UM(O:fo P N ops A M τ0 s0 tab S C τ)(hM:bj ops.toList []=M)(hp:dR ops M=true)
 (m7:∀x∈A,∃r:Rc,tab[x.1]?=some r/\r.kd=.alloc x.2.1 x.2.2)(m8:∀x∈A,∀y∈A,x.2.1=y.2.1->x.1=y.1)
 {B:bE P}{L:Array Bool}{a:Act}{w:World}(Y:Inv fl ops A τ0 tab S C N B Z L a w){i:Nat}(p7:i<tab.length)(hi:i∈Region.ready .any ops L){Q:Exit->Act->World->Prop}
 {K:Act->World->Prop}(hK:∀a' w',Inv fl ops A τ0 tab S C N B Z (L.setIfInBounds i true) a' w'->K a' w'):wpOp P ops Q i K a w:=by
 obtain⟨H,o,ho,p⟩:=amQ.1 hi;obtain⟨e9,j9⟩:=cA H;obtain⟨r,R⟩:∃r,tab[i]?=some r:=⟨_,akZ p7⟩;obtain⟨n6,f⟩:=O.rc i r R;rw[ho]at n6;cases n6;have j6:=rR (ops:=ops) (L:=L) Y.down ops.toList [] [] siq rfl (λj m oj h=>by simp at h);rw[hM]at j6;have hn:oS L (M.getD i 0):=by
  intro j hj;cases hm:M[i]? with
  |none=>rw[alk,hm]at hj;simp at hj
  |some m=>
   rw[alk,hm]at hj;exact j6 i m _ hm ho p j hj
 obtain⟨G,k,σ,h0,hS,hC,hR,t7,r9,q,s⟩:=Y.st;have V:=Y.trel O hM hp q s R H hn;have j4:Win M C i k:=by
  intro k' c u;constructor
  ·intro T;have hL:=(hC k' c u).2 T;cases hb:Nat.testBit (M.getD c 0) i with
   |false=>rfl
   |true=>
    obtain⟨rc,D,_⟩:=O.ch k' c u;have n5:=(O.rc c rc D).1;cases hm:M[c]? with
    |none=>rw[alk,hm]at hb;simp at hb
    |some m=>
     rw[alk,hm]at hb;have:=j6 c m _ hm n5 (λe he o8=>Y.down c _ n5 hL e he o8) i hb;rw[j9]at this;cases this
  ·intro F;cases hb:Nat.testBit (M.getD i 0) c with
   |false=>rfl
   |true=>
    have:=(hC k' c u).1 (hn c hb);omega
 have W:∀{b:Bool},bw ops r.env r.o=some b->Region.wanted r.o (yielded ops a.tmps)=b:=λh=>wU V h;have n:(∀k,r.kd≠.chain k)->∀(t c:Nat),C[t]?=some c->((L.setIfInBounds i true).getD c false=true↔t<k):=by
  intro k8 t c u;have:c≠i:=by
   rintro rfl;obtain⟨rc,D,E⟩:=O.ch t c u;rw[R]at D;cases D;exact k8 _ E
  rw[amE false (amO this)];exact hC t c u
 have g:(∀l cs,r.kd≠.alloc l cs)->∀x∈A,x.1≠i:=by
  rintro k8 x hx rfl;obtain⟨r',n7,E⟩:=m7 x hx;rw[R]at n7;cases n7;exact k8 _ _ E
 have j3:=E9 hn A;unfold On at f;unfold wpOp;rw[ho];simp only;cases I:r.kd with
 |skip=>
  simp only[I]at f;rw[alJ (by rw[W f.1];simp)];refine hK _ _ (Y.next O hp R H p ⟨G,h0,.refl G,q,s⟩ hS (n (by rw[I];simp)) ?_ ?_)
  ·rw[jI (nU (g (by rw[I];simp)))];exact hR
  ·rw[f.2];simp only[Rep,undef];exact⟨#[],rfl,by simp[af]⟩
 |read=>
  simp only[I]at f;rw[ali (W f.1)];refine .inl (f.2 k σ hS j4 _ j3 B G w a hR V _ _ ?_);rintro v w' G' d s' F J hd ⟨rfl,rfl⟩;refine hK _ _ (Y.next O hp R H p ⟨G,h0,F,q,s⟩ hS (n (by rw[I];simp)) ?_ hd);rw[jI (nU (g (by rw[I];simp)))];exact J
 |chain k0=>
  simp only[I]at f;obtain⟨hw,j7,m5,t8,u0,n9,p9,k9⟩:=f;rw[ali (W hw)];have p8:k0=k:=by
   have h1:¬k0<k:=λh=>by
    have:=(hC k0 i j7).2 h;rw[j9]at this;cases this
   rcases alf k k0 with X|X
   ·exfalso;obtain⟨t,rfl⟩:∃t,k0=t+1:=⟨k0-1,omq⟩;have T:=aj j7;obtain⟨c,u⟩:∃c,C[t]?=some c:=⟨C[t],akZ omq⟩;have:=(hC t c u).1 (hn c (m5 t c rfl u));omega
   ·omega
  subst p8;rw[hS]at n9;cases n9;refine .inl (k9 _ j3 B G w a hR V _ _ ?_);rintro v w' G' d s' F J hd ⟨rfl,rfl⟩;refine hK _ _ (Y.next O hp R H p ⟨G,h0,F,q,s⟩ p9 ?_ ?_ hd)
  ·intro t c u;rw[cR e9,hC t c u];constructor
   ·rintro(rfl|h)
    ·obtain⟨rc,D,E⟩:=O.ch t c u;rw[R]at D;cases D;rw[I]at E;cases E;omega
    ·omega
   ·intro h;rcases alf t k0 with h'|h'
    ·exact .inr h'
    ·have:t=k0:=omq;subst this;rw[j7]at u;cases u;exact .inl rfl
  ·rw[jI (nU (g (by rw[I];simp)))];exact J
 |alloc l cs=>
  simp only[I]at f;obtain⟨hw,o7,hv,e,k9,hz⟩:=f;rw[ali (W hw)];obtain⟨x,hx,rfl,m6⟩:∃x∈A,x.1=i/\x.2=(l,cs):=⟨_,o7,rfl,rfl⟩;have j5:σ[l]?=some (.cells cs 0 0):=by
   have:=O.res x hx k σ hS λk' c u T=>(j4 k' c u).1 T;rw[m6]at this;exact this
  have o9:l∈dM L A:=gX.2 ⟨x,hx,j9,by rw[m6]⟩;have j8:(cp (dM L A) σ)[l]?=some .dead:=by
   rw[iI,ali ⟨o9,aj j5⟩]
  refine .inl (H5 (N:=N) (τ:=r.env) k9 hz j8 B G w a hR V _ _ ?_);rintro v w' G' d s' F J hd ⟨rfl,rfl⟩;refine hK _ _ (Y.next O hp R H p ⟨G,h0,F,q,s⟩ hS (n (by rw[I];simp)) ?_ (by rw[hv];exact hd));rw[<-RZ (ls:=dM L A) (l:=l) ?_ j5]
  ·exact J
  ·intro y;simp only[gX];constructor
   ·rintro⟨z,h1,X,h3⟩;have U:z.1≠x.1:=by
     intro e';rw[e',(cR e9).2 (.inl rfl)]at X;cases X
    rw[amE false (amO U)]at X;refine⟨⟨z,h1,X,h3⟩,?_⟩;rintro rfl;exact U (m8 z h1 x hx (by rw[h3,m6]))
   ·rintro⟨⟨z,h1,X,h3⟩,U⟩;refine⟨z,h1,?_,h3⟩;have:z.1≠x.1:=by
     intro e';obtain⟨rz,n8,m9⟩:=m7 z h1;rw[e',R]at n8;cases n8;rw[I]at m9;cases m9;exact U h3.symm
    rw[amE false (amO this)];exact X
def R4{suf:List Oper}{K:Env->Sto->Prop}:∀(r:List Oper)(τ:Env)(S:List Sto)(C:List Nat)(tab:List Rc)(pre:List Oper),ops.toList=pre++r++suf->tab.length=pre.length->
 fo P N ops A M τ0 s0 tab S C τ->ADr P N ops A M r tab.length τ S C tab K->
 ∃(a:List Rc)(S':List Sto)(g:List Nat)(τ':Env)(σ':Sto),a.length+suf.length=ops.size/\fo P N ops A M τ0 s0 a S' g τ'/\S'.getLast?=some σ'/\K τ' σ'/\(∀x∈A,∃r:Rc,a[x.1]?=some r/\r.kd=.alloc x.2.1 x.2.2)
 |[],τ,S,C,tab,pre,hops,hlen,hT,h=>by
  obtain⟨s,σ,B,D⟩:=h;have:ops.size=pre.length+suf.length:=by have:=alD List.length hops;simpa using this
  exact⟨tab,S,C,τ,σ,omq,hT,B,D,s.mem⟩
 |o::r,τ,S,C,tab,pre,hops,hlen,hT,h=>by
  have ho:ops[tab.length]?=some o:=by rw[<-alK,hops,hlen,alp];simp
  have next:∀(p:Rc)(τ2:Env)(S':List Sto)(g:List Nat),p.o=o->fo P N ops A M τ0 s0 (tab++[p]) S' g τ2->ADr P N ops A M r (tab.length+1) τ2 S' g (tab++[p]) K->
   ∃(a:List Rc)(S':List Sto)(g:List Nat)(τ':Env)(σ':Sto),a.length+suf.length=ops.size/\fo P N ops A M τ0 s0 a S' g τ'/\S'.getLast?=some σ'/\K τ' σ'/\(∀x∈A,∃r:Rc,a[x.1]?=some r/\r.kd=.alloc x.2.1 x.2.2):=by
   intro p τ2 S' g H q z;exact R4 r τ2 S' g (tab++[p]) (pre++[o]) (by simp[hops]) (by simp[hlen]) q (by simpa using z)
  rcases h with⟨m,τ2,j,h⟩|⟨m,d,τ2,b,j,h⟩|⟨m,i,d,τ2,σ,σ',f,b,w,n,j,h⟩|⟨m,e,l,y,τ2,v,E,F,j,h⟩
  ·exact next ⟨o,rst ops o τ,.tuple [],.skip⟩ τ2 S C rfl (hT.push ho ⟨m,rfl⟩ j rfl) h
  ·refine next ⟨o,rst ops o τ,d,.read⟩ τ2 S C rfl (hT.push ho ⟨m,λk σ hk hwin ls hls=> ?_⟩ j rfl) h
   refine b.mem _ (an1.2 ⟨σ,BZ hk λG c hc u=>(hwin G c hc).2 u,alW.2 ⟨ls,hls,rfl⟩⟩)
  ·refine next ⟨o,rst ops o τ,d,.chain C.length⟩ τ2 (S++[σ']) (C++[tab.length]) rfl (hT.pushC ho rfl ⟨m,by simp,λk1 c hk1 hc=> ?_,σ,σ',?_,?_,λls hls=>b.mem ls hls⟩ w.mem n.mem j rfl) h
   ·have t:C.getLast?=some c:=by
     rw[ak8 omq]at hc;rw[amf,hk1];exact hc
    unfold Fa at i;rw[t]at i;exact i
   ·have:S[C.length]?=some σ:=by
     rw[amf,hT.slen]at f;exact f
    exact fJ this
   ·rw[<-hT.slen];simp
  ·refine next ⟨o,rst ops o τ,.ptr l 0 0,.alloc l y⟩ τ2 S C rfl (hT.push ho ⟨m,H3 E,rfl,e,v,F⟩ j rfl) h
def MQ(n m:Nat):Bool:=(List.range n).all λj=>Nat.testBit m j
def aa9{n m:Nat}(h:MQ n m=true):∀j,j<n->Nat.testBit m j=true:=λj a=>alv.1 h j (anD.2 a)
def MR{Q:Exit->Act->World->Prop}{L:Array Bool}{a:Act}{w:World}(c:Region.ready .any ops L=[])(h:Q .normal a w):wpAny P .any ops Q Y L a w:=by
 cases Y with
 |zero=>exact⟨c,h⟩
 |succ n=>exact⟨λ_=>h,λi b=>by rw[c]at b;cases b⟩
def Yx(O:fo P N ops A M τ0 s0 tab S C τ)(hM:bj ops.toList []=M)(hp:dR ops M=true){o:Oper}(n9:tab.length+1=ops.size)(Y:ops[tab.length]?=some o)(F:MQ tab.length (M.getD tab.length 0)=true)
 (R:∀x∈A,∃r:Rc,tab[x.1]?=some r/\r.kd=.alloc x.2.1 x.2.2)(V:∀x∈A,∀y∈A,x.2.1=y.2.1->x.1=y.1)
 {B:bE P}{Q:AEx->Env->Sto->Prop}{σ:Sto}(q:S.getLast?=some σ)(hQ:eR P N ops [o] τ σ λs f=>Q .normal s f):
 ∀(e:Nat)(L:Array Bool)(a:Act)(w:World),L.toList.count false<=e->L.getD tab.length true=false->Inv fl ops A τ0 tab S C N B Z L a w->wpAny P .any ops (jH fl B Z N Q) e L a w:=by
 have j5:∀(L:Array Bool)(a:Act)(w:World),Inv fl ops A τ0 tab S C N B Z L a w->(∀i,i<tab.length->L.getD i false=true)->∃G,Z.LeB fl G/\Rel B G σ w/\de G N τ a:=by
  intro L a w E I;obtain⟨G,k,f,h0,hS,hC,K,n5,j8,e9,j3⟩:=E.st;have hk:k=C.length:=by
   have h1:k<S.length:=aj hS;rw[O.slen]at h1;rcases alf k C.length with h2|h2
   ·exfalso;obtain⟨c,U⟩:∃c,C[k]?=some c:=⟨C[k],akZ h2⟩;obtain⟨rc,m9,_⟩:=O.ch k c U;have b:=aj m9;have:=(hC k c U).1 (I c b);omega
   ·omega
  have n8:f=σ:=by
   rw[amf,O.slen]at q;subst hk;have g:S[C.length]?=some σ:=q;rw[hS]at g;exact alX g
  subst n8;have hh:cp (dM L A) f=f:=by
   rw[jI (ls':=[]) ?_]
   ·rfl
   ·intro x;simp only[gX,ant,iff_false];rintro⟨y,hy,D,_⟩;obtain⟨r,m8,_⟩:=R y hy;have b:=aj m8;rw[I y.1 b]at D;cases D
  rw[hh]at K;refine⟨G,h0,K,⟨n5,j8,λt d hg=> ?_⟩⟩;rcases O.fin t d hg with⟨j,rj,p,z,j9,rfl⟩|⟨m5,k8⟩
  ·exact e9 j rj t z (I j p) j9
  ·exact j3 t d k8 λj rj z _=>m5 j rj (aj z) z
 intro e;induction e with
 |zero=>
  intro L a w U u E;obtain⟨b,D⟩:=cA u;have:=rS (Nat.le_zero.1 U) tab.length (by simpa using b);simp[ak6,b]at D;simp[b,D]at this
 |succ e ih=>
  intro L a w U u E;refine⟨λhr=> ?_,λi hi=> ?_⟩
  ·obtain⟨j,p⟩:=zq hp E.size tab.length tab.length (ak7 _) u;rw[hr]at p;cases p
  obtain⟨n6,oi,ho,T⟩:=amQ.1 hi;obtain⟨b,D⟩:=cA n6;rcases alf i tab.length with W|W
  ·refine UM O hM hp R V E W hi λa' w' j6=>ih _ a' w' ?_ ?_ j6
   ·have h1:L.toList[i]?=some false:=by
     simp[ak6,b]at D;simp[b,D]
    have:=oE h1;rw[amY];omega
   ·rw[amE true omq];exact u
  ·have k9:i=tab.length:=by
    have:=(alE.1 ho).1;omega
   subst k9;rw[ho]at Y;cases Y;have J:=rR (ops:=ops) (L:=L) E.down ops.toList [] [] siq rfl (λj m oj h=>by simp at h);rw[hM]at J;have hn:oS L (M.getD tab.length 0):=by
    intro j p;cases hm:M[tab.length]? with
    |none=>rw[alk,hm]at p;simp at p
    |some m=>
     rw[alk,hm]at p;exact J _ m _ hm ho T j p
   have I:∀j,j<tab.length->L.getD j false=true:=λj p=>hn j (aa9 F j p);obtain⟨G,h0,K,l⟩:=j5 L a w E I;have n:Region.ready .any ops (L.setIfInBounds tab.length true)=[]:=by
    rw[ami];intro x hx;obtain⟨n7,ox,m7,_⟩:=amQ.1 hx;obtain⟨o7,j4⟩:=cA n7;have o8:=(alE.1 m7).1;have:(L.setIfInBounds tab.length true).getD x false=true:=(cR b).2 (by
     rcases alf x tab.length with h|h
     ·exact .inr (I x h)
     ·exact .inl omq)
    rw[this]at j4;cases j4
   unfold wpOp;rw[ho];simp only;rcases hQ with⟨hw,m6⟩|⟨hw,s,H,hr⟩
   ·rw[ali (wU l hw)];refine .inl (m6 B G w a K l _ _ ?_);rintro v w' G' d f X j7 hd ⟨s,H,hr⟩;exact MR n ⟨G',s,f,h0.trans X.b,j7,Ey (l.mono X) H hd,hr⟩
   ·rw[alJ (by rw[wU l hw];simp)];exact MR n ⟨G,s,σ,h0,K,Ey l H (by simp only[Rep,undef];exact⟨#[],rfl,by simp[af]⟩),hr⟩
end
variable{Z:Gh}{Y:Nat}
def Wu{fl:Nat}{P:Program}{N:Nat}{τ:Env}{σ:Sto}{ops:Array Oper}{Q:AEx->Env->Sto->Prop}(hm:P.follows .mixedOrders=true)(A:Res){M:List Nat}{pre:List Oper}{o:Oper}(l:ops.toList=pre++[o])(E:MQ pre.length (M.getD pre.length 0)=true)
 (hM:bj ops.toList []=M)(hp:dR ops M=true)(hA:A.map (·.2.1)=List.range' σ.length A.length)
 (h:ADr P N ops A M pre 0 τ [σ++A.map λx=>aq.cells x.2.2 0 0] [] [] (λT R=>eR P N ops [o] T R λj3 e9=>Q .normal j3 e9)):AWp fl P N (.region Y ops true) τ σ Q:=by
 intro B G w a hR U;have b:∀x∈A,(σ++A.map λx=>aq.cells x.2.2 0 0)[x.2.1]?=some (.cells x.2.2 0 0)/\∃n,A[n]?=some x/\x.2.1=σ.length+n:=by
  intro x q;obtain⟨n,u⟩:=amc q;have v:(A.map (·.2.1))[n]?=some x.2.1:=by simp[u]
  rw[hA]at v;have g:=aj u;rw[ang g]at v;simp at v;refine⟨?_,n,u,v.symm⟩;rw[<-v,ale omq];simp[u]
 have K:∀x∈A,∀y∈A,x.2.1=y.2.1->x.1=y.1:=by
  intro x q y hy e;obtain⟨_,n,u,v⟩:=b x q;obtain⟨_,m,L,h2⟩:=b y hy;have:n=m:=omq;subst this;rw[u]at L;cases L;rfl
 obtain⟨O,S',C',T,R,D,z,F,hK,V⟩:=R4 (suf:=[o]) (τ0:=τ) (s0:=σ++A.map λx=>aq.cells x.2.2 0 0) pre τ _ [] [] [] (by simp[l]) rfl ⟨λi r h=>by simp at h,rfl,rfl,λk c h=>by simp at h,
  λx q k s X _=>by
   have:s=σ++A.map λx=>aq.cells x.2.2 0 0:=by
    cases k with
    |zero=>simp at X;exact X.symm
    |succ k=>simp at X
   subst this;exact(b x q).1,λi r h=>by simp at h,λt d W=>.inr ⟨λj rj hj _=>absurd hj (an8 _),W⟩,λi r t h=>by simp at h⟩ h
 have Z:ops.size=pre.length+1:=by have:=alD List.length l;simpa using this
 have H:O.length=pre.length:=by simp at D;omega
 refine wp_region_any hm (Yx z hM hp (by simpa using D) (o:=o) (by rw[H,<-Array.getElem?_toList,l];simp) (by rw[H];exact E) V K F hK ops.size _ a _ siq (by simp[ak6,H,Z]) ⟨by simp,λj oj j4 I=> ?_,?_⟩)
 ·exfalso;rcases alf j ops.size with f|f
  ·simp[ak6,f]at I
  ·simp[ak6,f]at I
 ·have p:∀j,(Array.replicate ops.size false).getD j false=false:=by
   intro j;rcases alf j ops.size with f|f
   ·simp[ak6,f]
   ·simp[ak6,f]
  refine⟨G,0,_,.refl G,z.hd,λk' c hc=> ?_,?_,U.size,U.defers,λi r t _ I _=> ?_,λt d W _=>U.slot t d W⟩
  ·rw[p c];simp
  ·have:cp (dM (Array.replicate ops.size false) A) (σ++A.map λx=>aq.cells x.2.2 0 0)=σ++List.replicate A.length .dead:=by
    refine DF λx=> ?_;rw[iI];have J:x∈dM (Array.replicate ops.size false) A↔(σ.length<=x/\x<σ.length+A.length):=by
     rw[gX];constructor
     ·rintro⟨y,hy,_,rfl⟩;obtain⟨_,n,u,v⟩:=b y hy;have:=aj u;omega
     ·rintro⟨v,h2⟩;have g:x-σ.length<A.length:=omq;refine⟨A[x-σ.length],alZ _,p _,?_⟩;obtain⟨_,n,u,h3⟩:=b _ (alZ g);have h4:(A.map (·.2.1))[x-σ.length]?=some (A[x-σ.length]).2.1:=by simp[g]
      rw[hA,ang g]at h4;simp at h4;omega
    by_cases q:σ.length<=x/\x<σ.length+A.length
    ·rw[ali ⟨J.2 q,by simp;exact q.2⟩,ale q.1,aof,ali omq]
    ·rw[alJ (λh=>q (J.1 h.1))];rcases alf x σ.length with f|f
     ·rw[ak8 f,ak8 f]
     ·rw[alg soq,alg soq]
   rw[this];exact(hR.dead _).drawn
  ·rw[p i]at I;cases I
end Go.Fw
namespace Go.Fw
noncomputable section
open Go.RowKit
def Rx(ops:Array Oper):Option (List Oper×Oper):=match ops.toList.reverse with
 |[]=>none
 |o::r=>match o.op with
  |.call c=>match c.callee with
   |.builtin _=>none
   |_=>match MQ r.reverse.length ((bj ops.toList []).getD r.reverse.length 0) with
    |true=>some (r.reverse,o)
    |false=>none
  |_=>none
def acB{ops:Array Oper}{pre:List Oper}{o:Oper}(h:Rx ops=some (pre,o)):ops.toList=pre++[o]/\MQ pre.length ((bj ops.toList []).getD pre.length 0)=true:=by
 unfold Rx at h;split at h<;>try (cases h;done)
 rename_i c r b;split at h<;>try (cases h;done)
 split at h<;>try (cases h;done)
 split at h<;>try (cases h;done)
 rename_i a;cases h;refine⟨?_,a⟩;have:=alD List.reverse b;simpa using this
def TZ{α:Type}(cx:Cx)(fid N:Nat)(a:mw α)(ops:Array Oper)(pre:List Oper)(o:Oper)(τ:ax)(S:ae)(K:ax->ae->Option α):Option α:=
 Jh S 0 λn=>(rA cx.T ops.toList 0 n).bind λA=>match dR ops (bj ops.toList []) with
  |true=>Gr (S++A.map λx=>il.cells (ky x.2.2) false) λb=>sdr cx fid N ops A (bj ops.toList []) pre 0 τ b A [] [] λc b=>Gd cx fid N a ops [o] c b K
  |false=>none
section
variable {α:Type}{cx:Cx}{fid N:Nat}{r:α}
def ZE(p:kU cx){b:mw α}(m:tm cx.P b){i id:Nat}{ops:Array Oper}{τ:ax}{τ':Env}{S:ae}{σ:Sto}{K:ax->ae->Option α}(z:StR S σ)(H:ER S σ τ τ'){pre:List Oper}{o:Oper}(J:Rx ops=some (pre,o))(h:TZ cx fid N b ops pre o τ S K=some r):
 AWp i cx.P N (.region id ops true) τ' σ λe w v=>e=.normal/\my S σ K r w v:=by
 simp only[TZ,Af,qh,alS]at h;obtain⟨f,q⟩:=acB J;obtain⟨A,E,h⟩:=am h;split at h<;>try (cases h;done)
 rename_i L;obtain⟨B,F⟩:=StR.pushes A z;have g:=vi E;have d:∀x∈A,∃n:Nat,n<A.length/\x.2.1=σ.length+n/\A[n]?=some x:=by
  intro x a;obtain⟨n,y⟩:=amc a;have c:(A.map (·.2.1))[n]?=some x.2.1:=by simp[y]
  rw[g,ang (aj y)]at c;simp at c;exact⟨n,aj y,by rw[<-z.len];exact c.symm,y⟩
 refine Wu (pre:=pre) (o:=o) (p.mix) A f q rfl L (by rw[g,z.len]) ?_;refine Jm (A:=A) (M:=bj ops.toList []) (done:=[]) (suf:=[o]) p (λx a=> ?_) pre [] 0 τ τ' _ _ A [] [] _ [] _ (by simp[f]) rfl ?_ B (H.pres F) h ?_
 ·obtain⟨k,o,e,c,t,u,G⟩:=Jl E a;exact⟨k,o,e,omq,t,u,G⟩
 ·refine⟨rfl,rfl,?_,?_,?_,?_,rfl,?_,rfl⟩
  ·intro k s C l _;cases k with
   |zero=>simp at C;subst C;rfl
   |succ k=>simp at C
  ·intro x a _;obtain⟨n,c,t,u⟩:=d x a;rw[t,ale omq];simp[u]
  ·intro x a;obtain⟨n,c,t,u⟩:=d x a;simp;omega
  ·intro j T I;simp at I
  ·intro x a;simp at a
 ·rintro w v ⟨Q,R,c,t,D,u⟩;refine eR.monoK ?_ _ _ _ (EG p m _ _ _ _ _ t c u);intro P O x;exact⟨rfl,x.trans (F.trans D)⟩
end
end
end Go.Fw
namespace Go.Fw
open Go.RowKit
def An:List Nat->Nat->Nat->Option Nat
 |[],_,_=>none
 |j::r,i,k=>match Nat.beq j i with
  |true=>some k
  |false=>An r i (k+1)
def B3{a b:Nat}(h:Nat.beq a b=true):a=b:=amp h
def H6:∀{ids:List Nat}{i k m:Nat},An ids i k=some m->∃j,m=k+j/\ids[j]?=some i
 |[],_,_,_,h=>by simp[An]at h
 |x::r,i,k,m,h=>by
  simp only[An]at h;split at h
  ·rename_i e;cases h;exact⟨0,rfl,by simp[B3 e]⟩
  ·obtain⟨j,b,a⟩:=H6 h;exact⟨j+1,omq,by simpa using a⟩
def PU:∀{ids:List Nat}{i k:Nat},An ids i k=none->i ∉ ids
 |[],_,_,_=>by simp
 |x::r,i,k,h=>by
  simp only[An]at h;split at h
  ·cases h
  ·rename_i e;have:=PU h;simp only[alr,not_or];exact⟨λa=>(by subst a;rw[Nat.beq_refl]at e;cases e),this⟩
def Ao(ids:List Nat):List Edge->List Edge
 |[]=>[]
 |e::a=>match Region.binds .any e with
  |true=>match An ids e.on 0 with
   |some k=>{e with on:=k}::Ao ids a
   |none=>Ao ids a
  |false=>Ao ids a
def R5{ids:List Nat}{b:Edge}:∀{es:List Edge},b∈Ao ids es->∃e∈es,Region.binds .any e=true/\An ids e.on 0=some b.on
 |[],h=>by simp[Ao]at h
 |e::es,h=>by
  have a:b∈Ao ids es->∃x∈e::es,Region.binds .any x=true/\An ids x.on 0=some b.on:=λh=>by
   obtain⟨x,c,d⟩:=R5 h;exact⟨x,alj _ c,d⟩
  simp only[Ao]at h;split at h
  ·rename_i f;split at h
   ·rename_i k g;rcases alr.1 h with rfl|h
    ·exact⟨e,alG ..,f,g⟩
    ·exact a h
   ·exact a h
  ·exact a h
def R6{ids:List Nat}{e:Edge}{k:Nat}(b:Region.binds .any e=true)(c:An ids e.on 0=some k):∀{es:List Edge},e∈es->({e with on:=k}:Edge)∈Ao ids es
 |[],h=>by simp at h
 |x::es,h=>by
  simp only[Ao];rcases alr.1 h with rfl|h
  ·rw[b];simp only[c];exact alG ..
  ·have a:=R6 b c h;split
   ·split
    ·exact alj _ a
    ·exact a
   ·exact a
def Fe(ids:List Nat)(o:Oper):Oper:={o with after:=(Ao ids o.after.toList).toArray}
def Lv(ops:Array Oper)(all:List Nat):List Nat->List Oper
 |[]=>[]
 |i::r=>match ops[i]? with
  |some o=>Fe all o::Lv ops all r
  |none=>Lv ops all r
def dN(ops:Array Oper)(ids:List Nat):Array Oper:=(Lv ops ids ids).toArray
def Lw{ops:Array Oper}{all:List Nat}:∀{ids:List Nat},(∀i∈ids,i<ops.size)->(Lv ops all ids).length=ids.length/\∀k:Nat,(Lv ops all ids)[k]?=(ids[k]?).bind λi=>(ops[i]?).map (Fe all)
 |[],_=>by simp[Lv]
 |i::r,h=>by
  obtain⟨b,c⟩:=Lw (ops:=ops) (all:=all) (ids:=r) (λi a=>h i (alj _ a));have a:ops[i]?=some (ops[i]'(h i (alG ..))):=alo _;simp only[Lv,a];refine⟨by simp[b],λk=> ?_⟩;cases k with
  |zero=>simp[a]
  |succ k=>simpa using c k
section
variable {P:Program}{ops:Array Oper}{ids:List Nat}
def C4(a:∀i∈ids,i<ops.size):(dN ops ids).size=ids.length:=by
 unfold dN;simpa using (Lw (ops:=ops) (all:=ids) a).1
def tH(a:∀i∈ids,i<ops.size){k i:Nat}(h:ids[k]?=some i):∃o,ops[i]?=some o/\(dN ops ids)[k]?=some (Fe ids o):=by
 have b:ops[i]?=some (ops[i]'(a i (List.mem_of_getElem? h))):=alo _;refine⟨_,b,?_⟩;unfold dN;rw[List.getElem?_toArray,(Lw (ops:=ops) (all:=ids) a).2 k,h];simp[b]
def Wv(a:∀i∈ids,i<ops.size){k:Nat}{o':Oper}(h:(dN ops ids)[k]?=some o'):∃i o,ids[k]?=some i/\ops[i]?=some o/\o'=Fe ids o:=by
 have c:k<ids.length:=by rw[<-C4 a];exact(alE.1 h).1
 obtain⟨o,d,b⟩:=tH a (akZ c);rw[h]at b;cases b;exact⟨_,o,akZ c,d,rfl⟩
def pY(ops:Array Oper):Bool:=ops.toList.all λo=>o.guard.isNone
def Ff(h:pY ops=true){i:Nat}{o:Oper}(a:ops[i]?=some o):o.guard=none:=by
 have:=alv.1 h o (List.mem_of_getElem? (by rw[alK];exact a));simpa using this
def R7{Q:Exit->Act->World->Prop}{K:Act->World->Prop}{a:Act}{w:World}(g:pY ops=true){k i:Nat}{o:Oper}(b:ops[i]?=some o)(f:(dN ops ids)[k]?=some (Fe ids o))(h:wpOp P (dN ops ids) Q k K a w):wpOp P ops Q i K a w:=by
 have c:=Ff g b;unfold wpOp at h⊢;rw[f]at h;rw[b];simp only at h⊢;have d:∀y,Region.wanted o y=true:=λy=>by unfold Region.wanted;rw[c]
 have e:∀y,Region.wanted (Fe ids o) y=true:=λy=>by unfold Region.wanted Fe;simp only[c]
 rw[ali (e _)]at h;rw[ali (d _)];exact h
def B4{Q:Exit->Act->World->Prop}{K:Act->World->Prop}{a:Act}{w:World}(d:pY ops=true){i:Nat}{o:Oper}(b:ops[i]?=some o)(h:o.wp P a w K Q):wpOp P ops Q i K a w:=by
 have e:=Ff d b;unfold wpOp;rw[b];simp only;have c:∀y,Region.wanted o y=true:=λy=>by unfold Region.wanted;rw[e]
 rw[ali (c _)];exact .inl h
structure Sb(ids:List Nat)(n:Nat)(L L':Array Bool):Prop where
 s1:L.size=n
 s2:L'.size=ids.length
 at':∀(k i:Nat),ids[k]?=some i->L.getD i false=L'.getD k false
def JJ{L:Array Bool}{i:Nat}(h:i<L.size):L.getD i true=L.getD i false:=by
 simp[ak6,h]
def Vd{L:Array Bool}{i:Nat}(h:L.getD i true=false):L.getD i false=false:=(cA h).2
def Sb.tr{n:Nat}{L L':Array Bool}(h:Sb ids n L L')(b:∀i∈ids,i<n){k i:Nat}(a:ids[k]?=some i):L.getD i true=L'.getD k true:=by
 rw[JJ (by rw[h.s1];exact b i (List.mem_of_getElem? a)),JJ (by rw[h.s2];exact(amg.1 a).1)];exact h.at' k i a
def Sb.set{n:Nat}{L L':Array Bool}(h:Sb ids n L L')(p:ids.Nodup)(g:∀i∈ids,i<n){k i:Nat}(b:ids[k]?=some i):Sb ids n (L.setIfInBounds i true) (L'.setIfInBounds k true):=by
 refine⟨by simp[h.s1],by simp[h.s2],λm j a=> ?_⟩;have d:i<L.size:=by rw[h.s1];exact g i (List.mem_of_getElem? b)
 have f:k<L'.size:=by rw[h.s2];exact(amg.1 b).1
 by_cases e:m=k
 ·subst e;rw[b]at a;cases a;rw[(cR d).2 (.inl rfl),(cR f).2 (.inl rfl)]
 ·have c:j≠i:=λc=>by
   subst c;obtain⟨q,l⟩:=amg.1 a;obtain⟨r,o⟩:=amg.1 b;exact e ((List.getElem_inj p).1 (l.trans o.symm))
  rw[amE false (amO c),amE false (amO e)];exact h.at' m j a
def aba{L L':Array Bool}(h:Sb ids ops.size L L')(a:∀i∈ids,i<ops.size)(v:ids.Nodup){k i:Nat}(n:ids[k]?=some i)(u:k∈Region.ready .any (dN ops ids) L')
 (t:∀o,ops[i]?=some o->∀e∈o.after,Region.binds .any e=true->e.on ∉ ids->L.getD e.on false=true):i∈Region.ready .any ops L:=by
 obtain⟨q,w,r,s⟩:=amQ.1 u;obtain⟨o,f,g⟩:=tH a n;rw[r]at g;cases g;refine amQ.2 ⟨by rw[h.tr a n];exact q,o,f,λe l b=> ?_⟩;cases c:An ids e.on 0 with
 |none=>exact t o f e l b (PU c)
 |some m=>
  obtain⟨j,d,p⟩:=H6 c;rw[alS]at d;subst d;rw[h.at' m e.on p];have:=R6 b c (es:=o.after.toList) (by simpa using l);exact s {e with on:=m} (by unfold Fe;simpa using this) (by simpa[Region.binds] using b)
def Lx{L L':Array Bool}(h:Sb ids ops.size L L')(b:∀i∈ids,i<ops.size){k i:Nat}(g:ids[k]?=some i)(u:i∈Region.ready .any ops L):k∈Region.ready .any (dN ops ids) L':=by
 obtain⟨q,o,r,s⟩:=amQ.1 u;obtain⟨v,f,t⟩:=tH b g;rw[r]at f;cases f;refine amQ.2 ⟨by rw[<-h.tr b g];exact q,_,t,λc a _=> ?_⟩;have a:c∈Ao ids o.after.toList:=by unfold Fe at a;simpa using a
 obtain⟨e,m,n,p⟩:=R5 a;obtain⟨j,d,l⟩:=H6 p;rw[alS]at d;subst d;rw[<-h.at' c.on e.on l];exact s e (by simpa using m) n
def Yy{Q:Exit->Act->World->Prop}(G:pY ops=true)(c:∀i∈ids,i<ops.size)(C:ids.Nodup)(q:Fb ops.toList 0=true):∀(b:Nat)(L L':Array Bool)(a:Act)(w:World),Sb ids ops.size L L'->
 (∀i,i<ops.size->i ∉ ids->L.getD i false=true)->wpAny P .any (dN ops ids) Q b L' a w->wpAny P .any ops Q b L a w:=by
 have s:∀{L:Array Bool},(∀i,i<ops.size->i ∉ ids->L.getD i false=true)->∀{i:Nat} o,ops[i]?=some o->∀e∈o.after,Region.binds .any e=true->e.on ∉ ids->L.getD e.on false=true:=by
  intro L d i o v e F E B;have t:=Fc q (i:=i) (o:=o) (by rw[alK];exact v) e F E;have m:=(alE.1 v).1;exact d _ omq B
 have z:∀{L L':Array Bool},Sb ids ops.size L L'->(∀i,i<ops.size->i ∉ ids->L.getD i false=true)->Region.ready .any ops L=[]->Region.ready .any (dN ops ids) L'=[]:=by
  intro L L' h d y;rw[ami]at y⊢;intro k f;obtain⟨_,K,m,_⟩:=amQ.1 f;obtain⟨i,o,D,J,_⟩:=Wv c m;exact y i (aba h c C D f λo v=>s d o v)
 have g:∀{L:Array Bool},(∀i,i<ops.size->i ∉ ids->L.getD i false=true)->∀{i:Nat},i∈Region.ready .any ops L->∃k:Nat,ids[k]?=some i:=by
  intro L d i l;obtain⟨t,o,m,_⟩:=amQ.1 l;have n:=(alE.1 m).1;by_cases u:i∈ids
  ·exact amc u
  ·have:=d i n u;rw[Vd t]at this;cases this
 intro b;induction b with
 |zero=>
  intro L L' a w h d r;refine⟨?_,r.2⟩;rw[ami];intro i l;obtain⟨k,f⟩:=g d l;have:=Lx h c f l;rw[r.1]at this;cases this
 |succ b I=>
  intro L L' a w h d r;refine⟨λy=>r.1 (z h d y),λi l=> ?_⟩;obtain⟨k,f⟩:=g d l;have A:=Lx h c f l;obtain⟨o,t,m⟩:=tH c f;refine wpOp_mono (λa w x=>I _ _ a w (h.set C c f) (λj H p=> ?_) x) (R7 G t m (r.2 k A));have u:=List.mem_of_getElem? f;rw[amE false (λe=>p (by rw[<-e];exact u))];exact d j H p
def tF.step{L:Array Bool}(h:tF ops L)(q:L.size=ops.size){i:Nat}(n:i∈Region.ready .any ops L):tF ops (L.setIfInBounds i true):=by
 obtain⟨k,o,l,m⟩:=amQ.1 n;have b:=(cA k).1;intro j p a d e g f;have c:L.getD e.on false=true:=by
  rcases (cR b).1 d with rfl|d
  ·rw[l]at a;cases a;exact m e g f
  ·exact h j p a d e g f
 exact(cR b).2 (.inr c)
def UN{Q:Exit->Act->World->Prop}{M:List Nat}{c:Nat}{J:Array Bool->Act->World->Prop}(Y:pY ops=true)(r:∀i∈ids,i<ops.size)(hn:ids.Nodup)(X:bj ops.toList []=M)(hp:dR ops M=true)(I:c<ops.size)(y:c ∉ ids){m:Nat}(Z:1<=m)
 (t:∀i,i<ops.size->i ∉ ids->i≠c->Nat.testBit (M.getD i 0) c=true)
 (u:∀(L':Array Bool)(a:Act)(w:World)(k:Nat),J L' a w->k∈Region.ready .any (dN ops ids) L'->∀K:Act->World->Prop,(∀D E,J (L'.setIfInBounds k true) D E->K D E)->wpOp P (dN ops ids) Q k K a w)
 (f:∀(b:Nat)(L L':Array Bool)(a:Act)(w:World),J L' a w->Sb ids ops.size L L'->(∀i,i<ops.size->i ∉ ids->L.getD i false=false)->tF ops L->oS L (M.getD c 0)->L'.toList.count false+m<=b+1->wpOp P ops Q c (wpAny P .any ops Q b (L.setIfInBounds c true)) a w):
 ∀(b:Nat)(L L':Array Bool)(a:Act)(w:World),J L' a w->Sb ids ops.size L L'->(∀i,i<ops.size->i ∉ ids->L.getD i false=false)->tF ops L->L'.toList.count false+m<=b->wpAny P .any ops Q b L a w:=by
 have v:∀{L L':Array Bool},Sb ids ops.size L L'->(∀i,i<ops.size->i ∉ ids->L.getD i false=false)->∃j,j∈Region.ready .any ops L:=by
  intro L L' h n;exact zq hp h.s1 c c (ak7 _) (by rw[JJ (by rw[h.s1];exact I)];exact n c I y)
 have d:∀{L:Array Bool},tF ops L->∀{i:Nat},i∈Region.ready .any ops L->oS L (M.getD i 0):=by
  intro L p i q;obtain⟨R,o,F,S⟩:=amQ.1 q;have x:=rR (ops:=ops) (L:=L) p ops.toList [] [] siq rfl (λj m oj h=>by simp at h);rw[X]at x;intro j g;cases s:M[i]? with
  |none=>rw[alk,s]at g;simp at g
  |some m=>
   rw[alk,s]at g;exact x i m o s F S j g
 intro b;induction b with
 |zero=>
  intro L L' a w G h n p l;exfalso;omega
 |succ b ih=>
  intro L L' a w G h n p l;refine⟨λhr=> ?_,λi q=> ?_⟩
  ·obtain⟨j,g⟩:=v h n;rw[hr]at g;cases g
  obtain⟨R,o,F,S⟩:=amQ.1 q;have N:=(alE.1 F).1;by_cases z:i=c
  ·subst z;exact f b L L' a w G h n p (d p q) l
  by_cases s:i∈ids
  ·obtain⟨k,A⟩:=amc s;have O:=Lx h r A q;obtain⟨o',U,V⟩:=tH r A;refine R7 Y U V (u L' a w k G O _ λD E H=>ih _ _ D E H (h.set hn r A) (λj g C=> ?_) (p.step h.s1 q) ?_)
   ·rw[amE false (λe=>C (by rw[<-e];exact s))];exact n j g C
   ·have T:L'.getD k false=false:=by rw[<-h.at' k i A];exact Vd R
    have W:L'.toList[k]?=some false:=by
     have B:k<L'.size:=by rw[h.s2];exact(amg.1 A).1
     simp[ak6,B]at T;simp[B,T]
    have:=oE W;rw[amY];omega
  ·have:=d p q c (t i N s z);rw[n c I y]at this;cases this
end
end Go.Fw
def al7:=@Bool.not_true
def an9:=@List.nodup_cons
namespace Go.Fw
open Go.RowKit
def ADg(P:Program)(N:Nat)(ops:Array Oper)(A:Res)(M:List Nat)(fr:Nat->Bool):List Oper->Nat->Env->List Sto->List Nat->List Rc->(Env->Sto->Prop)->Prop
 |[],_,τ,S,_,tab,K=>gx (λ(x:Nat×Nat×List D)=>∃r,tab[x.1]?=some r/\r.kd=.alloc x.2.1 x.2.2) A/\∃σ,S.getLast?=some σ/\K τ σ
 |o::r,i,τ,S,C,tab,K=>
  (bw ops (rst ops o τ) o=some false/\∃τ2,eg N o.dst (.tuple []) τ=some τ2/\ADg P N ops A M fr r (i+1) τ2 S C (tab++[⟨o,rst ops o τ,.tuple [],.skip⟩]) K)∨
  (bw ops (rst ops o τ) o=some true/\∃d τ2,
    gx (λs=>AOp P N o (rst ops o τ) s λb c=>b=d/\c=s) ((nr (M.getD i 0) S C).flatMap λσ=>(fj A (M.getD i 0)).map (cp · σ))/\
    eg N o.dst d τ=some τ2/\ADg P N ops A M fr r (i+1) τ2 S C (tab++[⟨o,rst ops o τ,d,.read⟩]) K)∨
  (bw ops (rst ops o τ) o=some true/\Fa (M.getD i 0) C=true/\fr i=false/\∃d τ2 σ a,S.getLast?=some σ/\
    gx (λg=>AOp P N o (rst ops o τ) (cp g σ) λb c=>b=d/\c=cp g a) (fj A (M.getD i 0))/\
    gx (λ(x:Rc×Sto)=>AOp P N x.1.o x.1.env x.2 λb c=>b=x.1.v/\c=x.2) (reS A M (C++[i]) a 0 tab)/\
    gx (λ(x:Nat×Nat×List D)=>match Nat.testBit (M.getD i 0) x.1 with|true=>True|false=>a[x.2.1]?=some (.cells x.2.2 0 0)) A/\
    eg N o.dst d τ=some τ2/\ADg P N ops A M fr r (i+1) τ2 (S++[a]) (C++[i]) (tab++[⟨o,rst ops o τ,d,.chain C.length⟩]) K)∨
  (bw ops (rst ops o τ) o=some true/\∃e l f τ2,o.op=.alloc e/\tG A i=some (l,f)/\mZ P e=some f/\
    eg N o.dst (.ptr l 0 0) τ=some τ2/\ADg P N ops A M fr r (i+1) τ2 S C (tab++[⟨o,rst ops o τ,.ptr l 0 0,.alloc l f⟩]) K)
section
variable {P:Program}{N:Nat}{ops:Array Oper}{A:Res}{M:List Nat}{τ0:Env}{s0:Sto}{tab:List Rc}{S:List Sto}{C:List Nat}{τ τ2:Env}
def Ve{fr:Nat->Bool}{K:Env->Sto->Prop}:∀(r:List Oper)(τ:Env)(S:List Sto)(C:List Nat)(tab:List Rc)(pre:List Oper),ops.toList=pre++r->tab.length=pre.length->
 (∀c∈C,fr c=false)->fo P N ops A M τ0 s0 tab S C τ->ADg P N ops A M fr r tab.length τ S C tab K->
 ∃(a:List Rc)(S':List Sto)(b:List Nat)(τ':Env)(σ':Sto),a.length=ops.size/\fo P N ops A M τ0 s0 a S' b τ'/\S'.getLast?=some σ'/\K τ' σ'/\(∀c∈b,fr c=false)/\(∀x∈A,∃r:Rc,a[x.1]?=some r/\r.kd=.alloc x.2.1 x.2.2)
 |[],τ,S,C,tab,pre,hops,hlen,hF,hT,h=>by
  obtain⟨t,σ,F,G⟩:=h;have:ops.size=pre.length:=by have:=alD List.length hops;simpa using this
  exact⟨tab,S,C,τ,σ,omq,hT,F,G,hF,t.mem⟩
 |o::r,τ,S,C,tab,pre,hops,hlen,hF,hT,h=>by
  have ho:ops[tab.length]?=some o:=by rw[<-alK,hops,hlen];simp
  have next:∀(p:Rc)(τ2:Env)(S':List Sto)(b:List Nat),p.o=o->(∀c∈b,fr c=false)->fo P N ops A M τ0 s0 (tab++[p]) S' b τ2->ADg P N ops A M fr r (tab.length+1) τ2 S' b (tab++[p]) K->
   ∃(a:List Rc)(S':List Sto)(b:List Nat)(τ':Env)(σ':Sto),a.length=ops.size/\fo P N ops A M τ0 s0 a S' b τ'/\S'.getLast?=some σ'/\K τ' σ'/\(∀c∈b,fr c=false)/\(∀x∈A,∃r:Rc,a[x.1]?=some r/\r.kd=.alloc x.2.1 x.2.2):=by
   intro p τ2 S' b L q s E;exact Ve r τ2 S' b (tab++[p]) (pre++[o]) (by simp[hops]) (by simp[hlen]) q s (by simpa using E)
  rcases h with⟨m,τ2,j,h⟩|⟨m,d,τ2,f,j,h⟩|⟨m,i,v,d,τ2,σ,σ',g,f,B,n,j,h⟩|⟨m,e,l,D,τ2,z,H,I,j,h⟩
  ·exact next ⟨o,rst ops o τ,.tuple [],.skip⟩ τ2 S C rfl hF (hT.push ho ⟨m,rfl⟩ j rfl) h
  ·refine next ⟨o,rst ops o τ,d,.read⟩ τ2 S C rfl hF (hT.push ho ⟨m,λk σ hk hwin ls hls=> ?_⟩ j rfl) h
   refine f.mem _ (an1.2 ⟨σ,BZ hk λJ c hc y=>(hwin J c hc).2 y,alW.2 ⟨ls,hls,rfl⟩⟩)
  ·refine next ⟨o,rst ops o τ,d,.chain C.length⟩ τ2 (S++[σ']) (C++[tab.length]) rfl (λc hc=>by rcases alM.1 hc with hc|hc;exact hF c hc;(simp at hc;subst hc;exact v)) (hT.pushC ho rfl ⟨m,by simp,λO c w hc=> ?_,σ,σ',?_,?_,λls hls=>f.mem ls hls⟩ B.mem n.mem j rfl) h
   ·have u:C.getLast?=some c:=by
     rw[ak8 omq]at hc;rw[amf,w];exact hc
    unfold Fa at i;rw[u]at i;exact i
   ·have:S[C.length]?=some σ:=by
     rw[amf,hT.slen]at g;exact g
    exact fJ this
   ·rw[<-hT.slen];simp
  ·refine next ⟨o,rst ops o τ,.ptr l 0 0,.alloc l D⟩ τ2 S C rfl hF (hT.push ho ⟨m,H3 H,rfl,e,z,I⟩ j rfl) h
end
section
variable {fl:Nat}{P:Program}{N:Nat}{ops:Array Oper}{A:Res}{M:List Nat}{τ τ1:Env}{σ:Sto}{tab:List Rc}{S:List Sto}{C:List Nat}
def dS:Res->Sto->Sto
 |[],s=>s
 |(_,l,a)::A,s=>(dS A s).set l (.cells a 0 0)
def Fg:∀(A:Res)(s:Sto),(dS A s).length=s.length
 |[],_=>rfl
 |(_,l,a)::A,s=>by simp[dS,Fg A s]
def H7:∀(A:Res)(s:Sto)(y:Nat),y ∉ A.map (·.2.1)->(dS A s)[y]?=s[y]?
 |[],_,_,_=>rfl
 |(_,l,a)::A,s,y,h=>by
  simp only[alc,alr,not_or]at h;simp only[dS];rw[alI (amO h.1)];exact H7 A s y h.2
def MS:∀(A:Res)(s:Sto),(A.map (·.2.1)).Nodup->(∀x∈A,x.2.1<s.length)->∀x∈A,(dS A s)[x.2.1]?=some (.cells x.2.2 0 0)
 |[],_,_,_,x,a=>by simp at a
 |(j,l,g)::A,s,b,d,x,a=>by
  simp only[alc,an9]at b;simp only[dS];rcases alr.1 a with rfl|a
  ·rw[alP (by rw[Fg];exact d _ (alG ..))]
  ·have c:l≠x.2.1:=λe=>b.1 (e▸alW.2 ⟨x,a,rfl⟩);rw[alI c];exact MS A s b.2 (λy f=>d y (alj _ f)) x a
def UO{A:Res}{s:Sto}(h:∀x∈A,s[x.2.1]?=some .dead):cp (A.map (·.2.1)) (dS A s)=s:=by
 refine DF λy=> ?_;rw[iI,Fg];by_cases a:y∈A.map (·.2.1)
 ·obtain⟨x,c,rfl⟩:=alW.1 a;have b:=h x c;rw[ali ⟨a,aj b⟩,b]
 ·rw[alJ (λh=>a h.1),H7 A s y a]
def Ap:∀{A:Res},(A.map (·.2.1)).Nodup->∀x∈A,∀y∈A,x.2.1=y.2.1->x.1=y.1
 |[],_,x,d,_,_,_=>by simp at d
 |z::A,c,x,d,y,f,e=>by
  simp only[alc,an9]at c;rcases alr.1 d with a|a<;>rcases alr.1 f with b|b
  ·rw[a,b]
  ·exact absurd (alW.2 ⟨y,b,by rw[<-e,a]⟩) c.1
  ·exact absurd (alW.2 ⟨x,a,by rw[e,b]⟩) c.1
  ·exact Ap c.2 x a y b e
structure Ini(A:Res)(s σ:Sto):Prop where
 nd:(A.map (·.2.1)).Nodup
 dead:∀x∈A,s[x.2.1]?=some .dead
 ext:∃n,s=σ++List.replicate n .dead
def Ini.get{s:Sto}(h:Ini A s σ):∀x∈A,(dS A s)[x.2.1]?=some (.cells x.2.2 0 0):=MS A s h.nd λx a=>aj (h.dead x a)
def agk{s:Sto}(h:Ini A s σ):fo P N ops A M τ (dS A s) [] [dS A s] [] τ:=
 ⟨λi r h=>by simp at h,rfl,rfl,λk c h=>by simp at h,
   λx f k g a _=>by
    have:g=dS A s:=by
     cases k with
     |zero=>simp at a;exact a.symm
     |succ k=>simp at a
    subst this;exact h.get x f,λi r h=>by simp at h,λt d b=>.inr ⟨λj l e _=>absurd e (an8 _),b⟩,λi r t h=>by simp at h⟩
def agl{s:Sto}(h:Ini A s σ)(g:fo P N ops A M τ (dS A s) tab S C τ1){B:bE P}{G0 G:Gh}(o:G0.LeB fl G){w:World}{a:Act}(p:Rel B G σ w)(m:de G N τ a):
 Inv fl ops A τ tab S C N B G0 (Array.replicate ops.size false) a w:=by
 refine⟨by simp,λj E v f=> ?_,?_⟩
 ·exfalso;rcases alf j ops.size with e|e
  ·simp[ak6,e]at f
  ·simp[ak6,e]at f
 ·have b:∀j,(Array.replicate ops.size false).getD j false=false:=by
   intro j;rcases alf j ops.size with e|e
   ·simp[ak6,e]
   ·simp[ak6,e]
  refine⟨G,0,_,o,g.hd,λD c z=> ?_,?_,m.size,m.defers,λi r t _ f _=> ?_,λt d q _=>m.slot t d q⟩
  ·rw[b c];simp
  ·have:cp (dM (Array.replicate ops.size false) A) (dS A s)=s:=by
    rw[jI (ls':=A.map (·.2.1)) ?_]
    ·exact UO h.dead
    ·intro y;rw[gX,alW];exact⟨λ⟨x,k,_,l⟩=>⟨x,k,l⟩,λ⟨x,k,l⟩=>⟨x,k,b _,l⟩⟩
   rw[this];obtain⟨n,u⟩:=h.ext;rw[u];exact p.dead _
  ·rw[b i]at f;cases f
def Drn(P:Program)(N:Nat)(ops:Array Oper)(τ:Env)(σ:Sto)(K:Env->Sto->Prop):Prop:=∃(A:Res)(s:Sto),dR ops (bj ops.toList [])=true/\Ini A s σ/\
 ADr P N ops A (bj ops.toList []) ops.toList 0 τ [dS A s] [] [] K
variable{Z:Nat}
def Yz{Q:AEx->Env->Sto->Prop}(h:Drn P N ops τ σ λf e=>Q .normal f e){B:bE P}{G0 G:Gh}(k:G0.LeB fl G){w:World}{a:Act}(m:Rel B G σ w)(n:de G N τ a)(o:ops.size<=Z):
 wpAny P .any ops (jH fl B G0 N Q) Z (Array.replicate ops.size false) a w:=by
 obtain⟨A,s,p,g,h⟩:=h;obtain⟨j,r,q,f,e,d,b,c,l,i⟩:=Oo (τ0:=τ) (s0:=dS A s) ops.toList τ _ [] [] [] siq rfl (agk g) h;exact R3 b rfl p d i (Ap g.nd) c l Z _ a w (by simp;exact o) (agl g b k m n)
def Fh(fl:Nat)(P:Program)(N:Nat)(ops:Array Oper)(τ:Env)(σ:Sto)(Q:AEx->Env->Sto->Prop):Prop:=
 ∀(B:bE P)(G0 G:Gh)(w:World)(a:Act)(b:Nat),G0.LeB fl G->Rel B G σ w->de G N τ a->ops.size<=b->wpAny P .any ops (jH fl B G0 N Q) b (Array.replicate ops.size false) a w
def Fh.awp{Q:AEx->Env->Sto->Prop}(d:P.follows .mixedOrders=true)(h:Fh fl P N ops τ σ Q):AWp fl P N (.region Z ops true) τ σ Q:=
 λB G w a b c=>wp_region_any d (h B G G _ a ops.size (.refl G) b.drawn c (ak7 _))
def Drn.any{Q:AEx->Env->Sto->Prop}(h:Drn P N ops τ σ λb a=>Q .normal b a):Fh fl P N ops τ σ Q:=
 λ_ _ _ _ _ _ c d e f=>Yz h c d e f
def bW(M:List Nat)(c n:Nat):List Nat:=(List.range n).filter λj=> !(Nat.beq j c)&& !(Nat.testBit (M.getD j 0) c)
def wv(M:List Nat)(c n:Nat):List Nat:=(List.range n).filter λj=> !(Nat.beq j c)&&Nat.testBit (M.getD j 0) c
def Fi{a b:Nat}:Nat.beq a b=false↔a≠b:=by
 constructor
 ·intro h e;subst e;rw[Nat.beq_refl]at h;cases h
 ·intro h;cases c:Nat.beq a b with
  |false=>rfl
  |true=>exact absurd (B3 c) h
def zV{c n j:Nat}:j∈bW M c n↔j<n/\j≠c/\Nat.testBit (M.getD j 0) c=false:=by
 unfold bW;simp[anP,Fi]
def Aq{c n j:Nat}:j∈wv M c n↔j<n/\j≠c/\Nat.testBit (M.getD j 0) c=true:=by
 unfold wv;simp[anP,Fi]
def R8(p q:Nat->Bool):∀l:List Nat,(l.filter λj=> !p j&& !q j).length+(l.filter λj=> !p j&&q j).length+(l.filter p).length=l.length
 |[]=>rfl
 |x::l=>by
  have a:=R8 p q l;simp only[aoo];cases p x<;>cases q x<;>simp<;>omega
def R9{c:Nat}:∀n,c<n->((List.range n).filter λj=>Nat.beq j c).length=1
 |0,h=>omq
 |n+1,h=>by
  rw[List.range_succ,List.filter_append,ak2];by_cases e:c=n
  ·subst e;have:(List.range c).filter (λj=>Nat.beq j c)=[]:=by
    rw[List.filter_eq_nil_iff];intro x b;have:=anD.1 b;have a:Nat.beq x c=false:=Fi.2 omq;rw[a];simp
   rw[this];simp
  ·rw[R9 n omq];have:Nat.beq n c=false:=Fi.2 omq;simp[this]
def Sa{c n:Nat}(a:c<n):(bW M c n).length+(wv M c n).length+1=n:=by
 have:=R8 (λj=>Nat.beq j c) (λj=>Nat.testBit (M.getD j 0) c) (List.range n);rw[R9 n a,List.length_range]at this;exact this
def pick:List Nat->List Bool->List Nat
 |i::r,b::D=>match b with
  |true=>pick r D
  |false=>i::pick r D
 |_,_=>[]
def ww:∀(l:List Nat)(D:List Bool),(pick l D).Sublist l
 |[],D=>by cases D<;>exact List.Sublist.refl _
 |i::r,[]=>by simp[pick]
 |i::r,b::D=>by
  simp only[pick];cases b
  ·exact(ww r D).cons_cons i
  ·exact(ww r D).cons i
def Sc:∀(l:List Nat)(D:List Bool),D.length=l.length->(pick l D).length=D.count false
 |[],D,h=>by
  have:D=[]:=alF (by simpa using h);subst this;rfl
 |i::r,[],h=>by simp at h
 |i::r,b::D,h=>by
  have a:=Sc r D (by simpa using h);simp only[pick];cases b<;>simp[a]
def Ly{i:Nat}:∀(l:List Nat)(D:List Bool),D.length=l.length->(i∈pick l D↔∃k:Nat,l[k]?=some i/\D[k]?=some false)
 |[],D,h=>by simp[pick]
 |j::r,[],h=>by simp at h
 |j::r,b::D,h=>by
  have d:=Ly (i:=i) r D (by simpa using h);simp only[pick];cases b
  ·simp only[alr,d];constructor
   ·rintro(rfl|⟨k,a,c⟩)
    ·exact⟨0,rfl,rfl⟩
    ·exact⟨k+1,by simpa using a,by simpa using c⟩
   ·rintro⟨k,a,c⟩;cases k with
    |zero=>simp at a;exact .inl a.symm
    |succ k=>exact .inr ⟨k,by simpa using a,by simpa using c⟩
  ·simp only[d];constructor
   ·rintro⟨k,a,c⟩;exact⟨k+1,by simpa using a,by simpa using c⟩
   ·rintro⟨k,a,c⟩;cases k with
    |zero=>simp at c
    |succ k=>exact⟨k,by simpa using a,by simpa using c⟩
def nV(M:List Nat)(c n:Nat)(D:List Bool):List Nat:=pick (bW M c n) D++wv M c n
def Oq(a:Nat):List Nat->List (List Bool)
 |[]=>[[]]
 |i::r=>match Nat.testBit a i with
  |true=>(Oq a r).map (true::·)
  |false=>(Oq a r).flatMap λl=>[true::l,false::l]
def Sd:∀(l:List Nat)(D:List Bool),D.length=l.length->(∀(k i:Nat),l[k]?=some i->Nat.testBit Z i=true->D.getD k false=true)->D∈Oq Z l
 |[],D,h,_=>by
  have:D=[]:=alF (by simpa using h);subst this;simp[Oq]
 |i::r,[],h,_=>by simp at h
 |i::r,b::D,h,a=>by
  have c:=Sd r D (by simpa using h) λk j d e=>by
   have:=a (k+1) j (by simpa using d) e;simpa using this
  simp only[Oq];cases f:Nat.testBit Z i with
  |true=>
   have:=a 0 i rfl f;simp at this;subst this;exact alW.2 ⟨D,c,rfl⟩
  |false=>exact an1.2 ⟨D,c,by cases b<;>simp⟩
def adz(a:List Nat)(D:List Bool):Bool:=(List.range D.length).all λk=> !(D.getD k false)||(List.range D.length).all λm=> !(Nat.testBit (a.getD k 0) m)||D.getD m false
def Rh(b:Nat)(a ids:List Nat):List (List Bool):=(Oq b ids).filter (adz a)
def nW(D:List Bool):Res->List Nat
 |[]=>[]
 |(j,l,_)::A=>match D.getD j false with
  |true=>nW D A
  |false=>l::nW D A
def qY{L:Array Bool}{j:Nat}:L.toList.getD j false=L.getD j false:=by
 simp[ak6]
def MT{L:Array Bool}:∀A:Res,nW L.toList A=dM L A
 |[]=>rfl
 |(j,l,a)::A=>by
  simp only[nW,dM,qY,MT A];cases L.getD j false<;>rfl
def rC:List Oper->List Bool->List Nat
 |o::r,b::D=>match b with
  |true=>rC r D
  |false=>match o.dst with
   |some t=>t::rC r D
   |none=>rC r D
 |_,_=>[]
def PW{t:Nat}:∀{l:List Oper}{D:List Bool}{k:Nat}{o:Oper},l[k]?=some o->D[k]?=some false->o.dst=some t->t∈rC l D
 |[],_,_,_,h,_,_=>by simp at h
 |_::_,[],_,_,_,h,_=>by simp at h
 |x::l,b::D,0,o,a,c,d=>by
  simp at a c;subst a c;simp only[rC,d];exact alG ..
 |x::l,b::D,k+1,o,a,c,d=>by
  have e:=PW (l:=l) (D:=D) (k:=k) (by simpa using a) (by simpa using c) d;simp only[rC];split
  ·exact e
  ·split
   ·exact alj _ e
   ·exact e
def C5(x:Nat)(l:List Nat):Bool:=l.any (Nat.beq x)
def Lz{x:Nat}{l:List Nat}:C5 x l=true↔x∈l:=by
 unfold C5;rw[List.any_eq_true];exact⟨λ⟨y,a,b⟩=>(B3 b)▸a,λh=>⟨x,h,Nat.beq_refl x⟩⟩
def Ww(a:List Nat)(τ:Env):Env:=τ.filter λq=> !(C5 q.1 a)
def YA{fl:Nat}{Q:AEx->Env->Sto->Prop}(A:Res){c:Nat}{oc:Oper}(m9:ops[c]?=some oc)(hg:pY ops=true)(hM:bj ops.toList []=M)(hp:dR ops M=true){b:Array Oper}(hP:dN ops (bW M c ops.size)=b){M1:List Nat}(n7:bj b.toList []=M1)(C3:dR b M1=true)
 {s0:Sto}(hA:Ini A s0 σ)(fr:Nat->Bool)(B8:∀(k i:Nat),(bW M c ops.size)[k]?=some i->fr k=false->Nat.testBit (M.getD c 0) i=true){K:Env->Sto->Prop}
 (h:ADg P N b A M1 fr b.toList 0 τ [dS A s0] [] [] K)
 (hK:∀τ1 F,K τ1 F->∀D∈Rh (M.getD c 0) M1 (bW M c ops.size),eR P N ops [oc] (Ww (rC b.toList D) τ1) (cp (nW D A) F) λτ2 D0=>Fh fl P N (dN ops (nV M c ops.size D)) τ2 D0 Q):
 Fh fl P N ops τ σ Q:=by
 intro B n5 G0 w a j6 A4 hR hT A3;have j8:c<ops.size:=(alE.1 m9).1;have m6:∀i∈bW M c ops.size,i<ops.size:=λi f=>(zV.1 f).1;have w9:(bW M c ops.size).Nodup:=List.nodup_range.filter _;have x7:(wv M c ops.size).Nodup:=List.nodup_range.filter _;have V:b.size=(bW M c ops.size).length:=by rw[<-hP];exact C4 m6
 obtain⟨j5,S',C',τ1,F,e9,g,T,A7,hF,B1⟩:=Ve (τ0:=τ) (s0:=dS A s0) b.toList τ _ [] [] [] siq rfl siq (agk hA) h;have hK:=hK τ1 F A7;have o8:c ∉ bW M c ops.size:=λh=>(zV.1 h).2.1 rfl;have z7:Fb ops.toList 0=true:=by
  unfold dR at hp;simp only[akY]at hp;exact hp.1.2
 refine(UN (ids:=bW M c ops.size) (M:=M) (c:=c) (m:=(wv M c ops.size).length+1) (J:=Inv fl b A τ j5 S' C' N B n5) hg m6 w9 hM hp j8 o8 omq ?_ ?_ ?_ j6 _ (Array.replicate b.size false) a _ (agl hA g A4 hR hT) ⟨by simp,by simp[V],?_⟩ ?_ ?_ ?_)
 ·intro i f Z r;cases l:Nat.testBit (M.getD i 0) c with
  |true=>rfl
  |false=>exact absurd (zV.2 ⟨f,r,l⟩) Z
 ·intro L' a w k hI O K2 A6;rw[hP]at O⊢;exact MP g n7 C3 e9 B1 (Ap hA.nd) hI O A6
 ·intro H L L' a w hI E z8 hd m8 D1;have q:L'.size=(bW M c ops.size).length:=E.s2;have j4:∀(k i:Nat),(bW M c ops.size)[k]?=some i->Nat.testBit (M.getD c 0) i=true->L'.getD k false=true:=λk i O l=>by rw[<-E.at' k i O];exact m8 i l
  have A5:L'.toList∈Rh (M.getD c 0) M1 (bW M c ops.size):=by
   refine anP.2 ⟨Sd _ _ (by simp[q]) λk i O l=>by rw[qY];exact j4 k i O l,?_⟩;unfold adz;rw[alv];intro k O;rw[qY];cases A8:L'.getD k false with
   |false=>rfl
   |true=>
    rw[al7,Bool.false_or,alv];intro m u7;rw[qY];cases l:Nat.testBit (M1.getD k 0) m with
    |false=>rfl
    |true=>
     have R:k<b.size:=by rw[V,<-q];simpa using O
     have n8:=rR (ops:=b) (L:=L') hI.down b.toList [] [] siq rfl (λj m oj h=>by simp at h);rw[n7]at n8;cases m7:M1[k]? with
     |none=>rw[alk,m7]at l;simp at l
     |some mm=>
      rw[alk,m7]at l;rw[n8 k mm (b[k]'R) m7 (alo R) (hI.down k _ (alo R) A8) m l];rfl
  have hD:=hK _ A5;obtain⟨G,k,A2,h0,hS,hC,n9,A1,B6,x8,z6⟩:=hI.st;have O:k=C'.length:=by
   have Y:k<S'.length:=aj hS;rw[g.slen]at Y;rcases alf k C'.length with h2|h2
   ·exfalso;obtain⟨W,j7⟩:∃W,C'[k]?=some W:=⟨C'[k],akZ h2⟩;have p8:=hF W (List.mem_of_getElem? j7);obtain⟨rc,C8,_⟩:=g.ch k W j7;have B3:W<(bW M c ops.size).length:=by rw[<-V,<-e9];exact aj C8
    have p9:(bW M c ops.size)[W]?=some (bW M c ops.size)[W]:=akZ B3;have:=(hC k W j7).1 (j4 W _ p9 (B8 W _ p9 p8));omega
   ·omega
  have C9:A2=F:=by
   rw[amf,g.slen]at T;subst O;have u:S'[C'.length]?=some F:=T;rw[hS]at u;exact alX u
  subst C9;rw[<-MT]at n9;have o7:de G N (Ww (rC b.toList L'.toList) τ1) a:=by
   refine⟨A1,B6,λt d k8=> ?_⟩;obtain⟨z,k8⟩:=pX (p:=λt=> !(C5 t (rC b.toList L'.toList))) k8;have z:t ∉ rC b.toList L'.toList:=λu7=>by rw[Lz.2 u7]at z;cases z
   have j9:∀(j:Nat)(X:Rc),j5[j]?=some X->X.o.dst=some t->L'.getD j false=true:=by
    intro j X hj B7;cases l:L'.getD j false with
    |true=>rfl
    |false=>
     exfalso;have t7:=(g.rc j X hj).1;have r9:j<L'.size:=by rw[q,<-V];exact(alE.1 t7).1
     refine z (PW (k:=j) (o:=X.o) (by rw[alK];exact t7) ?_ B7);simp[ak6,r9]at l;simp[r9,l]
   rcases g.fin t d k8 with⟨j,X,hj,U,o9,rfl⟩|⟨C1,B9⟩
   ·exact x8 j X t U (j9 j X U o9) o9
   ·exact z6 t d B9 λj X U _=>C1 j X (aj U) U
  rcases hD with⟨_,C2⟩|⟨hw,_⟩
  ·refine B4 hg m9 (C2 B G w a n9 o7 _ _ ?_);rintro v w' G' d A2 t8 A9 B5 ⟨τ2,C6,p7⟩;have s:L'.toList.length=(bW M c ops.size).length:=by simp[q]
   have j3:∀i∈nV M c ops.size L'.toList,i<ops.size:=by
    intro i f;rcases alM.1 f with f|f
    ·exact m6 i ((ww _ _).subset f)
    ·exact(Aq.1 f).1
   have x6:(nV M c ops.size L'.toList).Nodup:=by
    refine List.nodup_append.2 ⟨w9.sublist (ww _ _),x7,λx hx y hy e=> ?_⟩;subst e;have Y:=(zV.1 ((ww _ _).subset hx)).2.2;rw[(Aq.1 hy).2.2]at Y;cases Y
   have C7:(nV M c ops.size L'.toList).length<=H:=by
    unfold nV;rw[ak2,Sc _ _ s];omega
   have u0:∀j,(Array.replicate (nV M c ops.size L'.toList).length false).getD j false=false:=by
    intro j;rcases alf j (nV M c ops.size L'.toList).length with I|I
    ·simp[ak6,I]
    ·simp[ak6,I]
   have n6:∀k:Nat,L'.toList[k]?=some false->L'.getD k false=false:=by
    intro k k9;rw[<-qY,alk,k9];rfl
   have B2:c<L.size:=by rw[E.s1];exact j8
   have A0:=C4 (ops:=ops) j3;refine Yy (L':=Array.replicate (nV M c ops.size L'.toList).length false) hg j3 x6 z7 H _ _ _ ⟨by simp[E.s1],by simp,λk i k9=> ?_⟩ (λi f Z=> ?_) ?_
   ·rw[u0 k];have f:=List.mem_of_getElem? k9;have r:c≠i:=by
     intro e;subst e;rcases alM.1 f with f|f
     ·exact o8 ((ww _ _).subset f)
     ·exact(Aq.1 f).2.1 rfl
    rw[amE false r];rcases alM.1 f with f|f
    ·obtain⟨k2,Y,h2⟩:=(Ly _ _ s).1 f;rw[E.at' k2 i Y];exact n6 k2 h2
    ·have h3:=Aq.1 f;exact z8 i h3.1 λhx=>by rw[(zV.1 hx).2.2]at h3;cases h3.2.2
   ·by_cases r:i=c
    ·exact(cR B2).2 (.inl r)
    ·rw[amE false (amO r)];have x9:i ∉ pick (bW M c ops.size) L'.toList:=λh=>Z (amT _ h);have y0:i ∉ wv M c ops.size:=λh=>Z (am5 _ h);have C0:i∈bW M c ops.size:=by
      refine zV.2 ⟨f,r,?_⟩;cases l:Nat.testBit (M.getD i 0) c with
      |false=>rfl
      |true=>exact absurd (Aq.2 ⟨f,r,l⟩) y0
     obtain⟨k2,m5⟩:=amc C0;rw[E.at' k2 i m5];cases l:L'.getD k2 false with
     |true=>rfl
     |false=>
      exfalso;have R:k2<L'.size:=by rw[q];exact(amg.1 m5).1
      refine x9 ((Ly _ _ s).2 ⟨k2,m5,?_⟩);simp[ak6,R]at l;simp[R,l]
   ·have:=p7 B n5 _ _ _ H (h0.trans t8.b) A9 (Ey (o7.mono t8) C6 B5) (by rw[A0];exact C7);rw[A0]at this;exact this
  ·exfalso;unfold bw at hw;rw[Ff hg m9]at hw;cases hw
 ·intro k i O;have Y:∀n j,(Array.replicate n false).getD j false=false:=by
   intro n j;rcases alf j n with I|I
   ·simp[ak6,I]
   ·simp[ak6,I]
  rw[Y,Y]
 ·intro i f _;simp[ak6,f]
 ·intro j oj D2 hL;exfalso;rcases alf j ops.size with I|I
  ·simp[ak6,I]at hL
  ·simp[ak6,I]at hL
 ·have:=Sa (M:=M) j8;simp[V];omega
end
end Go.Fw
