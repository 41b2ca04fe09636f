/- A framework for proofs about Go programs in this model: part F. Everything is proved; no condition is added. -/
import Derived.Test.YtfjfjojmeookfaaGreatDoorFwE
set_option linter.unusedVariables false
set_option linter.unusedSimpArgs false
set_option linter.defProp false
namespace Go.Fw
noncomputable section
open Go.RowKit
structure nE(cx:Cx):Prop where
 tok:TOk cx.T cx.P
 mix:cx.P.follows .mixedOrders=true
 ctr:∀f c,(f,c)∈cx.C->fJ cx.P f c
 ctrO:∀f c,(f,c)∈cx.CO->rl cx.P f c
 ctrX:∀f c,(f,c)∈cx.CX->wP cx.P f c
section
variable {α:Type}{cx:Cx}{N:Nat}{o:Oper}{S:ae}{σ:Sto}{τ:aw}{τ' :Env}{K:SV→ae→Option α}{r:α}{call:nP α}
variable{Z:Op}{Y:Option OH}
def Nu(a:nE cx)(b:StR S σ)(c:ER S σ τ τ')(d:o.op=Z)(h:sR cx.T cx.H τ S Z (λv=>K v S)=some r):GOk cx.P N o S σ τ' K r:=by
 subst d;exact(Vn b c h).g a.tok b
def acy(g:nE cx)(z:sQ cx.P call)(i:StR S σ)(q:ER S σ τ τ'){own:Option OH}(j:o.op=Z)(h:ZT cx own call τ S Z K=some r):GOk cx.P N o S σ τ' K r:=by
 cases Z<;>simp only[ZT]at h
 case alloc e=>exact(OB g.tok i j h).g
 case box t x=>
  obtain⟨v,u,h⟩:=bC h;exact(TQ g.tok i q j u h).g
 case store t p x=>
  obtain⟨vp,P,h⟩:=bC h;obtain⟨vx,C,h⟩:=bC h;exact(OD g.tok i q j P C h).g
 case makeSlice t l c=>
  obtain⟨R,n,hn,h⟩:=Bq h;obtain⟨T,m,hm,h⟩:=Bq h;exact(aag g.tok i q j hn hm h).g
 case buildSlice t len ps=>
  split at h
  ·exact Rq g.tok i q j h
  ·exact Nu g i q j h
 case call c=>
  have D:∀{f:FuncId}{E:List SV},vJ cx.T τ c=some (f,E)->(match lk cx.T.ext f with
   |some k=>Ij k E λv=>K v S
   |none=>Ve cx own f S E K (call f E S K))=some r->GOk cx.P N o S σ τ' K r:=by
   intro f E hc h;obtain⟨W,H,I⟩:=yr q hc;split at h
   ·rename_i k hk;obtain⟨v,d,R,T,k3⟩:=Kp (N:=N) g.tok j H hk I h;refine(k3 σ).mono ?_;rintro d' s ⟨rfl,rfl⟩;exact⟨v,S,R,T,i,.refl _ _⟩
   unfold Ve at h;split at h
   ·exact Km g.tok j H i I cx.CO g.ctrO h
   refine Nt g.tok j H i I (λh=>Kn g.tok j H i I (λh=> ?_) cx.CX g.ctrX h) cx.C g.ctr h;obtain⟨hf,O⟩:=z f E S K r h;exact qb g.tok j H (λ_ G _ _ hR u=>⟨G,.refl G,hR,u⟩) hf (O σ W i I)
  split at h
  ·rename_i b M;have U:sBi cx.T S τ b c.args.toList c.argTypes.toList (λv=>K v S)=some r->GOk cx.P N o S σ τ' K r:=by
    intro h;refine Nu g i q j ?_;obtain⟨V,Q,F⟩:=c;simp only at M;subst M;exact h
   split at h
   ·split at h<;>try (cases h;done)
    rename_i x y t tx L J;obtain⟨v,u,h⟩:=bC h;obtain⟨w,hw,h⟩:=bC h;refine(TT g.tok i q (a:=x) (b:=y) ?_ u hw h).g;obtain⟨V,Q,F⟩:=c;simp only at M L J;subst M;have X:Q= #[x,y]:=ajP (by simpa using L);have Y:F= #[t,tx]:=ajP (by simpa using J);rw[j,X,Y]
   ·exact U h
  ·obtain⟨p,hp,h⟩:=aj h;exact D hp h
 case makeMap t l=>
  cases l with
  |none=>exact Xe g.tok i j h
  |some l=>exact Nu g i q j h
 case lookup t m k ok=>
  obtain⟨vm,B,h⟩:=bC h;split at h
  ·rename_i l hl _;have:=Ow hl;subst this;obtain⟨vk,A,h⟩:=bC h;exact Xf g.tok i q j B A h
  ·cases h
  ·exact Nu g i q j h
 case mapUpdate t m k x=>
  obtain⟨vm,B,h⟩:=bC h;obtain⟨vk,A,h⟩:=bC h;obtain⟨vx,C,h⟩:=bC h;exact ZQ g.tok i q j B A C h
 case range t x=>
  obtain⟨v,u,h⟩:=bC h;exact Xg g.tok i q j u h
 case next x b=>
  cases b with
  |true=>
   obtain⟨v,u,h⟩:=bC h;exact ZS g.tok i q j u h
  |false=>exact Nu g i q j h
 all_goals exact Nu g i q j h
end
def lq{α:Type}(N:Nat)(dst:Option Tmp)(v:SV)(τ:aw)(K:aw->Option α):Option α:=match dst with
 |none=>K τ
 |some t=>match Nat.blt t N with
  |true=>Vo v λv=>K ((t,v)::τ)
  |false=>none
def Ah(cx:Cx)(fid:Nat)(dst:Option Tmp):Option OH:=match dst with
 |some t=>lk cx.ow (Nat.add (Nat.mul fid 65536) t)
 |none=>none
def aeD:Operand->List Nat
 |.tmp t=>[t]
 |_=>[]
def afQ:Op->List Nat
 |.slice _ x _ _ _=>aeD x
 |.buildSlice _ _ a=>a.toList.flatMap λp=>aeD p.2
 |_=>[]
def Kq{α:Type}:List Nat->aw->ae->(aw->ae->Option α)->Option α
 |[],τ,S,K=>K τ S
 |t::a,τ,S,K=>match mY τ t with
  |some (.own l g)=>(nF S (.own l g)).bind λw=>Kq a ((t,w.1)::τ) w.2 K
  |some (.agg b)=>(nF S (.agg b)).bind λw=>Kq a ((t,w.1)::τ) w.2 K
  |_=>Kq a τ S K
def qc(P:Program)(N:Nat)(τ:Env)(σ:Sto)(d:Env)(c:Sto):Prop:=∀(B:dQ P)(G:Gh)(w:World)(a:Act),Rel B G σ w->gF G N τ a->∃b,G.Le b/\Rel B b c w/\gF b N d a
def qc.refl{P:Program}(N:Nat)(τ:Env)(σ:Sto):qc P N τ σ τ σ:=λ_ G _ _ a b=>⟨G,.refl G,a,b⟩
def qc.trans{P:Program}{N:Nat}{τ c d:Env}{σ b σ2:Sto}(h:qc P N τ σ c b)(k:qc P N c b d σ2):qc P N τ σ d σ2:=λB G w a j l=>by
 obtain⟨e,m,g,p⟩:=h B G w a j l;obtain⟨f,n,i,q⟩:=k B e w a g p;exact⟨f,m.trans n,i,q⟩
def qc.slot{P:Program}{N:Nat}{τ:Env}{σ b:Sto}{t:Nat}{d g:D}(h:Gho P σ b d g)(n:get τ t=some d):qc P N τ σ ((t,g)::τ) b:=λB G w a m c=>by
 obtain⟨j,i,k,p⟩:=h B G w _ m (c.slot t d n);refine⟨j,i,k,c.size,c.defers,λq l f=> ?_⟩;simp only[get]at f;split at f
 ·rename_i e;subst e;cases f;exact p
 ·exact Rep.mono i _ _ (c.slot q l f)
def AOp.pre{P:Program}{N:Nat}{o:Oper}{τ c:Env}{σ b:Sto}{K:D->Sto->Prop}(j:qc P N τ σ c b)(h:AOp P N o c b K):AOp P N o τ σ K:=by
 intro B G w a g i next Q k
 obtain⟨e,l,f,m⟩:=j B G w a g i;exact h B e w a f m next Q λv w' G' d σ' h1 h2 h3 h4=>k v w' G' d σ' (l.trans h1) h2 h3 h4
def Dh{α:Type}{P:Program}{N:Nat}{r:α}{K:aw->ae->Option α}:∀(l:List Nat){τ:aw}{τ':Env}{S:ae}{σ:Sto},StR S σ->ER S σ τ τ'->Kq l τ S K=some r->
 ∃c a e b,qc P N τ' σ a b/\StR e b/\ER e b c a/\bB S σ e b/\K c e=some r
 |[],τ,τ',S,σ,hS,hE,h=>⟨τ,τ',S,σ,.refl _ _ _,hS,hE,.refl _ _,h⟩
 |t::A,τ,τ',S,σ,hS,hE,h=>by
  simp only[Kq]at h;split at h
  ·rename_i l g p;obtain⟨w,s,h⟩:=aj h;obtain⟨d,n,q⟩:=hE t _ p;obtain⟨B,b,j,k,i,m⟩:=Do _ (v':=w.1) (S':=w.2) s hS q;obtain⟨c,a,e,f,u,v,x,y,z⟩:=Dh A k ((hE.pres i).push j (t:=t)) h;exact⟨c,a,e,f,(qc.slot m n).trans u,v,x,i.trans y,z⟩
  ·rename_i C p;obtain⟨w,s,h⟩:=aj h;obtain⟨d,n,q⟩:=hE t _ p;obtain⟨B,b,j,k,i,m⟩:=Do _ (v':=w.1) (S':=w.2) s hS q;obtain⟨c,a,e,f,u,v,x,y,z⟩:=Dh A k ((hE.pres i).push j (t:=t)) h;exact⟨c,a,e,f,(qc.slot m n).trans u,v,x,i.trans y,z⟩
  ·exact Dh A hS hE h
def ZU(h:Option OH)(a:Op)(τ:aw):Option (Nat×TC):=match h with
 |some (.val b)=>match a with
  |.call c=>match c.callee with
   |.builtin .append=>match c.args.toList with
    |x::_=>match x with
     |.tmp t=>match mY τ t with
      |some .nils=>some (t,b)
      |_=>none
     |_=>none
    |[]=>none
   |_=>none
  |_=>none
 |_=>none
variable{Z:Op}{Y:Option OH}
def acz{τ:aw}{q:Nat×TC}(a:ZU Y Z τ=some q):mY τ q.1=some .nils:=by
 unfold ZU at a
 repeat' (split at a<;>try (cases a;done))
 cases a;assumption
def Vf{α:Type}(h:Option OH)(a:Op)(τ:aw)(S:ae)(K:aw->ae->Option α):Option α:=match ZU h a τ with
 |some q=>K ((q.1,.own S.length 0)::τ) (S++[.arr q.2 [] false 0])
 |none=>K τ S
def ZV{α:Type}{P:Program}{N:Nat}{r:α}{K:aw->ae->Option α}{τ:aw}{τ':Env}{S:ae}{σ:Sto}(g:StR S σ)(f:ER S σ τ τ')(h:Vf Y Z τ S K=some r):
 ∃c b e a,qc P N τ' σ b a/\StR e a/\ER e a c b/\bB S σ e a/\K c e=some r:=by
 unfold Vf at h;split at h
 ·rename_i q m;obtain⟨d,l,i⟩:=f _ _ (acz m);simp only[VR]at i;subst i;obtain⟨p,j,s⟩:=Iv g q.2;exact⟨_,_,_,_,qc.slot (λB G w x k n=>⟨G,.refl G,k.newObj,C8 n⟩) l,p,(f.pres j).push s,j,h⟩
 ·exact⟨τ,τ',S,σ,.refl _ _ _,g,f,.refl _ _,h⟩
def Ik{α:Type}(cx:Cx)(fid N:Nat)(call:nP α)(o:Oper)(τ:aw)(S:ae)(K:aw->ae->Option α):Option α:=
 Kq (afQ o.op) τ S λa c=>Vf (Ah cx fid o.dst) o.op a c λa c=>ZT cx (Ah cx fid o.dst) call a c o.op λv b=>ZP (Ah cx fid o.dst) v b λv b=>lq N o.dst v τ λτ'=>K τ' b
noncomputable def Vg{α:Type}(cx:Cx)(fid N:Nat)(call:nP α)(all:Array Oper)(o:Oper)(a:aw->ae->(aw->ae->Option α)->Option α)(τ:aw)(S:ae)(K:aw->ae->Option α):Option α:=match o.guard with
 |none=>Ik cx fid N call o τ S λτ' c=>a τ' c K
 |some (j,want)=>match (all[j]?).bind (·.dst) with
  |none=>none
  |some t=>match mY τ t with
   |some (.bool b)=>match want with
    |true=>cond b (Ik cx fid N call o ((t,.bool true)::τ) S λτ' c=>a τ' c K) (lq N o.dst (.tup []) ((t,.bool false)::τ) λτ'=>a τ' S K)
    |false=>cond b (lq N o.dst (.tup []) ((t,.bool true)::τ) λτ'=>a τ' S K) (Ik cx fid N call o ((t,.bool false)::τ) S λτ' c=>a τ' c K)
   |some (.tup _)=>lq N o.dst (.tup []) τ λτ'=>a τ' S K
   |_=>none
noncomputable def EE{α:Type}(cx:Cx)(fid N:Nat)(call:nP α)(all:Array Oper)(l:List Oper):aw->ae->(aw->ae->Option α)->Option α:=List.rec (λτ S K=>K τ S) (λo _ a=>Vg cx fid N call all o a) l
def Xh{α:Type}{cx:Cx}{fid N:Nat}{call:nP α}{all:Array Oper}{o:Oper}{r:List Oper}:EE cx fid N call all (o::r)=Vg cx fid N call all o (EE cx fid N call all r):=rfl
def nQ{α:Type}(S0:ae)(b:Sto)(K:aw->ae->Option α)(r:α):Env->Sto->Prop:=λτ' a=>∃τ S,ER S a τ τ'/\StR S a/\bB S0 b S a/\K τ S=some r
def nQ.trans{α:Type}{S0 c:ae}{a b:Sto}{K:aw->ae->Option α}{r:α}(h:bB S0 a c b){τ':Env}{σ':Sto}(x:nQ c b K r τ' σ'):nQ S0 a K r τ' σ':=by
 obtain⟨τ,S,d,e,f,g⟩:=x;exact⟨τ,S,d,e,h.trans f,g⟩
def ER.setB{S:ae}{σ:Sto}{τ:aw}{τ':Env}{t:Nat}{b:Bool}(d:ER S σ τ τ')(h:get τ' t=some (.bool b)):ER S σ ((t,.bool b)::τ) τ':=by
 intro c v a;rw[sP]at a;by_cases e:t=c
 ·rw[ahY e]at a;subst e;cases a;exact⟨_,h,by simp only[VR]⟩
 ·rw[ain e]at a;exact d c v a
section
variable {α:Type}{cx:Cx}{fid N:Nat}{call:nP α}{r:α}
def m6{S:ae}{σ:Sto}{τ:aw}{τ':Env}{dst:Option Tmp}{v:SV}{d:D}{K:aw->Option α}(e:ER S σ τ τ')(f:VR S σ v d)(h:lq N dst v τ K=some r):∃a b,iF N dst d τ'=some a/\ER S σ b a/\K b=some r:=by
 unfold lq at h;split at h
 ·exact⟨τ',τ,rfl,e,h⟩
 ·split at h<;>try (cases h;done)
  rename_i t _ c;rw[TO]at h;have c:t<N:=ahR c;exact⟨(t,d)::τ',(t,v)::τ,by simp only[iF,ahY c],e.push f,h⟩
def ZW(j:nE cx)(b:sQ cx.P call){o:Oper}{S:ae}{σ:Sto}{τ:aw}{τ':Env}{K:aw->ae->Option α}(C:StR S σ)(m:ER S σ τ τ')(h:Ik cx fid N call o τ S K=some r){l:Env->Sto->Prop}(E:∀a e,nQ S σ K r a e->l a e):
 AOp cx.P N o τ' σ λd c=>∃a,iF N o.dst d τ'=some a/\l a c:=by
 unfold Ik at h;obtain⟨L,n,S0,I,s,t,u,w,h⟩:=Dh (P:=cx.P) (N:=N) _ C m h;obtain⟨M,p,O,J,g,x,y,i,h⟩:=ZV (P:=cx.P) (N:=N) t u h;have g:=s.trans g;have i:=w.trans i;have D:=AOp.pre g (acx (acy (N:=N) j b x y rfl h));refine D.mono ?_;rintro d c ⟨v,q,z,A,B,f⟩;have f:=i.trans f;obtain⟨a,k,F,G,H⟩:=m6 (m.pres f) A z;exact⟨a,F,E _ _ ⟨k,q,G,B,f,H⟩⟩
def Di(m:nE cx)(a:sQ cx.P call){all:Array Oper}{K:aw->ae->Option α}:∀(l:List Oper)(S:ae)(σ:Sto)(τ:aw)(τ':Env),StR S σ->ER S σ τ τ'->EE cx fid N call all l τ S K=some r->iZ cx.P N all l τ' σ (nQ S σ K r)
 |[],S,σ,τ,τ',hS,c,h=>⟨τ,S,c,hS,.refl _ _,h⟩
 |o::l,S,σ,τ,τ',hS,c,h=>by
  have e:∀{τ:aw},ER S σ τ τ'->dj all τ' o=some true->(Ik cx fid N call o τ S λτ' w=>EE cx fid N call all l τ' w K)=some r->iZ cx.P N all (o::l) τ' σ (nQ S σ K r):=by
   intro τ c i h;refine .inl ⟨i,ZW m a hS c h ?_⟩;rintro g u ⟨p,y,z,A,C,B⟩;exact iZ.monoK (λ_ _ x=>x.trans C) _ _ _ (Di m a l y u p g A z B)
  have skip:∀{τ:aw},ER S σ τ τ'->dj all τ' o=some false->(lq N o.dst (.tup []) τ λτ'=>EE cx fid N call all l τ' S K)=some r->iZ cx.P N all (o::l) τ' σ (nQ S σ K r):=by
   intro τ c i h;obtain⟨g,p,D,E,F⟩:=m6 (d:=.tuple []) c (by simp only[VR,VRs];exact⟨[],rfl,rfl⟩) h;exact .inr ⟨i,g,D,Di m a l S σ p g hS E F⟩
  simp only[Xh,Vg]at h;split at h
  ·rename_i q;exact e c (by unfold dj;rw[q]) h
  ·rename_i j k q;split at h<;>try (cases h;done)
   rename_i t v;split at h<;>try (cases h;done)
   ·rename_i b s;obtain⟨d,n,f⟩:=c t _ s;simp only[VR]at f;subst f;have i:dj all τ' o=some (b==k):=by unfold dj;rw[q];simp only[v,n]
    cases k
    ·rcases bT h with⟨rfl,h⟩|⟨rfl,h⟩
     ·exact skip (c.setB n) i h
     ·exact e (c.setB n) i h
    ·rcases bT h with⟨rfl,h⟩|⟨rfl,h⟩
     ·exact e (c.setB n) i h
     ·exact skip (c.setB n) i h
   ·rename_i H s;obtain⟨d,n,f⟩:=c t _ s;simp only[VR]at f;obtain⟨G,rfl,_⟩:=f;exact skip c (by unfold dj;rw[q];simp only[v,n]) h
end
end
end Go.Fw
namespace Go.Fw
noncomputable section
open Go.RowKit
def EX(x:Nat)(l:List Nat):Bool:=l.any (Nat.beq x)
def aah{x:Nat}{l:List Nat}:EX x l=true↔x∈l:=by
 unfold EX;rw[List.any_eq_true];constructor
 ·rintro⟨y,a,h⟩;rw[de h];exact a
 ·intro h;exact⟨x,h,aky x⟩
def yz{x:Nat}{l:List Nat}:EX x l=false↔x ∉ l:=by
 rw[<-aah];simp
def EY(a b:List Nat):Bool:=a.all λx=> !EX x b
def RK{a b:List Nat}(h:EY a b=true):∀x∈a,x ∉ b:=by
 intro x c;have:=ah7.1 h x c;simp only[aja]at this;exact yz.1 this
def EZ:Nat->Nat->Bool
 |m,0=>Nat.beq (Nat.mod m 2) 1
 |m,i+1=>EZ (Nat.div m 2) i
def yO:∀(i m:Nat),EZ m i=Nat.testBit m i
 |0,m=>by
  rw[Nat.testBit_zero,Bool.eq_iff_iff,aij];exact⟨aiX,λh=>by show Nat.beq (m % 2) 1=true;rw[h];rfl⟩
 |i+1,m=>by
  rw[Nat.testBit_succ,<-yO i];rfl
def uk(A:Res)(m:Nat)(a:List Nat):Bool:=A.all λx=>EZ m x.1|| !EX x.2.1 a
def wS{m:Nat}:∀{A:Res}{ls:List Nat},ls∈jn A m->∀l∈ls,∃x∈A,x.2.1=l/\Nat.testBit m x.1=false
 |[],ls,h,l,b=>by simp[jn]at h;subst h;simp at b
 |(j,a,i)::A,ls,h,l,b=>by
  simp only[jn]at h;split at h
  ·obtain⟨x,d,c⟩:=wS h l b;exact⟨x,ah0 _ d,c⟩
  ·rename_i f;rcases air.1 h with h|h
   ·obtain⟨x,d,c⟩:=wS h l b;exact⟨x,ah0 _ d,c⟩
   ·obtain⟨g,c,rfl⟩:=aiz.1 h;rcases ah8.1 b with rfl|b
    ·exact⟨_,aik ..,rfl,f⟩
    ·obtain⟨x,d,e⟩:=wS c l b;exact⟨x,ah0 _ d,e⟩
def E0{A:Res}{m:Nat}{a ls:List Nat}(h:uk A m a=true)(d:ls∈jn A m):∀l∈a,l ∉ ls:=by
 intro l c e;obtain⟨x,f,rfl,b⟩:=wS d l e;have:=ah7.1 h x f;simp only[yO,b,Bool.false_or,aja]at this;exact yz.1 this c
def OJ{m:Nat}{s:Sto}:∀{S:List Sto}{C:List Nat},s∈oD m S C->∃k:Nat,S[k]?=some s/\∀(b c:Nat),k<=b->C[b]?=some c->Nat.testBit m c=false
 |[],_,h=>by simp[oD]at h
 |a::S,C,h=>by
  have d:s∈oD m S C.tail->∃k:Nat,(a::S)[k]?=some s/\∀(b c:Nat),k<=b->C[b]?=some c->Nat.testBit m c=false:=by
   intro h;obtain⟨k,g,i⟩:=OJ h;refine⟨k+1,by simpa using g,λb c f e=> ?_⟩
   match b,f with
   |b+1,f=>exact i b c (by omega) (by rw[List.getElem?_tail];exact e)
  simp only[oD]at h;split at h
  ·rename_i j;rcases ah8.1 h with rfl|h
   ·refine⟨0,rfl,λb c _ e=> ?_⟩;have:=ah7.1 j c (List.mem_of_getElem? e);simpa using this
   ·exact d h
  ·exact d h
def j7.mk{α:Type}{f:α->Prop}:∀{l:List α},(∀x∈l,f x)->j7 f l
 |[],_=>trivial
 |x::l,h=>⟨h x (aik ..),j7.mk λy a=>h y (ah0 _ a)⟩
def Hv{ls:List Nat}{σ:Sto}{l:Nat}(h:l ∉ ls):(fo ls σ)[l]?=σ[l]? :=by
 rw[ll,ain (λx=>h x.1)]
variable{Z:Upd}
def aai{ls c:List Nat}{σ:Sto}(d:Z.inFp c)(h:∀l∈c,l ∉ ls)(f:∀l∈ls,l<σ.length):Z.ap (fo ls σ)=fo ls (Z.ap σ):=by
 cases Z with
 |same=>rfl
 |set l g=>
  simp only[Upd.inFp]at d;simp only[Upd.ap];refine ajb λx=> ?_;rw[ll,ajN,pE,ll,ajB,ajN];by_cases e:l=x
  ·subst e;have:¬(l∈ls/\l<σ.length):=λy=>h l d y.1;simp[this]
  ·simp[e]
 |push g=>
  simp only[Upd.ap];refine ajb λx=> ?_;rw[ll,ahJ,ai9];rcases ahW x σ.length with a|a
  ·rw[ahP (by rw[pE];exact a),ll,ahP a];by_cases b:x∈ls
   ·rw[ahY ⟨b,a⟩,ahY ⟨b,by omega⟩]
   ·rw[ain (λy=>b y.1),ain (λy=>b y.1)]
  ·rw[ahV (by rw[pE];exact a),pE,ain (λy=>by have:=f x y.1;omega),ahV a]
def RL{b:List Nat}{σ:Sto}(c:Z.inFp b){l:Nat}(h:l ∉ b)(f:l≠σ.length):(Z.ap σ)[l]?=σ[l]? :=by
 cases Z with
 |same=>rfl
 |set k d=>
  simp only[Upd.inFp]at c;simp only[Upd.ap];rw[ajN,ain (λe=>h (by rw[<-e];exact c))]
 |push d=>
  simp only[Upd.ap];rcases ahW l σ.length with a|a
  ·rw[ahP a]
  ·rw[ahZ a,ahZ (by simp;omega)]
def acJ{σ:Sto}(a:Upd):σ.length<=(a.ap σ).length:=by
 cases a<;>simp[Upd.ap]
def r9(ops:Array Oper)(o:Oper)(τ:aw):aw:=τ.filter λp=>(o.looksAt ops).contains p.1
def wb{p:Nat->Bool}:∀{τ:aw}{t:Nat}{v:SV},mY (τ.filter λq=>p q.1) t=some v->p t=true/\mY τ t=some v
 |[],_,_,h=>by simp[mY]at h
 |(i,x)::r,t,v,h=>by
  rw[akU]at h;split at h
  ·rename_i a;rw[sP]at h⊢;split at h
   ·rename_i e;subst e;rw[ahY rfl];exact⟨a,h⟩
   ·rename_i e;rw[ain e];exact wb h
  ·rename_i a;obtain⟨b,c⟩:=wb h;rw[sP,ain (λe=>a (by rw[show i=t from e];exact b))];exact⟨b,c⟩
def B3{p:Nat->Bool}:∀{τ:Env}{t:Nat}{d:D},p t=true->get τ t=some d->get (τ.filter λq=>p q.1) t=some d
 |[],_,_,_,h=>by simp[get]at h
 |(i,x)::r,t,d,a,h=>by
  rw[akU];simp only[get]at h;split at h
  ·rename_i e;split
   ·simp only[get,ahY e];exact h
   ·rename_i c;exact absurd (by rw[show i=t from e];exact a) c
  ·rename_i e;have b:=B3 a h;split
   ·simp only[get,ain e];exact b
   ·exact b
def ER.rst{S:ae}{σ:Sto}{τ:aw}{τ':Env}(h:ER S σ τ τ')(ops:Array Oper)(o:Oper):ER S σ (r9 ops o τ) (rst ops o τ'):=by
 intro t v f;obtain⟨a,b⟩:=wb (p:=λt=>(o.looksAt ops).contains t) f;obtain⟨d,c,e⟩:=h t v b;exact⟨d,B3 (p:=λt=>(o.looksAt ops).contains t) a c,e⟩
end
end Go.Fw
def aiF:=@List.mem_singleton
namespace Go.Fw
noncomputable section
open Go.RowKit
abbrev DCh:=List (Nat×List Nat)
structure DI(P:Program)(N:Nat)(A:Res)(M:List Nat)(i:Nat)(σ:Sto)(Ss:List Sto)(tab:List Rc)(done rest:Res)(Rd Ch:DCh):Prop where
 last:Ss.getLast?=some σ
 len:Ss.length=Ch.length+1
 old:∀(k:Nat) s,Ss[k]?=some s->∀l,(∀(m:Nat) c,Ch[m]?=some c->k<=m->l ∉ c.2)->s[l]?=σ[l]?
 ini:∀x∈A,(∀c∈Ch,x.2.1 ∉ c.2)->σ[x.2.1]?=some (.cells x.2.2 0 0)
 alt:∀x∈A,x.2.1<σ.length
 rd:∀(j:Nat) rc,tab[j]?=some rc->rc.kd=.read->(∀c∈Ch,Nat.testBit (M.getD c.1 0) j=false)->
  ∃fp,(j,fp)∈Rd/\(∀s:Sto,(∀l∈fp,s[l]?=σ[l]?)->AOp P N rc.o rc.env s λd' s'=>d'=rc.v/\s'=s)/\uk A (M.getD j 0) fp=true
 all:A=done++rest
 dn:∀x∈done,x.1<i/\∃r,tab[x.1]?=some r/\r.kd=.alloc x.2.1 x.2.2
 tl:tab.length=i
section
variable {P:Program}{N i:Nat}{A:Res}{M:List Nat}{σ:Sto}{Ss:List Sto}{tab:List Rc}{done rest:Res}{Rd Ch:DCh}{o:Oper}{env:Env}{d:D}
def E1{rc:Rc}{x:Rc}{j:Nat}(h:(tab++[rc])[j]?=some x):tab[j]?=some x∨(j=tab.length/\x=rc):=by
 rcases mC h with h|h
 ·exact .inl h.2
 ·exact .inr h
def DI.dn'(h:DI P N A M i σ Ss tab done rest Rd Ch)(rc:Rc):∀x∈done,x.1<i+1/\∃r,(tab++[rc])[x.1]?=some r/\r.kd=.alloc x.2.1 x.2.2:=by
 intro x c;obtain⟨e,r,a,b⟩:=h.dn x c;exact⟨by omega,r,jD a,b⟩
def DI.skip(h:DI P N A M i σ Ss tab done rest Rd Ch):DI P N A M (i+1) σ Ss (tab++[⟨o,env,d,.skip⟩]) done rest Rd Ch where
 last:=h.last
 len:=h.len
 old:=h.old
 ini:=h.ini
 alt:=h.alt
 rd:=λj e a b c=>by
  rcases E1 a with a|⟨_,rfl⟩
  ·exact h.rd j e a b c
  ·cases b
 all:=h.all
 dn:=h.dn' _
 tl:=by simp[h.tl]
def DI.alloc{l:Nat}{cs:List D}(h:DI P N A M i σ Ss tab done ((i,l,cs)::rest) Rd Ch):DI P N A M (i+1) σ Ss (tab++[⟨o,env,d,.alloc l cs⟩]) (done++[(i,l,cs)]) rest Rd Ch where
 last:=h.last
 len:=h.len
 old:=h.old
 ini:=h.ini
 alt:=h.alt
 rd:=λj f b c e=>by
  rcases E1 b with b|⟨_,rfl⟩
  ·exact h.rd j f b c e
  ·cases c
 all:=by rw[h.all];simp
 dn:=λx a=>by
  rcases air.1 a with a|a
  ·exact h.dn' _ x a
  ·simp at a;subst a;exact⟨by simp,⟨o,env,d,.alloc l cs⟩,by rw[ahV (by simp[h.tl])];simp[h.tl],rfl⟩
 tl:=by simp[h.tl]
def DI.res{l:Nat}{cs:List D}(h:DI P N A M i σ Ss tab done ((i,l,cs)::rest) Rd Ch):tf A i=some (l,cs):=by
 unfold tf;have:A.find? (λx=>x.1==i)=some (i,l,cs):=by
  rw[h.all,List.find?_append];have:done.find? (λx=>x.1==i)=none:=by
   rw[List.find?_eq_none];intro x a;have:=(h.dn x a).1;simp;omega
  rw[this];simp
 rw[this]
variable{Z:List Nat}{Y:Upd}
def DI.read(h:DI P N A M i σ Ss tab done rest Rd Ch)(c:∀s:Sto,(∀l∈Z,s[l]?=σ[l]?)->AOp P N o env s λf r=>f=d/\r=s)(n:uk A (M.getD i 0) Z=true):
 DI P N A M (i+1) σ Ss (tab++[⟨o,env,d,.read⟩]) done rest (Rd++[(i,Z)]) Ch where
 last:=h.last
 len:=h.len
 old:=h.old
 ini:=h.ini
 alt:=h.alt
 rd:=λj q a p m=>by
  rcases E1 a with a|⟨b,rfl⟩
  ·obtain⟨Z,g,k⟩:=h.rd j q a p m;exact⟨Z,ajr _ g,k⟩
  ·have e:=b.trans h.tl;subst e;exact⟨Z,by simp,c,n⟩
 all:=h.all
 dn:=h.dn' _
 tl:=by simp[h.tl]
def DI.reads(h:DI P N A M i σ Ss tab done rest Rd Ch)(g:∀s:Sto,(∀l∈Z,s[l]?=σ[l]?)->AOp P N o env s λb n=>b=d/\n=s)(v:uk A (M.getD i 0) Z=true)
 (u:(Ch.all λc=>EZ (M.getD i 0) c.1||EY Z c.2)=true):
 j7 (λs=>AOp P N o env s λb n=>b=d/\n=s) ((oD (M.getD i 0) Ss (Ch.map (·.1))).flatMap λσ=>(jn A (M.getD i 0)).map (fo · σ)):=by
 refine j7.mk λs j=> ?_;obtain⟨y,r,j⟩:=akw.1 j;obtain⟨z,f,rfl⟩:=aiz.1 j;obtain⟨k,w,x⟩:=OJ r;refine g _ λl q=> ?_;rw[Hv (E0 v f l q)];refine h.old k y w l λm c a e=> ?_;have p:=ah7.1 u c (List.mem_of_getElem? a);have t:=x m c.1 e (by simp[a]);rw[yO,t,Bool.false_or]at p;exact RK p l q
def Vw(m:Nat)(Ch:DCh):Bool:=match Ch.getLast? with
 |none=>true
 |some q=>EZ m q.1
def RM(m:Nat)(Ch:DCh):Vw m Ch=DG m (Ch.map (·.1)):=by
 unfold Vw DG;rw[List.getLast?_map];cases Ch.getLast? with
 |none=>rfl
 |some q=>exact yO q.1 m
def Iw(A:Res)(m:Nat)(a:List Nat)(n:Nat)(Rd Ch:DCh):Bool:=
 Vw m Ch&&(uk A m a&&((Rd.all λq=>EZ m q.1||EY q.2 (a++[n]))&&A.all λx=>EZ m x.1||(!EX x.2.1 a&&Ch.all λc=> !EX x.2.1 c.2)))
def DI.agree(b:Y.inFp Z){l:Nat}(a:l ∉ Z++[σ.length]):(Y.ap σ)[l]?=σ[l]? :=by
 simp only[air,aiF,not_or]at a;exact RL b a.1 a.2
def DI.chain(h:DI P N A M i σ Ss tab done rest Rd Ch)(r:Y.inFp Z)(a:Iw A (M.getD i 0) Z σ.length Rd Ch=true)(k:Nat):
 DI P N A M (i+1) (Y.ap σ) (Ss++[Y.ap σ]) (tab++[⟨o,env,d,.chain k⟩]) done rest Rd (Ch++[(i,Z++[σ.length])]):=by
 unfold Iw at a;rw[RM]at a;simp only[yO,ahF,ah7,ai1]at a;obtain⟨_,_,z,_⟩:=a;refine⟨by simp,by simp[h.len],?_,?_,?_,?_,h.all,h.dn' _,by simp[h.tl]⟩
 ·intro k s f l b;rcases mC f with⟨n,f⟩|⟨n,rfl⟩
  ·rw[DI.agree r]
   ·exact h.old k s f l λm c B u=>b m c (jD B) u
   ·exact b Ch.length (i,Z++[σ.length]) (by simp) (by have:=h.len;omega)
  ·rfl
 ·intro x v b;rw[DI.agree r (b _ (ajE _ (aiF.2 rfl)))];exact h.ini x v λc a=>b c (ajr _ a)
 ·intro x v;exact aiu (h.alt x v) (acJ Y)
 ·intro j D t f g;rcases E1 t with t|⟨_,rfl⟩
  ·obtain⟨p,n,w,y⟩:=h.rd j D t f λc a=>g c (ajr _ a);refine⟨p,n,λs C=>w s λl b=> ?_,y⟩;rw[C l b];refine DI.agree r ?_;have e:=z _ n;have q:=g (i,Z++[σ.length]) (ajE _ (aiF.2 rfl));simp only at e q;rcases e with e|e
   ·rw[e]at q;cases q
   ·exact RK e l b
  ·cases f
def TU{C:List Nat}{σ:Sto}{q:Rc×Sto}:∀{tab:List Rc}{j0:Nat},q∈reS A M C σ j0 tab->∃(j:Nat)(ls:List Nat),tab[j]?=some q.1/\q.1.kd=.read/\(∀c∈C,Nat.testBit (M.getD c 0) (j0+j)=false)/\ls∈jn A (M.getD (j0+j) 0)/\q.2=fo ls σ
 |[],_,h=>by simp[reS]at h
 |r::e,j0,h=>by
  have rest:q∈reS A M C σ (j0+1) e->∃(j:Nat)(ls:List Nat),(r::e)[j]?=some q.1/\q.1.kd=.read/\(∀c∈C,Nat.testBit (M.getD c 0) (j0+j)=false)/\ls∈jn A (M.getD (j0+j) 0)/\q.2=fo ls σ:=by
   intro h;obtain⟨j,ls,b,f,g,k,l⟩:=TU h;exact⟨j+1,ls,by simpa using b,f,by rw[show j0+(j+1)=j0+1+j from by omega];exact g,by rw[show j0+(j+1)=j0+1+j from by omega];exact k,l⟩
  simp only[reS]at h;split at h
  ·rename_i n;split at h
   ·rename_i a;rcases air.1 h with h|h
    ·obtain⟨ls,b,rfl⟩:=aiz.1 h;exact⟨0,ls,rfl,n,λc m=>by simpa using List.all_eq_true.1 a c m,b,rfl⟩
    ·exact rest h
   ·exact rest h
  ·exact rest h
def DI.chains(h:DI P N A M i σ Ss tab done rest Rd Ch)(r:Y.inFp Z)(g:Iw A (M.getD i 0) Z σ.length Rd Ch=true)
 (t:∀s:Sto,(∀l∈Z,s[l]?=σ[l]?)->s.length=σ.length->AOp P N o env s λf n=>f=d/\n=Upd.ap Y s):
 DG (M.getD i 0) (Ch.map (·.1))=true/\j7 (λe=>AOp P N o env (fo e σ) λf n=>f=d/\n=fo e (Y.ap σ)) (jn A (M.getD i 0))/\
  j7 (λ(x:Rc×Sto)=>AOp P N x.1.o x.1.env x.2 λf n=>f=x.1.v/\n=x.2) (reS A M (Ch.map (·.1)++[i]) (Y.ap σ) 0 tab)/\
  j7 (λ(x:Nat×Nat×List D)=>match Nat.testBit (M.getD i 0) x.1 with|true=>True|false=>(Y.ap σ)[x.2.1]?=some (.cells x.2.2 0 0)) A:=by
 have hc0:=g;unfold Iw at g;rw[RM]at g;simp only[yO,ahF,ah7,ai1,aja]at g;obtain⟨z,u,L,B⟩:=g;have halt:∀e,e∈jn A (M.getD i 0)->∀l∈e,l<σ.length:=by
  intro e b l k;obtain⟨x,m,rfl,_⟩:=wS b l k;exact h.alt x m
 refine⟨z,j7.mk λe b=> ?_,j7.mk λq F=> ?_,j7.mk λx m=> ?_⟩
 ·rw[<-aai r (E0 u b) (halt e b)];exact t _ (λl k=>Hv (E0 u b l k)) (pE _ _)
 ·obtain⟨j,e,G,H,v,w,I⟩:=TU F;simp only[aiw]at v w;have C:=h.chain (o:=o) (env:=env) (d:=d) r hc0 0;obtain⟨y,O,J,K⟩:=C.rd j q.1 (jD G) H (λc a=>v c.1 (by
   rcases air.1 a with a|a
   ·exact ajr _ (aiz.2 ⟨c,a,rfl⟩)
   ·simp at a;subst a;exact ajE _ (aiF.2 rfl)))
  rw[I];exact J _ λl k=>Hv (E0 K w l k)
 ·split
  ·trivial
  ·rename_i E;have p:=B x m;rw[E]at p;simp only[aiy,false_or]at p;rw[RL r (yz.1 p.1) (by have:=h.alt x m;omega)];exact h.ini x m λc a=>yz.1 (p.2 c a)
end
end
end Go.Fw
def akn:=@List.singleton_append
namespace Go.Fw
noncomputable section
open Go.RowKit
def isW(own:Option OH):Op->Bool
 |.alloc _=>true
 |.box _ _=>true
 |.store _ _ _=>true
 |.call c=>match c.callee with
  |.builtin .append=>true
  |.builtin _=>false
  |_=>match own with
   |some .res=>true
   |_=>false
 |_=>false
def Dp{α:Type}(f:FuncId)(S:ae)(vs:List SV)(K:SV->ae->Option α):List (FuncId×ot)->Option α
 |[]=>none
 |(g,c)::r=>match Nat.beq g f with
  |false=>Dp f S vs K r
  |true=>match (PV.gets S c.ap vs).bind (mO _) with
   |some x=>(c.fn x).bind λy=>K (.own S.length 0) (S++[.arr c.t y false 0])
   |none=>Dp f S vs K r
def Mc:Op->Option Call
 |.call c=>match c.callee with
  |.builtin _=>none
  |_=>some c
 |_=>none
def fpW(τ:aw):Op->List Nat
 |.store _ p _=>fpO τ p
 |.call c=>match c.args.toList with
  |[x,y]=>fpO τ x++fpO τ y
  |_=>[]
 |_=>[]
section
variable {α:Type}
def sW(T:Tys)(H:Tr TC)(CO:List (FuncId×ot))(own:Option OH)(τ:aw)(S:ae)(a:Op)(K:SV->ae->Option α):Option α:=match a with
 |.alloc e=>L8 T S e K
 |.box _ x=>fF τ x λv=>Vq S v K
 |.store t p x=>fF τ p λd=>fF τ x λf=>Ma T S t d f K
 |.call c=>match c.callee with
  |.builtin .append=>match c.args.toList,c.argTypes.toList with
   |[x,y],[t,b]=>fF τ x λv=>fF τ y λw=>Vs T H S t b v w K
   |_,_=>none
  |.builtin _=>none
  |_=>match own with
   |some .res=>(vJ T τ c).bind λp=>Dp p.1 S p.2 K CO
   |_=>none
 |_=>none
def E2(f:FuncId)(S:ae)(vs:List SV)(K:SV->Option α):List (FuncId×Ctr)->Option α
 |[]=>none
 |(g,c)::r=>match Nat.beq g f with
  |false=>E2 f S vs K r
  |true=>match (PV.gets S c.ap vs).bind (mO _) with
   |some x=>(c.fn x).bind λy=>(c.rp.put (λ_=>0) (jv _ y)).bind λw=>K w.1
   |none=>E2 f S vs K r
end
section
variable {α:Type}{P:Program}{T:Tys}{N:Nat}{o:Oper}{S:ae}{σ:Sto}{τ:aw}{τ' :Env}{r:α}
def RN{x:Operand}{v:SV}(h:sev τ x=some v):fpO τ x=fpV v:=by unfold fpO;rw[h]
variable{Z Y:DCh}{X:Call}
def Hw(tok:TOk T P){f:FuncId}{vs:List SV}{ds:List D}{B:List Nat}{K:SV->ae->Option α}(p:o.op=.call X)(j:nn T τ' X=some (f,ds))(d:StR S σ)(v:VRs S σ vs ds):
 ∀(C:List (FuncId×ot)),(∀g c,(g,c)∈C->rl P g c)->Dp f S vs K C=some r->WOk P N o S σ τ' B K r
 |[],_,h=>by simp[Dp]at h
 |(g,c)::C,a,h=>by
  simp only[Dp]at h;split at h
  ·exact Hw tok p j d v C (λg c n=>a g c (ah0 _ n)) h
  ·rename_i m;have m:=de m;subst m;split at h
   ·rename_i x w;obtain⟨l,H,w⟩:=aj w;obtain⟨y,I,E⟩:=aj h;obtain⟨G,k,a⟩:=a g c (aik ..);have a:=a x y I;have b:=kM _ w;obtain⟨i,J,Q,O⟩:=PV.gets_ok (objs:=[]) _ _ l ds H k v;obtain⟨z,e,L⟩:=O λ_=>0;have e:=e [];rw[ah4,<-b]at e;have F:=a z e i (L [] [] (Dg _ _ _ _ _));refine⟨_,_,.sl σ.length (c.t.flat y).length 0 y.length c.t.sz false,.push (.cells (c.t.flat y) 0 (c.t.flat y).length),E,λs _ q=> ?_,?_,d.push ⟨0,_,rfl,λ_=>rfl⟩,bB.push d.len _ _,trivial⟩
    ·rw[<-q];exact qb tok p j (qT.weak J) G (F s)
    ·simp only[VR];exact .mk (t:=c.t) (xs:=y) (fz:=false) (fr:=0) (u:=(c.t.flat y).length) (by simp) (by rw[d.len];simp[Upd.ap]) (by rw[d.len])
   ·exact Hw tok p j d v C (λg c n=>a g c (ah0 _ n)) h
def abp(tok:TOk T P){H:Tr TC}{CO:List (FuncId×ot)}(s:∀g c,(g,c)∈CO->rl P g c){own:Option OH}(f:StR S σ)(l:ER S σ τ τ'){n:Op}(i:o.op=n){K:SV->ae->Option α}(h:sW T H CO own τ S n K=some r):WOk P N o S σ τ' (fpW τ n) K r:=by
 cases n<;>simp only[sW]at h<;>try (cases h;done)
 case alloc e=>exact OB tok f i h
 case box t x=>
  obtain⟨v,m,h⟩:=bC h;exact TQ tok f l i m h
 case store t p x=>
  obtain⟨Q,k,h⟩:=bC h;obtain⟨R,u,h⟩:=bC h;have:=OD (N:=N) tok f l i k u h;simp only[fpW,RN k];exact this
 case call c=>
  split at h<;>try (cases h;done)
  rotate_left
  ·split at h<;>try (cases h;done)
   obtain⟨p,I,h⟩:=aj h;obtain⟨O,F,G⟩:=yr l I;exact Hw tok i F f G CO s h
  rename_i z;split at h<;>try (cases h;done)
  rename_i x y t J d j;obtain⟨v,m,h⟩:=bC h;obtain⟨w,B,h⟩:=bC h;simp only[fpW,d,RN m,RN B];refine TT tok f l (a:=x) (b:=y) ?_ m B h;obtain⟨L,C,q⟩:=c;simp only at z d j;subst z;have D:C= #[x,y]:=ajP (by simpa using d);have E:q= #[t,J]:=ajP (by simpa using j);rw[i,D,E]
def E3(tok:TOk T P){f:FuncId}{vs:List SV}{ds:List D}{K:SV->Option α}(p:o.op=.call X)(j:nn T τ' X=some (f,ds))(q:VRs S σ vs ds):
 ∀(C:List (FuncId×Ctr)),(∀g c,(g,c)∈C->fJ P g c)->E2 f S vs K C=some r->∃v d,K v=some r/\VR S σ v d/\∀s,AOp P N o τ' s λF W=>F=d/\W=s
 |[],_,h=>by simp[E2]at h
 |(g,c)::C,a,h=>by
  simp only[E2]at h;split at h
  ·exact E3 tok p j q C (λg c n=>a g c (ah0 _ n)) h
  ·rename_i m;have m:=de m;subst m;split at h
   ·rename_i x z;obtain⟨l,O,z⟩:=aj z;obtain⟨y,Q,G⟩:=aj h;obtain⟨w,E,H⟩:=aj G;obtain⟨L,k,J,a⟩:=a g c (aik ..);obtain⟨v,t,u,a⟩:=a x y Q;have b:=kM _ z;obtain⟨i,R,Y,V⟩:=PV.gets_ok (objs:=[]) _ _ l ds O k q;obtain⟨B,e,U⟩:=V λ_=>0;have e:=e [];rw[ah4,<-b]at e;have I:=a B e i (U [] [] (Dg _ _ _ _ _));rw[t]at E;cases E;exact⟨v,v.can,H,u _ _,λs=>qb tok p j (qT.weak R) L (I.acall s)⟩
   ·exact E3 tok p j q C (λg c n=>a g c (ah0 _ n)) h
end
def rn(T:Tys):List Oper->Nat->Nat->Option Res
 |[],_,_=>some []
 |o::r,i,l=>match o.guard with
  |some _=>rn T r (i+1) l
  |none=>match o.op with
   |.alloc e=>(lk T.zero e).bind λz=>(rn T r (i+1) (l+1)).bind λA=>some ((i,l,z)::A)
   |_=>rn T r (i+1) l
def ul{T:Tys}:∀{ops:List Oper}{i l:Nat}{A:Res},rn T ops i l=some A->A.map (·.2.1)=List.range' l A.length
 |[],_,_,A,h=>by cases h;rfl
 |o::r,i,l,A,h=>by
  simp only[rn]at h;split at h
  ·exact ul h
  ·split at h
   ·obtain⟨z,_,h⟩:=aj h;obtain⟨b,a,h⟩:=aj h;cases h;simp only[ahU,ahL,ul a];rfl
   ·exact ul h
def Hx{T:Tys}{x:Nat×Nat×List D}:∀{ops:List Oper}{i l:Nat}{A:Res},rn T ops i l=some A->x∈A->∃(k:Nat)(o:Oper)(e:TypeId),x.1=i+k/\ops[k]?=some o/\o.op=.alloc e/\lk T.zero e=some x.2.2
 |[],_,_,A,h,b=>by cases h;simp at b
 |o::r,i,l,A,h,b=>by
  have a:∀{l:Nat}{A:Res},rn T r (i+1) l=some A->x∈A->∃(k:Nat)(o':Oper)(e:TypeId),x.1=i+k/\(o::r)[k]?=some o'/\o'.op=.alloc e/\lk T.zero e=some x.2.2:=by
   intro l A h b;obtain⟨k,o',e,c,d,f⟩:=Hx h b;exact⟨k+1,o',e,by omega,by simpa using d,f⟩
  simp only[rn]at h;split at h
  ·exact a h b
  ·split at h
   ·rename_i e g;obtain⟨z,j,h⟩:=aj h;obtain⟨m,c,h⟩:=aj h;cases h;rcases ah8.1 b with rfl|b
    ·exact⟨0,o,e,rfl,rfl,g,j⟩
    ·exact a c b
   ·exact a h b
def PJ(o:Oper)(i:Nat)(a:Res):Bool:=match o.guard,o.op,a with
 |none,.alloc _,(j,_,_)::_=>Nat.beq j i
 |_,_,_=>false
section
variable {α:Type}
def sdX(cx:Cx)(fid N:Nat)(A:Res)(m:Nat)(o:Oper)(i:Nat)(d τ:aw)(S:ae)(a:Res)(f e:DCh)(next:aw->ae->Res->DCh->DCh->Option α):Option α:=
 match PJ o i a with
 |true=>match a with
  |(_,l,_)::rest'=>lq N o.dst (.raw (.ptr l 0 0)) τ λb=>next b S rest' f e
  |[]=>none
 |false=>match isW (Ah cx fid o.dst) o.op with
  |true=>match Iw A m (fpW d o.op) S.length f e with
   |true=>sW cx.T cx.H cx.CO (Ah cx fid o.dst) d S o.op λv g=>lq N o.dst v τ λb=>next b g a f (e++[(i,fpW d o.op++[S.length])])
   |false=>none
  |false=>match Mc o.op with
   |some c=>(vJ cx.T d c).bind λp=>match lk cx.T.ext p.1 with
    |some k=>Ij k p.2 λv=>lq N o.dst v τ λb=>next b S a (f++[(i,[])]) e
    |none=>E2 p.1 S p.2 (λv=>lq N o.dst v τ λb=>next b S a (f++[(i,[])]) e) cx.C
   |none=>match uk A m (B2 d o.op)&&e.all (λc=>EZ m c.1||EY (B2 d o.op) c.2) with
    |true=>sR cx.T cx.H d S o.op λv=>lq N o.dst v τ λb=>next b S a (f++[(i,B2 d o.op)]) e
    |false=>none
noncomputable def Vx(cx:Cx)(fid N:Nat)(all:Array Oper)(A:Res)(M:List Nat)(o:Oper)(k:Nat->aw->ae->Res->DCh->DCh->(aw->ae->Option α)->Option α)(i:Nat)(τ:aw)(S:ae)(d:Res)(h g:DCh)(K:aw->ae->Option α):Option α:=match o.guard with
 |none=>sdX cx fid N A (M.getD i 0) o i (r9 all o τ) τ S d h g λc l a f e=>k (i+1) c l a f e K
 |some (j,want)=>match (all[j]?).bind (·.dst) with
  |none=>none
  |some t=>match mY (r9 all o τ) t with
   |some (.bool b)=>match want with
    |true=>cond b (sdX cx fid N A (M.getD i 0) o i (r9 all o ((t,.bool true)::τ)) ((t,.bool true)::τ) S d h g λc l a f e=>k (i+1) c l a f e K)
     (lq N o.dst (.tup []) ((t,.bool false)::τ) λc=>k (i+1) c S d h g K)
    |false=>cond b (lq N o.dst (.tup []) ((t,.bool true)::τ) λc=>k (i+1) c S d h g K)
     (sdX cx fid N A (M.getD i 0) o i (r9 all o ((t,.bool false)::τ)) ((t,.bool false)::τ) S d h g λc l a f e=>k (i+1) c l a f e K)
   |some (.tup _)=>lq N o.dst (.tup []) τ λc=>k (i+1) c S d h g K
   |_=>none
noncomputable def sdr(cx:Cx)(fid N:Nat)(all:Array Oper)(A:Res)(M:List Nat)(l:List Oper):Nat->aw->ae->Res->DCh->DCh->(aw->ae->Option α)->Option α:=List.rec (λ_ τ S a _ _ K=>match a with
 |[]=>K τ S
 |_::_=>none) (λo _ b=>Vx cx fid N all A M o b) l
variable{Z Y:DCh}{X:Call}
def TV{cx:Cx}{fid N:Nat}{all:Array Oper}{A:Res}{M:List Nat}{i:Nat}{τ:aw}{S:ae}{a:Res}{K:aw->ae->Option α}:sdr cx fid N all A M [] i τ S a Y Z K=match a with
 |[]=>K τ S
 |_::_=>none:=rfl
def RO{cx:Cx}{fid N:Nat}{all:Array Oper}{A:Res}{M:List Nat}{o:Oper}{r:List Oper}:sdr (α:=α) cx fid N all A M (o::r)=Vx (α:=α) cx fid N all A M o (sdr cx fid N all A M r):=rfl
noncomputable def PL(cx:Cx)(fid N:Nat)(ops:Array Oper)(τ:aw)(S:ae)(K:aw->ae->Option α):Option α:=
 Ht S 0 λn=>(rn cx.T ops.toList 0 n).bind λA=>match ij ops (cU ops.toList []) with
  |true=>EV (S++A.map λx=>kK.cells (mK x.2.2) false) λa=>sdr cx fid N ops A (cU ops.toList []) ops.toList 0 τ a A [] [] K
  |false=>none
end
section
variable {α:Type}{cx:Cx}{fid N:Nat}{all:Array Oper}{A:Res}{M:List Nat}{r:α}
variable{Z Y:DCh}{X:Call}
def aeH(f:nE cx){o:Oper}{l l' pre:List Oper}{i:Nat}{τ:aw}{τ':Env}{S:ae}{σ:Sto}{n done:Res}{Ss:List Sto}{f7:List Rc}{next:aw->ae->Res->DCh->DCh->Option α}{Kt:Env->Sto->Prop}
 (U:all.toList=pre++o::l')(V:pre.length=i)(hA:∀x∈A,∃(k:Nat)(o:Oper)(e:TypeId),x.1=k/\all.toList[k]?=some o/\o.op=.alloc e/\lk cx.T.zero e=some x.2.2)
 (u:DI cx.P N A M i σ Ss f7 done n Y Z)(I:StR S σ)(R:ER S σ τ τ')(hw:dj all (rst all o τ') o=some true)
 (h:sdX cx fid N A (M.getD i 0) o i (r9 all o τ) τ S n Y Z next=some r)
 (J:∀b m S2 y q D L C O B,DI cx.P N A M (i+1) y O B D q L C->StR S2 y->ER S2 y m b->bB S σ S2 y->next m S2 q L C=some r->ADr cx.P N all A M l (i+1) b O (C.map (·.1)) B Kt):
 ADr cx.P N all A M (o::l) i τ' Ss (Z.map (·.1)) f7 Kt:=by
 have E:=R.rst all o;unfold sdX at h;split at h
 ·rename_i hr;split at h<;>try (cases h;done)
  rename_i j lo z j3;unfold PJ at hr;split at hr<;>try (cases hr;done)
  rename_i e _ _ _ _ _ a F;cases F;have hj:=de hr;subst hj;obtain⟨k,o',e',w,t,G,H⟩:=hA (j,lo,z) (by rw[u.all];simp);simp only at w H;subst w;have ho:o'=o:=by
   rw[U,<-V,ahV (ahO _)]at t;simp at t;exact t.symm
  subst ho;rw[a]at G;cases G;obtain⟨b,m,W,X,K⟩:=m6 (d:=.ptr lo 0 0) R (by simp only[VR]) h;exact aa7 f.tok hw a u.res H W (J _ _ _ _ _ _ _ _ _ _ u.alloc I X (.refl _ _) K)
 ·split at h
  ·split at h<;>try (cases h;done)
   rename_i g;obtain⟨v,S',d,up,w,t,G,H,h5,h6⟩:=abp (N:=N) f.tok f.ctrO I E rfl h;obtain⟨b,m,W,X,K⟩:=m6 (R.pres h5) G w;rw[I.len]at g K;obtain⟨g1,g2,g3,g4⟩:=u.chains h6 g t;have f8:=u.chain (o:=o) (env:=rst all o τ') (d:=d) h6 g (Z.map (·.1)).length;have:=J _ _ _ _ _ _ _ _ _ _ f8 H X h5 K;rw[aiN]at this;exact .inr (.inr (.inl ⟨hw,g1,d,b,σ,up.ap σ,u.last,g2,g3,g4,W,this⟩))
  ·split at h
   ·rename_i c g;obtain⟨p,hp,h⟩:=aj h;obtain⟨ds,w,t⟩:=yr E hp;have ho:o.op=.call c:=by
     unfold Mc at g;split at g<;>try (cases g;done)
     rename_i a;split at g<;>cases g;exact a
    have f9:∃v d,(lq N o.dst v τ λb=>next b S n (Y++[(i,[])]) Z)=some r/\VR S σ v d/\∀s,AOp cx.P N o (rst all o τ') s λQ s'=>Q=d/\s'=s:=by
     split at h
     ·rename_i k J;exact Kp (N:=N) f.tok ho w J t h
     ·exact E3 (N:=N) f.tok ho w t cx.C f.ctr h
    obtain⟨v,d,W,X,K⟩:=f9;obtain⟨b,m,m1,m2,m3⟩:=m6 R X W;have hh:uk A (M.getD i 0) []=true:=by unfold uk EX;simp
    have a:∀s:Sto,(∀l∈([]:List Nat),s[l]?=σ[l]?)->AOp cx.P N o (rst all o τ') s λQ s'=>Q=d/\s'=s:=λs _=>K s;exact Uo hw (u.reads a hh (by simp[EY])) m1 (J _ _ _ _ _ _ _ _ _ _ (u.read a hh) I m2 (.refl _ _) m3)
   ·split at h<;>try (cases h;done)
    rename_i g;simp only[ahF]at g;obtain⟨v,d0,d,w,t,G,H⟩:=Vn I E h;obtain⟨b,m,m1,m2,m3⟩:=m6 R t w;have a:∀s:Sto,(∀l∈B2 (r9 all o τ) o.op,s[l]?=σ[l]?)->AOp cx.P N o (rst all o τ') s λQ s'=>Q=d/\s'=s:=λs hs=>(bN f.tok (H s hs)).weak G;exact Uo hw (u.reads a g.1 g.2) m1 (J _ _ _ _ _ _ _ _ _ _ (u.read a g.1) I m2 (.refl _ _) m3)
def Hy(G:nE cx){suf:List Oper}{K:aw->ae->Option α}(U:∀x∈A,∃(k:Nat)(o:Oper)(e:TypeId),x.1=k/\all.toList[k]?=some o/\o.op=.alloc e/\lk cx.T.zero e=some x.2.2):∀(l pre:List Oper)(i:Nat)(τ:aw)(τ':Env)(S:ae)(σ:Sto)(a done:Res)(C s:DCh)(E:List Sto)(m:List Rc)(w:Env->Sto->Prop),
 all.toList=pre++(l++suf)->pre.length=i->DI cx.P N A M i σ E m done a C s->StR S σ->ER S σ τ τ'->sdr cx fid N all A M l i τ S a C s K=some r->(∀c v,nQ S σ K r c v->w c v)->ADr cx.P N all A M l i τ' E (s.map (·.1)) m w
 |[],pre,i,τ,τ',S,σ,a,done,C,s,E,m,w,_,_,hD,hS,g,h,O=>by
  simp only[TV,RO,Vx]at h;split at h<;>try (cases h;done)
  refine afx (j7.mk λx hx=> ?_) hD.last (O _ _ ⟨τ,S,g,hS,.refl _ _,h⟩);rw[hD.all,ah4]at hx;exact(hD.dn x hx).2
 |o::l,pre,i,τ,τ',S,σ,a,done,C,s,E,m,w,hall,hpre,hD,hS,g,h,O=>by
  have n:∀{τ:aw},ER S σ τ τ'->dj all (rst all o τ') o=some true->(sdX cx fid N A (M.getD i 0) o i (r9 all o τ) τ S a C s λc Q f D B=>sdr cx fid N all A M l (i+1) c Q f D B K)=some r->ADr cx.P N all A M (o::l) i τ' E (s.map (·.1)) m w:=by
   intro τ g y h;refine aeH (l':=l++suf) G hall hpre U hD hS g y h ?_;intro c H Q v f F D B R I V X W Z h2;exact Hy (suf:=suf) G U l (pre++[o]) (i+1) H c Q v f F D B R I w (by simp[hall]) (by simp[hpre]) V X W h2 λf8 f7 x=>O _ _ (x.trans Z)
  have skip:∀{τ:aw},ER S σ τ τ'->dj all (rst all o τ') o=some false->(lq N o.dst (.tup []) τ λc=>sdr cx fid N all A M l (i+1) c S a C s K)=some r->ADr cx.P N all A M (o::l) i τ' E (s.map (·.1)) m w:=by
   intro τ g y h;obtain⟨c,H,k1,k2,k3⟩:=m6 (d:=.tuple []) g (by simp only[VR,VRs];exact⟨[],rfl,rfl⟩) h;exact agA y k1 (Hy (suf:=suf) G U l (pre++[o]) (i+1) H c S σ a done C s E _ w (by simp[hall]) (by simp[hpre]) hD.skip hS k2 k3 O)
  simp only[TV,RO,Vx]at h;split at h
  ·rename_i L;exact n g (by unfold dj;rw[L]) h
  ·rename_i j z L;split at h<;>try (cases h;done)
   rename_i t ht;split at h<;>try (cases h;done)
   ·rename_i b Y;obtain⟨d,J,q⟩:=g.rst all o t _ Y;simp only[VR]at q;subst q;have u:=(ql (p:=λt=>(o.looksAt all).contains t) J).2;have y:dj all (rst all o τ') o=some (b==z):=by unfold dj;rw[L];simp only[ht,J]
    cases z
    ·rcases bT h with⟨rfl,h⟩|⟨rfl,h⟩
     ·exact skip (g.setB u) y h
     ·exact n (g.setB u) y h
    ·rcases bT h with⟨rfl,h⟩|⟨rfl,h⟩
     ·exact n (g.setB u) y h
     ·exact skip (g.setB u) y h
   ·rename_i vs Y;obtain⟨d,J,q⟩:=g.rst all o t _ Y;simp only[VR]at q;obtain⟨ds,rfl,_⟩:=q;exact skip g (by unfold dj;rw[L];simp only[ht,J]) h
def StR.pushes:∀(B:Res){S:ae}{σ:Sto},StR S σ->StR (S++B.map λx=>kK.cells (mK x.2.2) false) (σ++B.map λx=>ak.cells x.2.2 0 0)/\bB S σ (S++B.map λx=>kK.cells (mK x.2.2) false) (σ++B.map λx=>ak.cells x.2.2 0 0)
 |[],S,σ,h=>by simp only[ai0,ah4];exact⟨h,.refl _ _⟩
 |x::B,S,σ,h=>by
  have c:StR (S++[kK.cells (mK x.2.2) false]) (σ++[ak.cells x.2.2 0 0]):=h.push ⟨x.2.2,0,rfl,λ_=>rfl,lQ _ _ x.2.2⟩;have d:=bB.push h.len (kK.cells (mK x.2.2) false) (ak.cells x.2.2 0 0);obtain⟨a,b⟩:=StR.pushes B c;simp only[ah6,akn]at a b;exact⟨a,d.trans b⟩
def RP(f:nE cx){i id:Nat}{ops:Array Oper}{τ:aw}{τ':Env}{S:ae}{σ:Sto}{K:aw->ae->Option α}(u:StR S σ)(C:ER S σ τ τ')(h:PL cx fid N ops τ S K=some r):
 AWp i cx.P N (.region id ops true) τ' σ λe m g=>e=.normal/\nQ S σ K r m g:=by
 simp only[PL,yN,qu,aiw]at h;obtain⟨A,y,h⟩:=aj h;split at h<;>try (cases h;done)
 rename_i E;obtain⟨v,z⟩:=StR.pushes A u;have c:=ul y;have b:∀x∈A,∃n:Nat,n<A.length/\x.2.1=σ.length+n/\A[n]?=some x:=by
  intro x a;obtain⟨n,t⟩:=aiP a;have d:(A.map (·.2.1))[n]?=some x.2.1:=by simp[t]
  rw[c,ajM (ah t)]at d;simp at d;exact⟨n,ah t,by rw[<-u.len];exact d.symm,t⟩
 refine N4 (f.mix) A rfl E (by rw[c,u.len]) ?_;refine Hy (A:=A) (M:=cU ops.toList []) (done:=[]) (suf:=[]) f (λx a=> ?_) ops.toList [] 0 τ τ' _ _ A [] [] _ [] _ (by simp) rfl ?_ v (C.pres z) h ?_
 ·obtain⟨k,o,e,d,p,q,B⟩:=Hx y a;exact⟨k,o,e,by omega,p,q,B⟩
 ·refine⟨rfl,rfl,?_,?_,?_,?_,rfl,?_,rfl⟩
  ·intro k s w l _;cases k with
   |zero=>simp at w;subst w;rfl
   |succ k=>simp at w
  ·intro x a _;obtain⟨n,d,p,q⟩:=b x a;rw[p,ahV (by omega)];simp[q]
  ·intro x a;obtain⟨n,d,p,q⟩:=b x a;simp;omega
  ·intro j F D;simp at D
  ·intro x a;simp at a
 ·intro m g x;exact⟨rfl,x.trans z⟩
end
end
end Go.Fw
def aj6:=@List.mem_range
namespace Go.Fw
open Go.RowKit
section
variable {fl:Nat}{P:Program}{N:Nat}{ops:Array Oper}{A:Res}{M:List Nat}{τ0:Env}{s0:Sto}{tab:List Rc}{S:List Sto}{C:List Nat}{τ:Env}
variable{Z:Gh}{Y:Nat}
def SE(O:jo P N ops A M τ0 s0 tab S C τ)(hM:cU ops.toList []=M)(hp:ij ops M=true)
 (m6:∀x∈A,∃r:Rc,tab[x.1]?=some r/\r.kd=.alloc x.2.1 x.2.2)(m7:∀x∈A,∀y∈A,x.2.1=y.2.1->x.1=y.1)
 {B:dQ P}{L:Array Bool}{a:Act}{w:World}(Y:Inv fl ops A τ0 tab S C N B Z L a w){i:Nat}(p7:i<tab.length)(hi:i∈Region.ready .any ops L){Q:Exit->Act->World->Prop}
 {K:Act->World->Prop}(hK:∀a' w',Inv fl ops A τ0 tab S C N B Z (L.setIfInBounds i true) a' w'->K a' w'):wpOp P ops Q i K a w:=by
 obtain⟨H,o,ho,p⟩:=ajo.1 hi;obtain⟨f7,j7⟩:=fH H;obtain⟨r,R⟩:∃r,tab[i]?=some r:=⟨_,ahG p7⟩;obtain⟨n6,f⟩:=O.rc i r R;rw[ho]at n6;cases n6;have j4:=rK (ops:=ops) (L:=L) Y.down ops.toList [] [] (by simp) rfl (λj m oj h=>by simp at h);rw[hM]at j4;have hn:pD L (M.getD i 0):=by
  intro j hj;cases hm:M[i]? with
  |none=>rw[ah2,hm]at hj;simp at hj
  |some m=>
   rw[ah2,hm]at hj;exact j4 i m _ hm ho p j hj
 obtain⟨G,k,σ,h0,hS,hC,hR,q7,q6,q,s⟩:=Y.st;have V:=Y.trel O hM hp q s R H hn;have f9:Win M C i k:=by
  intro k' c u;constructor
  ·intro T;have hL:=(hC k' c u).2 T;cases hb:Nat.testBit (M.getD c 0) i with
   |false=>rfl
   |true=>
    obtain⟨rc,D,_⟩:=O.ch k' c u;have m9:=(O.rc c rc D).1;cases hm:M[c]? with
    |none=>rw[ah2,hm]at hb;simp at hb
    |some m=>
     rw[ah2,hm]at hb;have:=j4 c m _ hm m9 (λe he o8=>Y.down c _ m9 hL e he o8) i hb;rw[j7]at this;cases this
  ·intro F;cases hb:Nat.testBit (M.getD i 0) c with
   |false=>rfl
   |true=>
    have:=(hC k' c u).1 (hn c hb);omega
 have W:∀{b:Bool},dj ops r.env r.o=some b->Region.wanted r.o (yielded ops a.tmps)=b:=λh=>vH V h;have n:(∀k,r.kd≠.chain k)->∀(t c:Nat),C[t]?=some c->((L.setIfInBounds i true).getD c false=true↔t<k):=by
  intro j8 t c u;have:c≠i:=by
   rintro rfl;obtain⟨rc,D,E⟩:=O.ch t c u;rw[R]at D;cases D;exact j8 _ E
  rw[ai7 false (ajm this)];exact hC t c u
 have g:(∀l cs,r.kd≠.alloc l cs)->∀x∈A,x.1≠i:=by
  rintro j8 x hx rfl;obtain⟨r',n7,E⟩:=m6 x hx;rw[R]at n7;cases n7;exact j8 _ _ E
 have f8:=DF hn A;unfold MN at f;unfold wpOp;rw[ho];simp only;cases I:r.kd with
 |skip=>
  simp only[I]at f;rw[ain (by rw[W f.1];simp)];refine hK _ _ (Y.next O hp R H p ⟨G,h0,.refl G,q,s⟩ hS (n (by rw[I];simp)) ?_ ?_)
  ·rw[mg (oY (g (by rw[I];simp)))];exact hR
  ·rw[f.2];simp only[Rep,undef];exact⟨#[],rfl,by simp[af]⟩
 |read=>
  simp only[I]at f;rw[ahY (W f.1)];refine .inl (f.2 k σ hS f9 _ f8 B G w a hR V _ _ ?_);rintro v w' G' d s' F J hd ⟨rfl,rfl⟩;refine hK _ _ (Y.next O hp R H p ⟨G,h0,F,q,s⟩ hS (n (by rw[I];simp)) ?_ hd);rw[mg (oY (g (by rw[I];simp)))];exact J
 |chain k0=>
  simp only[I]at f;obtain⟨hw,j5,k9,q8,q9,n9,p9,j9⟩:=f;rw[ahY (W hw)];have p8:k0=k:=by
   have h1:¬k0<k:=λh=>by
    have:=(hC k0 i j5).2 h;rw[j7]at this;cases this
   rcases ahW k k0 with X|X
   ·exfalso;obtain⟨t,rfl⟩:∃t,k0=t+1:=⟨k0-1,by omega⟩;have T:=ah j5;obtain⟨c,u⟩:∃c,C[t]?=some c:=⟨C[t],ahG (by omega)⟩;have:=(hC t c u).1 (hn c (k9 t c rfl u));omega
   ·omega
  subst p8;rw[hS]at n9;cases n9;refine .inl (j9 _ f8 B G w a hR V _ _ ?_);rintro v w' G' d s' F J hd ⟨rfl,rfl⟩;refine hK _ _ (Y.next O hp R H p ⟨G,h0,F,q,s⟩ p9 ?_ ?_ hd)
  ·intro t c u;rw[gk f7,hC t c u];constructor
   ·rintro(rfl|h)
    ·obtain⟨rc,D,E⟩:=O.ch t c u;rw[R]at D;cases D;rw[I]at E;cases E;omega
    ·omega
   ·intro h;rcases ahW t k0 with h'|h'
    ·exact .inr h'
    ·have:t=k0:=by omega
     subst this;rw[j5]at u;cases u;exact .inl rfl
  ·rw[mg (oY (g (by rw[I];simp)))];exact J
 |alloc l cs=>
  simp only[I]at f;obtain⟨hw,o7,hv,e,j9,hz⟩:=f;rw[ahY (W hw)];obtain⟨x,hx,rfl,m5⟩:∃x∈A,x.1=i/\x.2=(l,cs):=⟨_,o7,rfl,rfl⟩;have j3:σ[l]?=some (.cells cs 0 0):=by
   have:=O.res x hx k σ hS λk' c u T=>(f9 k' c u).1 T;rw[m5]at this;exact this
  have o9:l∈gZ L A:=kB.2 ⟨x,hx,j7,by rw[m5]⟩;have j6:(fo (gZ L A) σ)[l]?=some .dead:=by
   rw[ll,ahY ⟨o9,ah j3⟩]
  refine .inl (Gj (N:=N) (τ:=r.env) j9 hz j6 B G w a hR V _ _ ?_);rintro v w' G' d s' F J hd ⟨rfl,rfl⟩;refine hK _ _ (Y.next O hp R H p ⟨G,h0,F,q,s⟩ hS (n (by rw[I];simp)) ?_ (by rw[hv];exact hd));rw[<-Qd (ls:=gZ L A) (l:=l) ?_ j3]
  ·exact J
  ·intro y;simp only[kB];constructor
   ·rintro⟨z,h1,X,h3⟩;have U:z.1≠x.1:=by
     intro e';rw[e',(gk f7).2 (.inl rfl)]at X;cases X
    rw[ai7 false (ajm U)]at X;refine⟨⟨z,h1,X,h3⟩,?_⟩;rintro rfl;exact U (m7 z h1 x hx (by rw[h3,m5]))
   ·rintro⟨⟨z,h1,X,h3⟩,U⟩;refine⟨z,h1,?_,h3⟩;have:z.1≠x.1:=by
     intro e';obtain⟨rz,n8,m8⟩:=m6 z h1;rw[e',R]at n8;cases n8;rw[I]at m8;cases m8;exact U h3.symm
    rw[ai7 false (ajm this)];exact X
def Qg{suf:List Oper}{K:Env->Sto->Prop}:∀(r:List Oper)(τ:Env)(S:List Sto)(C:List Nat)(tab:List Rc)(pre:List Oper),ops.toList=pre++r++suf->tab.length=pre.length->
 jo P N ops A M τ0 s0 tab S C τ->ADr P N ops A M r tab.length τ S C tab K->
 ∃(a:List Rc)(S':List Sto)(g:List Nat)(τ':Env)(σ':Sto),a.length+suf.length=ops.size/\jo P N ops A M τ0 s0 a S' g τ'/\S'.getLast?=some σ'/\K τ' σ'/\(∀x∈A,∃r:Rc,a[x.1]?=some r/\r.kd=.alloc x.2.1 x.2.2)
 |[],τ,S,C,tab,pre,hops,hlen,hT,h=>by
  obtain⟨s,σ,B,D⟩:=h;have:ops.size=pre.length+suf.length:=by have:=aii List.length hops;simpa using this
  exact⟨tab,S,C,τ,σ,by omega,hT,B,D,s.mem⟩
 |o::r,τ,S,C,tab,pre,hops,hlen,hT,h=>by
  have ho:ops[tab.length]?=some o:=by rw[<-aio,hops,hlen,ah6];simp
  have next:∀(p:Rc)(τ2:Env)(S':List Sto)(g:List Nat),p.o=o->jo P N ops A M τ0 s0 (tab++[p]) S' g τ2->ADr P N ops A M r (tab.length+1) τ2 S' g (tab++[p]) K->
   ∃(a:List Rc)(S':List Sto)(g:List Nat)(τ':Env)(σ':Sto),a.length+suf.length=ops.size/\jo P N ops A M τ0 s0 a S' g τ'/\S'.getLast?=some σ'/\K τ' σ'/\(∀x∈A,∃r:Rc,a[x.1]?=some r/\r.kd=.alloc x.2.1 x.2.2):=by
   intro p τ2 S' g H q z;exact Qg r τ2 S' g (tab++[p]) (pre++[o]) (by simp[hops]) (by simp[hlen]) q (by simpa using z)
  rcases h with⟨m,τ2,j,h⟩|⟨m,d,τ2,b,j,h⟩|⟨m,i,d,τ2,σ,σ',f,b,w,n,j,h⟩|⟨m,e,l,y,τ2,v,E,F,j,h⟩
  ·exact next ⟨o,rst ops o τ,.tuple [],.skip⟩ τ2 S C rfl (hT.push ho ⟨m,rfl⟩ j rfl) h
  ·refine next ⟨o,rst ops o τ,d,.read⟩ τ2 S C rfl (hT.push ho ⟨m,λk σ hk hwin ls hls=> ?_⟩ j rfl) h
   refine b.mem _ (akw.2 ⟨σ,AI hk λG c hc u=>(hwin G c hc).2 u,aiz.2 ⟨ls,hls,rfl⟩⟩)
  ·refine next ⟨o,rst ops o τ,d,.chain C.length⟩ τ2 (S++[σ']) (C++[tab.length]) rfl (hT.pushC ho rfl ⟨m,by simp,λk1 c hk1 hc=> ?_,σ,σ',?_,?_,λls hls=>b.mem ls hls⟩ w.mem n.mem j rfl) h
   ·have t:C.getLast?=some c:=by
     rw[ahP (by omega)]at hc;rw[aiR,hk1];exact hc
    unfold DG at i;rw[t]at i;exact i
   ·have:S[C.length]?=some σ:=by
     rw[aiR,hT.slen]at f;exact f
    exact jD this
   ·rw[<-hT.slen];simp
  ·refine next ⟨o,rst ops o τ,.ptr l 0 0,.alloc l y⟩ τ2 S C rfl (hT.push ho ⟨m,Gg E,rfl,e,v,F⟩ j rfl) h
def K8(n m:Nat):Bool:=(List.range n).all λj=>Nat.testBit m j
def YF{n m:Nat}(h:K8 n m=true):∀j,j<n->Nat.testBit m j=true:=λj a=>ah7.1 h j (aj6.2 a)
def K9{Q:Exit->Act->World->Prop}{L:Array Bool}{a:Act}{w:World}(c:Region.ready .any ops L=[])(h:Q .normal a w):wpAny P .any ops Q Y L a w:=by
 cases Y with
 |zero=>exact⟨c,h⟩
 |succ n=>exact⟨λ_=>h,λi b=>by rw[c]at b;cases b⟩
def Wl(O:jo P N ops A M τ0 s0 tab S C τ)(hM:cU ops.toList []=M)(hp:ij ops M=true){o:Oper}(n9:tab.length+1=ops.size)(Y:ops[tab.length]?=some o)(F:K8 tab.length (M.getD tab.length 0)=true)
 (R:∀x∈A,∃r:Rc,tab[x.1]?=some r/\r.kd=.alloc x.2.1 x.2.2)(V:∀x∈A,∀y∈A,x.2.1=y.2.1->x.1=y.1)
 {B:dQ P}{Q:AEx->Env->Sto->Prop}{σ:Sto}(q:S.getLast?=some σ)(hQ:iZ P N ops [o] τ σ λs f=>Q .normal s f):
 ∀(e:Nat)(L:Array Bool)(a:Act)(w:World),L.toList.count false<=e->L.getD tab.length true=false->Inv fl ops A τ0 tab S C N B Z L a w->wpAny P .any ops (mf fl B Z N Q) e L a w:=by
 have j3:∀(L:Array Bool)(a:Act)(w:World),Inv fl ops A τ0 tab S C N B Z L a w->(∀i,i<tab.length->L.getD i false=true)->∃G,Z.LeB fl G/\Rel B G σ w/\gF G N τ a:=by
  intro L a w E I;obtain⟨G,k,f,h0,hS,hC,K,m9,j6,f7,f8⟩:=E.st;have hk:k=C.length:=by
   have h1:k<S.length:=ah hS;rw[O.slen]at h1;rcases ahW k C.length with h2|h2
   ·exfalso;obtain⟨c,U⟩:∃c,C[k]?=some c:=⟨C[k],ahG h2⟩;obtain⟨rc,m8,_⟩:=O.ch k c U;have b:=ah m8;have:=(hC k c U).1 (I c b);omega
   ·omega
  have n8:f=σ:=by
   rw[aiR,O.slen]at q;subst hk;have g:S[C.length]?=some σ:=q;rw[hS]at g;exact aiI g
  subst n8;have hh:fo (gZ L A) f=f:=by
   rw[mg (ls':=[]) ?_]
   ·rfl
   ·intro x;simp only[kB,akx,iff_false];rintro⟨y,hy,D,_⟩;obtain⟨r,m7,_⟩:=R y hy;have b:=ah m7;rw[I y.1 b]at D;cases D
  rw[hh]at K;refine⟨G,h0,K,⟨m9,j6,λt d hg=> ?_⟩⟩;rcases O.fin t d hg with⟨j,rj,p,z,j7,rfl⟩|⟨k9,j8⟩
  ·exact f7 j rj t z (I j p) j7
  ·exact f8 t d j8 λj rj z _=>k9 j rj (ah z) z
 intro e;induction e with
 |zero=>
  intro L a w U u E;obtain⟨b,D⟩:=fH u;have:=rL (Nat.le_zero.1 U) tab.length (by simpa using b);simp[ahN,b]at D;simp[b,D]at this
 |succ e ih=>
  intro L a w U u E;refine⟨λhr=> ?_,λi hi=> ?_⟩
  ·obtain⟨j,p⟩:=x9 hp E.size tab.length tab.length (ahO _) u;rw[hr]at p;cases p
  obtain⟨n6,oi,ho,T⟩:=ajo.1 hi;obtain⟨b,D⟩:=fH n6;rcases ahW i tab.length with W|W
  ·refine SE O hM hp R V E W hi λa' w' j4=>ih _ a' w' ?_ ?_ j4
   ·have h1:L.toList[i]?=some false:=by
     simp[ahN,b]at D;simp[b,D]
    have:=po h1;rw[ajw];omega
   ·rw[ai7 true (by omega)];exact u
  ·have j9:i=tab.length:=by
    have:=(aig.1 ho).1;omega
   subst j9;rw[ho]at Y;cases Y;have J:=rK (ops:=ops) (L:=L) E.down ops.toList [] [] (by simp) rfl (λj m oj h=>by simp at h);rw[hM]at J;have hn:pD L (M.getD tab.length 0):=by
    intro j p;cases hm:M[tab.length]? with
    |none=>rw[ah2,hm]at p;simp at p
    |some m=>
     rw[ah2,hm]at p;exact J _ m _ hm ho T j p
   have I:∀j,j<tab.length->L.getD j false=true:=λj p=>hn j (YF F j p);obtain⟨G,h0,K,l⟩:=j3 L a w E I;have n:Region.ready .any ops (L.setIfInBounds tab.length true)=[]:=by
    rw[aiU];intro x hx;obtain⟨n7,ox,m6,_⟩:=ajo.1 hx;obtain⟨o7,f9⟩:=fH n7;have o8:=(aig.1 m6).1;have:(L.setIfInBounds tab.length true).getD x false=true:=(gk b).2 (by
     rcases ahW x tab.length with h|h
     ·exact .inr (I x h)
     ·exact .inl (by omega))
    rw[this]at f9;cases f9
   unfold wpOp;rw[ho];simp only;rcases hQ with⟨hw,m5⟩|⟨hw,s,H,hr⟩
   ·rw[ahY (vH l hw)];refine .inl (m5 B G w a K l _ _ ?_);rintro v w' G' d f X j5 hd ⟨s,H,hr⟩;exact K9 n ⟨G',s,f,h0.trans X.b,j5,Da (l.mono X) H hd,hr⟩
   ·rw[ain (by rw[vH l hw];simp)];exact K9 n ⟨G,s,σ,h0,K,Da l H (by simp only[Rep,undef];exact⟨#[],rfl,by simp[af]⟩),hr⟩
end
variable{Z:Gh}{Y:Nat}
def Ux{fl:Nat}{P:Program}{N:Nat}{τ:Env}{σ:Sto}{ops:Array Oper}{Q:AEx->Env->Sto->Prop}(hm:P.follows .mixedOrders=true)(A:Res){M:List Nat}{pre:List Oper}{o:Oper}(l:ops.toList=pre++[o])(E:K8 pre.length (M.getD pre.length 0)=true)
 (hM:cU ops.toList []=M)(hp:ij ops M=true)(hA:A.map (·.2.1)=List.range' σ.length A.length)
 (h:ADr P N ops A M pre 0 τ [σ++A.map λx=>ak.cells x.2.2 0 0] [] [] (λT R=>iZ P N ops [o] T R λf8 f7=>Q .normal f8 f7)):AWp fl P N (.region Y ops true) τ σ Q:=by
 intro B G w a hR U;have b:∀x∈A,(σ++A.map λx=>ak.cells x.2.2 0 0)[x.2.1]?=some (.cells x.2.2 0 0)/\∃n,A[n]?=some x/\x.2.1=σ.length+n:=by
  intro x q;obtain⟨n,u⟩:=aiP q;have v:(A.map (·.2.1))[n]?=some x.2.1:=by simp[u]
  rw[hA]at v;have g:=ah u;rw[ajM g]at v;simp at v;refine⟨?_,n,u,v.symm⟩;rw[<-v,ahV (by omega)];simp[u]
 have K:∀x∈A,∀y∈A,x.2.1=y.2.1->x.1=y.1:=by
  intro x q y hy e;obtain⟨_,n,u,v⟩:=b x q;obtain⟨_,m,L,h2⟩:=b y hy;have:n=m:=by omega
  subst this;rw[u]at L;cases L;rfl
 obtain⟨O,S',C',T,R,D,z,F,hK,V⟩:=Qg (suf:=[o]) (τ0:=τ) (s0:=σ++A.map λx=>ak.cells x.2.2 0 0) pre τ _ [] [] [] (by simp[l]) rfl ⟨λi r h=>by simp at h,rfl,rfl,λk c h=>by simp at h,
  λx q k s X _=>by
   have:s=σ++A.map λx=>ak.cells x.2.2 0 0:=by
    cases k with
    |zero=>simp at X;exact X.symm
    |succ k=>simp at X
   subst this;exact(b x q).1,λi r h=>by simp at h,λt d W=>.inr ⟨λj rj hj _=>absurd hj (akE _),W⟩,λi r t h=>by simp at h⟩ h
 have Z:ops.size=pre.length+1:=by have:=aii List.length l;simpa using this
 have H:O.length=pre.length:=by simp at D;omega
 refine wp_region_any hm (Wl z hM hp (by simpa using D) (o:=o) (by rw[H,<-Array.getElem?_toList,l];simp) (by rw[H];exact E) V K F hK ops.size _ a _ (by simp) (by simp[ahN,H,Z]) ⟨by simp,λj oj f9 I=> ?_,?_⟩)
 ·exfalso;rcases ahW j ops.size with f|f
  ·simp[ahN,f]at I
  ·simp[ahN,f]at I
 ·have p:∀j,(Array.replicate ops.size false).getD j false=false:=by
   intro j;rcases ahW j ops.size with f|f
   ·simp[ahN,f]
   ·simp[ahN,f]
  refine⟨G,0,_,.refl G,z.hd,λk' c hc=> ?_,?_,U.size,U.defers,λi r t _ I _=> ?_,λt d W _=>U.slot t d W⟩
  ·rw[p c];simp
  ·have:fo (gZ (Array.replicate ops.size false) A) (σ++A.map λx=>ak.cells x.2.2 0 0)=σ++List.replicate A.length .dead:=by
    refine Ci λx=> ?_;rw[ll];have J:x∈gZ (Array.replicate ops.size false) A↔(σ.length<=x/\x<σ.length+A.length):=by
     rw[kB];constructor
     ·rintro⟨y,hy,_,rfl⟩;obtain⟨_,n,u,v⟩:=b y hy;have:=ah u;omega
     ·rintro⟨v,h2⟩;have g:x-σ.length<A.length:=by omega
      refine⟨A[x-σ.length],ais _,p _,?_⟩;obtain⟨_,n,u,h3⟩:=b _ (ais g);have h4:(A.map (·.2.1))[x-σ.length]?=some (A[x-σ.length]).2.1:=by simp[g]
      rw[hA,ajM g]at h4;simp at h4;omega
    by_cases q:σ.length<=x/\x<σ.length+A.length
    ·rw[ahY ⟨J.2 q,by simp;exact q.2⟩,ahV q.1,akK,ahY (by omega)]
    ·rw[ain (λh=>q (J.1 h.1))];rcases ahW x σ.length with f|f
     ·rw[ahP f,ahP f]
     ·rw[ahZ (by simp;omega),ahZ (by simp;omega)]
   rw[this];exact(hR.dead _).drawn
  ·rw[p i]at I;cases I
end Go.Fw
namespace Go.Fw
noncomputable section
open Go.RowKit
def PM(ops:Array Oper):Option (List Oper×Oper):=match ops.toList.reverse with
 |[]=>none
 |o::r=>match o.op with
  |.call c=>match c.callee with
   |.builtin _=>none
   |_=>match K8 r.reverse.length ((cU ops.toList []).getD r.reverse.length 0) with
    |true=>some (r.reverse,o)
    |false=>none
  |_=>none
def aaj{ops:Array Oper}{pre:List Oper}{o:Oper}(h:PM ops=some (pre,o)):ops.toList=pre++[o]/\K8 pre.length ((cU ops.toList []).getD pre.length 0)=true:=by
 unfold PM at h;split at h<;>try (cases h;done)
 rename_i c r b;split at h<;>try (cases h;done)
 split at h<;>try (cases h;done)
 split at h<;>try (cases h;done)
 rename_i a;cases h;refine⟨?_,a⟩;have:=aii List.reverse b;simpa using this
def RQ{α:Type}(cx:Cx)(fid N:Nat)(a:nP α)(ops:Array Oper)(pre:List Oper)(o:Oper)(τ:aw)(S:ae)(K:aw->ae->Option α):Option α:=
 Ht S 0 λn=>(rn cx.T ops.toList 0 n).bind λA=>match ij ops (cU ops.toList []) with
  |true=>EV (S++A.map λx=>kK.cells (mK x.2.2) false) λb=>sdr cx fid N ops A (cU ops.toList []) pre 0 τ b A [] [] λc b=>EE cx fid N a ops [o] c b K
  |false=>none
section
variable {α:Type}{cx:Cx}{fid N:Nat}{r:α}
def Xs(p:nE cx){b:nP α}(m:sQ cx.P b){i id:Nat}{ops:Array Oper}{τ:aw}{τ':Env}{S:ae}{σ:Sto}{K:aw->ae->Option α}(z:StR S σ)(H:ER S σ τ τ'){pre:List Oper}{o:Oper}(J:PM ops=some (pre,o))(h:RQ cx fid N b ops pre o τ S K=some r):
 AWp i cx.P N (.region id ops true) τ' σ λe w v=>e=.normal/\nQ S σ K r w v:=by
 simp only[RQ,yN,qu,aiw]at h;obtain⟨f,q⟩:=aaj J;obtain⟨A,E,h⟩:=aj h;split at h<;>try (cases h;done)
 rename_i L;obtain⟨B,F⟩:=StR.pushes A z;have g:=ul E;have d:∀x∈A,∃n:Nat,n<A.length/\x.2.1=σ.length+n/\A[n]?=some x:=by
  intro x a;obtain⟨n,y⟩:=aiP a;have c:(A.map (·.2.1))[n]?=some x.2.1:=by simp[y]
  rw[g,ajM (ah y)]at c;simp at c;exact⟨n,ah y,by rw[<-z.len];exact c.symm,y⟩
 refine Ux (pre:=pre) (o:=o) (p.mix) A f q rfl L (by rw[g,z.len]) ?_;refine Hy (A:=A) (M:=cU ops.toList []) (done:=[]) (suf:=[o]) p (λx a=> ?_) pre [] 0 τ τ' _ _ A [] [] _ [] _ (by simp[f]) rfl ?_ B (H.pres F) h ?_
 ·obtain⟨k,o,e,c,t,u,G⟩:=Hx E a;exact⟨k,o,e,by omega,t,u,G⟩
 ·refine⟨rfl,rfl,?_,?_,?_,?_,rfl,?_,rfl⟩
  ·intro k s C l _;cases k with
   |zero=>simp at C;subst C;rfl
   |succ k=>simp at C
  ·intro x a _;obtain⟨n,c,t,u⟩:=d x a;rw[t,ahV (by omega)];simp[u]
  ·intro x a;obtain⟨n,c,t,u⟩:=d x a;simp;omega
  ·intro j T I;simp at I
  ·intro x a;simp at a
 ·rintro w v ⟨Q,R,c,t,D,u⟩;refine iZ.monoK ?_ _ _ _ (Di p m _ _ _ _ _ t c u);intro P O x;exact⟨rfl,x.trans (F.trans D)⟩
end
end
end Go.Fw
def aif:=@List.mem_of_getElem?
namespace Go.Fw
open Go.RowKit
def yW:List Nat->Nat->Nat->Option Nat
 |[],_,_=>none
 |j::r,i,k=>match Nat.beq j i with
  |true=>some k
  |false=>yW r i (k+1)
def AL{a b:Nat}(h:Nat.beq a b=true):a=b:=aiX h
def Gk:∀{ids:List Nat}{i k m:Nat},yW ids i k=some m->∃j,m=k+j/\ids[j]?=some i
 |[],_,_,_,h=>by simp[yW]at h
 |x::r,i,k,m,h=>by
  simp only[yW]at h;split at h
  ·rename_i e;cases h;exact⟨0,rfl,by simp[AL e]⟩
  ·obtain⟨j,b,a⟩:=Gk h;exact⟨j+1,by omega,by simpa using a⟩
def N5:∀{ids:List Nat}{i k:Nat},yW ids i k=none->i ∉ ids
 |[],_,_,_=>by simp
 |x::r,i,k,h=>by
  simp only[yW]at h;split at h
  ·cases h
  ·rename_i e;have:=N5 h;simp only[ah8,not_or];exact⟨λa=>(by subst a;rw[Nat.beq_refl]at e;cases e),this⟩
def yX(ids:List Nat):List Edge->List Edge
 |[]=>[]
 |e::a=>match Region.binds .any e with
  |true=>match yW ids e.on 0 with
   |some k=>{e with on:=k}::yX ids a
   |none=>yX ids a
  |false=>yX ids a
def Qh{ids:List Nat}{b:Edge}:∀{es:List Edge},b∈yX ids es->∃e∈es,Region.binds .any e=true/\yW ids e.on 0=some b.on
 |[],h=>by simp[yX]at h
 |e::es,h=>by
  have a:b∈yX ids es->∃x∈e::es,Region.binds .any x=true/\yW ids x.on 0=some b.on:=λh=>by
   obtain⟨x,c,d⟩:=Qh h;exact⟨x,ah0 _ c,d⟩
  simp only[yX]at h;split at h
  ·rename_i f;split at h
   ·rename_i k g;rcases ah8.1 h with rfl|h
    ·exact⟨e,aik ..,f,g⟩
    ·exact a h
   ·exact a h
  ·exact a h
def Qi{ids:List Nat}{e:Edge}{k:Nat}(b:Region.binds .any e=true)(c:yW ids e.on 0=some k):∀{es:List Edge},e∈es->({e with on:=k}:Edge)∈yX ids es
 |[],h=>by simp at h
 |x::es,h=>by
  simp only[yX];rcases ah8.1 h with rfl|h
  ·rw[b];simp only[c];exact aik ..
  ·have a:=Qi b c h;split
   ·split
    ·exact ah0 _ a
    ·exact a
   ·exact a
def DL(ids:List Nat)(o:Oper):Oper:={o with after:=(yX ids o.after.toList).toArray}
def JF(ops:Array Oper)(all:List Nat):List Nat->List Oper
 |[]=>[]
 |i::r=>match ops[i]? with
  |some o=>DL all o::JF ops all r
  |none=>JF ops all r
def hZ(ops:Array Oper)(ids:List Nat):Array Oper:=(JF ops ids ids).toArray
def JG{ops:Array Oper}{all:List Nat}:∀{ids:List Nat},(∀i∈ids,i<ops.size)->(JF ops all ids).length=ids.length/\∀k:Nat,(JF ops all ids)[k]?=(ids[k]?).bind λi=>(ops[i]?).map (DL all)
 |[],_=>by simp[JF]
 |i::r,h=>by
  obtain⟨b,c⟩:=JG (ops:=ops) (all:=all) (ids:=r) (λi a=>h i (ah0 _ a));have a:ops[i]?=some (ops[i]'(h i (aik ..))):=ah5 _;simp only[JF,a];refine⟨by simp[b],λk=> ?_⟩;cases k with
  |zero=>simp[a]
  |succ k=>simpa using c k
section
variable {P:Program}{ops:Array Oper}{ids:List Nat}
def BG(a:∀i∈ids,i<ops.size):(hZ ops ids).size=ids.length:=by
 unfold hZ;simpa using (JG (ops:=ops) (all:=ids) a).1
def tg(a:∀i∈ids,i<ops.size){k i:Nat}(h:ids[k]?=some i):∃o,ops[i]?=some o/\(hZ ops ids)[k]?=some (DL ids o):=by
 have b:ops[i]?=some (ops[i]'(a i (aif h))):=ah5 _;refine⟨_,b,?_⟩;unfold hZ;rw[List.getElem?_toArray,(JG (ops:=ops) (all:=ids) a).2 k,h];simp[b]
def Uy(a:∀i∈ids,i<ops.size){k:Nat}{o':Oper}(h:(hZ ops ids)[k]?=some o'):∃i o,ids[k]?=some i/\ops[i]?=some o/\o'=DL ids o:=by
 have c:k<ids.length:=by rw[<-BG a];exact(aig.1 h).1
 obtain⟨o,d,b⟩:=tg a (ahG c);rw[h]at b;cases b;exact⟨_,o,ahG c,d,rfl⟩
def qm(ops:Array Oper):Bool:=ops.toList.all λo=>o.guard.isNone
def DM(h:qm ops=true){i:Nat}{o:Oper}(a:ops[i]?=some o):o.guard=none:=by
 have:=ah7.1 h o (aif (by rw[aio];exact a));simpa using this
def Qj{Q:Exit->Act->World->Prop}{K:Act->World->Prop}{a:Act}{w:World}(g:qm ops=true){k i:Nat}{o:Oper}(b:ops[i]?=some o)(f:(hZ ops ids)[k]?=some (DL ids o))(h:wpOp P (hZ ops ids) Q k K a w):wpOp P ops Q i K a w:=by
 have c:=DM g b;unfold wpOp at h⊢;rw[f]at h;rw[b];simp only at h⊢;have d:∀y,Region.wanted o y=true:=λy=>by unfold Region.wanted;rw[c]
 have e:∀y,Region.wanted (DL ids o) y=true:=λy=>by unfold Region.wanted DL;simp only[c]
 rw[ahY (e _)]at h;rw[ahY (d _)];exact h
def AM{Q:Exit->Act->World->Prop}{K:Act->World->Prop}{a:Act}{w:World}(d:qm ops=true){i:Nat}{o:Oper}(b:ops[i]?=some o)(h:o.wp P a w K Q):wpOp P ops Q i K a w:=by
 have e:=DM d b;unfold wpOp;rw[b];simp only;have c:∀y,Region.wanted o y=true:=λy=>by unfold Region.wanted;rw[e]
 rw[ahY (c _)];exact .inl h
structure Sb(ids:List Nat)(n:Nat)(L L':Array Bool):Prop where
 s1:L.size=n
 s2:L'.size=ids.length
 at':∀(k i:Nat),ids[k]?=some i->L.getD i false=L'.getD k false
def H7{L:Array Bool}{i:Nat}(h:i<L.size):L.getD i true=L.getD i false:=by
 simp[ahN,h]
def Tg{L:Array Bool}{i:Nat}(h:L.getD i true=false):L.getD i false=false:=(fH h).2
def Sb.tr{n:Nat}{L L':Array Bool}(h:Sb ids n L L')(b:∀i∈ids,i<n){k i:Nat}(a:ids[k]?=some i):L.getD i true=L'.getD k true:=by
 rw[H7 (by rw[h.s1];exact b i (aif a)),H7 (by rw[h.s2];exact(ai4.1 a).1)];exact h.at' k i a
def Sb.set{n:Nat}{L L':Array Bool}(h:Sb ids n L L')(p:ids.Nodup)(g:∀i∈ids,i<n){k i:Nat}(b:ids[k]?=some i):Sb ids n (L.setIfInBounds i true) (L'.setIfInBounds k true):=by
 refine⟨by simp[h.s1],by simp[h.s2],λm j a=> ?_⟩;have d:i<L.size:=by rw[h.s1];exact g i (aif b)
 have f:k<L'.size:=by rw[h.s2];exact(ai4.1 b).1
 by_cases e:m=k
 ·subst e;rw[b]at a;cases a;rw[(gk d).2 (.inl rfl),(gk f).2 (.inl rfl)]
 ·have c:j≠i:=λc=>by
   subst c;obtain⟨q,l⟩:=ai4.1 a;obtain⟨r,o⟩:=ai4.1 b;exact e ((List.getElem_inj p).1 (l.trans o.symm))
  rw[ai7 false (ajm c),ai7 false (ajm e)];exact h.at' m j a
def YG{L L':Array Bool}(h:Sb ids ops.size L L')(a:∀i∈ids,i<ops.size)(v:ids.Nodup){k i:Nat}(n:ids[k]?=some i)(u:k∈Region.ready .any (hZ ops ids) L')
 (t:∀o,ops[i]?=some o->∀e∈o.after,Region.binds .any e=true->e.on ∉ ids->L.getD e.on false=true):i∈Region.ready .any ops L:=by
 obtain⟨q,w,r,s⟩:=ajo.1 u;obtain⟨o,f,g⟩:=tg a n;rw[r]at g;cases g;refine ajo.2 ⟨by rw[h.tr a n];exact q,o,f,λe l b=> ?_⟩;cases c:yW ids e.on 0 with
 |none=>exact t o f e l b (N5 c)
 |some m=>
  obtain⟨j,d,p⟩:=Gk c;rw[aiw]at d;subst d;rw[h.at' m e.on p];have:=Qi b c (es:=o.after.toList) (by simpa using l);exact s {e with on:=m} (by unfold DL;simpa using this) (by simpa[Region.binds] using b)
def JH{L L':Array Bool}(h:Sb ids ops.size L L')(b:∀i∈ids,i<ops.size){k i:Nat}(g:ids[k]?=some i)(u:i∈Region.ready .any ops L):k∈Region.ready .any (hZ ops ids) L':=by
 obtain⟨q,o,r,s⟩:=ajo.1 u;obtain⟨v,f,t⟩:=tg b g;rw[r]at f;cases f;refine ajo.2 ⟨by rw[<-h.tr b g];exact q,_,t,λc a _=> ?_⟩;have a:c∈yX ids o.after.toList:=by unfold DL at a;simpa using a
 obtain⟨e,m,n,p⟩:=Qh a;obtain⟨j,d,l⟩:=Gk p;rw[aiw]at d;subst d;rw[<-h.at' c.on e.on l];exact s e (by simpa using m) n
def Wm{Q:Exit->Act->World->Prop}(G:qm ops=true)(c:∀i∈ids,i<ops.size)(C:ids.Nodup)(q:DH ops.toList 0=true):∀(b:Nat)(L L':Array Bool)(a:Act)(w:World),Sb ids ops.size L L'->
 (∀i,i<ops.size->i ∉ ids->L.getD i false=true)->wpAny P .any (hZ ops ids) Q b L' a w->wpAny P .any ops Q b L a w:=by
 have s:∀{L:Array Bool},(∀i,i<ops.size->i ∉ ids->L.getD i false=true)->∀{i:Nat} o,ops[i]?=some o->∀e∈o.after,Region.binds .any e=true->e.on ∉ ids->L.getD e.on false=true:=by
  intro L d i o v e F E B;have t:=DJ q (i:=i) (o:=o) (by rw[aio];exact v) e F E;have m:=(aig.1 v).1;exact d _ (by omega) B
 have z:∀{L L':Array Bool},Sb ids ops.size L L'->(∀i,i<ops.size->i ∉ ids->L.getD i false=true)->Region.ready .any ops L=[]->Region.ready .any (hZ ops ids) L'=[]:=by
  intro L L' h d y;rw[aiU]at y⊢;intro k f;obtain⟨_,K,m,_⟩:=ajo.1 f;obtain⟨i,o,D,J,_⟩:=Uy c m;exact y i (YG h c C D f λo v=>s d o v)
 have g:∀{L:Array Bool},(∀i,i<ops.size->i ∉ ids->L.getD i false=true)->∀{i:Nat},i∈Region.ready .any ops L->∃k:Nat,ids[k]?=some i:=by
  intro L d i l;obtain⟨t,o,m,_⟩:=ajo.1 l;have n:=(aig.1 m).1;by_cases u:i∈ids
  ·exact aiP u
  ·have:=d i n u;rw[Tg t]at this;cases this
 intro b;induction b with
 |zero=>
  intro L L' a w h d r;refine⟨?_,r.2⟩;rw[aiU];intro i l;obtain⟨k,f⟩:=g d l;have:=JH h c f l;rw[r.1]at this;cases this
 |succ b I=>
  intro L L' a w h d r;refine⟨λy=>r.1 (z h d y),λi l=> ?_⟩;obtain⟨k,f⟩:=g d l;have A:=JH h c f l;obtain⟨o,t,m⟩:=tg c f;refine wpOp_mono (λa w x=>I _ _ a w (h.set C c f) (λj H p=> ?_) x) (Qj G t m (r.2 k A));have u:=aif f;rw[ai7 false (λe=>p (by rw[<-e];exact u))];exact d j H p
def td.step{L:Array Bool}(h:td ops L)(q:L.size=ops.size){i:Nat}(n:i∈Region.ready .any ops L):td ops (L.setIfInBounds i true):=by
 obtain⟨k,o,l,m⟩:=ajo.1 n;have b:=(fH k).1;intro j p a d e g f;have c:L.getD e.on false=true:=by
  rcases (gk b).1 d with rfl|d
  ·rw[l]at a;cases a;exact m e g f
  ·exact h j p a d e g f
 exact(gk b).2 (.inr c)
def SG{Q:Exit->Act->World->Prop}{M:List Nat}{c:Nat}{J:Array Bool->Act->World->Prop}(Y:qm ops=true)(r:∀i∈ids,i<ops.size)(hn:ids.Nodup)(X:cU ops.toList []=M)(hp:ij ops M=true)(I:c<ops.size)(y:c ∉ ids){m:Nat}(Z:1<=m)
 (t:∀i,i<ops.size->i ∉ ids->i≠c->Nat.testBit (M.getD i 0) c=true)
 (u:∀(L':Array Bool)(a:Act)(w:World)(k:Nat),J L' a w->k∈Region.ready .any (hZ ops ids) L'->∀K:Act->World->Prop,(∀D E,J (L'.setIfInBounds k true) D E->K D E)->wpOp P (hZ ops ids) Q k K a w)
 (f:∀(b:Nat)(L L':Array Bool)(a:Act)(w:World),J L' a w->Sb ids ops.size L L'->(∀i,i<ops.size->i ∉ ids->L.getD i false=false)->td ops L->pD L (M.getD c 0)->L'.toList.count false+m<=b+1->wpOp P ops Q c (wpAny P .any ops Q b (L.setIfInBounds c true)) a w):
 ∀(b:Nat)(L L':Array Bool)(a:Act)(w:World),J L' a w->Sb ids ops.size L L'->(∀i,i<ops.size->i ∉ ids->L.getD i false=false)->td ops L->L'.toList.count false+m<=b->wpAny P .any ops Q b L a w:=by
 have v:∀{L L':Array Bool},Sb ids ops.size L L'->(∀i,i<ops.size->i ∉ ids->L.getD i false=false)->∃j,j∈Region.ready .any ops L:=by
  intro L L' h n;exact x9 hp h.s1 c c (ahO _) (by rw[H7 (by rw[h.s1];exact I)];exact n c I y)
 have d:∀{L:Array Bool},td ops L->∀{i:Nat},i∈Region.ready .any ops L->pD L (M.getD i 0):=by
  intro L p i q;obtain⟨R,o,F,S⟩:=ajo.1 q;have x:=rK (ops:=ops) (L:=L) p ops.toList [] [] (by simp) rfl (λj m oj h=>by simp at h);rw[X]at x;intro j g;cases s:M[i]? with
  |none=>rw[ah2,s]at g;simp at g
  |some m=>
   rw[ah2,s]at g;exact x i m o s F S j g
 intro b;induction b with
 |zero=>
  intro L L' a w G h n p l;exfalso;omega
 |succ b ih=>
  intro L L' a w G h n p l;refine⟨λhr=> ?_,λi q=> ?_⟩
  ·obtain⟨j,g⟩:=v h n;rw[hr]at g;cases g
  obtain⟨R,o,F,S⟩:=ajo.1 q;have N:=(aig.1 F).1;by_cases z:i=c
  ·subst z;exact f b L L' a w G h n p (d p q) l
  by_cases s:i∈ids
  ·obtain⟨k,A⟩:=aiP s;have O:=JH h r A q;obtain⟨o',U,V⟩:=tg r A;refine Qj Y U V (u L' a w k G O _ λD E H=>ih _ _ D E H (h.set hn r A) (λj g C=> ?_) (p.step h.s1 q) ?_)
   ·rw[ai7 false (λe=>C (by rw[<-e];exact s))];exact n j g C
   ·have T:L'.getD k false=false:=by rw[<-h.at' k i A];exact Tg R
    have W:L'.toList[k]?=some false:=by
     have B:k<L'.size:=by rw[h.s2];exact(ai4.1 A).1
     simp[ahN,B]at T;simp[B,T]
    have:=po W;rw[ajw];omega
  ·have:=d p q c (t i N s z);rw[n c I y]at this;cases this
end
end Go.Fw
def aiK:=@Bool.not_true
def akF:=@List.nodup_cons
def akV:=@List.any_eq_true
namespace Go.Fw
open Go.RowKit
def ADg(P:Program)(N:Nat)(ops:Array Oper)(A:Res)(M:List Nat)(fr:Nat->Bool):List Oper->Nat->Env->List Sto->List Nat->List Rc->(Env->Sto->Prop)->Prop
 |[],_,τ,S,_,tab,K=>j7 (λ(x:Nat×Nat×List D)=>∃r,tab[x.1]?=some r/\r.kd=.alloc x.2.1 x.2.2) A/\∃σ,S.getLast?=some σ/\K τ σ
 |o::r,i,τ,S,C,tab,K=>
  (dj ops (rst ops o τ) o=some false/\∃τ2,iF N o.dst (.tuple []) τ=some τ2/\ADg P N ops A M fr r (i+1) τ2 S C (tab++[⟨o,rst ops o τ,.tuple [],.skip⟩]) K)∨
  (dj ops (rst ops o τ) o=some true/\∃d τ2,
    j7 (λs=>AOp P N o (rst ops o τ) s λb c=>b=d/\c=s) ((oD (M.getD i 0) S C).flatMap λσ=>(jn A (M.getD i 0)).map (fo · σ))/\
    iF N o.dst d τ=some τ2/\ADg P N ops A M fr r (i+1) τ2 S C (tab++[⟨o,rst ops o τ,d,.read⟩]) K)∨
  (dj ops (rst ops o τ) o=some true/\DG (M.getD i 0) C=true/\fr i=false/\∃d τ2 σ a,S.getLast?=some σ/\
    j7 (λg=>AOp P N o (rst ops o τ) (fo g σ) λb c=>b=d/\c=fo g a) (jn A (M.getD i 0))/\
    j7 (λ(x:Rc×Sto)=>AOp P N x.1.o x.1.env x.2 λb c=>b=x.1.v/\c=x.2) (reS A M (C++[i]) a 0 tab)/\
    j7 (λ(x:Nat×Nat×List D)=>match Nat.testBit (M.getD i 0) x.1 with|true=>True|false=>a[x.2.1]?=some (.cells x.2.2 0 0)) A/\
    iF N o.dst d τ=some τ2/\ADg P N ops A M fr r (i+1) τ2 (S++[a]) (C++[i]) (tab++[⟨o,rst ops o τ,d,.chain C.length⟩]) K)∨
  (dj ops (rst ops o τ) o=some true/\∃e l f τ2,o.op=.alloc e/\tf A i=some (l,f)/\oe P e=some f/\
    iF N o.dst (.ptr l 0 0) τ=some τ2/\ADg P N ops A M fr r (i+1) τ2 S C (tab++[⟨o,rst ops o τ,.ptr l 0 0,.alloc l f⟩]) K)
section
variable {P:Program}{N:Nat}{ops:Array Oper}{A:Res}{M:List Nat}{τ0:Env}{s0:Sto}{tab:List Rc}{S:List Sto}{C:List Nat}{τ τ2:Env}
def Th{fr:Nat->Bool}{K:Env->Sto->Prop}:∀(r:List Oper)(τ:Env)(S:List Sto)(C:List Nat)(tab:List Rc)(pre:List Oper),ops.toList=pre++r->tab.length=pre.length->
 (∀c∈C,fr c=false)->jo P N ops A M τ0 s0 tab S C τ->ADg P N ops A M fr r tab.length τ S C tab K->
 ∃(a:List Rc)(S':List Sto)(b:List Nat)(τ':Env)(σ':Sto),a.length=ops.size/\jo P N ops A M τ0 s0 a S' b τ'/\S'.getLast?=some σ'/\K τ' σ'/\(∀c∈b,fr c=false)/\(∀x∈A,∃r:Rc,a[x.1]?=some r/\r.kd=.alloc x.2.1 x.2.2)
 |[],τ,S,C,tab,pre,hops,hlen,hF,hT,h=>by
  obtain⟨t,σ,F,G⟩:=h;have:ops.size=pre.length:=by have:=aii List.length hops;simpa using this
  exact⟨tab,S,C,τ,σ,by omega,hT,F,G,hF,t.mem⟩
 |o::r,τ,S,C,tab,pre,hops,hlen,hF,hT,h=>by
  have ho:ops[tab.length]?=some o:=by rw[<-aio,hops,hlen];simp
  have next:∀(p:Rc)(τ2:Env)(S':List Sto)(b:List Nat),p.o=o->(∀c∈b,fr c=false)->jo P N ops A M τ0 s0 (tab++[p]) S' b τ2->ADg P N ops A M fr r (tab.length+1) τ2 S' b (tab++[p]) K->
   ∃(a:List Rc)(S':List Sto)(b:List Nat)(τ':Env)(σ':Sto),a.length=ops.size/\jo P N ops A M τ0 s0 a S' b τ'/\S'.getLast?=some σ'/\K τ' σ'/\(∀c∈b,fr c=false)/\(∀x∈A,∃r:Rc,a[x.1]?=some r/\r.kd=.alloc x.2.1 x.2.2):=by
   intro p τ2 S' b L q s E;exact Th r τ2 S' b (tab++[p]) (pre++[o]) (by simp[hops]) (by simp[hlen]) q s (by simpa using E)
  rcases h with⟨m,τ2,j,h⟩|⟨m,d,τ2,f,j,h⟩|⟨m,i,v,d,τ2,σ,σ',g,f,B,n,j,h⟩|⟨m,e,l,D,τ2,z,H,I,j,h⟩
  ·exact next ⟨o,rst ops o τ,.tuple [],.skip⟩ τ2 S C rfl hF (hT.push ho ⟨m,rfl⟩ j rfl) h
  ·refine next ⟨o,rst ops o τ,d,.read⟩ τ2 S C rfl hF (hT.push ho ⟨m,λk σ hk hwin ls hls=> ?_⟩ j rfl) h
   refine f.mem _ (akw.2 ⟨σ,AI hk λJ c hc y=>(hwin J c hc).2 y,aiz.2 ⟨ls,hls,rfl⟩⟩)
  ·refine next ⟨o,rst ops o τ,d,.chain C.length⟩ τ2 (S++[σ']) (C++[tab.length]) rfl (λc hc=>by rcases air.1 hc with hc|hc;exact hF c hc;(simp at hc;subst hc;exact v)) (hT.pushC ho rfl ⟨m,by simp,λO c w hc=> ?_,σ,σ',?_,?_,λls hls=>f.mem ls hls⟩ B.mem n.mem j rfl) h
   ·have u:C.getLast?=some c:=by
     rw[ahP (by omega)]at hc;rw[aiR,w];exact hc
    unfold DG at i;rw[u]at i;exact i
   ·have:S[C.length]?=some σ:=by
     rw[aiR,hT.slen]at g;exact g
    exact jD this
   ·rw[<-hT.slen];simp
  ·refine next ⟨o,rst ops o τ,.ptr l 0 0,.alloc l D⟩ τ2 S C rfl hF (hT.push ho ⟨m,Gg H,rfl,e,z,I⟩ j rfl) h
end
section
variable {fl:Nat}{P:Program}{N:Nat}{ops:Array Oper}{A:Res}{M:List Nat}{τ τ1:Env}{σ:Sto}{tab:List Rc}{S:List Sto}{C:List Nat}
def il:Res->Sto->Sto
 |[],s=>s
 |(_,l,a)::A,s=>(il A s).set l (.cells a 0 0)
def DN:∀(A:Res)(s:Sto),(il A s).length=s.length
 |[],_=>rfl
 |(_,l,a)::A,s=>by simp[il,DN A s]
def Gl:∀(A:Res)(s:Sto)(y:Nat),y ∉ A.map (·.2.1)->(il A s)[y]?=s[y]?
 |[],_,_,_=>rfl
 |(_,l,a)::A,s,y,h=>by
  simp only[ahU,ah8,not_or]at h;simp only[il];rw[aim (ajm h.1)];exact Gl A s y h.2
def La:∀(A:Res)(s:Sto),(A.map (·.2.1)).Nodup->(∀x∈A,x.2.1<s.length)->∀x∈A,(il A s)[x.2.1]?=some (.cells x.2.2 0 0)
 |[],_,_,_,x,a=>by simp at a
 |(j,l,g)::A,s,b,d,x,a=>by
  simp only[ahU,akF]at b;simp only[il];rcases ah8.1 a with rfl|a
  ·rw[aiA (by rw[DN];exact d _ (aik ..))]
  ·have c:l≠x.2.1:=λe=>b.1 (e▸aiz.2 ⟨x,a,rfl⟩);rw[aim c];exact La A s b.2 (λy f=>d y (ah0 _ f)) x a
def SH{A:Res}{s:Sto}(h:∀x∈A,s[x.2.1]?=some .dead):fo (A.map (·.2.1)) (il A s)=s:=by
 refine Ci λy=> ?_;rw[ll,DN];by_cases a:y∈A.map (·.2.1)
 ·obtain⟨x,c,rfl⟩:=aiz.1 a;have b:=h x c;rw[ahY ⟨a,ah b⟩,b]
 ·rw[ain (λh=>a h.1),Gl A s y a]
def yY:∀{A:Res},(A.map (·.2.1)).Nodup->∀x∈A,∀y∈A,x.2.1=y.2.1->x.1=y.1
 |[],_,x,d,_,_,_=>by simp at d
 |z::A,c,x,d,y,f,e=>by
  simp only[ahU,akF]at c;rcases ah8.1 d with a|a<;>rcases ah8.1 f with b|b
  ·rw[a,b]
  ·exact absurd (aiz.2 ⟨y,b,by rw[<-e,a]⟩) c.1
  ·exact absurd (aiz.2 ⟨x,a,by rw[e,b]⟩) c.1
  ·exact yY c.2 x a y b e
structure Ini(A:Res)(s σ:Sto):Prop where
 nd:(A.map (·.2.1)).Nodup
 dead:∀x∈A,s[x.2.1]?=some .dead
 ext:∃n,s=σ++List.replicate n .dead
def Ini.get{s:Sto}(h:Ini A s σ):∀x∈A,(il A s)[x.2.1]?=some (.cells x.2.2 0 0):=La A s h.nd λx a=>ah (h.dead x a)
def adD{s:Sto}(h:Ini A s σ):jo P N ops A M τ (il A s) [] [il A s] [] τ:=
 ⟨λi r h=>by simp at h,rfl,rfl,λk c h=>by simp at h,
   λx f k g a _=>by
    have:g=il A s:=by
     cases k with
     |zero=>simp at a;exact a.symm
     |succ k=>simp at a
    subst this;exact h.get x f,λi r h=>by simp at h,λt d b=>.inr ⟨λj l e _=>absurd e (akE _),b⟩,λi r t h=>by simp at h⟩
def adE{s:Sto}(h:Ini A s σ)(g:jo P N ops A M τ (il A s) tab S C τ1){B:dQ P}{G0 G:Gh}(o:G0.LeB fl G){w:World}{a:Act}(p:Rel B G σ w)(m:gF G N τ a):
 Inv fl ops A τ tab S C N B G0 (Array.replicate ops.size false) a w:=by
 refine⟨by simp,λj E v f=> ?_,?_⟩
 ·exfalso;rcases ahW j ops.size with e|e
  ·simp[ahN,e]at f
  ·simp[ahN,e]at f
 ·have b:∀j,(Array.replicate ops.size false).getD j false=false:=by
   intro j;rcases ahW j ops.size with e|e
   ·simp[ahN,e]
   ·simp[ahN,e]
  refine⟨G,0,_,o,g.hd,λD c z=> ?_,?_,m.size,m.defers,λi r t _ f _=> ?_,λt d q _=>m.slot t d q⟩
  ·rw[b c];simp
  ·have:fo (gZ (Array.replicate ops.size false) A) (il A s)=s:=by
    rw[mg (ls':=A.map (·.2.1)) ?_]
    ·exact SH h.dead
    ·intro y;rw[kB,aiz];exact⟨λ⟨x,k,_,l⟩=>⟨x,k,l⟩,λ⟨x,k,l⟩=>⟨x,k,b _,l⟩⟩
   rw[this];obtain⟨n,u⟩:=h.ext;rw[u];exact p.dead _
  ·rw[b i]at f;cases f
def Drn(P:Program)(N:Nat)(ops:Array Oper)(τ:Env)(σ:Sto)(K:Env->Sto->Prop):Prop:=∃(A:Res)(s:Sto),ij ops (cU ops.toList [])=true/\Ini A s σ/\
 ADr P N ops A (cU ops.toList []) ops.toList 0 τ [il A s] [] [] K
variable{Z:Nat}
def Wn{Q:AEx->Env->Sto->Prop}(h:Drn P N ops τ σ λf e=>Q .normal f e){B:dQ P}{G0 G:Gh}(k:G0.LeB fl G){w:World}{a:Act}(m:Rel B G σ w)(n:gF G N τ a)(o:ops.size<=Z):
 wpAny P .any ops (mf fl B G0 N Q) Z (Array.replicate ops.size false) a w:=by
 obtain⟨A,s,p,g,h⟩:=h;obtain⟨j,r,q,f,e,d,b,c,l,i⟩:=MO (τ0:=τ) (s0:=il A s) ops.toList τ _ [] [] [] (by simp) rfl (adD g) h;exact Qf b rfl p d i (yY g.nd) c l Z _ a w (by simp;exact o) (adE g b k m n)
def DO(fl:Nat)(P:Program)(N:Nat)(ops:Array Oper)(τ:Env)(σ:Sto)(Q:AEx->Env->Sto->Prop):Prop:=
 ∀(B:dQ P)(G0 G:Gh)(w:World)(a:Act)(b:Nat),G0.LeB fl G->Rel B G σ w->gF G N τ a->ops.size<=b->wpAny P .any ops (mf fl B G0 N Q) b (Array.replicate ops.size false) a w
def DO.awp{Q:AEx->Env->Sto->Prop}(d:P.follows .mixedOrders=true)(h:DO fl P N ops τ σ Q):AWp fl P N (.region Z ops true) τ σ Q:=
 λB G w a b c=>wp_region_any d (h B G G _ a ops.size (.refl G) b.drawn c (ahO _))
def Drn.any{Q:AEx->Env->Sto->Prop}(h:Drn P N ops τ σ λb a=>Q .normal b a):DO fl P N ops τ σ Q:=
 λ_ _ _ _ _ _ c d e f=>Wn h c d e f
def eT(M:List Nat)(c n:Nat):List Nat:=(List.range n).filter λj=> !(Nat.beq j c)&& !(Nat.testBit (M.getD j 0) c)
def vn(M:List Nat)(c n:Nat):List Nat:=(List.range n).filter λj=> !(Nat.beq j c)&&Nat.testBit (M.getD j 0) c
def DP{a b:Nat}:Nat.beq a b=false↔a≠b:=by
 constructor
 ·intro h e;subst e;rw[Nat.beq_refl]at h;cases h
 ·intro h;cases c:Nat.beq a b with
  |false=>rfl
  |true=>exact absurd (AL c) h
def yD{c n j:Nat}:j∈eT M c n↔j<n/\j≠c/\Nat.testBit (M.getD j 0) c=false:=by
 unfold eT;simp[aki,DP]
def yZ{c n j:Nat}:j∈vn M c n↔j<n/\j≠c/\Nat.testBit (M.getD j 0) c=true:=by
 unfold vn;simp[aki,DP]
def Qk(p q:Nat->Bool):∀l:List Nat,(l.filter λj=> !p j&& !q j).length+(l.filter λj=> !p j&&q j).length+(l.filter p).length=l.length
 |[]=>rfl
 |x::l=>by
  have a:=Qk p q l;simp only[akU];cases p x<;>cases q x<;>simp<;>omega
def Ql{c:Nat}:∀n,c<n->((List.range n).filter λj=>Nat.beq j c).length=1
 |0,h=>by omega
 |n+1,h=>by
  rw[List.range_succ,List.filter_append,ahJ];by_cases e:c=n
  ·subst e;have:(List.range c).filter (λj=>Nat.beq j c)=[]:=by
    rw[List.filter_eq_nil_iff];intro x b;have:=aj6.1 b;have a:Nat.beq x c=false:=DP.2 (by omega);rw[a];simp
   rw[this];simp
  ·rw[Ql n (by omega)];have:Nat.beq n c=false:=DP.2 (by omega);simp[this]
def Qm{c n:Nat}(a:c<n):(eT M c n).length+(vn M c n).length+1=n:=by
 have:=Qk (λj=>Nat.beq j c) (λj=>Nat.testBit (M.getD j 0) c) (List.range n);rw[Ql n a,List.length_range]at this;exact this
def pick:List Nat->List Bool->List Nat
 |i::r,b::D=>match b with
  |true=>pick r D
  |false=>i::pick r D
 |_,_=>[]
def vo:∀(l:List Nat)(D:List Bool),(pick l D).Sublist l
 |[],D=>by cases D<;>exact List.Sublist.refl _
 |i::r,[]=>by simp[pick]
 |i::r,b::D=>by
  simp only[pick];cases b
  ·exact(vo r D).cons_cons i
  ·exact(vo r D).cons i
def Qn:∀(l:List Nat)(D:List Bool),D.length=l.length->(pick l D).length=D.count false
 |[],D,h=>by
  have:D=[]:=aip (by simpa using h);subst this;rfl
 |i::r,[],h=>by simp at h
 |i::r,b::D,h=>by
  have a:=Qn r D (by simpa using h);simp only[pick];cases b<;>simp[a]
def JI{i:Nat}:∀(l:List Nat)(D:List Bool),D.length=l.length->(i∈pick l D↔∃k:Nat,l[k]?=some i/\D[k]?=some false)
 |[],D,h=>by simp[pick]
 |j::r,[],h=>by simp at h
 |j::r,b::D,h=>by
  have d:=JI (i:=i) r D (by simpa using h);simp only[pick];cases b
  ·simp only[ah8,d];constructor
   ·rintro(rfl|⟨k,a,c⟩)
    ·exact⟨0,rfl,rfl⟩
    ·exact⟨k+1,by simpa using a,by simpa using c⟩
   ·rintro⟨k,a,c⟩;cases k with
    |zero=>simp at a;exact .inl a.symm
    |succ k=>exact .inr ⟨k,by simpa using a,by simpa using c⟩
  ·simp only[d];constructor
   ·rintro⟨k,a,c⟩;exact⟨k+1,by simpa using a,by simpa using c⟩
   ·rintro⟨k,a,c⟩;cases k with
    |zero=>simp at c
    |succ k=>exact⟨k,by simpa using a,by simpa using c⟩
def oZ(M:List Nat)(c n:Nat)(D:List Bool):List Nat:=pick (eT M c n) D++vn M c n
def MP(a:Nat):List Nat->List (List Bool)
 |[]=>[[]]
 |i::r=>match Nat.testBit a i with
  |true=>(MP a r).map (true::·)
  |false=>(MP a r).flatMap λl=>[true::l,false::l]
def Qo:∀(l:List Nat)(D:List Bool),D.length=l.length->(∀(k i:Nat),l[k]?=some i->Nat.testBit Z i=true->D.getD k false=true)->D∈MP Z l
 |[],D,h,_=>by
  have:D=[]:=aip (by simpa using h);subst this;simp[MP]
 |i::r,[],h,_=>by simp at h
 |i::r,b::D,h,a=>by
  have c:=Qo r D (by simpa using h) λk j d e=>by
   have:=a (k+1) j (by simpa using d) e;simpa using this
  simp only[MP];cases f:Nat.testBit Z i with
  |true=>
   have:=a 0 i rfl f;simp at this;subst this;exact aiz.2 ⟨D,c,rfl⟩
  |false=>exact akw.2 ⟨D,c,by cases b<;>simp⟩
def abc(a:List Nat)(D:List Bool):Bool:=(List.range D.length).all λk=> !(D.getD k false)||(List.range D.length).all λm=> !(Nat.testBit (a.getD k 0) m)||D.getD m false
def Pt(b:Nat)(a ids:List Nat):List (List Bool):=(MP b ids).filter (abc a)
def o7(D:List Bool):Res->List Nat
 |[]=>[]
 |(j,l,_)::A=>match D.getD j false with
  |true=>o7 D A
  |false=>l::o7 D A
def qV{L:Array Bool}{j:Nat}:L.toList.getD j false=L.getD j false:=by
 simp[ahN]
def Lb{L:Array Bool}:∀A:Res,o7 L.toList A=gZ L A
 |[]=>rfl
 |(j,l,a)::A=>by
  simp only[o7,gZ,qV,Lb A];cases L.getD j false<;>rfl
def ry:List Oper->List Bool->List Nat
 |o::r,b::D=>match b with
  |true=>ry r D
  |false=>match o.dst with
   |some t=>t::ry r D
   |none=>ry r D
 |_,_=>[]
def N6{t:Nat}:∀{l:List Oper}{D:List Bool}{k:Nat}{o:Oper},l[k]?=some o->D[k]?=some false->o.dst=some t->t∈ry l D
 |[],_,_,_,h,_,_=>by simp at h
 |_::_,[],_,_,_,h,_=>by simp at h
 |x::l,b::D,0,o,a,c,d=>by
  simp at a c;subst a c;simp only[ry,d];exact aik ..
 |x::l,b::D,k+1,o,a,c,d=>by
  have e:=N6 (l:=l) (D:=D) (k:=k) (by simpa using a) (by simpa using c) d;simp only[ry];split
  ·exact e
  ·split
   ·exact ah0 _ e
   ·exact e
def BH(x:Nat)(l:List Nat):Bool:=l.any (Nat.beq x)
def JJ{x:Nat}{l:List Nat}:BH x l=true↔x∈l:=by
 unfold BH;rw[akV];exact⟨λ⟨y,a,b⟩=>(AL b)▸a,λh=>⟨x,h,Nat.beq_refl x⟩⟩
def Uz(a:List Nat)(τ:Env):Env:=τ.filter λq=> !(BH q.1 a)
def Wo{fl:Nat}{Q:AEx->Env->Sto->Prop}(A:Res){c:Nat}{oc:Oper}(m8:ops[c]?=some oc)(hg:qm ops=true)(hM:cU ops.toList []=M)(hp:ij ops M=true){b:Array Oper}(hP:hZ ops (eT M c ops.size)=b){M1:List Nat}(n7:cU b.toList []=M1)(A9:ij b M1=true)
 {s0:Sto}(hA:Ini A s0 σ)(fr:Nat->Bool)(A4:∀(k i:Nat),(eT M c ops.size)[k]?=some i->fr k=false->Nat.testBit (M.getD c 0) i=true){K:Env->Sto->Prop}
 (h:ADg P N b A M1 fr b.toList 0 τ [il A s0] [] [] K)
 (hK:∀τ1 F,K τ1 F->∀D∈Pt (M.getD c 0) M1 (eT M c ops.size),iZ P N ops [oc] (Uz (ry b.toList D) τ1) (fo (o7 D A) F) λτ2 B5=>DO fl P N (hZ ops (oZ M c ops.size D)) τ2 B5 Q):
 DO fl P N ops τ σ Q:=by
 intro B m9 G0 w a j4 y3 hR hT y0;have j6:c<ops.size:=(aig.1 m8).1;have m5:∀i∈eT M c ops.size,i<ops.size:=λi f=>(yD.1 f).1;have s8:(eT M c ops.size).Nodup:=List.nodup_range.filter _;have t8:(vn M c ops.size).Nodup:=List.nodup_range.filter _;have V:b.size=(eT M c ops.size).length:=by rw[<-hP];exact BG m5
 obtain⟨j3,S',C',τ1,F,f7,g,T,y8,hF,z7⟩:=Th (τ0:=τ) (s0:=il A s0) b.toList τ _ [] [] [] (by simp) rfl (by simp) (adD hA) h;have hK:=hK τ1 F y8;have o9:c ∉ eT M c ops.size:=λh=>(yD.1 h).2.1 rfl;have x5:DH ops.toList 0=true:=by
  unfold ij at hp;simp only[ahF]at hp;exact hp.1.2
 refine(SG (ids:=eT M c ops.size) (M:=M) (c:=c) (m:=(vn M c ops.size).length+1) (J:=Inv fl b A τ j3 S' C' N B m9) hg m5 s8 hM hp j6 o9 (by omega) ?_ ?_ ?_ j4 _ (Array.replicate b.size false) a _ (adE hA g y3 hR hT) ⟨by simp,by simp[V],?_⟩ ?_ ?_ ?_)
 ·intro i f Z r;cases l:Nat.testBit (M.getD i 0) c with
  |true=>rfl
  |false=>exact absurd (yD.2 ⟨f,r,l⟩) Z
 ·intro L' a w k hI O K2 y5;rw[hP]at O⊢;exact K7 g n7 A9 f7 z7 (yY hA.nd) hI O y5
 ·intro H L L' a w hI E x6 hd m7 B6;have q:L'.size=(eT M c ops.size).length:=E.s2;have f9:∀(k i:Nat),(eT M c ops.size)[k]?=some i->Nat.testBit (M.getD c 0) i=true->L'.getD k false=true:=λk i O l=>by rw[<-E.at' k i O];exact m7 i l
  have y4:L'.toList∈Pt (M.getD c 0) M1 (eT M c ops.size):=by
   refine aki.2 ⟨Qo _ _ (by simp[q]) λk i O l=>by rw[qV];exact f9 k i O l,?_⟩;unfold abc;rw[ah7];intro k O;rw[qV];cases y9:L'.getD k false with
   |false=>rfl
   |true=>
    rw[aiK,Bool.false_or,ah7];intro m s6;rw[qV];cases l:Nat.testBit (M1.getD k 0) m with
    |false=>rfl
    |true=>
     have R:k<b.size:=by rw[V,<-q];simpa using O
     have n8:=rK (ops:=b) (L:=L') hI.down b.toList [] [] (by simp) rfl (λj m oj h=>by simp at h);rw[n7]at n8;cases m6:M1[k]? with
     |none=>rw[ah2,m6]at l;simp at l
     |some mm=>
      rw[ah2,m6]at l;rw[n8 k mm (b[k]'R) m6 (ah5 R) (hI.down k _ (ah5 R) y9) m l];rfl
  have hD:=hK _ y4;obtain⟨G,k,x9,h0,hS,hC,n9,x8,A2,u0,w9⟩:=hI.st;have O:k=C'.length:=by
   have Y:k<S'.length:=ah hS;rw[g.slen]at Y;rcases ahW k C'.length with h2|h2
   ·exfalso;obtain⟨W,j5⟩:∃W,C'[k]?=some W:=⟨C'[k],ahG h2⟩;have p9:=hF W (aif j5);obtain⟨rc,B3,_⟩:=g.ch k W j5;have A0:W<(eT M c ops.size).length:=by rw[<-V,<-f7];exact ah B3
    have q6:(eT M c ops.size)[W]?=some (eT M c ops.size)[W]:=ahG A0;have:=(hC k W j5).1 (f9 W _ q6 (A4 W _ q6 p9));omega
   ·omega
  have B4:x9=F:=by
   rw[aiR,g.slen]at T;subst O;have u:S'[C'.length]?=some F:=T;rw[hS]at u;exact aiI u
  subst B4;rw[<-Lb]at n9;have o8:gF G N (Uz (ry b.toList L'.toList) τ1) a:=by
   refine⟨x8,A2,λt d j8=> ?_⟩;obtain⟨z,j8⟩:=ql (p:=λt=> !(BH t (ry b.toList L'.toList))) j8;have z:t ∉ ry b.toList L'.toList:=λs6=>by rw[JJ.2 s6]at z;cases z
   have j7:∀(j:Nat)(X:Rc),j3[j]?=some X->X.o.dst=some t->L'.getD j false=true:=by
    intro j X hj A3;cases l:L'.getD j false with
    |true=>rfl
    |false=>
     exfalso;have q8:=(g.rc j X hj).1;have q7:j<L'.size:=by rw[q,<-V];exact(aig.1 q8).1
     refine z (N6 (k:=j) (o:=X.o) (by rw[aio];exact q8) ?_ A3);simp[ahN,q7]at l;simp[q7,l]
   rcases g.fin t d j8 with⟨j,X,hj,U,p7,rfl⟩|⟨A7,A5⟩
   ·exact u0 j X t U (j7 j X U p7) p7
   ·exact w9 t d A5 λj X U _=>A7 j X (ah U) U
  rcases hD with⟨_,A8⟩|⟨hw,_⟩
  ·refine AM hg m8 (A8 B G w a n9 o8 _ _ ?_);rintro v w' G' d x9 q9 z6 A1 ⟨τ2,B1,p8⟩;have s:L'.toList.length=(eT M c ops.size).length:=by simp[q]
   have f8:∀i∈oZ M c ops.size L'.toList,i<ops.size:=by
    intro i f;rcases air.1 f with f|f
    ·exact m5 i ((vo _ _).subset f)
    ·exact(yZ.1 f).1
   have t7:(oZ M c ops.size L'.toList).Nodup:=by
    refine List.nodup_append.2 ⟨s8.sublist (vo _ _),t8,λx hx y hy e=> ?_⟩;subst e;have Y:=(yD.1 ((vo _ _).subset hx)).2.2;rw[(yZ.1 hy).2.2]at Y;cases Y
   have B2:(oZ M c ops.size L'.toList).length<=H:=by
    unfold oZ;rw[ahJ,Qn _ _ s];omega
   have r9:∀j,(Array.replicate (oZ M c ops.size L'.toList).length false).getD j false=false:=by
    intro j;rcases ahW j (oZ M c ops.size L'.toList).length with I|I
    ·simp[ahN,I]
    ·simp[ahN,I]
   have n6:∀k:Nat,L'.toList[k]?=some false->L'.getD k false=false:=by
    intro k j9;rw[<-qV,ah2,j9];rfl
   have z8:c<L.size:=by rw[E.s1];exact j6
   have x7:=BG (ops:=ops) f8;refine Wm (L':=Array.replicate (oZ M c ops.size L'.toList).length false) hg f8 t7 x5 H _ _ _ ⟨by simp[E.s1],by simp,λk i j9=> ?_⟩ (λi f Z=> ?_) ?_
   ·rw[r9 k];have f:=aif j9;have r:c≠i:=by
     intro e;subst e;rcases air.1 f with f|f
     ·exact o9 ((vo _ _).subset f)
     ·exact(yZ.1 f).2.1 rfl
    rw[ai7 false r];rcases air.1 f with f|f
    ·obtain⟨k2,Y,h2⟩:=(JI _ _ s).1 f;rw[E.at' k2 i Y];exact n6 k2 h2
    ·have h3:=yZ.1 f;exact x6 i h3.1 λhx=>by rw[(yD.1 hx).2.2]at h3;cases h3.2.2
   ·by_cases r:i=c
    ·exact(gk z8).2 (.inl r)
    ·rw[ai7 false (ajm r)];have u7:i ∉ pick (eT M c ops.size) L'.toList:=λh=>Z (ajr _ h);have w8:i ∉ vn M c ops.size:=λh=>Z (ajE _ h);have A6:i∈eT M c ops.size:=by
      refine yD.2 ⟨f,r,?_⟩;cases l:Nat.testBit (M.getD i 0) c with
      |false=>rfl
      |true=>exact absurd (yZ.2 ⟨f,r,l⟩) w8
     obtain⟨k2,k9⟩:=aiP A6;rw[E.at' k2 i k9];cases l:L'.getD k2 false with
     |true=>rfl
     |false=>
      exfalso;have R:k2<L'.size:=by rw[q];exact(ai4.1 k9).1
      refine u7 ((JI _ _ s).2 ⟨k2,k9,?_⟩);simp[ahN,R]at l;simp[R,l]
   ·have:=p8 B m9 _ _ _ H (h0.trans q9.b) z6 (Da (o8.mono q9) B1 A1) (by rw[x7];exact B2);rw[x7]at this;exact this
  ·exfalso;unfold dj at hw;rw[DM hg m8]at hw;cases hw
 ·intro k i O;have Y:∀n j,(Array.replicate n false).getD j false=false:=by
   intro n j;rcases ahW j n with I|I
   ·simp[ahN,I]
   ·simp[ahN,I]
  rw[Y,Y]
 ·intro i f _;simp[ahN,f]
 ·intro j oj B7 hL;exfalso;rcases ahW j ops.size with I|I
  ·simp[ahN,I]at hL
  ·simp[ahN,I]at hL
 ·have:=Qm (M:=M) j6;simp[V];omega
end
end Go.Fw
