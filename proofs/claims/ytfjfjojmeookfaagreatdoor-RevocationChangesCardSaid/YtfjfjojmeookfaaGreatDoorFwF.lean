/- A framework for proofs about Go programs in this model: part F. Everything is proved; no condition is added. -/
import Derived.Test.YtfjfjojmeookfaaGreatDoorFwE
set_option linter.unusedVariables false
set_option linter.unusedSimpArgs false
set_option linter.defProp false
namespace Go.Fw
noncomputable section
open Go.RowKit
structure lg(cx:Cx):Prop where
 tok:TOk cx.T cx.P
 mix:cx.P.follows .mixedOrders=true
 ctr:∀f c,(f,c)∈cx.C->cI cx.P f c
 ctrO:∀f c,(f,c)∈cx.CO->qi cx.P f c
 ctrX:∀f c,(f,c)∈cx.CX->yW cx.P f c
section
variable {α:Type}{cx:Cx}{N:Nat}{o:Oper}{S:ae}{σ:Sto}{τ:aw}{τ' :Env}{K:SV→ae→Option α}{r:α}{call:mL α}
variable{Z:Op}
def Qr(a:lg cx)(b:StR S σ)(c:ER S σ τ τ')(d:o.op=Z)(h:sR cx.T cx.H τ S Z (λv=>K v S)=some r):GOk cx.P N o S σ τ' K r:=by
 subst d;exact(YE b c h).g a.tok b
def af2(g:lg cx)(z:ui cx.P call)(i:StR S σ)(q:ER S σ τ τ'){own:Option OH}(j:o.op=Z)(h:adc cx own call τ S Z K=some r):GOk cx.P N o S σ τ' K r:=by
 cases Z<;>simp only[adc]at h
 case alloc e=>exact(Rz g.tok i j h).g
 case box t x=>
  obtain⟨v,u,h⟩:=aQ h;exact(WU g.tok i q j u h).g
 case store t p x=>
  obtain⟨vp,P,h⟩:=aQ h;obtain⟨vx,C,h⟩:=aQ h;exact(RB g.tok i q j P C h).g
 case makeSlice t l c=>
  obtain⟨R,n,hn,h⟩:=DO h;obtain⟨T,m,hm,h⟩:=DO h;exact(adB g.tok i q j hn hm h).g
 case buildSlice t len ps=>
  split at h
  ·exact UF g.tok i q j h
  ·exact Qr g i q j h
 case call c=>
  have D:∀{f:FuncId}{E:List SV},xM cx.T τ c=some (f,E)->(match lk cx.T.ext f with
   |some k=>K1 k E λv=>K v S
   |none=>Yu cx own f S E K (call f E S K))=some r->GOk cx.P N o S σ τ' K r:=by
   intro f E hc h;obtain⟨W,H,I⟩:=AN q hc;split at h
   ·rename_i k hk;obtain⟨v,d,R,T,k3⟩:=Nn (N:=N) g.tok j H hk I h;refine(k3 σ).mono ?_;rintro d' s ⟨rfl,rfl⟩;exact⟨v,S,R,T,i,.refl _ _⟩
   unfold Yu at h;split at h
   ·exact Nk g.tok j H i I cx.CO g.ctrO h
   refine Qq g.tok j H i I (λh=>Nl g.tok j H i I (λh=> ?_) cx.CX g.ctrX h) cx.C g.ctr h;obtain⟨hf,O⟩:=z f E S K r h;exact qh g.tok j H (λ_ G _ _ hR u=>⟨G,.refl G,hR,u⟩) hf (O σ W i I)
  split at h
  ·rename_i b M;have U:sBi cx.T S τ b c.args.toList c.argTypes.toList (λv=>K v S)=some r->GOk cx.P N o S σ τ' K r:=by
    intro h;refine Qr g i q j ?_;obtain⟨V,Q,F⟩:=c;simp only at M;subst M;exact h
   split at h
   ·split at h<;>try (cases h;done)
    rename_i x y t tx L J;obtain⟨v,u,h⟩:=aQ h;obtain⟨w,hw,h⟩:=aQ h;refine(WX g.tok i q (a:=x) (b:=y) ?_ u hw h).g;obtain⟨V,Q,F⟩:=c;simp only at M L J;subst M;have X:Q= #[x,y]:=aoE (by simpa using L);have Y:F= #[t,tx]:=aoE (by simpa using J);rw[j,X,Y]
   ·exact U h
  ·obtain⟨p,hp,h⟩:=ak h;exact D hp h
 case makeMap t l=>
  cases l with
  |none=>exact aaC g.tok i j h
  |some l=>exact Qr g i q j h
 case lookup t m k ok=>
  obtain⟨vm,B,h⟩:=aQ h;split at h
  ·rename_i l hl _;have:=Ru hl;subst this;obtain⟨vk,A,h⟩:=aQ h;exact aaD g.tok i q j B A h
  ·cases h
  ·exact Qr g i q j h
 case mapUpdate t m k x=>
  obtain⟨vm,B,h⟩:=aQ h;obtain⟨vk,A,h⟩:=aQ h;obtain⟨vx,C,h⟩:=aQ h;exact ac9 g.tok i q j B A C h
 case range t x=>
  obtain⟨v,u,h⟩:=aQ h;exact aaE g.tok i q j u h
 case next x b=>
  cases b with
  |true=>
   obtain⟨v,u,h⟩:=aQ h;exact adb g.tok i q j u h
  |false=>exact Qr g i q j h
 all_goals exact Qr g i q j h
end
def iU{α:Type}(N:Nat)(dst:Option Tmp)(v:SV)(τ:aw)(K:aw->Option α):Option α:=match dst with
 |none=>K τ
 |some t=>match Nat.blt t N with
  |true=>YF v λv=>K ((t,v)::τ)
  |false=>none
def Cy(cx:Cx)(fid:Nat)(dst:Option Tmp):Option OH:=match dst with
 |some t=>lk cx.ow (Nat.add (Nat.mul fid 65536) t)
 |none=>none
def aiw:Operand->List Nat
 |.tmp t=>[t]
 |_=>[]
def akd:Op->List Nat
 |.slice _ x _ _ _=>aiw x
 |.buildSlice _ _ a=>a.toList.flatMap λp=>aiw p.2
 |_=>[]
def No{α:Type}:List Nat->aw->ae->(aw->ae->Option α)->Option α
 |[],τ,S,K=>K τ S
 |t::a,τ,S,K=>match lf τ t with
  |some (.own l g)=>(ml S (.own l g)).bind λw=>No a ((t,w.1)::τ) w.2 K
  |some (.agg b)=>(ml S (.agg b)).bind λw=>No a ((t,w.1)::τ) w.2 K
  |_=>No a τ S K
def qj(P:Program)(N:Nat)(τ:Env)(σ:Sto)(d:Env)(c:Sto):Prop:=∀(B:bL P)(G:Gh)(w:World)(a:Act),Rel B G σ w->dD G N τ a->∃b,G.Le b/\Rel B b c w/\dD b N d a
def qj.refl{P:Program}(N:Nat)(τ:Env)(σ:Sto):qj P N τ σ τ σ:=λ_ G _ _ a b=>⟨G,.refl G,a,b⟩
def qj.trans{P:Program}{N:Nat}{τ c d:Env}{σ b σ2:Sto}(h:qj P N τ σ c b)(k:qj P N c b d σ2):qj P N τ σ d σ2:=λB G w a j l=>by
 obtain⟨e,m,g,p⟩:=h B G w a j l;obtain⟨f,n,i,q⟩:=k B e w a g p;exact⟨f,m.trans n,i,q⟩
def qj.slot{P:Program}{N:Nat}{τ:Env}{σ b:Sto}{t:Nat}{d g:D}(h:Gho P σ b d g)(n:get τ t=some d):qj P N τ σ ((t,g)::τ) b:=λB G w a m c=>by
 obtain⟨j,i,k,p⟩:=h B G w _ m (c.slot t d n);refine⟨j,i,k,c.size,c.defers,λq l f=> ?_⟩;simp only[get]at f;split at f
 ·rename_i e;subst e;cases f;exact p
 ·exact Rep.mono i _ _ (c.slot q l f)
def AOp.pre{P:Program}{N:Nat}{o:Oper}{τ c:Env}{σ b:Sto}{K:D->Sto->Prop}(j:qj P N τ σ c b)(h:AOp P N o c b K):AOp P N o τ σ K:=by
 intro B G w a g i next Q k
 obtain⟨e,l,f,m⟩:=j B G w a g i;exact h B e w a f m next Q λv w' G' d σ' h1 h2 h3 h4=>k v w' G' d σ' (l.trans h1) h2 h3 h4
def FD{α:Type}{P:Program}{N:Nat}{r:α}{K:aw->ae->Option α}:∀(l:List Nat){τ:aw}{τ':Env}{S:ae}{σ:Sto},StR S σ->ER S σ τ τ'->No l τ S K=some r->
 ∃c a e b,qj P N τ' σ a b/\StR e b/\ER e b c a/\aP S σ e b/\K c e=some r
 |[],τ,τ',S,σ,hS,hE,h=>⟨τ,τ',S,σ,.refl _ _ _,hS,hE,.refl _ _,h⟩
 |t::A,τ,τ',S,σ,hS,hE,h=>by
  simp only[No]at h;split at h
  ·rename_i l g p;obtain⟨w,s,h⟩:=ak h;obtain⟨d,n,q⟩:=hE t _ p;obtain⟨B,b,j,k,i,m⟩:=FK _ (v':=w.1) (S':=w.2) s hS q;obtain⟨c,a,e,f,u,v,x,y,z⟩:=FD A k ((hE.pres i).push j (t:=t)) h;exact⟨c,a,e,f,(qj.slot m n).trans u,v,x,i.trans y,z⟩
  ·rename_i C p;obtain⟨w,s,h⟩:=ak h;obtain⟨d,n,q⟩:=hE t _ p;obtain⟨B,b,j,k,i,m⟩:=FK _ (v':=w.1) (S':=w.2) s hS q;obtain⟨c,a,e,f,u,v,x,y,z⟩:=FD A k ((hE.pres i).push j (t:=t)) h;exact⟨c,a,e,f,(qj.slot m n).trans u,v,x,i.trans y,z⟩
  ·exact FD A hS hE h
def ade(h:Option OH)(a:Op)(τ:aw):Option (Nat×TC):=match h with
 |some (.val b)=>match a with
  |.call c=>match c.callee with
   |.builtin .append=>match c.args.toList with
    |x::_=>match x with
     |.tmp t=>match lf τ t with
      |some .nils=>some (t,b)
      |_=>none
     |_=>none
    |[]=>none
   |_=>none
  |_=>none
 |_=>none
variable{Z:Op}
def af3{h:Option OH}{τ:aw}{q:Nat×TC}(a:ade h Z τ=some q):lf τ q.1=some .nils:=by
 unfold ade at a
 repeat' (split at a<;>try (cases a;done))
 cases a;assumption
def Yv{α:Type}(h:Option OH)(a:Op)(τ:aw)(S:ae)(K:aw->ae->Option α):Option α:=match ade h a τ with
 |some q=>K ((q.1,.own S.length 0)::τ) (S++[.arr q.2 [] false 0])
 |none=>K τ S
def adf{α:Type}{P:Program}{N:Nat}{r:α}{K:aw->ae->Option α}{k:Option OH}{τ:aw}{τ':Env}{S:ae}{σ:Sto}(g:StR S σ)(f:ER S σ τ τ')(h:Yv k Z τ S K=some r):
 ∃c b e a,qj P N τ' σ b a/\StR e a/\ER e a c b/\aP S σ e a/\K c e=some r:=by
 unfold Yv at h;split at h
 ·rename_i q n;obtain⟨d,m,i⟩:=f _ _ (af3 n);simp only[VR]at i;subst i;obtain⟨s,j,t⟩:=Lh g q.2;exact⟨_,_,_,_,qj.slot (λB G w x l p=>⟨G,.refl G,l.newObj,Ft p⟩) m,s,(f.pres j).push t,j,h⟩
 ·exact⟨τ,τ',S,σ,.refl _ _ _,g,f,.refl _ _,h⟩
def K3{α:Type}(cx:Cx)(fid N:Nat)(call:mL α)(o:Oper)(τ:aw)(S:ae)(K:aw->ae->Option α):Option α:=
 No (akd o.op) τ S λa c=>Yv (Cy cx fid o.dst) o.op a c λa c=>adc cx (Cy cx fid o.dst) call a c o.op λv b=>ac8 (Cy cx fid o.dst) v b λv b=>iU N o.dst v τ λτ'=>K τ' b
def Yw{α:Type}(cx:Cx)(fid N:Nat)(call:mL α)(all:Array Oper)(o:Oper)(a:aw->ae->(aw->ae->Option α)->Option α)(τ:aw)(S:ae)(K:aw->ae->Option α):Option α:=match o.guard with
 |none=>K3 cx fid N call o τ S λτ' c=>a τ' c K
 |some (j,want)=>match (all[j]?).bind (·.dst) with
  |none=>none
  |some t=>match lf τ t with
   |some (.bool b)=>match want with
    |true=>cond b (K3 cx fid N call o ((t,.bool true)::τ) S λτ' c=>a τ' c K) (iU N o.dst (.tup []) ((t,.bool false)::τ) λτ'=>a τ' S K)
    |false=>cond b (iU N o.dst (.tup []) ((t,.bool true)::τ) λτ'=>a τ' S K) (K3 cx fid N call o ((t,.bool false)::τ) S λτ' c=>a τ' c K)
   |some (.tup _)=>iU N o.dst (.tup []) τ λτ'=>a τ' S K
   |_=>none
def Hg{α:Type}(cx:Cx)(fid N:Nat)(call:mL α)(all:Array Oper)(l:List Oper):aw->ae->(aw->ae->Option α)->Option α:=List.rec (λτ S K=>K τ S) (λo _ a=>Yw cx fid N call all o a) l
def aaF{α:Type}{cx:Cx}{fid N:Nat}{call:mL α}{all:Array Oper}{o:Oper}{r:List Oper}:Hg cx fid N call all (o::r)=Yw cx fid N call all o (Hg cx fid N call all r):=rfl
def mM{α:Type}(S0:ae)(b:Sto)(K:aw->ae->Option α)(r:α):Env->Sto->Prop:=λτ' a=>∃τ S,ER S a τ τ'/\StR S a/\aP S0 b S a/\K τ S=some r
def mM.trans{α:Type}{S0 c:ae}{a b:Sto}{K:aw->ae->Option α}{r:α}(h:aP S0 a c b){τ':Env}{σ':Sto}(x:mM c b K r τ' σ'):mM S0 a K r τ' σ':=by
 obtain⟨τ,S,d,e,f,g⟩:=x;exact⟨τ,S,d,e,h.trans f,g⟩
def ER.setB{S:ae}{σ:Sto}{τ:aw}{τ':Env}{t:Nat}{b:Bool}(d:ER S σ τ τ')(h:get τ' t=some (.bool b)):ER S σ ((t,.bool b)::τ) τ':=by
 intro c v a;rw[uh]at a;by_cases e:t=c
 ·rw[amE e]at a;subst e;cases a;exact⟨_,h,by simp only[VR]⟩
 ·rw[am4 e]at a;exact d c v a
section
variable {α:Type}{cx:Cx}{fid N:Nat}{call:mL α}{r:α}
def ll{S:ae}{σ:Sto}{τ:aw}{τ':Env}{dst:Option Tmp}{v:SV}{d:D}{K:aw->Option α}(e:ER S σ τ τ')(f:VR S σ v d)(h:iU N dst v τ K=some r):∃a b,eR N dst d τ'=some a/\ER S σ b a/\K b=some r:=by
 unfold iU at h;split at h
 ·exact⟨τ',τ,rfl,e,h⟩
 ·split at h<;>try (cases h;done)
  rename_i t _ c;rw[WS]at h;have c:t<N:=amx c;exact⟨(t,d)::τ',(t,v)::τ,by simp only[eR,amE c],e.push f,h⟩
def adg(j:lg cx)(b:ui cx.P call){o:Oper}{S:ae}{σ:Sto}{τ:aw}{τ':Env}{K:aw->ae->Option α}(C:StR S σ)(m:ER S σ τ τ')(h:K3 cx fid N call o τ S K=some r){l:Env->Sto->Prop}(E:∀a e,mM S σ K r a e->l a e):
 AOp cx.P N o τ' σ λd c=>∃a,eR N o.dst d τ'=some a/\l a c:=by
 unfold K3 at h;obtain⟨L,n,S0,I,s,t,u,w,h⟩:=FD (P:=cx.P) (N:=N) _ C m h;obtain⟨M,p,O,J,g,x,y,i,h⟩:=adf (P:=cx.P) (N:=N) t u h;have g:=s.trans g;have i:=w.trans i;have D:=AOp.pre g (af1 (af2 (N:=N) j b x y rfl h));refine D.mono ?_;rintro d c ⟨v,q,z,A,B,f⟩;have f:=i.trans f;obtain⟨a,k,F,G,H⟩:=ll (m.pres f) A z;exact⟨a,F,E _ _ ⟨k,q,G,B,f,H⟩⟩
def FE(m:lg cx)(a:ui cx.P call){all:Array Oper}{K:aw->ae->Option α}:∀(l:List Oper)(S:ae)(σ:Sto)(τ:aw)(τ':Env),StR S σ->ER S σ τ τ'->Hg cx fid N call all l τ S K=some r->fu cx.P N all l τ' σ (mM S σ K r)
 |[],S,σ,τ,τ',hS,c,h=>⟨τ,S,c,hS,.refl _ _,h⟩
 |o::l,S,σ,τ,τ',hS,c,h=>by
  have e:∀{τ:aw},ER S σ τ τ'->bA all τ' o=some true->(K3 cx fid N call o τ S λτ' w=>Hg cx fid N call all l τ' w K)=some r->fu cx.P N all (o::l) τ' σ (mM S σ K r):=by
   intro τ c i h;refine .inl ⟨i,adg m a hS c h ?_⟩;rintro g u ⟨p,y,z,A,C,B⟩;exact fu.monoK (λ_ _ x=>x.trans C) _ _ _ (FE m a l y u p g A z B)
  have skip:∀{τ:aw},ER S σ τ τ'->bA all τ' o=some false->(iU N o.dst (.tup []) τ λτ'=>Hg cx fid N call all l τ' S K)=some r->fu cx.P N all (o::l) τ' σ (mM S σ K r):=by
   intro τ c i h;obtain⟨g,p,D,E,F⟩:=ll (d:=.tuple []) c (by simp only[VR,VRs];exact⟨[],rfl,rfl⟩) h;exact .inr ⟨i,g,D,FE m a l S σ p g hS E F⟩
  simp only[aaF,Yw]at h;split at h
  ·rename_i q;exact e c (by unfold bA;rw[q]) h
  ·rename_i j k q;split at h<;>try (cases h;done)
   rename_i t v;split at h<;>try (cases h;done)
   ·rename_i b s;obtain⟨d,n,f⟩:=c t _ s;simp only[VR]at f;subst f;have i:bA all τ' o=some (b==k):=by unfold bA;rw[q];simp only[v,n]
    cases k
    ·rcases aY h with⟨rfl,h⟩|⟨rfl,h⟩
     ·exact skip (c.setB n) i h
     ·exact e (c.setB n) i h
    ·rcases aY h with⟨rfl,h⟩|⟨rfl,h⟩
     ·exact e (c.setB n) i h
     ·exact skip (c.setB n) i h
   ·rename_i H s;obtain⟨d,n,f⟩:=c t _ s;simp only[VR]at f;obtain⟨G,rfl,_⟩:=f;exact skip c (by unfold bA;rw[q];simp only[v,n]) h
end
end
end Go.Fw
namespace Go.Fw
noncomputable section
open Go.RowKit
def Hu(x:Nat)(l:List Nat):Bool:=l.any (Nat.beq x)
def adC{x:Nat}{l:List Nat}:Hu x l=true↔x∈l:=by
 unfold Hu;rw[List.any_eq_true];constructor
 ·rintro⟨y,a,h⟩;rw[bu h];exact a
 ·intro h;exact⟨x,h,apm x⟩
def AS{x:Nat}{l:List Nat}:Hu x l=false↔x ∉ l:=by
 rw[<-adC];simp
def Hv(a b:List Nat):Bool:=a.all λx=> !Hu x b
def UZ{a b:List Nat}(h:Hv a b=true):∀x∈a,x ∉ b:=by
 intro x c;have:=amM.1 h x c;simp only[anH]at this;exact AS.1 this
def Hw:Nat->Nat->Bool
 |m,0=>Nat.beq (Nat.mod m 2) 1
 |m,i+1=>Hw (Nat.div m 2) i
def Bb:∀(i m:Nat),Hw m i=Nat.testBit m i
 |0,m=>by
  rw[Nat.testBit_zero,Bool.eq_iff_iff,amX];exact⟨anL,λh=>by show Nat.beq (m % 2) 1=true;rw[h];rfl⟩
 |i+1,m=>by
  rw[Nat.testBit_succ,<-Bb i];rfl
def wa(A:Res)(m:Nat)(a:List Nat):Bool:=A.all λx=>Hw m x.1|| !Hu x.2.1 a
def yX{m:Nat}:∀{A:Res}{ls:List Nat},ls∈fI A m->∀l∈ls,∃x∈A,x.2.1=l/\Nat.testBit m x.1=false
 |[],ls,h,l,b=>by simp[fI]at h;subst h;simp at b
 |(j,a,i)::A,ls,h,l,b=>by
  simp only[fI]at h;split at h
  ·obtain⟨x,d,c⟩:=yX h l b;exact⟨x,amF _ d,c⟩
  ·rename_i f;rcases am6.1 h with h|h
   ·obtain⟨x,d,c⟩:=yX h l b;exact⟨x,amF _ d,c⟩
   ·obtain⟨g,c,rfl⟩:=anh.1 h;rcases amN.1 b with rfl|b
    ·exact⟨_,am0 ..,rfl,f⟩
    ·obtain⟨x,d,e⟩:=yX c l b;exact⟨x,amF _ d,e⟩
def Hx{A:Res}{m:Nat}{a ls:List Nat}(h:wa A m a=true)(d:ls∈fI A m):∀l∈a,l ∉ ls:=by
 intro l c e;obtain⟨x,f,rfl,b⟩:=yX d l e;have:=amM.1 h x f;simp only[Bb,b,Bool.false_or,anH]at this;exact AS.1 this c
def RG{m:Nat}{s:Sto}:∀{S:List Sto}{C:List Nat},s∈nK m S C->∃k:Nat,S[k]?=some s/\∀(b c:Nat),k<=b->C[b]?=some c->Nat.testBit m c=false
 |[],_,h=>by simp[nK]at h
 |a::S,C,h=>by
  have d:s∈nK m S C.tail->∃k:Nat,(a::S)[k]?=some s/\∀(b c:Nat),k<=b->C[b]?=some c->Nat.testBit m c=false:=by
   intro h;obtain⟨k,g,i⟩:=RG h;refine⟨k+1,by simpa using g,λb c f e=> ?_⟩
   match b,f with
   |b+1,f=>exact i b c omq (by rw[List.getElem?_tail];exact e)
  simp only[nK]at h;split at h
  ·rename_i j;rcases amN.1 h with rfl|h
   ·refine⟨0,rfl,λb c _ e=> ?_⟩;have:=amM.1 j c (List.mem_of_getElem? e);simpa using this
   ·exact d h
  ·exact d h
def gK.mk{α:Type}{f:α->Prop}:∀{l:List α},(∀x∈l,f x)->gK f l
 |[],_=>trivial
 |x::l,h=>⟨h x (am0 ..),gK.mk λy a=>h y (amF _ a)⟩
def Kf{ls:List Nat}{σ:Sto}{l:Nat}(h:l ∉ ls):(cw ls σ)[l]?=σ[l]? :=by
 rw[iP,am4 (λx=>h x.1)]
variable{Z:Upd}
def adD{ls c:List Nat}{σ:Sto}(d:Z.inFp c)(h:∀l∈c,l ∉ ls)(f:∀l∈ls,l<σ.length):Z.ap (cw ls σ)=cw ls (Z.ap σ):=by
 cases Z with
 |same=>rfl
 |set l g=>
  simp only[Upd.inFp]at d;simp only[Upd.ap];refine anQ λx=> ?_;rw[iP,aoC,pq,iP,anF,aoC];by_cases e:l=x
  ·subst e;have:¬(l∈ls/\l<σ.length):=λy=>h l d y.1;simp[this]
  ·simp[e]
 |push g=>
  simp only[Upd.ap];refine anQ λx=> ?_;rw[iP,amo,anN];rcases amB x σ.length with a|a
  ·rw[amu (by rw[pq];exact a),iP,amu a];by_cases b:x∈ls
   ·rw[amE ⟨b,a⟩,amE ⟨b,omq⟩]
   ·rw[am4 (λy=>b y.1),am4 (λy=>b y.1)]
  ·rw[amA (by rw[pq];exact a),pq,am4 (λy=>by have:=f x y.1;omega),amA a]
def U0{b:List Nat}{σ:Sto}(c:Z.inFp b){l:Nat}(h:l ∉ b)(f:l≠σ.length):(Z.ap σ)[l]?=σ[l]? :=by
 cases Z with
 |same=>rfl
 |set k d=>
  simp only[Upd.inFp]at c;simp only[Upd.ap];rw[aoC,am4 (λe=>h (by rw[<-e];exact c))]
 |push d=>
  simp only[Upd.ap];rcases amB l σ.length with a|a
  ·rw[amu a]
  ·rw[amC a,amC soq]
def agd{σ:Sto}(a:Upd):σ.length<=(a.ap σ).length:=by
 cases a<;>simp[Upd.ap]
def tj(ops:Array Oper)(o:Oper)(τ:aw):aw:=τ.filter λp=>(o.looksAt ops).contains p.1
def ye{p:Nat->Bool}:∀{τ:aw}{t:Nat}{v:SV},lf (τ.filter λq=>p q.1) t=some v->p t=true/\lf τ t=some v
 |[],_,_,h=>by simp[lf]at h
 |(i,x)::r,t,v,h=>by
  rw[apI]at h;split at h
  ·rename_i a;rw[uh]at h⊢;split at h
   ·rename_i e;subst e;rw[amE rfl];exact⟨a,h⟩
   ·rename_i e;rw[am4 e];exact ye h
  ·rename_i a;obtain⟨b,c⟩:=ye h;rw[uh,am4 (λe=>a (by rw[show i=t from e];exact b))];exact⟨b,c⟩
def Eo{p:Nat->Bool}:∀{τ:Env}{t:Nat}{d:D},p t=true->get τ t=some d->get (τ.filter λq=>p q.1) t=some d
 |[],_,_,_,h=>by simp[get]at h
 |(i,x)::r,t,d,a,h=>by
  rw[apI];simp only[get]at h;split at h
  ·rename_i e;split
   ·simp only[get,amE e];exact h
   ·rename_i c;exact absurd (by rw[show i=t from e];exact a) c
  ·rename_i e;have b:=Eo a h;split
   ·simp only[get,am4 e];exact b
   ·exact b
def ER.rst{S:ae}{σ:Sto}{τ:aw}{τ':Env}(h:ER S σ τ τ')(ops:Array Oper)(o:Oper):ER S σ (tj ops o τ) (rst ops o τ'):=by
 intro t v f;obtain⟨a,b⟩:=ye (p:=λt=>(o.looksAt ops).contains t) f;obtain⟨d,c,e⟩:=h t v b;exact⟨d,Eo (p:=λt=>(o.looksAt ops).contains t) a c,e⟩
end
end Go.Fw
def anl:=@List.mem_singleton
namespace Go.Fw
noncomputable section
open Go.RowKit
abbrev DCh:=List (Nat×List Nat)
structure DI(P:Program)(N:Nat)(A:Res)(M:List Nat)(i:Nat)(σ:Sto)(Ss:List Sto)(tab:List Rc)(done rest:Res)(Rd Ch:DCh):Prop where
 last:Ss.getLast?=some σ
 len:Ss.length=Ch.length+1
 old:∀(k:Nat) s,Ss[k]?=some s->∀l,(∀(m:Nat) c,Ch[m]?=some c->k<=m->l ∉ c.2)->s[l]?=σ[l]?
 ini:∀x∈A,(∀c∈Ch,x.2.1 ∉ c.2)->σ[x.2.1]?=some (.cells x.2.2 0 0)
 alt:∀x∈A,x.2.1<σ.length
 rd:∀(j:Nat) rc,tab[j]?=some rc->rc.kd=.read->(∀c∈Ch,Nat.testBit (M.getD c.1 0) j=false)->
  ∃fp,(j,fp)∈Rd/\(∀s:Sto,(∀l∈fp,s[l]?=σ[l]?)->AOp P N rc.o rc.env s λd' s'=>d'=rc.v/\s'=s)/\wa A (M.getD j 0) fp=true
 all:A=done++rest
 dn:∀x∈done,x.1<i/\∃r,tab[x.1]?=some r/\r.kd=.alloc x.2.1 x.2.2
 tl:tab.length=i
section
variable {P:Program}{N i:Nat}{A:Res}{M:List Nat}{σ:Sto}{Ss:List Sto}{tab:List Rc}{done rest:Res}{Rd Ch:DCh}{o:Oper}{env:Env}{d:D}
def Hy{rc:Rc}{x:Rc}{j:Nat}(h:(tab++[rc])[j]?=some x):tab[j]?=some x∨(j=tab.length/\x=rc):=by
 rcases kj h with h|h
 ·exact .inl h.2
 ·exact .inr h
def DI.dn'(h:DI P N A M i σ Ss tab done rest Rd Ch)(rc:Rc):∀x∈done,x.1<i+1/\∃r,(tab++[rc])[x.1]?=some r/\r.kd=.alloc x.2.1 x.2.2:=by
 intro x c;obtain⟨e,r,a,b⟩:=h.dn x c;exact⟨omq,r,fY a,b⟩
def DI.skip(h:DI P N A M i σ Ss tab done rest Rd Ch):DI P N A M (i+1) σ Ss (tab++[⟨o,env,d,.skip⟩]) done rest Rd Ch where
 last:=h.last
 len:=h.len
 old:=h.old
 ini:=h.ini
 alt:=h.alt
 rd:=λj e a b c=>by
  rcases Hy a with a|⟨_,rfl⟩
  ·exact h.rd j e a b c
  ·cases b
 all:=h.all
 dn:=h.dn' _
 tl:=by simp[h.tl]
def DI.alloc{l:Nat}{cs:List D}(h:DI P N A M i σ Ss tab done ((i,l,cs)::rest) Rd Ch):DI P N A M (i+1) σ Ss (tab++[⟨o,env,d,.alloc l cs⟩]) (done++[(i,l,cs)]) rest Rd Ch where
 last:=h.last
 len:=h.len
 old:=h.old
 ini:=h.ini
 alt:=h.alt
 rd:=λj f b c e=>by
  rcases Hy b with b|⟨_,rfl⟩
  ·exact h.rd j f b c e
  ·cases c
 all:=by rw[h.all];simp
 dn:=λx a=>by
  rcases am6.1 a with a|a
  ·exact h.dn' _ x a
  ·simp at a;subst a;exact⟨by simp,⟨o,env,d,.alloc l cs⟩,by rw[amA (by simp[h.tl])];simp[h.tl],rfl⟩
 tl:=by simp[h.tl]
def DI.res{l:Nat}{cs:List D}(h:DI P N A M i σ Ss tab done ((i,l,cs)::rest) Rd Ch):uw A i=some (l,cs):=by
 unfold uw;have:A.find? (λx=>x.1==i)=some (i,l,cs):=by
  rw[h.all,List.find?_append];have:done.find? (λx=>x.1==i)=none:=by
   rw[List.find?_eq_none];intro x a;have:=(h.dn x a).1;simp;omega
  rw[this];simp
 rw[this]
variable{Z:List Nat}{Y:Upd}
def DI.read(h:DI P N A M i σ Ss tab done rest Rd Ch)(c:∀s:Sto,(∀l∈Z,s[l]?=σ[l]?)->AOp P N o env s λf r=>f=d/\r=s)(n:wa A (M.getD i 0) Z=true):
 DI P N A M (i+1) σ Ss (tab++[⟨o,env,d,.read⟩]) done rest (Rd++[(i,Z)]) Ch where
 last:=h.last
 len:=h.len
 old:=h.old
 ini:=h.ini
 alt:=h.alt
 rd:=λj q a p m=>by
  rcases Hy a with a|⟨b,rfl⟩
  ·obtain⟨Z,g,k⟩:=h.rd j q a p m;exact⟨Z,aoe _ g,k⟩
  ·have e:=b.trans h.tl;subst e;exact⟨Z,by simp,c,n⟩
 all:=h.all
 dn:=h.dn' _
 tl:=by simp[h.tl]
def DI.reads(h:DI P N A M i σ Ss tab done rest Rd Ch)(g:∀s:Sto,(∀l∈Z,s[l]?=σ[l]?)->AOp P N o env s λb n=>b=d/\n=s)(v:wa A (M.getD i 0) Z=true)
 (u:(Ch.all λc=>Hw (M.getD i 0) c.1||Hv Z c.2)=true):
 gK (λs=>AOp P N o env s λb n=>b=d/\n=s) ((nK (M.getD i 0) Ss (Ch.map (·.1))).flatMap λσ=>(fI A (M.getD i 0)).map (cw · σ)):=by
 refine gK.mk λs j=> ?_;obtain⟨y,r,j⟩:=apk.1 j;obtain⟨z,f,rfl⟩:=anh.1 j;obtain⟨k,w,x⟩:=RG r;refine g _ λl q=> ?_;rw[Kf (Hx v f l q)];refine h.old k y w l λm c a e=> ?_;have p:=amM.1 u c (List.mem_of_getElem? a);have t:=x m c.1 e (by simp[a]);rw[Bb,t,Bool.false_or]at p;exact UZ p l q
def YN(m:Nat)(Ch:DCh):Bool:=match Ch.getLast? with
 |none=>true
 |some q=>Hw m q.1
def U1(m:Nat)(Ch:DCh):YN m Ch=F9 m (Ch.map (·.1)):=by
 unfold YN F9;rw[List.getLast?_map];cases Ch.getLast? with
 |none=>rfl
 |some q=>exact Bb q.1 m
def Li(A:Res)(m:Nat)(a:List Nat)(n:Nat)(Rd Ch:DCh):Bool:=
 YN m Ch&&(wa A m a&&((Rd.all λq=>Hw m q.1||Hv q.2 (a++[n]))&&A.all λx=>Hw m x.1||(!Hu x.2.1 a&&Ch.all λc=> !Hu x.2.1 c.2)))
def DI.agree(b:Y.inFp Z){l:Nat}(a:l ∉ Z++[σ.length]):(Y.ap σ)[l]?=σ[l]? :=by
 simp only[am6,anl,not_or]at a;exact U0 b a.1 a.2
def DI.chain(h:DI P N A M i σ Ss tab done rest Rd Ch)(r:Y.inFp Z)(a:Li A (M.getD i 0) Z σ.length Rd Ch=true)(k:Nat):
 DI P N A M (i+1) (Y.ap σ) (Ss++[Y.ap σ]) (tab++[⟨o,env,d,.chain k⟩]) done rest Rd (Ch++[(i,Z++[σ.length])]):=by
 unfold Li at a;rw[U1]at a;simp only[Bb,amk,amM,anO]at a;obtain⟨_,_,z,_⟩:=a;refine⟨by simp,by simp[h.len],?_,?_,?_,?_,h.all,h.dn' _,by simp[h.tl]⟩
 ·intro k s f l b;rcases kj f with⟨n,f⟩|⟨n,rfl⟩
  ·rw[DI.agree r]
   ·exact h.old k s f l λm c B u=>b m c (fY B) u
   ·exact b Ch.length (i,Z++[σ.length]) siq (by have:=h.len;omega)
  ·rfl
 ·intro x v b;rw[DI.agree r (b _ (aor _ (anl.2 rfl)))];exact h.ini x v λc a=>b c (aoe _ a)
 ·intro x v;exact am9 (h.alt x v) (agd Y)
 ·intro j D t f g;rcases Hy t with t|⟨_,rfl⟩
  ·obtain⟨p,n,w,y⟩:=h.rd j D t f λc a=>g c (aoe _ a);refine⟨p,n,λs C=>w s λl b=> ?_,y⟩;rw[C l b];refine DI.agree r ?_;have e:=z _ n;have q:=g (i,Z++[σ.length]) (aor _ (anl.2 rfl));simp only at e q;rcases e with e|e
   ·rw[e]at q;cases q
   ·exact UZ e l b
  ·cases f
def WY{C:List Nat}{σ:Sto}{q:Rc×Sto}:∀{tab:List Rc}{j0:Nat},q∈reS A M C σ j0 tab->∃(j:Nat)(ls:List Nat),tab[j]?=some q.1/\q.1.kd=.read/\(∀c∈C,Nat.testBit (M.getD c 0) (j0+j)=false)/\ls∈fI A (M.getD (j0+j) 0)/\q.2=cw ls σ
 |[],_,h=>by simp[reS]at h
 |r::e,j0,h=>by
  have rest:q∈reS A M C σ (j0+1) e->∃(j:Nat)(ls:List Nat),(r::e)[j]?=some q.1/\q.1.kd=.read/\(∀c∈C,Nat.testBit (M.getD c 0) (j0+j)=false)/\ls∈fI A (M.getD (j0+j) 0)/\q.2=cw ls σ:=by
   intro h;obtain⟨j,ls,b,f,g,k,l⟩:=WY h;exact⟨j+1,ls,by simpa using b,f,by rw[show j0+(j+1)=j0+1+j from omq];exact g,by rw[show j0+(j+1)=j0+1+j from omq];exact k,l⟩
  simp only[reS]at h;split at h
  ·rename_i n;split at h
   ·rename_i a;rcases am6.1 h with h|h
    ·obtain⟨ls,b,rfl⟩:=anh.1 h;exact⟨0,ls,rfl,n,λc m=>by simpa using List.all_eq_true.1 a c m,b,rfl⟩
    ·exact rest h
   ·exact rest h
  ·exact rest h
def DI.chains(h:DI P N A M i σ Ss tab done rest Rd Ch)(r:Y.inFp Z)(g:Li A (M.getD i 0) Z σ.length Rd Ch=true)
 (t:∀s:Sto,(∀l∈Z,s[l]?=σ[l]?)->s.length=σ.length->AOp P N o env s λf n=>f=d/\n=Upd.ap Y s):
 F9 (M.getD i 0) (Ch.map (·.1))=true/\gK (λe=>AOp P N o env (cw e σ) λf n=>f=d/\n=cw e (Y.ap σ)) (fI A (M.getD i 0))/\
  gK (λ(x:Rc×Sto)=>AOp P N x.1.o x.1.env x.2 λf n=>f=x.1.v/\n=x.2) (reS A M (Ch.map (·.1)++[i]) (Y.ap σ) 0 tab)/\
  gK (λ(x:Nat×Nat×List D)=>match Nat.testBit (M.getD i 0) x.1 with|true=>True|false=>(Y.ap σ)[x.2.1]?=some (.cells x.2.2 0 0)) A:=by
 have hc0:=g;unfold Li at g;rw[U1]at g;simp only[Bb,amk,amM,anO,anH]at g;obtain⟨z,u,L,B⟩:=g;have halt:∀e,e∈fI A (M.getD i 0)->∀l∈e,l<σ.length:=by
  intro e b l k;obtain⟨x,m,rfl,_⟩:=yX b l k;exact h.alt x m
 refine⟨z,gK.mk λe b=> ?_,gK.mk λq F=> ?_,gK.mk λx m=> ?_⟩
 ·rw[<-adD r (Hx u b) (halt e b)];exact t _ (λl k=>Kf (Hx u b l k)) (pq _ _)
 ·obtain⟨j,e,G,H,v,w,I⟩:=WY F;simp only[ane]at v w;have C:=h.chain (o:=o) (env:=env) (d:=d) r hc0 0;obtain⟨y,O,J,K⟩:=C.rd j q.1 (fY G) H (λc a=>v c.1 (by
   rcases am6.1 a with a|a
   ·exact aoe _ (anh.2 ⟨c,a,rfl⟩)
   ·simp at a;subst a;exact aor _ (anl.2 rfl)))
  rw[I];exact J _ λl k=>Kf (Hx K w l k)
 ·split
  ·trivial
  ·rename_i E;have p:=B x m;rw[E]at p;simp only[ang,false_or]at p;rw[U0 r (AS.1 p.1) (by have:=h.alt x m;omega)];exact h.ini x m λc a=>AS.1 (p.2 c a)
end
end
end Go.Fw
def apb:=@List.singleton_append
namespace Go.Fw
noncomputable section
open Go.RowKit
def isW(own:Option OH):Op->Bool
 |.alloc _=>true
 |.box _ _=>true
 |.store _ _ _=>true
 |.call c=>match c.callee with
  |.builtin .append=>true
  |.builtin _=>false
  |_=>match own with
   |some .res=>true
   |_=>false
 |_=>false
def FL{α:Type}(f:FuncId)(S:ae)(vs:List SV)(K:SV->ae->Option α):List (FuncId×mj)->Option α
 |[]=>none
 |(g,c)::r=>match Nat.beq g f with
  |false=>FL f S vs K r
  |true=>match (PV.gets S c.ap vs).bind (kQ _) with
   |some x=>(c.fn x).bind λy=>K (.own S.length 0) (S++[.arr c.t y false 0])
   |none=>FL f S vs K r
def O4:Op->Option Call
 |.call c=>match c.callee with
  |.builtin _=>none
  |_=>some c
 |_=>none
def fpW(τ:aw):Op->List Nat
 |.store _ p _=>fpO τ p
 |.call c=>match c.args.toList with
  |[x,y]=>fpO τ x++fpO τ y
  |_=>[]
 |_=>[]
section
variable {α:Type}
def sW(T:Tys)(H:Tr TC)(CO:List (FuncId×mj))(own:Option OH)(τ:aw)(S:ae)(a:Op)(K:SV->ae->Option α):Option α:=match a with
 |.alloc e=>O0 T S e K
 |.box _ x=>cD τ x λv=>YH S v K
 |.store t p x=>cD τ p λd=>cD τ x λf=>O2 T S t d f K
 |.call c=>match c.callee with
  |.builtin .append=>match c.args.toList,c.argTypes.toList with
   |[x,y],[t,b]=>cD τ x λv=>cD τ y λw=>YJ T H S t b v w K
   |_,_=>none
  |.builtin _=>none
  |_=>match own with
   |some .res=>(xM T τ c).bind λp=>FL p.1 S p.2 K CO
   |_=>none
 |_=>none
def Hz(f:FuncId)(S:ae)(vs:List SV)(K:SV->Option α):List (FuncId×Ctr)->Option α
 |[]=>none
 |(g,c)::r=>match Nat.beq g f with
  |false=>Hz f S vs K r
  |true=>match (PV.gets S c.ap vs).bind (kQ _) with
   |some x=>(c.fn x).bind λy=>(c.rp.put (λ_=>0) (eY _ y)).bind λw=>K w.1
   |none=>Hz f S vs K r
end
section
variable {α:Type}{P:Program}{T:Tys}{N:Nat}{o:Oper}{S:ae}{σ:Sto}{τ:aw}{τ' :Env}{r:α}
def U2{x:Operand}{v:SV}(h:sev τ x=some v):fpO τ x=fpV v:=by unfold fpO;rw[h]
variable{Z:Call}{Y X:DCh}
def Kg(tok:TOk T P){f:FuncId}{vs:List SV}{ds:List D}{B:List Nat}{K:SV->ae->Option α}(p:o.op=.call Z)(j:lO T τ' Z=some (f,ds))(d:StR S σ)(v:VRs S σ vs ds):
 ∀(C:List (FuncId×mj)),(∀g c,(g,c)∈C->qi P g c)->FL f S vs K C=some r->WOk P N o S σ τ' B K r
 |[],_,h=>by simp[FL]at h
 |(g,c)::C,a,h=>by
  simp only[FL]at h;split at h
  ·exact Kg tok p j d v C (λg c n=>a g c (amF _ n)) h
  ·rename_i m;have m:=bu m;subst m;split at h
   ·rename_i x w;obtain⟨l,H,w⟩:=ak w;obtain⟨y,I,E⟩:=ak h;obtain⟨G,k,a⟩:=a g c (am0 ..);have a:=a x y I;have b:=iD _ w;obtain⟨i,J,Q,O⟩:=PV.gets_ok (objs:=[]) _ _ l ds H k v;obtain⟨z,e,L⟩:=O λ_=>0;have e:=e [];rw[amG,<-b]at e;have F:=a z e i (L [] [] (FC _ _ _ _ _));refine⟨_,_,.sl σ.length (c.t.flat y).length 0 y.length c.t.sz false,.push (.cells (c.t.flat y) 0 (c.t.flat y).length),E,λs _ q=> ?_,?_,d.push ⟨0,_,rfl,λ_=>rfl⟩,aP.push d.len _ _,trivial⟩
    ·rw[<-q];exact qh tok p j (rE.weak J) G (F s)
    ·simp only[VR];exact .mk (t:=c.t) (xs:=y) (fz:=false) (fr:=0) (u:=(c.t.flat y).length) siq (by rw[d.len];simp[Upd.ap]) (by rw[d.len])
   ·exact Kg tok p j d v C (λg c n=>a g c (amF _ n)) h
def aeU(tok:TOk T P){H:Tr TC}{CO:List (FuncId×mj)}(s:∀g c,(g,c)∈CO->qi P g c){own:Option OH}(f:StR S σ)(l:ER S σ τ τ'){n:Op}(i:o.op=n){K:SV->ae->Option α}(h:sW T H CO own τ S n K=some r):WOk P N o S σ τ' (fpW τ n) K r:=by
 cases n<;>simp only[sW]at h<;>try (cases h;done)
 case alloc e=>exact Rz tok f i h
 case box t x=>
  obtain⟨v,m,h⟩:=aQ h;exact WU tok f l i m h
 case store t p x=>
  obtain⟨Q,k,h⟩:=aQ h;obtain⟨R,u,h⟩:=aQ h;have:=RB (N:=N) tok f l i k u h;simp only[fpW,U2 k];exact this
 case call c=>
  split at h<;>try (cases h;done)
  rotate_left
  ·split at h<;>try (cases h;done)
   obtain⟨p,I,h⟩:=ak h;obtain⟨O,F,G⟩:=AN l I;exact Kg tok i F f G CO s h
  rename_i z;split at h<;>try (cases h;done)
  rename_i x y t J d j;obtain⟨v,m,h⟩:=aQ h;obtain⟨w,B,h⟩:=aQ h;simp only[fpW,d,U2 m,U2 B];refine WX tok f l (a:=x) (b:=y) ?_ m B h;obtain⟨L,C,q⟩:=c;simp only at z d j;subst z;have D:C= #[x,y]:=aoE (by simpa using d);have E:q= #[t,J]:=aoE (by simpa using j);rw[i,D,E]
def HA(tok:TOk T P){f:FuncId}{vs:List SV}{ds:List D}{K:SV->Option α}(p:o.op=.call Z)(j:lO T τ' Z=some (f,ds))(q:VRs S σ vs ds):
 ∀(C:List (FuncId×Ctr)),(∀g c,(g,c)∈C->cI P g c)->Hz f S vs K C=some r->∃v d,K v=some r/\VR S σ v d/\∀s,AOp P N o τ' s λF W=>F=d/\W=s
 |[],_,h=>by simp[Hz]at h
 |(g,c)::C,a,h=>by
  simp only[Hz]at h;split at h
  ·exact HA tok p j q C (λg c n=>a g c (amF _ n)) h
  ·rename_i m;have m:=bu m;subst m;split at h
   ·rename_i x z;obtain⟨l,O,z⟩:=ak z;obtain⟨y,Q,G⟩:=ak h;obtain⟨w,E,H⟩:=ak G;obtain⟨L,k,J,a⟩:=a g c (am0 ..);obtain⟨v,t,u,a⟩:=a x y Q;have b:=iD _ z;obtain⟨i,R,X,V⟩:=PV.gets_ok (objs:=[]) _ _ l ds O k q;obtain⟨B,e,U⟩:=V λ_=>0;have e:=e [];rw[amG,<-b]at e;have I:=a B e i (U [] [] (FC _ _ _ _ _));rw[t]at E;cases E;exact⟨v,v.can,H,u _ _,λs=>qh tok p j (rE.weak R) L (I.acall s)⟩
   ·exact HA tok p j q C (λg c n=>a g c (amF _ n)) h
end
def se(T:Tys):List Oper->Nat->Nat->Option Res
 |[],_,_=>some []
 |o::r,i,l=>match o.guard with
  |some _=>se T r (i+1) l
  |none=>match o.op with
   |.alloc e=>(lk T.zero e).bind λz=>(se T r (i+1) (l+1)).bind λA=>some ((i,l,z)::A)
   |_=>se T r (i+1) l
def wb{T:Tys}:∀{ops:List Oper}{i l:Nat}{A:Res},se T ops i l=some A->A.map (·.2.1)=List.range' l A.length
 |[],_,_,A,h=>by cases h;rfl
 |o::r,i,l,A,h=>by
  simp only[se]at h;split at h
  ·exact wb h
  ·split at h
   ·obtain⟨z,_,h⟩:=ak h;obtain⟨b,a,h⟩:=ak h;cases h;simp only[amz,amr,wb a];rfl
   ·exact wb h
def Kh{T:Tys}{x:Nat×Nat×List D}:∀{ops:List Oper}{i l:Nat}{A:Res},se T ops i l=some A->x∈A->∃(k:Nat)(o:Oper)(e:TypeId),x.1=i+k/\ops[k]?=some o/\o.op=.alloc e/\lk T.zero e=some x.2.2
 |[],_,_,A,h,b=>by cases h;simp at b
 |o::r,i,l,A,h,b=>by
  have a:∀{l:Nat}{A:Res},se T r (i+1) l=some A->x∈A->∃(k:Nat)(o':Oper)(e:TypeId),x.1=i+k/\(o::r)[k]?=some o'/\o'.op=.alloc e/\lk T.zero e=some x.2.2:=by
   intro l A h b;obtain⟨k,o',e,c,d,f⟩:=Kh h b;exact⟨k+1,o',e,omq,by simpa using d,f⟩
  simp only[se]at h;split at h
  ·exact a h b
  ·split at h
   ·rename_i e g;obtain⟨z,j,h⟩:=ak h;obtain⟨m,c,h⟩:=ak h;cases h;rcases amN.1 b with rfl|b
    ·exact⟨0,o,e,rfl,rfl,g,j⟩
    ·exact a c b
   ·exact a h b
def SL(o:Oper)(i:Nat)(a:Res):Bool:=match o.guard,o.op,a with
 |none,.alloc _,(j,_,_)::_=>Nat.beq j i
 |_,_,_=>false
section
variable {α:Type}
def sdX(cx:Cx)(fid N:Nat)(A:Res)(m:Nat)(o:Oper)(i:Nat)(d τ:aw)(S:ae)(a:Res)(f e:DCh)(next:aw->ae->Res->DCh->DCh->Option α):Option α:=
 match SL o i a with
 |true=>match a with
  |(_,l,_)::rest'=>iU N o.dst (.raw (.ptr l 0 0)) τ λb=>next b S rest' f e
  |[]=>none
 |false=>match isW (Cy cx fid o.dst) o.op with
  |true=>match Li A m (fpW d o.op) S.length f e with
   |true=>sW cx.T cx.H cx.CO (Cy cx fid o.dst) d S o.op λv g=>iU N o.dst v τ λb=>next b g a f (e++[(i,fpW d o.op++[S.length])])
   |false=>none
  |false=>match O4 o.op with
   |some c=>(xM cx.T d c).bind λp=>match lk cx.T.ext p.1 with
    |some k=>K1 k p.2 λv=>iU N o.dst v τ λb=>next b S a (f++[(i,[])]) e
    |none=>Hz p.1 S p.2 (λv=>iU N o.dst v τ λb=>next b S a (f++[(i,[])]) e) cx.C
   |none=>match wa A m (En d o.op)&&e.all (λc=>Hw m c.1||Hv (En d o.op) c.2) with
    |true=>sR cx.T cx.H d S o.op λv=>iU N o.dst v τ λb=>next b S a (f++[(i,En d o.op)]) e
    |false=>none
def YO(cx:Cx)(fid N:Nat)(all:Array Oper)(A:Res)(M:List Nat)(o:Oper)(k:Nat->aw->ae->Res->DCh->DCh->(aw->ae->Option α)->Option α)(i:Nat)(τ:aw)(S:ae)(d:Res)(h g:DCh)(K:aw->ae->Option α):Option α:=match o.guard with
 |none=>sdX cx fid N A (M.getD i 0) o i (tj all o τ) τ S d h g λc l a f e=>k (i+1) c l a f e K
 |some (j,want)=>match (all[j]?).bind (·.dst) with
  |none=>none
  |some t=>match lf (tj all o τ) t with
   |some (.bool b)=>match want with
    |true=>cond b (sdX cx fid N A (M.getD i 0) o i (tj all o ((t,.bool true)::τ)) ((t,.bool true)::τ) S d h g λc l a f e=>k (i+1) c l a f e K)
     (iU N o.dst (.tup []) ((t,.bool false)::τ) λc=>k (i+1) c S d h g K)
    |false=>cond b (iU N o.dst (.tup []) ((t,.bool true)::τ) λc=>k (i+1) c S d h g K)
     (sdX cx fid N A (M.getD i 0) o i (tj all o ((t,.bool false)::τ)) ((t,.bool false)::τ) S d h g λc l a f e=>k (i+1) c l a f e K)
   |some (.tup _)=>iU N o.dst (.tup []) τ λc=>k (i+1) c S d h g K
   |_=>none
def sdr(cx:Cx)(fid N:Nat)(all:Array Oper)(A:Res)(M:List Nat)(l:List Oper):Nat->aw->ae->Res->DCh->DCh->(aw->ae->Option α)->Option α:=List.rec (λ_ τ S a _ _ K=>match a with
 |[]=>K τ S
 |_::_=>none) (λo _ b=>YO cx fid N all A M o b) l
variable{Z:Call}{Y X:DCh}
def WZ{cx:Cx}{fid N:Nat}{all:Array Oper}{A:Res}{M:List Nat}{i:Nat}{τ:aw}{S:ae}{a:Res}{K:aw->ae->Option α}:sdr cx fid N all A M [] i τ S a X Y K=match a with
 |[]=>K τ S
 |_::_=>none:=rfl
def U3{cx:Cx}{fid N:Nat}{all:Array Oper}{A:Res}{M:List Nat}{o:Oper}{r:List Oper}:sdr (α:=α) cx fid N all A M (o::r)=YO (α:=α) cx fid N all A M o (sdr cx fid N all A M r):=rfl
def SN(cx:Cx)(fid N:Nat)(ops:Array Oper)(τ:aw)(S:ae)(K:aw->ae->Option α):Option α:=
 Kc S 0 λn=>(se cx.T ops.toList 0 n).bind λA=>match eC ops (bq ops.toList []) with
  |true=>Hs (S++A.map λx=>iB.cells (kE x.2.2) false) λa=>sdr cx fid N ops A (bq ops.toList []) ops.toList 0 τ a A [] [] K
  |false=>none
end
section
variable {α:Type}{cx:Cx}{fid N:Nat}{all:Array Oper}{A:Res}{M:List Nat}{r:α}
variable{Z:Call}{Y X:DCh}
def aiA(f:lg cx){o:Oper}{l l' pre:List Oper}{i:Nat}{τ:aw}{τ':Env}{S:ae}{σ:Sto}{n done:Res}{Ss:List Sto}{j3:List Rc}{next:aw->ae->Res->DCh->DCh->Option α}{Kt:Env->Sto->Prop}
 (U:all.toList=pre++o::l')(V:pre.length=i)(hA:∀x∈A,∃(k:Nat)(o:Oper)(e:TypeId),x.1=k/\all.toList[k]?=some o/\o.op=.alloc e/\lk cx.T.zero e=some x.2.2)
 (u:DI cx.P N A M i σ Ss j3 done n X Y)(I:StR S σ)(R:ER S σ τ τ')(hw:bA all (rst all o τ') o=some true)
 (h:sdX cx fid N A (M.getD i 0) o i (tj all o τ) τ S n X Y next=some r)
 (J:∀b m S2 y q D L C O B,DI cx.P N A M (i+1) y O B D q L C->StR S2 y->ER S2 y m b->aP S σ S2 y->next m S2 q L C=some r->ADr cx.P N all A M l (i+1) b O (C.map (·.1)) B Kt):
 ADr cx.P N all A M (o::l) i τ' Ss (Y.map (·.1)) j3 Kt:=by
 have E:=R.rst all o;unfold sdX at h;split at h
 ·rename_i hr;split at h<;>try (cases h;done)
  rename_i j lo z j6;unfold SL at hr;split at hr<;>try (cases hr;done)
  rename_i e _ _ _ _ _ a F;cases F;have hj:=bu hr;subst hj;obtain⟨k,o',e',w,t,G,H⟩:=hA (j,lo,z) (by rw[u.all];simp);simp only at w H;subst w;have ho:o'=o:=by
   rw[U,<-V,amA (amt _)]at t;simp at t;exact t.symm
  subst ho;rw[a]at G;cases G;obtain⟨b,m,W,Z,K⟩:=ll (d:=.ptr lo 0 0) R (by simp only[VR]) h;exact aeA f.tok hw a u.res H W (J _ _ _ _ _ _ _ _ _ _ u.alloc I Z (.refl _ _) K)
 ·split at h
  ·split at h<;>try (cases h;done)
   rename_i g;obtain⟨v,S',d,up,w,t,G,H,h5,h6⟩:=aeU (N:=N) f.tok f.ctrO I E rfl h;obtain⟨b,m,W,Z,K⟩:=ll (R.pres h5) G w;rw[I.len]at g K;obtain⟨g1,g2,g3,g4⟩:=u.chains h6 g t;have j4:=u.chain (o:=o) (env:=rst all o τ') (d:=d) h6 g (Y.map (·.1)).length;have:=J _ _ _ _ _ _ _ _ _ _ j4 H Z h5 K;rw[anu]at this;exact .inr (.inr (.inl ⟨hw,g1,d,b,σ,up.ap σ,u.last,g2,g3,g4,W,this⟩))
  ·split at h
   ·rename_i c g;obtain⟨p,hp,h⟩:=ak h;obtain⟨ds,w,t⟩:=AN E hp;have ho:o.op=.call c:=by
     unfold O4 at g;split at g<;>try (cases g;done)
     rename_i a;split at g<;>cases g;exact a
    have j5:∃v d,(iU N o.dst v τ λb=>next b S n (X++[(i,[])]) Y)=some r/\VR S σ v d/\∀s,AOp cx.P N o (rst all o τ') s λQ s'=>Q=d/\s'=s:=by
     split at h
     ·rename_i k J;exact Nn (N:=N) f.tok ho w J t h
     ·exact HA (N:=N) f.tok ho w t cx.C f.ctr h
    obtain⟨v,d,W,Z,K⟩:=j5;obtain⟨b,m,m1,m2,m3⟩:=ll R Z W;have hh:wa A (M.getD i 0) []=true:=by unfold wa Hu;simp
    have a:∀s:Sto,(∀l∈([]:List Nat),s[l]?=σ[l]?)->AOp cx.P N o (rst all o τ') s λQ s'=>Q=d/\s'=s:=λs _=>K s;exact XI hw (u.reads a hh (by simp[Hv])) m1 (J _ _ _ _ _ _ _ _ _ _ (u.read a hh) I m2 (.refl _ _) m3)
   ·split at h<;>try (cases h;done)
    rename_i g;simp only[amk]at g;obtain⟨v,d0,d,w,t,G,H⟩:=YE I E h;obtain⟨b,m,m1,m2,m3⟩:=ll R t w;have a:∀s:Sto,(∀l∈En (tj all o τ) o.op,s[l]?=σ[l]?)->AOp cx.P N o (rst all o τ') s λQ s'=>Q=d/\s'=s:=λs hs=>(aT f.tok (H s hs)).weak G;exact XI hw (u.reads a g.1 g.2) m1 (J _ _ _ _ _ _ _ _ _ _ (u.read a g.1) I m2 (.refl _ _) m3)
def Ki(G:lg cx){suf:List Oper}{K:aw->ae->Option α}(U:∀x∈A,∃(k:Nat)(o:Oper)(e:TypeId),x.1=k/\all.toList[k]?=some o/\o.op=.alloc e/\lk cx.T.zero e=some x.2.2):∀(l pre:List Oper)(i:Nat)(τ:aw)(τ':Env)(S:ae)(σ:Sto)(a done:Res)(C s:DCh)(E:List Sto)(m:List Rc)(w:Env->Sto->Prop),
 all.toList=pre++(l++suf)->pre.length=i->DI cx.P N A M i σ E m done a C s->StR S σ->ER S σ τ τ'->sdr cx fid N all A M l i τ S a C s K=some r->(∀c v,mM S σ K r c v->w c v)->ADr cx.P N all A M l i τ' E (s.map (·.1)) m w
 |[],pre,i,τ,τ',S,σ,a,done,C,s,E,m,w,_,_,hD,hS,g,h,O=>by
  simp only[WZ,U3,YO]at h;split at h<;>try (cases h;done)
  refine ajM (gK.mk λx hx=> ?_) hD.last (O _ _ ⟨τ,S,g,hS,.refl _ _,h⟩);rw[hD.all,amG]at hx;exact(hD.dn x hx).2
 |o::l,pre,i,τ,τ',S,σ,a,done,C,s,E,m,w,hall,hpre,hD,hS,g,h,O=>by
  have n:∀{τ:aw},ER S σ τ τ'->bA all (rst all o τ') o=some true->(sdX cx fid N A (M.getD i 0) o i (tj all o τ) τ S a C s λc Q f D B=>sdr cx fid N all A M l (i+1) c Q f D B K)=some r->ADr cx.P N all A M (o::l) i τ' E (s.map (·.1)) m w:=by
   intro τ g y h;refine aiA (l':=l++suf) G hall hpre U hD hS g y h ?_;intro c H Q v f F D B R I V X W Z h2;exact Ki (suf:=suf) G U l (pre++[o]) (i+1) H c Q v f F D B R I w (by simp[hall]) (by simp[hpre]) V X W h2 λj4 j3 x=>O _ _ (x.trans Z)
  have skip:∀{τ:aw},ER S σ τ τ'->bA all (rst all o τ') o=some false->(iU N o.dst (.tup []) τ λc=>sdr cx fid N all A M l (i+1) c S a C s K)=some r->ADr cx.P N all A M (o::l) i τ' E (s.map (·.1)) m w:=by
   intro τ g y h;obtain⟨c,H,k1,k2,k3⟩:=ll (d:=.tuple []) g (by simp only[VR,VRs];exact⟨[],rfl,rfl⟩) h;exact ak4 y k1 (Ki (suf:=suf) G U l (pre++[o]) (i+1) H c S σ a done C s E _ w (by simp[hall]) (by simp[hpre]) hD.skip hS k2 k3 O)
  simp only[WZ,U3,YO]at h;split at h
  ·rename_i L;exact n g (by unfold bA;rw[L]) h
  ·rename_i j z L;split at h<;>try (cases h;done)
   rename_i t ht;split at h<;>try (cases h;done)
   ·rename_i b Y;obtain⟨d,J,q⟩:=g.rst all o t _ Y;simp only[VR]at q;subst q;have u:=(qt (p:=λt=>(o.looksAt all).contains t) J).2;have y:bA all (rst all o τ') o=some (b==z):=by unfold bA;rw[L];simp only[ht,J]
    cases z
    ·rcases aY h with⟨rfl,h⟩|⟨rfl,h⟩
     ·exact skip (g.setB u) y h
     ·exact n (g.setB u) y h
    ·rcases aY h with⟨rfl,h⟩|⟨rfl,h⟩
     ·exact n (g.setB u) y h
     ·exact skip (g.setB u) y h
   ·rename_i vs Y;obtain⟨d,J,q⟩:=g.rst all o t _ Y;simp only[VR]at q;obtain⟨ds,rfl,_⟩:=q;exact skip g (by unfold bA;rw[L];simp only[ht,J]) h
def StR.pushes:∀(B:Res){S:ae}{σ:Sto},StR S σ->StR (S++B.map λx=>iB.cells (kE x.2.2) false) (σ++B.map λx=>am.cells x.2.2 0 0)/\aP S σ (S++B.map λx=>iB.cells (kE x.2.2) false) (σ++B.map λx=>am.cells x.2.2 0 0)
 |[],S,σ,h=>by simp only[anG,amG];exact⟨h,.refl _ _⟩
 |x::B,S,σ,h=>by
  have c:StR (S++[iB.cells (kE x.2.2) false]) (σ++[am.cells x.2.2 0 0]):=h.push ⟨x.2.2,0,rfl,λ_=>rfl,jq _ _ x.2.2⟩;have d:=aP.push h.len (iB.cells (kE x.2.2) false) (am.cells x.2.2 0 0);obtain⟨a,b⟩:=StR.pushes B c;simp only[amL,apb]at a b;exact⟨a,d.trans b⟩
def U4(f:lg cx){i id:Nat}{ops:Array Oper}{τ:aw}{τ':Env}{S:ae}{σ:Sto}{K:aw->ae->Option α}(u:StR S σ)(C:ER S σ τ τ')(h:SN cx fid N ops τ S K=some r):
 AWp i cx.P N (.region id ops true) τ' σ λe m g=>e=.normal/\mM S σ K r m g:=by
 simp only[SN,Ba,qF,ane]at h;obtain⟨A,y,h⟩:=ak h;split at h<;>try (cases h;done)
 rename_i E;obtain⟨v,z⟩:=StR.pushes A u;have c:=wb y;have b:∀x∈A,∃n:Nat,n<A.length/\x.2.1=σ.length+n/\A[n]?=some x:=by
  intro x a;obtain⟨n,t⟩:=anx a;have d:(A.map (·.2.1))[n]?=some x.2.1:=by simp[t]
  rw[c,aoB (ai t)]at d;simp at d;exact⟨n,ai t,by rw[<-u.len];exact d.symm,t⟩
 refine Q3 (f.mix) A rfl E (by rw[c,u.len]) ?_;refine Ki (A:=A) (M:=bq ops.toList []) (done:=[]) (suf:=[]) f (λx a=> ?_) ops.toList [] 0 τ τ' _ _ A [] [] _ [] _ siq rfl ?_ v (C.pres z) h ?_
 ·obtain⟨k,o,e,d,p,q,B⟩:=Kh y a;exact⟨k,o,e,omq,p,q,B⟩
 ·refine⟨rfl,rfl,?_,?_,?_,?_,rfl,?_,rfl⟩
  ·intro k s w l _;cases k with
   |zero=>simp at w;subst w;rfl
   |succ k=>simp at w
  ·intro x a _;obtain⟨n,d,p,q⟩:=b x a;rw[p,amA omq];simp[q]
  ·intro x a;obtain⟨n,d,p,q⟩:=b x a;simp;omega
  ·intro j F D;simp at D
  ·intro x a;simp at a
 ·intro m g x;exact⟨rfl,x.trans z⟩
end
end
end Go.Fw
def aoW:=@List.mem_range
namespace Go.Fw
open Go.RowKit
section
variable {fl:Nat}{P:Program}{N:Nat}{ops:Array Oper}{A:Res}{M:List Nat}{τ0:Env}{s0:Sto}{tab:List Rc}{S:List Sto}{C:List Nat}{τ:Env}
variable{Z:Nat}{Y:Gh}
def VY(O:fJ P N ops A M τ0 s0 tab S C τ)(hM:bq ops.toList []=M)(hp:eC ops M=true)
 (m9:∀x∈A,∃r:Rc,tab[x.1]?=some r/\r.kd=.alloc x.2.1 x.2.2)(n5:∀x∈A,∀y∈A,x.2.1=y.2.1->x.1=y.1)
 {B:bL P}{L:Array Bool}{a:Act}{w:World}(Z:Inv fl ops A τ0 tab S C N B Y L a w){i:Nat}(p9:i<tab.length)(hi:i∈Region.ready .any ops L){Q:Exit->Act->World->Prop}
 {K:Act->World->Prop}(hK:∀a' w',Inv fl ops A τ0 tab S C N B Y (L.setIfInBounds i true) a' w'->K a' w'):wpOp P ops Q i K a w:=by
 obtain⟨H,o,ho,p⟩:=aob.1 hi;obtain⟨j3,k9⟩:=cF H;obtain⟨r,R⟩:∃r,tab[i]?=some r:=⟨_,aml p9⟩;obtain⟨n8,f⟩:=O.rc i r R;rw[ho]at n8;cases n8;have j7:=sI (ops:=ops) (L:=L) Z.down ops.toList [] [] siq rfl (λj m oj h=>by simp at h);rw[hM]at j7;have hn:pp L (M.getD i 0):=by
  intro j hj;cases hm:M[i]? with
  |none=>rw[amH,hm]at hj;simp at hj
  |some m=>
   rw[amH,hm]at hj;exact j7 i m _ hm ho p j hj
 obtain⟨G,k,σ,h0,hS,hC,hR,q9,q8,q,s⟩:=Z.st;have V:=Z.trel O hM hp q s R H hn;have j5:Win M C i k:=by
  intro k' c u;constructor
  ·intro T;have hL:=(hC k' c u).2 T;cases hb:Nat.testBit (M.getD c 0) i with
   |false=>rfl
   |true=>
    obtain⟨rc,D,_⟩:=O.ch k' c u;have n7:=(O.rc c rc D).1;cases hm:M[c]? with
    |none=>rw[amH,hm]at hb;simp at hb
    |some m=>
     rw[amH,hm]at hb;have:=j7 c m _ hm n7 (λe he p7=>Z.down c _ n7 hL e he p7) i hb;rw[k9]at this;cases this
  ·intro F;cases hb:Nat.testBit (M.getD i 0) c with
   |false=>rfl
   |true=>
    have:=(hC k' c u).1 (hn c hb);omega
 have W:∀{b:Bool},bA ops r.env r.o=some b->Region.wanted r.o (yielded ops a.tmps)=b:=λh=>xK V h;have n:(∀k,r.kd≠.chain k)->∀(t c:Nat),C[t]?=some c->((L.setIfInBounds i true).getD c false=true↔t<k):=by
  intro m5 t c u;have:c≠i:=by
   rintro rfl;obtain⟨rc,D,E⟩:=O.ch t c u;rw[R]at D;cases D;exact m5 _ E
  rw[anW false (an9 this)];exact hC t c u
 have g:(∀l cs,r.kd≠.alloc l cs)->∀x∈A,x.1≠i:=by
  rintro m5 x hx rfl;obtain⟨r',n9,E⟩:=m9 x hx;rw[R]at n9;cases n9;exact m5 _ _ E
 have j4:=F8 hn A;unfold PE at f;unfold wpOp;rw[ho];simp only;cases I:r.kd with
 |skip=>
  simp only[I]at f;rw[am4 (by rw[W f.1];simp)];refine hK _ _ (Z.next O hp R H p ⟨G,h0,.refl G,q,s⟩ hS (n (by rw[I];simp)) ?_ ?_)
  ·rw[jQ (oz (g (by rw[I];simp)))];exact hR
  ·rw[f.2];simp only[Rep,undef];exact⟨#[],rfl,by simp[af]⟩
 |read=>
  simp only[I]at f;rw[amE (W f.1)];refine .inl (f.2 k σ hS j5 _ j4 B G w a hR V _ _ ?_);rintro v w' G' d s' F J hd ⟨rfl,rfl⟩;refine hK _ _ (Z.next O hp R H p ⟨G,h0,F,q,s⟩ hS (n (by rw[I];simp)) ?_ hd);rw[jQ (oz (g (by rw[I];simp)))];exact J
 |chain k0=>
  simp only[I]at f;obtain⟨hw,j8,m7,r9,s6,o8,q7,m6⟩:=f;rw[amE (W hw)];have q6:k0=k:=by
   have h1:¬k0<k:=λh=>by
    have:=(hC k0 i j8).2 h;rw[k9]at this;cases this
   rcases amB k k0 with X|X
   ·exfalso;obtain⟨t,rfl⟩:∃t,k0=t+1:=⟨k0-1,omq⟩;have T:=ai j8;obtain⟨c,u⟩:∃c,C[t]?=some c:=⟨C[t],aml omq⟩;have:=(hC t c u).1 (hn c (m7 t c rfl u));omega
   ·omega
  subst q6;rw[hS]at o8;cases o8;refine .inl (m6 _ j4 B G w a hR V _ _ ?_);rintro v w' G' d s' F J hd ⟨rfl,rfl⟩;refine hK _ _ (Z.next O hp R H p ⟨G,h0,F,q,s⟩ q7 ?_ ?_ hd)
  ·intro t c u;rw[df j3,hC t c u];constructor
   ·rintro(rfl|h)
    ·obtain⟨rc,D,E⟩:=O.ch t c u;rw[R]at D;cases D;rw[I]at E;cases E;omega
    ·omega
   ·intro h;rcases amB t k0 with h'|h'
    ·exact .inr h'
    ·have:t=k0:=omq;subst this;rw[j8]at u;cases u;exact .inl rfl
  ·rw[jQ (oz (g (by rw[I];simp)))];exact J
 |alloc l cs=>
  simp only[I]at f;obtain⟨hw,o9,hv,e,m6,hz⟩:=f;rw[amE (W hw)];obtain⟨x,hx,rfl,m8⟩:∃x∈A,x.1=i/\x.2=(l,cs):=⟨_,o9,rfl,rfl⟩;have j6:σ[l]?=some (.cells cs 0 0):=by
   have:=O.res x hx k σ hS λk' c u T=>(j5 k' c u).1 T;rw[m8]at this;exact this
  have p8:l∈eg L A:=ij.2 ⟨x,hx,k9,by rw[m8]⟩;have j9:(cw (eg L A) σ)[l]?=some .dead:=by
   rw[iP,amE ⟨p8,ai j6⟩]
  refine .inl (I0 (N:=N) (τ:=r.env) m6 hz j9 B G w a hR V _ _ ?_);rintro v w' G' d s' F J hd ⟨rfl,rfl⟩;refine hK _ _ (Z.next O hp R H p ⟨G,h0,F,q,s⟩ hS (n (by rw[I];simp)) ?_ (by rw[hv];exact hd));rw[<-Tn (ls:=eg L A) (l:=l) ?_ j6]
  ·exact J
  ·intro y;simp only[ij];constructor
   ·rintro⟨z,h1,X,h3⟩;have U:z.1≠x.1:=by
     intro e';rw[e',(df j3).2 (.inl rfl)]at X;cases X
    rw[anW false (an9 U)]at X;refine⟨⟨z,h1,X,h3⟩,?_⟩;rintro rfl;exact U (n5 z h1 x hx (by rw[h3,m8]))
   ·rintro⟨⟨z,h1,X,h3⟩,U⟩;refine⟨z,h1,?_,h3⟩;have:z.1≠x.1:=by
     intro e';obtain⟨rz,o7,n6⟩:=m9 z h1;rw[e',R]at o7;cases o7;rw[I]at n6;cases n6;exact U h3.symm
    rw[anW false (an9 this)];exact X
def Tq{suf:List Oper}{K:Env->Sto->Prop}:∀(r:List Oper)(τ:Env)(S:List Sto)(C:List Nat)(tab:List Rc)(pre:List Oper),ops.toList=pre++r++suf->tab.length=pre.length->
 fJ P N ops A M τ0 s0 tab S C τ->ADr P N ops A M r tab.length τ S C tab K->
 ∃(a:List Rc)(S':List Sto)(g:List Nat)(τ':Env)(σ':Sto),a.length+suf.length=ops.size/\fJ P N ops A M τ0 s0 a S' g τ'/\S'.getLast?=some σ'/\K τ' σ'/\(∀x∈A,∃r:Rc,a[x.1]?=some r/\r.kd=.alloc x.2.1 x.2.2)
 |[],τ,S,C,tab,pre,hops,hlen,hT,h=>by
  obtain⟨s,σ,B,D⟩:=h;have:ops.size=pre.length+suf.length:=by have:=amV List.length hops;simpa using this
  exact⟨tab,S,C,τ,σ,omq,hT,B,D,s.mem⟩
 |o::r,τ,S,C,tab,pre,hops,hlen,hT,h=>by
  have ho:ops[tab.length]?=some o:=by rw[<-am5,hops,hlen,amL];simp
  have next:∀(p:Rc)(τ2:Env)(S':List Sto)(g:List Nat),p.o=o->fJ P N ops A M τ0 s0 (tab++[p]) S' g τ2->ADr P N ops A M r (tab.length+1) τ2 S' g (tab++[p]) K->
   ∃(a:List Rc)(S':List Sto)(g:List Nat)(τ':Env)(σ':Sto),a.length+suf.length=ops.size/\fJ P N ops A M τ0 s0 a S' g τ'/\S'.getLast?=some σ'/\K τ' σ'/\(∀x∈A,∃r:Rc,a[x.1]?=some r/\r.kd=.alloc x.2.1 x.2.2):=by
   intro p τ2 S' g H q z;exact Tq r τ2 S' g (tab++[p]) (pre++[o]) (by simp[hops]) (by simp[hlen]) q (by simpa using z)
  rcases h with⟨m,τ2,j,h⟩|⟨m,d,τ2,b,j,h⟩|⟨m,i,d,τ2,σ,σ',f,b,w,n,j,h⟩|⟨m,e,l,y,τ2,v,E,F,j,h⟩
  ·exact next ⟨o,rst ops o τ,.tuple [],.skip⟩ τ2 S C rfl (hT.push ho ⟨m,rfl⟩ j rfl) h
  ·refine next ⟨o,rst ops o τ,d,.read⟩ τ2 S C rfl (hT.push ho ⟨m,λk σ hk hwin ls hls=> ?_⟩ j rfl) h
   refine b.mem _ (apk.2 ⟨σ,C1 hk λG c hc u=>(hwin G c hc).2 u,anh.2 ⟨ls,hls,rfl⟩⟩)
  ·refine next ⟨o,rst ops o τ,d,.chain C.length⟩ τ2 (S++[σ']) (C++[tab.length]) rfl (hT.pushC ho rfl ⟨m,by simp,λk1 c hk1 hc=> ?_,σ,σ',?_,?_,λls hls=>b.mem ls hls⟩ w.mem n.mem j rfl) h
   ·have t:C.getLast?=some c:=by
     rw[amu omq]at hc;rw[anA,hk1];exact hc
    unfold F9 at i;rw[t]at i;exact i
   ·have:S[C.length]?=some σ:=by
     rw[anA,hT.slen]at f;exact f
    exact fY this
   ·rw[<-hT.slen];simp
  ·refine next ⟨o,rst ops o τ,.ptr l 0 0,.alloc l y⟩ τ2 S C rfl (hT.push ho ⟨m,IY E,rfl,e,v,F⟩ j rfl) h
def N0(n m:Nat):Bool:=(List.range n).all λj=>Nat.testBit m j
def ab9{n m:Nat}(h:N0 n m=true):∀j,j<n->Nat.testBit m j=true:=λj a=>amM.1 h j (aoW.2 a)
def N1{Q:Exit->Act->World->Prop}{L:Array Bool}{a:Act}{w:World}(c:Region.ready .any ops L=[])(h:Q .normal a w):wpAny P .any ops Q Z L a w:=by
 cases Z with
 |zero=>exact⟨c,h⟩
 |succ n=>exact⟨λ_=>h,λi b=>by rw[c]at b;cases b⟩
def ZO(O:fJ P N ops A M τ0 s0 tab S C τ)(hM:bq ops.toList []=M)(hp:eC ops M=true){o:Oper}(o8:tab.length+1=ops.size)(Z:ops[tab.length]?=some o)(F:N0 tab.length (M.getD tab.length 0)=true)
 (R:∀x∈A,∃r:Rc,tab[x.1]?=some r/\r.kd=.alloc x.2.1 x.2.2)(V:∀x∈A,∀y∈A,x.2.1=y.2.1->x.1=y.1)
 {B:bL P}{Q:AEx->Env->Sto->Prop}{σ:Sto}(q:S.getLast?=some σ)(hQ:fu P N ops [o] τ σ λs f=>Q .normal s f):
 ∀(e:Nat)(L:Array Bool)(a:Act)(w:World),L.toList.count false<=e->L.getD tab.length true=false->Inv fl ops A τ0 tab S C N B Y L a w->wpAny P .any ops (jP fl B Y N Q) e L a w:=by
 have j6:∀(L:Array Bool)(a:Act)(w:World),Inv fl ops A τ0 tab S C N B Y L a w->(∀i,i<tab.length->L.getD i false=true)->∃G,Y.LeB fl G/\Rel B G σ w/\dD G N τ a:=by
  intro L a w E I;obtain⟨G,k,f,h0,hS,hC,K,n7,j9,j3,j4⟩:=E.st;have hk:k=C.length:=by
   have h1:k<S.length:=ai hS;rw[O.slen]at h1;rcases amB k C.length with h2|h2
   ·exfalso;obtain⟨c,U⟩:∃c,C[k]?=some c:=⟨C[k],aml h2⟩;obtain⟨rc,n6,_⟩:=O.ch k c U;have b:=ai n6;have:=(hC k c U).1 (I c b);omega
   ·omega
  have o7:f=σ:=by
   rw[anA,O.slen]at q;subst hk;have g:S[C.length]?=some σ:=q;rw[hS]at g;exact anm g
  subst o7;have hh:cw (eg L A) f=f:=by
   rw[jQ (ls':=[]) ?_]
   ·rfl
   ·intro x;simp only[ij,apl,iff_false];rintro⟨y,hy,D,_⟩;obtain⟨r,n5,_⟩:=R y hy;have b:=ai n5;rw[I y.1 b]at D;cases D
  rw[hh]at K;refine⟨G,h0,K,⟨n7,j9,λt d hg=> ?_⟩⟩;rcases O.fin t d hg with⟨j,rj,p,z,k9,rfl⟩|⟨m7,m5⟩
  ·exact j3 j rj t z (I j p) k9
  ·exact j4 t d m5 λj rj z _=>m7 j rj (ai z) z
 intro e;induction e with
 |zero=>
  intro L a w U u E;obtain⟨b,D⟩:=cF u;have:=sJ (Nat.le_zero.1 U) tab.length (by simpa using b);simp[ams,b]at D;simp[b,D]at this
 |succ e ih=>
  intro L a w U u E;refine⟨λhr=> ?_,λi hi=> ?_⟩
  ·obtain⟨j,p⟩:=Ay hp E.size tab.length tab.length (amt _) u;rw[hr]at p;cases p
  obtain⟨n8,oi,ho,T⟩:=aob.1 hi;obtain⟨b,D⟩:=cF n8;rcases amB i tab.length with W|W
  ·refine VY O hM hp R V E W hi λa' w' j7=>ih _ a' w' ?_ ?_ j7
   ·have h1:L.toList[i]?=some false:=by
     simp[ams,b]at D;simp[b,D]
    have:=oU h1;rw[aoj];omega
   ·rw[anW true omq];exact u
  ·have m6:i=tab.length:=by
    have:=(amW.1 ho).1;omega
   subst m6;rw[ho]at Z;cases Z;have J:=sI (ops:=ops) (L:=L) E.down ops.toList [] [] siq rfl (λj m oj h=>by simp at h);rw[hM]at J;have hn:pp L (M.getD tab.length 0):=by
    intro j p;cases hm:M[tab.length]? with
    |none=>rw[amH,hm]at p;simp at p
    |some m=>
     rw[amH,hm]at p;exact J _ m _ hm ho T j p
   have I:∀j,j<tab.length->L.getD j false=true:=λj p=>hn j (ab9 F j p);obtain⟨G,h0,K,l⟩:=j6 L a w E I;have n:Region.ready .any ops (L.setIfInBounds tab.length true)=[]:=by
    rw[anC];intro x hx;obtain⟨n9,ox,m9,_⟩:=aob.1 hx;obtain⟨o9,j5⟩:=cF n9;have p7:=(amW.1 m9).1;have:(L.setIfInBounds tab.length true).getD x false=true:=(df b).2 (by
     rcases amB x tab.length with h|h
     ·exact .inr (I x h)
     ·exact .inl omq)
    rw[this]at j5;cases j5
   unfold wpOp;rw[ho];simp only;rcases hQ with⟨hw,m8⟩|⟨hw,s,H,hr⟩
   ·rw[amE (xK l hw)];refine .inl (m8 B G w a K l _ _ ?_);rintro v w' G' d f X j8 hd ⟨s,H,hr⟩;exact N1 n ⟨G',s,f,h0.trans X.b,j8,Fv (l.mono X) H hd,hr⟩
   ·rw[am4 (by rw[xK l hw];simp)];exact N1 n ⟨G,s,σ,h0,K,Fv l H (by simp only[Rep,undef];exact⟨#[],rfl,by simp[af]⟩),hr⟩
end
variable{Z:Nat}{Y:Gh}
def XP{fl:Nat}{P:Program}{N:Nat}{τ:Env}{σ:Sto}{ops:Array Oper}{Q:AEx->Env->Sto->Prop}(hm:P.follows .mixedOrders=true)(A:Res){M:List Nat}{pre:List Oper}{o:Oper}(l:ops.toList=pre++[o])(E:N0 pre.length (M.getD pre.length 0)=true)
 (hM:bq ops.toList []=M)(hp:eC ops M=true)(hA:A.map (·.2.1)=List.range' σ.length A.length)
 (h:ADr P N ops A M pre 0 τ [σ++A.map λx=>am.cells x.2.2 0 0] [] [] (λT R=>fu P N ops [o] T R λj4 j3=>Q .normal j4 j3)):AWp fl P N (.region Z ops true) τ σ Q:=by
 intro B G w a hR U;have b:∀x∈A,(σ++A.map λx=>am.cells x.2.2 0 0)[x.2.1]?=some (.cells x.2.2 0 0)/\∃n,A[n]?=some x/\x.2.1=σ.length+n:=by
  intro x q;obtain⟨n,u⟩:=anx q;have v:(A.map (·.2.1))[n]?=some x.2.1:=by simp[u]
  rw[hA]at v;have g:=ai u;rw[aoB g]at v;simp at v;refine⟨?_,n,u,v.symm⟩;rw[<-v,amA omq];simp[u]
 have K:∀x∈A,∀y∈A,x.2.1=y.2.1->x.1=y.1:=by
  intro x q y hy e;obtain⟨_,n,u,v⟩:=b x q;obtain⟨_,m,L,h2⟩:=b y hy;have:n=m:=omq;subst this;rw[u]at L;cases L;rfl
 obtain⟨O,S',C',T,R,D,z,F,hK,V⟩:=Tq (suf:=[o]) (τ0:=τ) (s0:=σ++A.map λx=>am.cells x.2.2 0 0) pre τ _ [] [] [] (by simp[l]) rfl ⟨λi r h=>by simp at h,rfl,rfl,λk c h=>by simp at h,
  λx q k s X _=>by
   have:s=σ++A.map λx=>am.cells x.2.2 0 0:=by
    cases k with
    |zero=>simp at X;exact X.symm
    |succ k=>simp at X
   subst this;exact(b x q).1,λi r h=>by simp at h,λt d W=>.inr ⟨λj rj hj _=>absurd hj (aps _),W⟩,λi r t h=>by simp at h⟩ h
 have Y:ops.size=pre.length+1:=by have:=amV List.length l;simpa using this
 have H:O.length=pre.length:=by simp at D;omega
 refine wp_region_any hm (ZO z hM hp (by simpa using D) (o:=o) (by rw[H,<-Array.getElem?_toList,l];simp) (by rw[H];exact E) V K F hK ops.size _ a _ siq (by simp[ams,H,Y]) ⟨by simp,λj oj j5 I=> ?_,?_⟩)
 ·exfalso;rcases amB j ops.size with f|f
  ·simp[ams,f]at I
  ·simp[ams,f]at I
 ·have p:∀j,(Array.replicate ops.size false).getD j false=false:=by
   intro j;rcases amB j ops.size with f|f
   ·simp[ams,f]
   ·simp[ams,f]
  refine⟨G,0,_,.refl G,z.hd,λk' c hc=> ?_,?_,U.size,U.defers,λi r t _ I _=> ?_,λt d W _=>U.slot t d W⟩
  ·rw[p c];simp
  ·have:cw (eg (Array.replicate ops.size false) A) (σ++A.map λx=>am.cells x.2.2 0 0)=σ++List.replicate A.length .dead:=by
    refine EA λx=> ?_;rw[iP];have J:x∈eg (Array.replicate ops.size false) A↔(σ.length<=x/\x<σ.length+A.length):=by
     rw[ij];constructor
     ·rintro⟨y,hy,_,rfl⟩;obtain⟨_,n,u,v⟩:=b y hy;have:=ai u;omega
     ·rintro⟨v,h2⟩;have g:x-σ.length<A.length:=omq;refine⟨A[x-σ.length],am8 _,p _,?_⟩;obtain⟨_,n,u,h3⟩:=b _ (am8 g);have h4:(A.map (·.2.1))[x-σ.length]?=some (A[x-σ.length]).2.1:=by simp[g]
      rw[hA,aoB g]at h4;simp at h4;omega
    by_cases q:σ.length<=x/\x<σ.length+A.length
    ·rw[amE ⟨J.2 q,by simp;exact q.2⟩,amA q.1,apz,amE omq]
    ·rw[am4 (λh=>q (J.1 h.1))];rcases amB x σ.length with f|f
     ·rw[amu f,amu f]
     ·rw[amC soq,amC soq]
   rw[this];exact(hR.dead _).drawn
  ·rw[p i]at I;cases I
end Go.Fw
namespace Go.Fw
noncomputable section
open Go.RowKit
def SO(ops:Array Oper):Option (List Oper×Oper):=match ops.toList.reverse with
 |[]=>none
 |o::r=>match o.op with
  |.call c=>match c.callee with
   |.builtin _=>none
   |_=>match N0 r.reverse.length ((bq ops.toList []).getD r.reverse.length 0) with
    |true=>some (r.reverse,o)
    |false=>none
  |_=>none
def adE{ops:Array Oper}{pre:List Oper}{o:Oper}(h:SO ops=some (pre,o)):ops.toList=pre++[o]/\N0 pre.length ((bq ops.toList []).getD pre.length 0)=true:=by
 unfold SO at h;split at h<;>try (cases h;done)
 rename_i c r b;split at h<;>try (cases h;done)
 split at h<;>try (cases h;done)
 split at h<;>try (cases h;done)
 rename_i a;cases h;refine⟨?_,a⟩;have:=amV List.reverse b;simpa using this
def U5{α:Type}(cx:Cx)(fid N:Nat)(a:mL α)(ops:Array Oper)(pre:List Oper)(o:Oper)(τ:aw)(S:ae)(K:aw->ae->Option α):Option α:=
 Kc S 0 λn=>(se cx.T ops.toList 0 n).bind λA=>match eC ops (bq ops.toList []) with
  |true=>Hs (S++A.map λx=>iB.cells (kE x.2.2) false) λb=>sdr cx fid N ops A (bq ops.toList []) pre 0 τ b A [] [] λc b=>Hg cx fid N a ops [o] c b K
  |false=>none
section
variable {α:Type}{cx:Cx}{fid N:Nat}{r:α}
def aaQ(p:lg cx){b:mL α}(m:ui cx.P b){i id:Nat}{ops:Array Oper}{τ:aw}{τ':Env}{S:ae}{σ:Sto}{K:aw->ae->Option α}(z:StR S σ)(H:ER S σ τ τ'){pre:List Oper}{o:Oper}(J:SO ops=some (pre,o))(h:U5 cx fid N b ops pre o τ S K=some r):
 AWp i cx.P N (.region id ops true) τ' σ λe w v=>e=.normal/\mM S σ K r w v:=by
 simp only[U5,Ba,qF,ane]at h;obtain⟨f,q⟩:=adE J;obtain⟨A,E,h⟩:=ak h;split at h<;>try (cases h;done)
 rename_i L;obtain⟨B,F⟩:=StR.pushes A z;have g:=wb E;have d:∀x∈A,∃n:Nat,n<A.length/\x.2.1=σ.length+n/\A[n]?=some x:=by
  intro x a;obtain⟨n,y⟩:=anx a;have c:(A.map (·.2.1))[n]?=some x.2.1:=by simp[y]
  rw[g,aoB (ai y)]at c;simp at c;exact⟨n,ai y,by rw[<-z.len];exact c.symm,y⟩
 refine XP (pre:=pre) (o:=o) (p.mix) A f q rfl L (by rw[g,z.len]) ?_;refine Ki (A:=A) (M:=bq ops.toList []) (done:=[]) (suf:=[o]) p (λx a=> ?_) pre [] 0 τ τ' _ _ A [] [] _ [] _ (by simp[f]) rfl ?_ B (H.pres F) h ?_
 ·obtain⟨k,o,e,c,t,u,G⟩:=Kh E a;exact⟨k,o,e,omq,t,u,G⟩
 ·refine⟨rfl,rfl,?_,?_,?_,?_,rfl,?_,rfl⟩
  ·intro k s C l _;cases k with
   |zero=>simp at C;subst C;rfl
   |succ k=>simp at C
  ·intro x a _;obtain⟨n,c,t,u⟩:=d x a;rw[t,amA omq];simp[u]
  ·intro x a;obtain⟨n,c,t,u⟩:=d x a;simp;omega
  ·intro j T I;simp at I
  ·intro x a;simp at a
 ·rintro w v ⟨Q,R,c,t,D,u⟩;refine fu.monoK ?_ _ _ _ (FE p m _ _ _ _ _ t c u);intro P O x;exact⟨rfl,x.trans (F.trans D)⟩
end
end
end Go.Fw
def amS:=@List.mem_of_getElem?
namespace Go.Fw
open Go.RowKit
def Bk:List Nat->Nat->Nat->Option Nat
 |[],_,_=>none
 |j::r,i,k=>match Nat.beq j i with
  |true=>some k
  |false=>Bk r i (k+1)
def C4{a b:Nat}(h:Nat.beq a b=true):a=b:=anL h
def I1:∀{ids:List Nat}{i k m:Nat},Bk ids i k=some m->∃j,m=k+j/\ids[j]?=some i
 |[],_,_,_,h=>by simp[Bk]at h
 |x::r,i,k,m,h=>by
  simp only[Bk]at h;split at h
  ·rename_i e;cases h;exact⟨0,rfl,by simp[C4 e]⟩
  ·obtain⟨j,b,a⟩:=I1 h;exact⟨j+1,omq,by simpa using a⟩
def Q4:∀{ids:List Nat}{i k:Nat},Bk ids i k=none->i ∉ ids
 |[],_,_,_=>by simp
 |x::r,i,k,h=>by
  simp only[Bk]at h;split at h
  ·cases h
  ·rename_i e;have:=Q4 h;simp only[amN,not_or];exact⟨λa=>(by subst a;rw[Nat.beq_refl]at e;cases e),this⟩
def Bl(ids:List Nat):List Edge->List Edge
 |[]=>[]
 |e::a=>match Region.binds .any e with
  |true=>match Bk ids e.on 0 with
   |some k=>{e with on:=k}::Bl ids a
   |none=>Bl ids a
  |false=>Bl ids a
def Ts{ids:List Nat}{b:Edge}:∀{es:List Edge},b∈Bl ids es->∃e∈es,Region.binds .any e=true/\Bk ids e.on 0=some b.on
 |[],h=>by simp[Bl]at h
 |e::es,h=>by
  have a:b∈Bl ids es->∃x∈e::es,Region.binds .any x=true/\Bk ids x.on 0=some b.on:=λh=>by
   obtain⟨x,c,d⟩:=Ts h;exact⟨x,amF _ c,d⟩
  simp only[Bl]at h;split at h
  ·rename_i f;split at h
   ·rename_i k g;rcases amN.1 h with rfl|h
    ·exact⟨e,am0 ..,f,g⟩
    ·exact a h
   ·exact a h
  ·exact a h
def Tt{ids:List Nat}{e:Edge}{k:Nat}(b:Region.binds .any e=true)(c:Bk ids e.on 0=some k):∀{es:List Edge},e∈es->({e with on:=k}:Edge)∈Bl ids es
 |[],h=>by simp at h
 |x::es,h=>by
  simp only[Bl];rcases amN.1 h with rfl|h
  ·rw[b];simp only[c];exact am0 ..
  ·have a:=Tt b c h;split
   ·split
    ·exact amF _ a
    ·exact a
   ·exact a
def Ge(ids:List Nat)(o:Oper):Oper:={o with after:=(Bl ids o.after.toList).toArray}
def MB(ops:Array Oper)(all:List Nat):List Nat->List Oper
 |[]=>[]
 |i::r=>match ops[i]? with
  |some o=>Ge all o::MB ops all r
  |none=>MB ops all r
def em(ops:Array Oper)(ids:List Nat):Array Oper:=(MB ops ids ids).toArray
def MC{ops:Array Oper}{all:List Nat}:∀{ids:List Nat},(∀i∈ids,i<ops.size)->(MB ops all ids).length=ids.length/\∀k:Nat,(MB ops all ids)[k]?=(ids[k]?).bind λi=>(ops[i]?).map (Ge all)
 |[],_=>by simp[MB]
 |i::r,h=>by
  obtain⟨b,c⟩:=MC (ops:=ops) (all:=all) (ids:=r) (λi a=>h i (amF _ a));have a:ops[i]?=some (ops[i]'(h i (am0 ..))):=amK _;simp only[MB,a];refine⟨by simp[b],λk=> ?_⟩;cases k with
  |zero=>simp[a]
  |succ k=>simpa using c k
section
variable {P:Program}{ops:Array Oper}{ids:List Nat}
def D1(a:∀i∈ids,i<ops.size):(em ops ids).size=ids.length:=by
 unfold em;simpa using (MC (ops:=ops) (all:=ids) a).1
def ux(a:∀i∈ids,i<ops.size){k i:Nat}(h:ids[k]?=some i):∃o,ops[i]?=some o/\(em ops ids)[k]?=some (Ge ids o):=by
 have b:ops[i]?=some (ops[i]'(a i (amS h))):=amK _;refine⟨_,b,?_⟩;unfold em;rw[List.getElem?_toArray,(MC (ops:=ops) (all:=ids) a).2 k,h];simp[b]
def XQ(a:∀i∈ids,i<ops.size){k:Nat}{o':Oper}(h:(em ops ids)[k]?=some o'):∃i o,ids[k]?=some i/\ops[i]?=some o/\o'=Ge ids o:=by
 have c:k<ids.length:=by rw[<-D1 a];exact(amW.1 h).1
 obtain⟨o,d,b⟩:=ux a (aml c);rw[h]at b;cases b;exact⟨_,o,aml c,d,rfl⟩
def qu(ops:Array Oper):Bool:=ops.toList.all λo=>o.guard.isNone
def Gf(h:qu ops=true){i:Nat}{o:Oper}(a:ops[i]?=some o):o.guard=none:=by
 have:=amM.1 h o (amS (by rw[am5];exact a));simpa using this
def Tu{Q:Exit->Act->World->Prop}{K:Act->World->Prop}{a:Act}{w:World}(g:qu ops=true){k i:Nat}{o:Oper}(b:ops[i]?=some o)(f:(em ops ids)[k]?=some (Ge ids o))(h:wpOp P (em ops ids) Q k K a w):wpOp P ops Q i K a w:=by
 have c:=Gf g b;unfold wpOp at h⊢;rw[f]at h;rw[b];simp only at h⊢;have d:∀y,Region.wanted o y=true:=λy=>by unfold Region.wanted;rw[c]
 have e:∀y,Region.wanted (Ge ids o) y=true:=λy=>by unfold Region.wanted Ge;simp only[c]
 rw[amE (e _)]at h;rw[amE (d _)];exact h
def C5{Q:Exit->Act->World->Prop}{K:Act->World->Prop}{a:Act}{w:World}(d:qu ops=true){i:Nat}{o:Oper}(b:ops[i]?=some o)(h:o.wp P a w K Q):wpOp P ops Q i K a w:=by
 have e:=Gf d b;unfold wpOp;rw[b];simp only;have c:∀y,Region.wanted o y=true:=λy=>by unfold Region.wanted;rw[e]
 rw[amE (c _)];exact .inl h
structure Sb(ids:List Nat)(n:Nat)(L L':Array Bool):Prop where
 s1:L.size=n
 s2:L'.size=ids.length
 at':∀(k i:Nat),ids[k]?=some i->L.getD i false=L'.getD k false
def KK{L:Array Bool}{i:Nat}(h:i<L.size):L.getD i true=L.getD i false:=by
 simp[ams,h]
def Wp{L:Array Bool}{i:Nat}(h:L.getD i true=false):L.getD i false=false:=(cF h).2
def Sb.tr{n:Nat}{L L':Array Bool}(h:Sb ids n L L')(b:∀i∈ids,i<n){k i:Nat}(a:ids[k]?=some i):L.getD i true=L'.getD k true:=by
 rw[KK (by rw[h.s1];exact b i (amS a)),KK (by rw[h.s2];exact(ant.1 a).1)];exact h.at' k i a
def Sb.set{n:Nat}{L L':Array Bool}(h:Sb ids n L L')(p:ids.Nodup)(g:∀i∈ids,i<n){k i:Nat}(b:ids[k]?=some i):Sb ids n (L.setIfInBounds i true) (L'.setIfInBounds k true):=by
 refine⟨by simp[h.s1],by simp[h.s2],λm j a=> ?_⟩;have d:i<L.size:=by rw[h.s1];exact g i (amS b)
 have f:k<L'.size:=by rw[h.s2];exact(ant.1 b).1
 by_cases e:m=k
 ·subst e;rw[b]at a;cases a;rw[(df d).2 (.inl rfl),(df f).2 (.inl rfl)]
 ·have c:j≠i:=λc=>by
   subst c;obtain⟨q,l⟩:=ant.1 a;obtain⟨r,o⟩:=ant.1 b;exact e ((List.getElem_inj p).1 (l.trans o.symm))
  rw[anW false (an9 c),anW false (an9 e)];exact h.at' m j a
def aca{L L':Array Bool}(h:Sb ids ops.size L L')(a:∀i∈ids,i<ops.size)(v:ids.Nodup){k i:Nat}(n:ids[k]?=some i)(u:k∈Region.ready .any (em ops ids) L')
 (t:∀o,ops[i]?=some o->∀e∈o.after,Region.binds .any e=true->e.on ∉ ids->L.getD e.on false=true):i∈Region.ready .any ops L:=by
 obtain⟨q,w,r,s⟩:=aob.1 u;obtain⟨o,f,g⟩:=ux a n;rw[r]at g;cases g;refine aob.2 ⟨by rw[h.tr a n];exact q,o,f,λe l b=> ?_⟩;cases c:Bk ids e.on 0 with
 |none=>exact t o f e l b (Q4 c)
 |some m=>
  obtain⟨j,d,p⟩:=I1 c;rw[ane]at d;subst d;rw[h.at' m e.on p];have:=Tt b c (es:=o.after.toList) (by simpa using l);exact s {e with on:=m} (by unfold Ge;simpa using this) (by simpa[Region.binds] using b)
def MD{L L':Array Bool}(h:Sb ids ops.size L L')(b:∀i∈ids,i<ops.size){k i:Nat}(g:ids[k]?=some i)(u:i∈Region.ready .any ops L):k∈Region.ready .any (em ops ids) L':=by
 obtain⟨q,o,r,s⟩:=aob.1 u;obtain⟨v,f,t⟩:=ux b g;rw[r]at f;cases f;refine aob.2 ⟨by rw[<-h.tr b g];exact q,_,t,λc a _=> ?_⟩;have a:c∈Bl ids o.after.toList:=by unfold Ge at a;simpa using a
 obtain⟨e,m,n,p⟩:=Ts a;obtain⟨j,d,l⟩:=I1 p;rw[ane]at d;subst d;rw[<-h.at' c.on e.on l];exact s e (by simpa using m) n
def ZP{Q:Exit->Act->World->Prop}(G:qu ops=true)(c:∀i∈ids,i<ops.size)(C:ids.Nodup)(q:Ga ops.toList 0=true):∀(b:Nat)(L L':Array Bool)(a:Act)(w:World),Sb ids ops.size L L'->
 (∀i,i<ops.size->i ∉ ids->L.getD i false=true)->wpAny P .any (em ops ids) Q b L' a w->wpAny P .any ops Q b L a w:=by
 have s:∀{L:Array Bool},(∀i,i<ops.size->i ∉ ids->L.getD i false=true)->∀{i:Nat} o,ops[i]?=some o->∀e∈o.after,Region.binds .any e=true->e.on ∉ ids->L.getD e.on false=true:=by
  intro L d i o v e F E B;have t:=Gb q (i:=i) (o:=o) (by rw[am5];exact v) e F E;have m:=(amW.1 v).1;exact d _ omq B
 have z:∀{L L':Array Bool},Sb ids ops.size L L'->(∀i,i<ops.size->i ∉ ids->L.getD i false=true)->Region.ready .any ops L=[]->Region.ready .any (em ops ids) L'=[]:=by
  intro L L' h d y;rw[anC]at y⊢;intro k f;obtain⟨_,K,m,_⟩:=aob.1 f;obtain⟨i,o,D,J,_⟩:=XQ c m;exact y i (aca h c C D f λo v=>s d o v)
 have g:∀{L:Array Bool},(∀i,i<ops.size->i ∉ ids->L.getD i false=true)->∀{i:Nat},i∈Region.ready .any ops L->∃k:Nat,ids[k]?=some i:=by
  intro L d i l;obtain⟨t,o,m,_⟩:=aob.1 l;have n:=(amW.1 m).1;by_cases u:i∈ids
  ·exact anx u
  ·have:=d i n u;rw[Wp t]at this;cases this
 intro b;induction b with
 |zero=>
  intro L L' a w h d r;refine⟨?_,r.2⟩;rw[anC];intro i l;obtain⟨k,f⟩:=g d l;have:=MD h c f l;rw[r.1]at this;cases this
 |succ b I=>
  intro L L' a w h d r;refine⟨λy=>r.1 (z h d y),λi l=> ?_⟩;obtain⟨k,f⟩:=g d l;have A:=MD h c f l;obtain⟨o,t,m⟩:=ux c f;refine wpOp_mono (λa w x=>I _ _ a w (h.set C c f) (λj H p=> ?_) x) (Tu G t m (r.2 k A));have u:=amS f;rw[anW false (λe=>p (by rw[<-e];exact u))];exact d j H p
def uv.step{L:Array Bool}(h:uv ops L)(q:L.size=ops.size){i:Nat}(n:i∈Region.ready .any ops L):uv ops (L.setIfInBounds i true):=by
 obtain⟨k,o,l,m⟩:=aob.1 n;have b:=(cF k).1;intro j p a d e g f;have c:L.getD e.on false=true:=by
  rcases (df b).1 d with rfl|d
  ·rw[l]at a;cases a;exact m e g f
  ·exact h j p a d e g f
 exact(df b).2 (.inr c)
def VZ{Q:Exit->Act->World->Prop}{M:List Nat}{c:Nat}{J:Array Bool->Act->World->Prop}(Y:qu ops=true)(r:∀i∈ids,i<ops.size)(hn:ids.Nodup)(X:bq ops.toList []=M)(hp:eC ops M=true)(I:c<ops.size)(y:c ∉ ids){m:Nat}(Z:1<=m)
 (t:∀i,i<ops.size->i ∉ ids->i≠c->Nat.testBit (M.getD i 0) c=true)
 (u:∀(L':Array Bool)(a:Act)(w:World)(k:Nat),J L' a w->k∈Region.ready .any (em ops ids) L'->∀K:Act->World->Prop,(∀D E,J (L'.setIfInBounds k true) D E->K D E)->wpOp P (em ops ids) Q k K a w)
 (f:∀(b:Nat)(L L':Array Bool)(a:Act)(w:World),J L' a w->Sb ids ops.size L L'->(∀i,i<ops.size->i ∉ ids->L.getD i false=false)->uv ops L->pp L (M.getD c 0)->L'.toList.count false+m<=b+1->wpOp P ops Q c (wpAny P .any ops Q b (L.setIfInBounds c true)) a w):
 ∀(b:Nat)(L L':Array Bool)(a:Act)(w:World),J L' a w->Sb ids ops.size L L'->(∀i,i<ops.size->i ∉ ids->L.getD i false=false)->uv ops L->L'.toList.count false+m<=b->wpAny P .any ops Q b L a w:=by
 have v:∀{L L':Array Bool},Sb ids ops.size L L'->(∀i,i<ops.size->i ∉ ids->L.getD i false=false)->∃j,j∈Region.ready .any ops L:=by
  intro L L' h n;exact Ay hp h.s1 c c (amt _) (by rw[KK (by rw[h.s1];exact I)];exact n c I y)
 have d:∀{L:Array Bool},uv ops L->∀{i:Nat},i∈Region.ready .any ops L->pp L (M.getD i 0):=by
  intro L p i q;obtain⟨R,o,F,S⟩:=aob.1 q;have x:=sI (ops:=ops) (L:=L) p ops.toList [] [] siq rfl (λj m oj h=>by simp at h);rw[X]at x;intro j g;cases s:M[i]? with
  |none=>rw[amH,s]at g;simp at g
  |some m=>
   rw[amH,s]at g;exact x i m o s F S j g
 intro b;induction b with
 |zero=>
  intro L L' a w G h n p l;exfalso;omega
 |succ b ih=>
  intro L L' a w G h n p l;refine⟨λhr=> ?_,λi q=> ?_⟩
  ·obtain⟨j,g⟩:=v h n;rw[hr]at g;cases g
  obtain⟨R,o,F,S⟩:=aob.1 q;have N:=(amW.1 F).1;by_cases z:i=c
  ·subst z;exact f b L L' a w G h n p (d p q) l
  by_cases s:i∈ids
  ·obtain⟨k,A⟩:=anx s;have O:=MD h r A q;obtain⟨o',U,V⟩:=ux r A;refine Tu Y U V (u L' a w k G O _ λD E H=>ih _ _ D E H (h.set hn r A) (λj g C=> ?_) (p.step h.s1 q) ?_)
   ·rw[anW false (λe=>C (by rw[<-e];exact s))];exact n j g C
   ·have T:L'.getD k false=false:=by rw[<-h.at' k i A];exact Wp R
    have W:L'.toList[k]?=some false:=by
     have B:k<L'.size:=by rw[h.s2];exact(ant.1 A).1
     simp[ams,B]at T;simp[B,T]
    have:=oU W;rw[aoj];omega
  ·have:=d p q c (t i N s z);rw[n c I y]at this;cases this
end
end Go.Fw
def am3:=@Bool.not_true
def apt:=@List.nodup_cons
def apJ:=@List.any_eq_true
namespace Go.Fw
open Go.RowKit
def ADg(P:Program)(N:Nat)(ops:Array Oper)(A:Res)(M:List Nat)(fr:Nat->Bool):List Oper->Nat->Env->List Sto->List Nat->List Rc->(Env->Sto->Prop)->Prop
 |[],_,τ,S,_,tab,K=>gK (λ(x:Nat×Nat×List D)=>∃r,tab[x.1]?=some r/\r.kd=.alloc x.2.1 x.2.2) A/\∃σ,S.getLast?=some σ/\K τ σ
 |o::r,i,τ,S,C,tab,K=>
  (bA ops (rst ops o τ) o=some false/\∃τ2,eR N o.dst (.tuple []) τ=some τ2/\ADg P N ops A M fr r (i+1) τ2 S C (tab++[⟨o,rst ops o τ,.tuple [],.skip⟩]) K)∨
  (bA ops (rst ops o τ) o=some true/\∃d τ2,
    gK (λs=>AOp P N o (rst ops o τ) s λb c=>b=d/\c=s) ((nK (M.getD i 0) S C).flatMap λσ=>(fI A (M.getD i 0)).map (cw · σ))/\
    eR N o.dst d τ=some τ2/\ADg P N ops A M fr r (i+1) τ2 S C (tab++[⟨o,rst ops o τ,d,.read⟩]) K)∨
  (bA ops (rst ops o τ) o=some true/\F9 (M.getD i 0) C=true/\fr i=false/\∃d τ2 σ a,S.getLast?=some σ/\
    gK (λg=>AOp P N o (rst ops o τ) (cw g σ) λb c=>b=d/\c=cw g a) (fI A (M.getD i 0))/\
    gK (λ(x:Rc×Sto)=>AOp P N x.1.o x.1.env x.2 λb c=>b=x.1.v/\c=x.2) (reS A M (C++[i]) a 0 tab)/\
    gK (λ(x:Nat×Nat×List D)=>match Nat.testBit (M.getD i 0) x.1 with|true=>True|false=>a[x.2.1]?=some (.cells x.2.2 0 0)) A/\
    eR N o.dst d τ=some τ2/\ADg P N ops A M fr r (i+1) τ2 (S++[a]) (C++[i]) (tab++[⟨o,rst ops o τ,d,.chain C.length⟩]) K)∨
  (bA ops (rst ops o τ) o=some true/\∃e l f τ2,o.op=.alloc e/\uw A i=some (l,f)/\nx P e=some f/\
    eR N o.dst (.ptr l 0 0) τ=some τ2/\ADg P N ops A M fr r (i+1) τ2 S C (tab++[⟨o,rst ops o τ,.ptr l 0 0,.alloc l f⟩]) K)
section
variable {P:Program}{N:Nat}{ops:Array Oper}{A:Res}{M:List Nat}{τ0:Env}{s0:Sto}{tab:List Rc}{S:List Sto}{C:List Nat}{τ τ2:Env}
def Wq{fr:Nat->Bool}{K:Env->Sto->Prop}:∀(r:List Oper)(τ:Env)(S:List Sto)(C:List Nat)(tab:List Rc)(pre:List Oper),ops.toList=pre++r->tab.length=pre.length->
 (∀c∈C,fr c=false)->fJ P N ops A M τ0 s0 tab S C τ->ADg P N ops A M fr r tab.length τ S C tab K->
 ∃(a:List Rc)(S':List Sto)(b:List Nat)(τ':Env)(σ':Sto),a.length=ops.size/\fJ P N ops A M τ0 s0 a S' b τ'/\S'.getLast?=some σ'/\K τ' σ'/\(∀c∈b,fr c=false)/\(∀x∈A,∃r:Rc,a[x.1]?=some r/\r.kd=.alloc x.2.1 x.2.2)
 |[],τ,S,C,tab,pre,hops,hlen,hF,hT,h=>by
  obtain⟨t,σ,F,G⟩:=h;have:ops.size=pre.length:=by have:=amV List.length hops;simpa using this
  exact⟨tab,S,C,τ,σ,omq,hT,F,G,hF,t.mem⟩
 |o::r,τ,S,C,tab,pre,hops,hlen,hF,hT,h=>by
  have ho:ops[tab.length]?=some o:=by rw[<-am5,hops,hlen];simp
  have next:∀(p:Rc)(τ2:Env)(S':List Sto)(b:List Nat),p.o=o->(∀c∈b,fr c=false)->fJ P N ops A M τ0 s0 (tab++[p]) S' b τ2->ADg P N ops A M fr r (tab.length+1) τ2 S' b (tab++[p]) K->
   ∃(a:List Rc)(S':List Sto)(b:List Nat)(τ':Env)(σ':Sto),a.length=ops.size/\fJ P N ops A M τ0 s0 a S' b τ'/\S'.getLast?=some σ'/\K τ' σ'/\(∀c∈b,fr c=false)/\(∀x∈A,∃r:Rc,a[x.1]?=some r/\r.kd=.alloc x.2.1 x.2.2):=by
   intro p τ2 S' b L q s E;exact Wq r τ2 S' b (tab++[p]) (pre++[o]) (by simp[hops]) (by simp[hlen]) q s (by simpa using E)
  rcases h with⟨m,τ2,j,h⟩|⟨m,d,τ2,f,j,h⟩|⟨m,i,v,d,τ2,σ,σ',g,f,B,n,j,h⟩|⟨m,e,l,D,τ2,z,H,I,j,h⟩
  ·exact next ⟨o,rst ops o τ,.tuple [],.skip⟩ τ2 S C rfl hF (hT.push ho ⟨m,rfl⟩ j rfl) h
  ·refine next ⟨o,rst ops o τ,d,.read⟩ τ2 S C rfl hF (hT.push ho ⟨m,λk σ hk hwin ls hls=> ?_⟩ j rfl) h
   refine f.mem _ (apk.2 ⟨σ,C1 hk λJ c hc y=>(hwin J c hc).2 y,anh.2 ⟨ls,hls,rfl⟩⟩)
  ·refine next ⟨o,rst ops o τ,d,.chain C.length⟩ τ2 (S++[σ']) (C++[tab.length]) rfl (λc hc=>by rcases am6.1 hc with hc|hc;exact hF c hc;(simp at hc;subst hc;exact v)) (hT.pushC ho rfl ⟨m,by simp,λO c w hc=> ?_,σ,σ',?_,?_,λls hls=>f.mem ls hls⟩ B.mem n.mem j rfl) h
   ·have u:C.getLast?=some c:=by
     rw[amu omq]at hc;rw[anA,w];exact hc
    unfold F9 at i;rw[u]at i;exact i
   ·have:S[C.length]?=some σ:=by
     rw[anA,hT.slen]at g;exact g
    exact fY this
   ·rw[<-hT.slen];simp
  ·refine next ⟨o,rst ops o τ,.ptr l 0 0,.alloc l D⟩ τ2 S C rfl hF (hT.push ho ⟨m,IY H,rfl,e,z,I⟩ j rfl) h
end
section
variable {fl:Nat}{P:Program}{N:Nat}{ops:Array Oper}{A:Res}{M:List Nat}{τ τ1:Env}{σ:Sto}{tab:List Rc}{S:List Sto}{C:List Nat}
def eD:Res->Sto->Sto
 |[],s=>s
 |(_,l,a)::A,s=>(eD A s).set l (.cells a 0 0)
def Gg:∀(A:Res)(s:Sto),(eD A s).length=s.length
 |[],_=>rfl
 |(_,l,a)::A,s=>by simp[eD,Gg A s]
def I2:∀(A:Res)(s:Sto)(y:Nat),y ∉ A.map (·.2.1)->(eD A s)[y]?=s[y]?
 |[],_,_,_=>rfl
 |(_,l,a)::A,s,y,h=>by
  simp only[amz,amN,not_or]at h;simp only[eD];rw[am2 (an9 h.1)];exact I2 A s y h.2
def N2:∀(A:Res)(s:Sto),(A.map (·.2.1)).Nodup->(∀x∈A,x.2.1<s.length)->∀x∈A,(eD A s)[x.2.1]?=some (.cells x.2.2 0 0)
 |[],_,_,_,x,a=>by simp at a
 |(j,l,g)::A,s,b,d,x,a=>by
  simp only[amz,apt]at b;simp only[eD];rcases amN.1 a with rfl|a
  ·rw[ana (by rw[Gg];exact d _ (am0 ..))]
  ·have c:l≠x.2.1:=λe=>b.1 (e▸anh.2 ⟨x,a,rfl⟩);rw[am2 c];exact N2 A s b.2 (λy f=>d y (amF _ f)) x a
def V0{A:Res}{s:Sto}(h:∀x∈A,s[x.2.1]?=some .dead):cw (A.map (·.2.1)) (eD A s)=s:=by
 refine EA λy=> ?_;rw[iP,Gg];by_cases a:y∈A.map (·.2.1)
 ·obtain⟨x,c,rfl⟩:=anh.1 a;have b:=h x c;rw[amE ⟨a,ai b⟩,b]
 ·rw[am4 (λh=>a h.1),I2 A s y a]
def Bm:∀{A:Res},(A.map (·.2.1)).Nodup->∀x∈A,∀y∈A,x.2.1=y.2.1->x.1=y.1
 |[],_,x,d,_,_,_=>by simp at d
 |z::A,c,x,d,y,f,e=>by
  simp only[amz,apt]at c;rcases amN.1 d with a|a<;>rcases amN.1 f with b|b
  ·rw[a,b]
  ·exact absurd (anh.2 ⟨y,b,by rw[<-e,a]⟩) c.1
  ·exact absurd (anh.2 ⟨x,a,by rw[e,b]⟩) c.1
  ·exact Bm c.2 x a y b e
structure Ini(A:Res)(s σ:Sto):Prop where
 nd:(A.map (·.2.1)).Nodup
 dead:∀x∈A,s[x.2.1]?=some .dead
 ext:∃n,s=σ++List.replicate n .dead
def Ini.get{s:Sto}(h:Ini A s σ):∀x∈A,(eD A s)[x.2.1]?=some (.cells x.2.2 0 0):=N2 A s h.nd λx a=>ai (h.dead x a)
def ahv{s:Sto}(h:Ini A s σ):fJ P N ops A M τ (eD A s) [] [eD A s] [] τ:=
 ⟨λi r h=>by simp at h,rfl,rfl,λk c h=>by simp at h,
   λx f k g a _=>by
    have:g=eD A s:=by
     cases k with
     |zero=>simp at a;exact a.symm
     |succ k=>simp at a
    subst this;exact h.get x f,λi r h=>by simp at h,λt d b=>.inr ⟨λj l e _=>absurd e (aps _),b⟩,λi r t h=>by simp at h⟩
def ahw{s:Sto}(h:Ini A s σ)(g:fJ P N ops A M τ (eD A s) tab S C τ1){B:bL P}{G0 G:Gh}(o:G0.LeB fl G){w:World}{a:Act}(p:Rel B G σ w)(m:dD G N τ a):
 Inv fl ops A τ tab S C N B G0 (Array.replicate ops.size false) a w:=by
 refine⟨by simp,λj E v f=> ?_,?_⟩
 ·exfalso;rcases amB j ops.size with e|e
  ·simp[ams,e]at f
  ·simp[ams,e]at f
 ·have b:∀j,(Array.replicate ops.size false).getD j false=false:=by
   intro j;rcases amB j ops.size with e|e
   ·simp[ams,e]
   ·simp[ams,e]
  refine⟨G,0,_,o,g.hd,λD c z=> ?_,?_,m.size,m.defers,λi r t _ f _=> ?_,λt d q _=>m.slot t d q⟩
  ·rw[b c];simp
  ·have:cw (eg (Array.replicate ops.size false) A) (eD A s)=s:=by
    rw[jQ (ls':=A.map (·.2.1)) ?_]
    ·exact V0 h.dead
    ·intro y;rw[ij,anh];exact⟨λ⟨x,k,_,l⟩=>⟨x,k,l⟩,λ⟨x,k,l⟩=>⟨x,k,b _,l⟩⟩
   rw[this];obtain⟨n,u⟩:=h.ext;rw[u];exact p.dead _
  ·rw[b i]at f;cases f
def Drn(P:Program)(N:Nat)(ops:Array Oper)(τ:Env)(σ:Sto)(K:Env->Sto->Prop):Prop:=∃(A:Res)(s:Sto),eC ops (bq ops.toList [])=true/\Ini A s σ/\
 ADr P N ops A (bq ops.toList []) ops.toList 0 τ [eD A s] [] [] K
variable{Z:Nat}
def ZQ{Q:AEx->Env->Sto->Prop}(h:Drn P N ops τ σ λf e=>Q .normal f e){B:bL P}{G0 G:Gh}(k:G0.LeB fl G){w:World}{a:Act}(m:Rel B G σ w)(n:dD G N τ a)(o:ops.size<=Z):
 wpAny P .any ops (jP fl B G0 N Q) Z (Array.replicate ops.size false) a w:=by
 obtain⟨A,s,p,g,h⟩:=h;obtain⟨j,r,q,f,e,d,b,c,l,i⟩:=PF (τ0:=τ) (s0:=eD A s) ops.toList τ _ [] [] [] siq rfl (ahv g) h;exact Tp b rfl p d i (Bm g.nd) c l Z _ a w (by simp;exact o) (ahw g b k m n)
def Gi(fl:Nat)(P:Program)(N:Nat)(ops:Array Oper)(τ:Env)(σ:Sto)(Q:AEx->Env->Sto->Prop):Prop:=
 ∀(B:bL P)(G0 G:Gh)(w:World)(a:Act)(b:Nat),G0.LeB fl G->Rel B G σ w->dD G N τ a->ops.size<=b->wpAny P .any ops (jP fl B G0 N Q) b (Array.replicate ops.size false) a w
def Gi.awp{Q:AEx->Env->Sto->Prop}(d:P.follows .mixedOrders=true)(h:Gi fl P N ops τ σ Q):AWp fl P N (.region Z ops true) τ σ Q:=
 λB G w a b c=>wp_region_any d (h B G G _ a ops.size (.refl G) b.drawn c (amt _))
def Drn.any{Q:AEx->Env->Sto->Prop}(h:Drn P N ops τ σ λb a=>Q .normal b a):Gi fl P N ops τ σ Q:=
 λ_ _ _ _ _ _ c d e f=>ZQ h c d e f
def cj(M:List Nat)(c n:Nat):List Nat:=(List.range n).filter λj=> !(Nat.beq j c)&& !(Nat.testBit (M.getD j 0) c)
def xm(M:List Nat)(c n:Nat):List Nat:=(List.range n).filter λj=> !(Nat.beq j c)&&Nat.testBit (M.getD j 0) c
def Gj{a b:Nat}:Nat.beq a b=false↔a≠b:=by
 constructor
 ·intro h e;subst e;rw[Nat.beq_refl]at h;cases h
 ·intro h;cases c:Nat.beq a b with
  |false=>rfl
  |true=>exact absurd (C4 c) h
def A0{c n j:Nat}:j∈cj M c n↔j<n/\j≠c/\Nat.testBit (M.getD j 0) c=false:=by
 unfold cj;simp[ao7,Gj]
def Bn{c n j:Nat}:j∈xm M c n↔j<n/\j≠c/\Nat.testBit (M.getD j 0) c=true:=by
 unfold xm;simp[ao7,Gj]
def Tv(p q:Nat->Bool):∀l:List Nat,(l.filter λj=> !p j&& !q j).length+(l.filter λj=> !p j&&q j).length+(l.filter p).length=l.length
 |[]=>rfl
 |x::l=>by
  have a:=Tv p q l;simp only[apI];cases p x<;>cases q x<;>simp<;>omega
def Tw{c:Nat}:∀n,c<n->((List.range n).filter λj=>Nat.beq j c).length=1
 |0,h=>omq
 |n+1,h=>by
  rw[List.range_succ,List.filter_append,amo];by_cases e:c=n
  ·subst e;have:(List.range c).filter (λj=>Nat.beq j c)=[]:=by
    rw[List.filter_eq_nil_iff];intro x b;have:=aoW.1 b;have a:Nat.beq x c=false:=Gj.2 omq;rw[a];simp
   rw[this];simp
  ·rw[Tw n omq];have:Nat.beq n c=false:=Gj.2 omq;simp[this]
def Tx{c n:Nat}(a:c<n):(cj M c n).length+(xm M c n).length+1=n:=by
 have:=Tv (λj=>Nat.beq j c) (λj=>Nat.testBit (M.getD j 0) c) (List.range n);rw[Tw n a,List.length_range]at this;exact this
def pick:List Nat->List Bool->List Nat
 |i::r,b::D=>match b with
  |true=>pick r D
  |false=>i::pick r D
 |_,_=>[]
def xn:∀(l:List Nat)(D:List Bool),(pick l D).Sublist l
 |[],D=>by cases D<;>exact List.Sublist.refl _
 |i::r,[]=>by simp[pick]
 |i::r,b::D=>by
  simp only[pick];cases b
  ·exact(xn r D).cons_cons i
  ·exact(xn r D).cons i
def Ty:∀(l:List Nat)(D:List Bool),D.length=l.length->(pick l D).length=D.count false
 |[],D,h=>by
  have:D=[]:=amY (by simpa using h);subst this;rfl
 |i::r,[],h=>by simp at h
 |i::r,b::D,h=>by
  have a:=Ty r D (by simpa using h);simp only[pick];cases b<;>simp[a]
def ME{i:Nat}:∀(l:List Nat)(D:List Bool),D.length=l.length->(i∈pick l D↔∃k:Nat,l[k]?=some i/\D[k]?=some false)
 |[],D,h=>by simp[pick]
 |j::r,[],h=>by simp at h
 |j::r,b::D,h=>by
  have d:=ME (i:=i) r D (by simpa using h);simp only[pick];cases b
  ·simp only[amN,d];constructor
   ·rintro(rfl|⟨k,a,c⟩)
    ·exact⟨0,rfl,rfl⟩
    ·exact⟨k+1,by simpa using a,by simpa using c⟩
   ·rintro⟨k,a,c⟩;cases k with
    |zero=>simp at a;exact .inl a.symm
    |succ k=>exact .inr ⟨k,by simpa using a,by simpa using c⟩
  ·simp only[d];constructor
   ·rintro⟨k,a,c⟩;exact⟨k+1,by simpa using a,by simpa using c⟩
   ·rintro⟨k,a,c⟩;cases k with
    |zero=>simp at c
    |succ k=>exact⟨k,by simpa using a,by simpa using c⟩
def oA(M:List Nat)(c n:Nat)(D:List Bool):List Nat:=pick (cj M c n) D++xm M c n
def PG(a:Nat):List Nat->List (List Bool)
 |[]=>[[]]
 |i::r=>match Nat.testBit a i with
  |true=>(PG a r).map (true::·)
  |false=>(PG a r).flatMap λl=>[true::l,false::l]
def Tz:∀(l:List Nat)(D:List Bool),D.length=l.length->(∀(k i:Nat),l[k]?=some i->Nat.testBit Z i=true->D.getD k false=true)->D∈PG Z l
 |[],D,h,_=>by
  have:D=[]:=amY (by simpa using h);subst this;simp[PG]
 |i::r,[],h,_=>by simp at h
 |i::r,b::D,h,a=>by
  have c:=Tz r D (by simpa using h) λk j d e=>by
   have:=a (k+1) j (by simpa using d) e;simpa using this
  simp only[PG];cases f:Nat.testBit Z i with
  |true=>
   have:=a 0 i rfl f;simp at this;subst this;exact anh.2 ⟨D,c,rfl⟩
  |false=>exact apk.2 ⟨D,c,by cases b<;>simp⟩
def aeG(a:List Nat)(D:List Bool):Bool:=(List.range D.length).all λk=> !(D.getD k false)||(List.range D.length).all λm=> !(Nat.testBit (a.getD k 0) m)||D.getD m false
def Su(b:Nat)(a ids:List Nat):List (List Bool):=(PG b ids).filter (aeG a)
def oB(D:List Bool):Res->List Nat
 |[]=>[]
 |(j,l,_)::A=>match D.getD j false with
  |true=>oB D A
  |false=>l::oB D A
def rJ{L:Array Bool}{j:Nat}:L.toList.getD j false=L.getD j false:=by
 simp[ams]
def N3{L:Array Bool}:∀A:Res,oB L.toList A=eg L A
 |[]=>rfl
 |(j,l,a)::A=>by
  simp only[oB,eg,rJ,N3 A];cases L.getD j false<;>rfl
def sh:List Oper->List Bool->List Nat
 |o::r,b::D=>match b with
  |true=>sh r D
  |false=>match o.dst with
   |some t=>t::sh r D
   |none=>sh r D
 |_,_=>[]
def Q5{t:Nat}:∀{l:List Oper}{D:List Bool}{k:Nat}{o:Oper},l[k]?=some o->D[k]?=some false->o.dst=some t->t∈sh l D
 |[],_,_,_,h,_,_=>by simp at h
 |_::_,[],_,_,_,h,_=>by simp at h
 |x::l,b::D,0,o,a,c,d=>by
  simp at a c;subst a c;simp only[sh,d];exact am0 ..
 |x::l,b::D,k+1,o,a,c,d=>by
  have e:=Q5 (l:=l) (D:=D) (k:=k) (by simpa using a) (by simpa using c) d;simp only[sh];split
  ·exact e
  ·split
   ·exact amF _ e
   ·exact e
def D2(x:Nat)(l:List Nat):Bool:=l.any (Nat.beq x)
def MF{x:Nat}{l:List Nat}:D2 x l=true↔x∈l:=by
 unfold D2;rw[apJ];exact⟨λ⟨y,a,b⟩=>(C4 b)▸a,λh=>⟨x,h,Nat.beq_refl x⟩⟩
def XR(a:List Nat)(τ:Env):Env:=τ.filter λq=> !(D2 q.1 a)
def ZR{fl:Nat}{Q:AEx->Env->Sto->Prop}(A:Res){c:Nat}{oc:Oper}(n6:ops[c]?=some oc)(hg:qu ops=true)(hM:bq ops.toList []=M)(hp:eC ops M=true){b:Array Oper}(hP:em ops (cj M c ops.size)=b){M1:List Nat}(n9:bq b.toList []=M1)(C3:eC b M1=true)
 {s0:Sto}(hA:Ini A s0 σ)(fr:Nat->Bool)(B8:∀(k i:Nat),(cj M c ops.size)[k]?=some i->fr k=false->Nat.testBit (M.getD c 0) i=true){K:Env->Sto->Prop}
 (h:ADg P N b A M1 fr b.toList 0 τ [eD A s0] [] [] K)
 (hK:∀τ1 F,K τ1 F->∀D∈Su (M.getD c 0) M1 (cj M c ops.size),fu P N ops [oc] (XR (sh b.toList D) τ1) (cw (oB D A) F) λτ2 C9=>Gi fl P N (em ops (oA M c ops.size D)) τ2 C9 Q):
 Gi fl P N ops τ σ Q:=by
 intro B n7 G0 w a j7 A5 hR hT A4;have j9:c<ops.size:=(amW.1 n6).1;have m8:∀i∈cj M c ops.size,i<ops.size:=λi f=>(A0.1 f).1;have t7:(cj M c ops.size).Nodup:=List.nodup_range.filter _;have u0:(xm M c ops.size).Nodup:=List.nodup_range.filter _;have V:b.size=(cj M c ops.size).length:=by rw[<-hP];exact D1 m8
 obtain⟨j6,S',C',τ1,F,j3,g,T,A8,hF,B2⟩:=Wq (τ0:=τ) (s0:=eD A s0) b.toList τ _ [] [] [] siq rfl siq (ahv hA) h;have hK:=hK τ1 F A8;have p7:c ∉ cj M c ops.size:=λh=>(A0.1 h).2.1 rfl;have z7:Ga ops.toList 0=true:=by
  unfold eC at hp;simp only[amk]at hp;exact hp.1.2
 refine(VZ (ids:=cj M c ops.size) (M:=M) (c:=c) (m:=(xm M c ops.size).length+1) (J:=Inv fl b A τ j6 S' C' N B n7) hg m8 t7 hM hp j9 p7 omq ?_ ?_ ?_ j7 _ (Array.replicate b.size false) a _ (ahw hA g A5 hR hT) ⟨by simp,by simp[V],?_⟩ ?_ ?_ ?_)
 ·intro i f Z r;cases l:Nat.testBit (M.getD i 0) c with
  |true=>rfl
  |false=>exact absurd (A0.2 ⟨f,r,l⟩) Z
 ·intro L' a w k hI O K2 A7;rw[hP]at O⊢;exact NZ g n9 C3 j3 B2 (Bm hA.nd) hI O A7
 ·intro H L L' a w hI E z8 hd n5 D0;have q:L'.size=(cj M c ops.size).length:=E.s2;have j5:∀(k i:Nat),(cj M c ops.size)[k]?=some i->Nat.testBit (M.getD c 0) i=true->L'.getD k false=true:=λk i O l=>by rw[<-E.at' k i O];exact n5 i l
  have A6:L'.toList∈Su (M.getD c 0) M1 (cj M c ops.size):=by
   refine ao7.2 ⟨Tz _ _ (by simp[q]) λk i O l=>by rw[rJ];exact j5 k i O l,?_⟩;unfold aeG;rw[amM];intro k O;rw[rJ];cases A9:L'.getD k false with
   |false=>rfl
   |true=>
    rw[am3,Bool.false_or,amM];intro m s8;rw[rJ];cases l:Nat.testBit (M1.getD k 0) m with
    |false=>rfl
    |true=>
     have R:k<b.size:=by rw[V,<-q];simpa using O
     have o7:=sI (ops:=b) (L:=L') hI.down b.toList [] [] siq rfl (λj m oj h=>by simp at h);rw[n9]at o7;cases m9:M1[k]? with
     |none=>rw[amH,m9]at l;simp at l
     |some mm=>
      rw[amH,m9]at l;rw[o7 k mm (b[k]'R) m9 (amK R) (hI.down k _ (amK R) A9) m l];rfl
  have hD:=hK _ A6;obtain⟨G,k,A3,h0,hS,hC,o8,A2,B6,u7,z6⟩:=hI.st;have O:k=C'.length:=by
   have Y:k<S'.length:=ai hS;rw[g.slen]at Y;rcases amB k C'.length with h2|h2
   ·exfalso;obtain⟨W,j8⟩:∃W,C'[k]?=some W:=⟨C'[k],aml h2⟩;have q6:=hF W (amS j8);obtain⟨rc,C7,_⟩:=g.ch k W j8;have B4:W<(cj M c ops.size).length:=by rw[<-V,<-j3];exact ai C7
    have q7:(cj M c ops.size)[W]?=some (cj M c ops.size)[W]:=aml B4;have:=(hC k W j8).1 (j5 W _ q7 (B8 W _ q7 q6));omega
   ·omega
  have C8:A3=F:=by
   rw[anA,g.slen]at T;subst O;have u:S'[C'.length]?=some F:=T;rw[hS]at u;exact anm u
  subst C8;rw[<-N3]at o8;have o9:dD G N (XR (sh b.toList L'.toList) τ1) a:=by
   refine⟨A2,B6,λt d m5=> ?_⟩;obtain⟨z,m5⟩:=qt (p:=λt=> !(D2 t (sh b.toList L'.toList))) m5;have z:t ∉ sh b.toList L'.toList:=λs8=>by rw[MF.2 s8]at z;cases z
   have k9:∀(j:Nat)(X:Rc),j6[j]?=some X->X.o.dst=some t->L'.getD j false=true:=by
    intro j X hj B7;cases l:L'.getD j false with
    |true=>rfl
    |false=>
     exfalso;have q9:=(g.rc j X hj).1;have q8:j<L'.size:=by rw[q,<-V];exact(amW.1 q9).1
     refine z (Q5 (k:=j) (o:=X.o) (by rw[am5];exact q9) ?_ B7);simp[ams,q8]at l;simp[q8,l]
   rcases g.fin t d m5 with⟨j,X,hj,U,p8,rfl⟩|⟨C1,B9⟩
   ·exact u7 j X t U (k9 j X U p8) p8
   ·exact z6 t d B9 λj X U _=>C1 j X (ai U) U
  rcases hD with⟨_,C2⟩|⟨hw,_⟩
  ·refine C5 hg n6 (C2 B G w a o8 o9 _ _ ?_);rintro v w' G' d A3 r9 B1 B5 ⟨τ2,C4,p9⟩;have s:L'.toList.length=(cj M c ops.size).length:=by simp[q]
   have j4:∀i∈oA M c ops.size L'.toList,i<ops.size:=by
    intro i f;rcases am6.1 f with f|f
    ·exact m8 i ((xn _ _).subset f)
    ·exact(Bn.1 f).1
   have t8:(oA M c ops.size L'.toList).Nodup:=by
    refine List.nodup_append.2 ⟨t7.sublist (xn _ _),u0,λx hx y hy e=> ?_⟩;subst e;have Y:=(A0.1 ((xn _ _).subset hx)).2.2;rw[(Bn.1 hy).2.2]at Y;cases Y
   have C6:(oA M c ops.size L'.toList).length<=H:=by
    unfold oA;rw[amo,Ty _ _ s];omega
   have s6:∀j,(Array.replicate (oA M c ops.size L'.toList).length false).getD j false=false:=by
    intro j;rcases amB j (oA M c ops.size L'.toList).length with I|I
    ·simp[ams,I]
    ·simp[ams,I]
   have n8:∀k:Nat,L'.toList[k]?=some false->L'.getD k false=false:=by
    intro k m6;rw[<-rJ,amH,m6];rfl
   have B3:c<L.size:=by rw[E.s1];exact j9
   have A1:=D1 (ops:=ops) j4;refine ZP (L':=Array.replicate (oA M c ops.size L'.toList).length false) hg j4 t8 z7 H _ _ _ ⟨by simp[E.s1],by simp,λk i m6=> ?_⟩ (λi f Z=> ?_) ?_
   ·rw[s6 k];have f:=amS m6;have r:c≠i:=by
     intro e;subst e;rcases am6.1 f with f|f
     ·exact p7 ((xn _ _).subset f)
     ·exact(Bn.1 f).2.1 rfl
    rw[anW false r];rcases am6.1 f with f|f
    ·obtain⟨k2,Y,h2⟩:=(ME _ _ s).1 f;rw[E.at' k2 i Y];exact n8 k2 h2
    ·have h3:=Bn.1 f;exact z8 i h3.1 λhx=>by rw[(A0.1 hx).2.2]at h3;cases h3.2.2
   ·by_cases r:i=c
    ·exact(df B3).2 (.inl r)
    ·rw[anW false (an9 r)];have w9:i ∉ pick (cj M c ops.size) L'.toList:=λh=>Z (aoe _ h);have y0:i ∉ xm M c ops.size:=λh=>Z (aor _ h);have C0:i∈cj M c ops.size:=by
      refine A0.2 ⟨f,r,?_⟩;cases l:Nat.testBit (M.getD i 0) c with
      |false=>rfl
      |true=>exact absurd (Bn.2 ⟨f,r,l⟩) y0
     obtain⟨k2,m7⟩:=anx C0;rw[E.at' k2 i m7];cases l:L'.getD k2 false with
     |true=>rfl
     |false=>
      exfalso;have R:k2<L'.size:=by rw[q];exact(ant.1 m7).1
      refine w9 ((ME _ _ s).2 ⟨k2,m7,?_⟩);simp[ams,R]at l;simp[R,l]
   ·have:=p9 B n7 _ _ _ H (h0.trans r9.b) B1 (Fv (o9.mono r9) C4 B5) (by rw[A1];exact C6);rw[A1]at this;exact this
  ·exfalso;unfold bA at hw;rw[Gf hg n6]at hw;cases hw
 ·intro k i O;have Y:∀n j,(Array.replicate n false).getD j false=false:=by
   intro n j;rcases amB j n with I|I
   ·simp[ams,I]
   ·simp[ams,I]
  rw[Y,Y]
 ·intro i f _;simp[ams,f]
 ·intro j oj D3 hL;exfalso;rcases amB j ops.size with I|I
  ·simp[ams,I]at hL
  ·simp[ams,I]at hL
 ·have:=Tx (M:=M) j9;simp[V];omega
end
end Go.Fw
