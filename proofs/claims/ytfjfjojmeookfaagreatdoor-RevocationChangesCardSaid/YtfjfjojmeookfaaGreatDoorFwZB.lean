/- A framework for proofs about Go programs in this model: part ZB. Everything is proved; no condition is added. -/
import Derived.Lib.TrimU
import Derived.Test.YtfjfjojmeookfaaGreatDoorFwZA
set_option linter.unusedVariables false
set_option linter.unusedSimpArgs false
set_option linter.defProp false
def aod:=@of_decide_eq_false
namespace Go.Fw
open Go
abbrev SM{α:Type}(x:Option α):Prop:=OW x λ_=>True
def ah{α:Type}(a:α):SM (some a):=⟨a,rfl,trivial⟩
def AU{α:Type}{x:Option α}{a:α}(h:x=some a):SM x:=⟨a,h,trivial⟩
def Bc{α b:Type}{x:Option α}{f:α->Option b}{R:α->Prop}(h:OW x R)(k:∀a,R a->SM (f a)):SM (x.bind f):=ag h k
def aD{α b:Type}{x:Option α}{f:α->Option b}(h:SM x)(k:∀a,SM (f a)):SM (x.bind f):=ag h λa _=>k a
def ln{α:Type}{c:Bool}{x y:Option α}(a:c=true->SM x)(b:c=false->SM y):SM (bif c then x else y):=aq a b
def aR{α:Type}(c:Bool){x y:Option α}(a:SM x)(b:SM y):SM (bif c then x else y):=aq (λ_=>a) λ_=>b
def SP{α:Type}{x:Option α}{Q:α->Prop}(h:OW x Q):SM x:=xR h λ_ _=>trivial
def sG(e:aJ)(c n:Int)(k:Bool):SM (eu e c k n):=AU (aab e c n k)
def Xs(c:Bs):SM (dY c):=by obtain⟨v,e,h⟩:=Uo c;exact AU h
def abq{N:Nat}(a:FN N)(c:Bs)(b:c.length<10000000):SM (so N c):=AU (QN a c b)
def agB{N:Nat}(a:FN N)(c:Bs)(b:c.length<10000000):SM (dj N c):=SP (qr a c b)
def ad0(c:Bs)(a:c.length<10000000):SM (cC c):=AU (iH a)
def ai0(x:qC)(g:x.1.length<10000000):∃i,uN x=some i/\(i<=8*(x.1.length:Int)):=by
 obtain⟨c,a,b⟩:=xH x omq;unfold uN syv;rw[a,amj];cases c
 ·exact⟨0,rfl,omq⟩
 ·obtain⟨d,f⟩:=b rfl;have e:iK .i64 8 (x.1.length:Int)=8*(x.1.length:Int):=by
   show IntKind.i64.wrap _=_;rw[amU _ omq]
  refine⟨aC .i64 (iK .i64 8 (x.1.length:Int)) x.2,rfl,?_⟩;rw[e,qc omq];omega
def bat(x:qC)(b:x.1.length<10000000)(i:Nat)(h:i<100000000):SM (qv x (i:Int)):=by
 unfold qv syv;rw[amq (by omega:(i:Int)>=0),amw];obtain⟨m,d,f⟩:=ai0 x b;rw[d,amj];refine ln (λc=> ?_) λ_=>ah _;have g:(i:Int)<m:=amZ c;have e:vY .i64 (i:Int) 8=((i / 8:Nat):Int):=by
  show IntKind.i64.wrap ((i:Int).tdiv 8)=_;rw[aoO omq,amU _ omq];omega
 have a:Int.tmod (i:Int) 8=((i % 8:Nat):Int):=by
  rw[apj omq];omega
 rw[e,aM (aml (show i / 8<x.1.length by omega)),amj,a,qc omq,amq omq,amw];exact ah _
def Zn(N:Nat)(x:qC)(f:x.1.length<10000000)(m:Int)(j:m<=100000):∀(k n i:Nat)(s:Int),(m-(i:Int)).toNat=k->k<n->i<=100000->SM (gw N n (s,m,(i:Int),x.1,x.2)):=by
 intro k;induction k with
 |zero=>
  intro n i s e g d;obtain⟨n,rfl⟩:∃m,n=m+1:=⟨n-1,omq⟩;show SM (bif decide ((i:Int)<m) then _ else some s);rw[amm omq];exact ah _
 |succ k h=>
  intro n i s e g d;obtain⟨n,rfl⟩:∃m,n=m+1:=⟨n-1,omq⟩;show SM (bif decide ((i:Int)<m) then(qv x (i:Int)).bind _ else some s);rw[amq omq,amw];refine aD (bat x f i omq) λc=> ?_;have b:∀a,SM (gw N n (a,m,az .i64 (i:Int) 1,x.1,x.2)):=λa=>by
   rw[bg omq];exact h n (i+1) a omq omq omq
  rw[amq (by omega:(0:Int)<=(i:Int))];cases c
  ·exact b _
  ·exact b _
def Vr{N:Nat}(p:FN N)(c:Bs)(d:c.length<10000000):SM (iL N c 9):=by
 have f:=p;unfold FN at f;unfold iL syv;obtain⟨x,e,a,o⟩:=Ul c omq;have g:x.1.length<10000000:=by
  by_cases q:e=0
  ·have:=(o q).1;rw[this]at d;simp[fq]at d;omega
  ·unfold dI syv at a;cases c with
   |nil=>cases a;simp
   |cons b r=>
    rw[Q0,amm siq,amp,qA,amj,iH (by simp at d;omega),amj,ix0,amj]at a;obtain⟨w,u,_⟩:=xH (r,IntKind.wrap .i64 (b.toNat:Int)) (by simp at d⊢;omega);rw[u,amj]at a;cases w
    ·cases a;simp
    ·cases a;simp at d⊢;omega
 rw[show decide ((9:Int)<1)=false from rfl,show decide ((9:Int)>32)=false from rfl,amp,amp,a,amj];dsimp only;obtain⟨i,s,t⟩:=ai0 x g;rw[s,amj];refine aR _ (ah _) (ln (λ_=>ah _) λm=> ?_);have n:¬i>9:=aod m;have j:SM ((gw N N (0,i,0,x)).bind λh=>some (h,(0:Int))):=by
  refine aD ?_ λ_=>ah _;exact Zn N x g i omq (i-((0:Nat):Int)).toNat N 0 0 rfl omq omq
 refine ln (λk=> ?_) λ_=>j;have l:i>0:=amZ k;rw[qc omq,show i-1=(((i-1).toNat:Nat):Int) from omq];exact aD (bat x g _ omq) λc=>aR _ (ah _) j
variable{Z:Type}
def FP{N:Nat}(g:FN N)(a:Bs)(h:a.length<10000000)(f:aJ×Int×Int->Option Z)(c:∀v e o,e≠0->SM (f (v,e,o)))(d:∀v t,EL a t v->t.2.2.2.length<10000000->SM (f (v,0,0))):SM ((cm N a).bind f):=by
 refine Bc (wj g a h) ?_;rintro⟨v,e,o⟩ (⟨i,t,b,j,k⟩|⟨b,_⟩)
 ·cases i;refine d v t k ?_;have:=cZ t;have:a.length=(aj t).length:=by rw[j]
  omega
 ·exact c v e o b
def mq{e:Int}(h:e≠0):(e !=0)=true:=by simpa using h
def Zo{N:Nat}(d:FN N)(a:Bs)(f:a.length<10000000):SM (jR N a):=by
 unfold jR syv;refine FP d a f _ (λv e o g=> ?_) λv t b h=> ?_
 ·dsimp only;rw[mq g];exact ah _
 ·dsimp only;refine aD (sG _ _ _ _) λc=>aR _ (ah _) ?_;rw[b.body,amj];exact aD (ad0 _ h) λ_=>ah _
def Wm{N:Nat}(b:FN N)(a:Bs)(f:a.length<10000000):SM (nM N a):=by
 unfold nM syv;refine FP b a f _ (λv e o g=> ?_) λv t d h=> ?_
 ·dsimp only;rw[mq g];exact ah _
 ·dsimp only;refine aD (sG _ _ _ _) λc=>aR _ (ah _) ?_;rw[d.body,amj];exact aD (Vr b _ h) λ_=>aR _ (ah _) (aR _ (ah _) (ah _))
def abr(i:Int)(h:0<=i)(a:i<=10):SM (zr i):=by
 unfold zr Jo syv;have:i=0∨i=1∨i=2∨i=3∨i=4∨i=5∨i=6∨i=7∨i=8∨i=9∨i=10:=omq;rcases this with rfl|rfl|rfl|rfl|rfl|rfl|rfl|rfl|rfl|rfl|rfl<;>exact ah _
def Zp{N:Nat}(b:FN N)(a:Bs)(g:a.length<10000000):SM (sr N a):=by
 unfold sr syv;refine FP b a g _ (λv e o h=> ?_) λv t f i=> ?_
 ·dsimp only;rw[mq h];exact ah _
 ·dsimp only;refine aD (sG _ _ _ _) λc=>aR _ (ah _) ?_;rw[f.body,amj];refine aD (abq b _ i) λr=>aR _ (ah _) (ln (λ_=>ah _) λc1=>ln (λ_=>ah _) λd=> ?_);exact aD (abr r.1 (by have:=aod c1;omega) (by have:=aod d;omega)) λ_=>aR _ (ah _) (ah _)
def ad1{N:Nat}(b:FN N)(a:Bs)(f:a.length<10000000):SM (mD N a):=by
 unfold mD syv;refine FP b a f _ (λv e o g=> ?_) λv t d h=> ?_
 ·dsimp only;rw[mq g];exact ah _
 ·dsimp only;refine aD (sG _ _ _ _) λc=>aR _ (ah _) ?_;rw[d.body,amj];exact aD (SP (RM b _ h)) λ_=>aR _ (ah _) (ah _)
def ad2{N:Nat}(a:FN N)(c:Bs)(b:c.length<10000000):SM (uU N c):=by
 unfold uU syv;exact aD (abq a c b) λr=>aR _ (aR _ (ah _) (ah _)) (ah _)
def Kw{N:Nat}(d:FN N)(a:Bs)(t:TLV)(e:aJ)(b:EL a t e)(f:t.2.2.2.length<10000000)(x y:Int):SM (jS N a e.1 e.2.1 e.2.2.1 e.2.2.2.1 e.2.2.2.2.1 e.2.2.2.2.2 x y):=by
 unfold jS syv;refine aD (sG _ _ _ _) λc=>aR _ (ah _) ?_;rw[b.body,amj];exact aD (ad2 d _ f) λ_=>aR _ (ah _) (ah _)
def Sm{N:Nat}(b:FN N)(a:Bs)(d:a.length<10000000):SM (lG N a):=by
 unfold lG tU syv;refine aD ?_ λ_=>ah _;refine FP b a d _ (λv e o f=> ?_) λv t c g=> ?_
 ·dsimp only;rw[mq f];exact ah _
 ·dsimp only;exact aD (Kw b a t v c g 0 2) λ_=>aR _ (ah _) (ah _)
def agC(c:Bs):SM (xu c):=by
 unfold xu syv;rw[gB,amj];refine ln (λ_=>ah _) λh=> ?_;have a:ft c=true:=by simpa using h
 cases c with
 |nil=>cases a
 |cons x r=>
  rw[ix0];exact aR _ (aR _ (ah _) (aR _ (ah _) (ah _))) (aR _ (ah _) (ah _))
def abs(c:Bs):SM (oJ c):=by
 unfold oJ syv;rw[gB,amj];exact aR _ (aR _ (aD (agC c) λ_=>ah _) (ah _)) (ah _)
def QO{N:Nat}(d:FN N)(a:Bs)(f:a.length<10000000):SM (iO N a):=by
 unfold iO rP syv;refine aD ?_ λ_=>ah _;refine FP d a f _ (λv e o g=> ?_) λv t b h=> ?_
 ·dsimp only;rw[mq g];exact ah _
 ·dsimp only;refine aD ?_ λ_=>aR _ (ah _) (ah _);unfold tK syv;refine aD (sG _ _ _ _) λc=>aR _ (ah _) ?_;rw[show slc a v.2.2.2.2.1 v.2.2.2.2.2=_ from b.body,amj];unfold tI syv;rw[iH h,amj];exact aD (aD (abs _) λ_=>ah _) λ_=>aR _ (ah _) (ah _)
def NE{N:Nat}(m:FN N)(a:Bs)(n:a.length<10000000)(c num:Nat)(d i:Int)(p:d=(c:Int))(q:i=(num:Int))(f:List aJ×Int×Int->Option Z)(j:∀v e o,e≠0->SM (f (v,e,o)))(k:∀l b,cH (EL a) b l->(ax b).length<a.length->a=tlv c true num (ax b)->SM (f (l,0,0))):SM ((ba N a d i).bind f):=by
 subst p q;refine Bc (jt m a n c num) ?_;rintro⟨l,e,o⟩ (⟨r,b,g,_,_,h,s⟩|⟨g,_⟩)
 ·cases r;exact k l b s (by rw[h];exact dq) h
 ·exact j l e o g
def cH.bodies{a:Bs}{b:List TLV}{l:List aJ}(h:cH (EL a) b l){i:Nat}{e:aJ}(f:l[i]?=some e):∃t,EL a t e/\t∈b/\t.2.2.2.length<(ax b).length/\(aj t).length<=(ax b).length:=by
 obtain⟨t,c,d⟩:=h.get f;have:=gh b t (amS c);have:=cZ t;exact⟨t,d,amS c,omq,omq⟩
def Zq(a:Bs)(t:TLV)(e:aJ)(b:EL a t e)(x y:Int):SM (nc a e.1 e.2.1 e.2.2.1 e.2.2.2.1 e.2.2.2.2.1 e.2.2.2.2.2 x y):=by
 unfold nc syv;refine aD (sG _ _ _ _) λc=>aR _ (ah _) ?_;rw[b.body,amj];unfold Ds syv;exact aD (aD (Xs _) λ_=>aR _ (ah _) (ah _)) λ_=>aR _ (ah _) (ah _)
def ad3{N:Nat}(f:FN N)(a:Bs)(k:a.length<10000000):SM (sq N a):=by
 unfold sq syv;refine NE f a k 0 16 0 16 rfl rfl _ (λv e o m=> ?_) λl p g n _=> ?_
 ·dsimp only;rw[mq m];exact ah _
 ·dsimp only;rw[show((0:Int) !=0)=false from rfl,amp];refine Bc (R:=λy=>(∃c,y=Sum.inl (a,l,c))∨∃i,y=Sum.inr i) ?_ ?_
  ·refine aq (λc=> ?_) λ_=>aa (.inl ⟨_,rfl⟩);refine ag (xS omq (by simpa using c)) λe h=> ?_;obtain⟨t,b,_,_,_⟩:=g.bodies h.1;refine ag (Zq a t e b 0 1) λr _=> ?_;refine aq (λ_=> ?_) λ_=>aa (.inl ⟨_,rfl⟩);exact ag (xS omq (by simpa using c)) λe h=>aa (.inr ⟨_,rfl⟩)
  ·rintro y (⟨c,rfl⟩|⟨i,rfl⟩)
   ·dsimp only;refine Bc (R:=λy=>(∃c d e,y=Sum.inl (l,c,d,e))∨∃i,y=Sum.inr i) ?_ ?_
    ·refine aq (λc=> ?_) λ_=>aa (.inl ⟨_,_,_,rfl⟩);have j:((l.length:Nat):Int)>1:=amZ c;refine ag (xS omq omq) λe h=> ?_;obtain⟨t,b,_,_,_⟩:=g.bodies h.1;refine ag (Kw f a t e b omq 0 2) λr _=> ?_;refine aq (λ_=> ?_) λ_=>aa (.inl ⟨_,_,_,rfl⟩);exact ag (xS omq omq) λe h=>aa (.inr ⟨_,rfl⟩)
    ·rintro y (⟨c,d,e,rfl⟩|⟨i,rfl⟩)
     ·dsimp only;refine ln (λc=> ?_) λ_=>ah _;have j:((l.length:Nat):Int)>2:=amZ c;exact Bc (xS omq omq) λe h=>ah _
     ·exact ah _
   ·exact ah _
def abt{N:Nat}(s:FN N)(a:Bs)(z:a.length<10000000)(g:List TLV)(l:List aJ)(j:cH (EL a) g l)(A:(ax g).length<a.length):∀(k n i:Nat)(e:Int)(d:Bool)(i9:Int)(b:Bool)(c:Int),l.length-i=k->k<n->i<=l.length->
 OW (nR N n (a,e,l,(l.length:Int),(i:Int),d,i9,b,c)) λ_=>True:=by
 have o:=j.length;have w:=ez g;intro k;induction k with
 |zero=>
  intro n i e d i9 b c v x u;obtain⟨n,rfl⟩:∃m,n=m+1:=⟨n-1,omq⟩;show OW (bif decide ((i:Int)<(l.length:Int)) then _ else some _) _;rw[amm omq];exact ah _
 |succ k y=>
  intro n i e d i9 b c v x u;obtain⟨n,rfl⟩:∃m,n=m+1:=⟨n-1,omq⟩;have f:i<l.length:=omq;have p:=aml f;obtain⟨t,q,_,_,_⟩:=j.bodies p;show OW (bif decide ((i:Int)<(l.length:Int)) then _ else some _) _;have h:∀(e:Int)(d:Bool)(i9:Int)(b:Bool)(c:Int),OW (nR N n (a,e,l,(l.length:Int),az .i64 (i:Int) 1,d,i9,b,c)) λ_=>True:=λe d i9 b c=>by
   rw[bg omq];exact y n (i+1) e d i9 b c omq omq omq
  rw[amq omq,amw,aM p,amj];refine ag (Kw s a t _ q omq 2 _) λr _=> ?_;refine aq (λ_=>ah _) λ_=>aq (λ_=>ah _) λ_=>aq (λ_=>ah _) λ_=> ?_;cases (l[i].2.1==0)
  ·exact h _ _ _ _ _
  ·exact h _ _ _ _ _
def agD{N:Nat}(b:FN N)(a:Bs)(d:a.length<10000000):SM (mE N a):=by
 have c:=b;unfold FN at c;unfold mE syv;refine NE b a d 0 16 0 16 rfl rfl _ (λv e o j=> ?_) λl h f m _=> ?_
 ·dsimp only;rw[mq j];exact ah _
 ·dsimp only;have g:=f.length;have k:=ez h;rw[show((0:Int) !=0)=false from rfl,amp];refine aD (abt b a d h l f m l.length N 0 (-1) false 0 false 0 omq omq omq) λy=> ?_;rcases y with i|⟨n,p,q,r,s,t⟩
  ·exact ah _
  ·exact aR _ (ah _) (ah _)
def Zr{N:Nat}(p:FN N)(a:Bs)(y:a.length<10000000)(d:List TLV)(l:List aJ)(e:cH (EL a) d l)(z:(ax d).length<a.length):∀(k n i:Nat)(acc:List Bs),l.length-i=k->k<n->i<=l.length->acc.length<=i->
 OW (sV N n (a,l,(l.length:Int),(i:Int),0,0,acc)) λ_=>True:=by
 have f:=e.length;have v:=ez d;intro k;induction k with
 |zero=>
  intro n i acc u w s _;obtain⟨n,rfl⟩:∃m,n=m+1:=⟨n-1,omq⟩;show OW (bif decide ((i:Int)<(l.length:Int)) then _ else some _) _;rw[amm omq];exact ah _
 |succ k x=>
  intro n i acc u w s q;obtain⟨n,rfl⟩:∃m,n=m+1:=⟨n-1,omq⟩;have b:i<l.length:=omq;have g:=aml b;obtain⟨t,o,_,_,_⟩:=e.bodies g;have j:∀acc:List Bs,acc.length<=i+1->OW (sV N n (a,l,(l.length:Int),az .i64 (i:Int) 1,0,0,acc)) λ_=>True:=λacc h=>by
   rw[bg omq];exact x n (i+1) acc omq omq omq h
  show OW (bif decide ((i:Int)<(l.length:Int)) then _ else some _) _;rw[amq omq,amw,aM g,amj];refine ag (sG _ _ _ _) λc _=>aq (λ_=>ah _) λ_=> ?_;rw[o.body,amj];refine ag (agB p _ omq) λr _=>aq (λ_=>ah _) λ_=> ?_;rw[cQ omq (by simp only[amr,amI];omega),amj];exact j _ soq
def ad4{N:Nat}(b:FN N)(a:Bs)(d:a.length<10000000):SM (sA N a):=by
 have c:=b;unfold FN at c;unfold sA syv;refine NE b a d 0 16 0 16 rfl rfl _ (λv e o k=> ?_) λl h f n _=> ?_
 ·dsimp only;rw[mq k];exact ah _
 ·dsimp only;have g:=f.length;have m:=ez h;rw[show((0:Int) !=0)=false from rfl,amp];refine aD (Zr b a d h l f n l.length N 0 [] omq omq omq siq) λy=> ?_;rcases y with⟨i,j⟩|⟨p,q,r,s⟩
  ·exact ah _
  ·exact aR _ (ah _) (ah _)
end Go.Fw
namespace Go.Fw
open Go
def Zd{α b:Type}{Q:b->Prop}{x:Option α}{f:α->Option b}(h:OW x λa=>OW (f a) Q):OW (x.bind f) Q:=by
 obtain⟨a,rfl,h⟩:=h;exact h
def al1{α:Type}{Q:α->Prop}{c:Bool}{x y:Option α}(a:c=true->OW x Q)(b:c=false->OW y Q):OW (cond c x y) Q:=by
 cases c;exact b rfl;exact a rfl
def al2{α b:Type}{Q:b->Prop}{R:α->Prop}{x:Option α}{f:α->Option b}(h:OW x R)(k:∀a,R a->OW (f a) Q):OW x λa=>OW (f a) Q:=by
 obtain⟨a,rfl,h⟩:=h;exact⟨a,rfl,k a h⟩
def adK{α b:Type}{Q:b->Prop}{x:Option α}{a:α}{f:α->Option b}(h:x=some a)(k:OW (f a) Q):OW x λa=>OW (f a) Q:=⟨a,h,k⟩
def Ze{b:Bse}{d:AD b}{x:Tup (PV.tcss d.ap)}{Q:Tup d.rp.tcs->Prop}(h:OW (CC d.c.cxs d.f d.ap d.rp x) Q):OW (d.run x) Q:=by rw[AD.run_eq];exact h
def QJ{α a:Type}{Q:a->Prop}{f:α->Option a}{x:α}(h:OW (f x) Q):OW (Hk f x) Q:=by rw[Hl];exact h
def hNN:FN NN:=by unfold FN;rw[ake];decide
end Go.Fw
namespace Go.Fw
def amc{P:Prop}(h:P:=by repeat' ((conv=>arg 1;whnf);first|exact⟨_,rfl,trivial⟩|refine al1 (λ_=> ?_) λ_=> ?_|refine Zd (adK rfl ?_)|refine adK rfl ?_|refine Zd ?_|refine QJ ?_)):P:=h
end Go.Fw
namespace Go.Proofs.Tryz
open Go Go.Fw
set_option maxRecDepth 100000
set_option maxHeartbeats 4000000
def alone_sm0(g:Int×Bs×Bs×Bs×List (List (Bs×Bs))×(Int×Bs)×Int×Bs):SM (uW.run g):=by
 refine Ze ?_;exact amc
end Go.Proofs.Tryz
namespace Go.Fw
open Go
def Bd(s:Bs)(i:Nat):∃r w:Nat,iC s (i:Int)=((r:Int),(w:Int))/\r<=1114111/\1<=w:=by
 refine⟨(Utf8.decode ⟨s.toArray⟩ i).1,(Utf8.decode ⟨s.toArray⟩ i).2,rfl,Lib.rune_le _ _,Lib.width_pos _ _⟩
def aky(r:Nat)(h:r<=1114111):SM (tb (r:Int)):=by
 unfold tb;rw[amq (by omega:(-2147483648:Int)<=(r:Int)),amq (by omega:(r:Int)<=2147483647)];exact ah _
def ae8(r:Int):SM (GT r):=AU (KN r)
def akz(r:Nat)(h:r<=1114111):SM (dZ (r:Int)):=by
 have a:=aD (aky r h) λc=>ah c;unfold dZ;exact aR _ (aR _ (ah _) (aR _ (aR _ (ah _) (aR _ (aR _ (ah _) a) a)) (aR _ (aR _ (ah _) a) a))) (aR _ (aR _ (ah _) (aR _ (aR _ (ah _) a) a)) (aR _ (aR _ (ah _) a) a))
def abu(r a b:Int):SM (bp r a b):=by
 unfold bp;exact aR _ (ah _) (ah _)
def akA(r a b:Int):SM (cP r a b):=by
 unfold cP;exact aD (abu r a b) λc=>aR _ (ah _) (aR _ (ah _) (ah _))
def akB(r:Int):SM (ec r):=by
 unfold ec;exact aD (ae8 r) λc=>aR _ (ah _) (ah _)
def ae9(N:Nat)(w:Int)(s:Bs):∀(k n i:Nat),s.length-i<=k->k<n->SM (gW N n (w,s,(i:Int))):=by
 intro k;induction k with
 |zero=>
  intro n i d f;obtain⟨n,rfl⟩:∃m,n=m+1:=⟨n-1,omq⟩;show SM (bif decide ((i:Int)<(s.length:Int)) then _ else some _);rw[amm omq];exact ah _
 |succ k g=>
  intro n i d f;obtain⟨n,rfl⟩:∃m,n=m+1:=⟨n-1,omq⟩;show SM (bif decide ((i:Int)<(s.length:Int)) then(bif decide (0<=(i:Int)) then _ else none) else some _);refine ln (λc=> ?_) λ_=>ah _;have h:(i:Int)<(s.length:Int):=amZ c;obtain⟨r,a,b,j,l⟩:=Bd s i;rw[amq (by omega:(0:Int)<=(i:Int)),amw,b];refine aD (ae8 _) λc=>aR _ (ah _) ?_;have e:((i:Int)+(a:Int))=((i+a:Nat):Int):=omq;show SM (gW N n (w,s,((i:Int)+(a:Int))));rw[e];exact g n (i+a) omq omq
def akC(N:Nat)(w:Int)(s:Bs):∀(k n i:Nat),s.length-i<=k->k<n->SM (jh N n (w,s,(i:Int))):=by
 intro k;induction k with
 |zero=>
  intro n i d f;obtain⟨n,rfl⟩:∃m,n=m+1:=⟨n-1,omq⟩;show SM (bif decide ((i:Int)<(s.length:Int)) then _ else some _);rw[amm omq];exact ah _
 |succ k h=>
  intro n i d f;obtain⟨n,rfl⟩:∃m,n=m+1:=⟨n-1,omq⟩;show SM (bif decide ((i:Int)<(s.length:Int)) then(bif decide (0<=(i:Int)) then _ else none) else some _);refine ln (λc=> ?_) λ_=>ah _;have j:(i:Int)<(s.length:Int):=amZ c;obtain⟨r,a,b,g,l⟩:=Bd s i;rw[amq (by omega:(0:Int)<=(i:Int)),amw,b];refine aD (akz r g) λc=>aR _ (ah _) ?_;have e:((i:Int)+(a:Int))=((i+a:Nat):Int):=omq;show SM (jh N n (w,s,((i:Int)+(a:Int))));rw[e];exact h n (i+a) omq omq
def akD(N:Nat)(w:Int)(s:Bs):∀(k n i:Nat),s.length-i<=k->k<n->SM (jj N n (w,s,(i:Int))):=by
 intro k;induction k with
 |zero=>
  intro n i d f;obtain⟨n,rfl⟩:∃m,n=m+1:=⟨n-1,omq⟩;show SM (bif decide ((i:Int)<(s.length:Int)) then _ else some _);rw[amm omq];exact ah _
 |succ k g=>
  intro n i d f;obtain⟨n,rfl⟩:∃m,n=m+1:=⟨n-1,omq⟩;show SM (bif decide ((i:Int)<(s.length:Int)) then(bif decide (0<=(i:Int)) then _ else none) else some _);refine ln (λc=> ?_) λ_=>ah _;have h:(i:Int)<(s.length:Int):=amZ c;obtain⟨r,a,b,j,l⟩:=Bd s i;rw[amq (by omega:(0:Int)<=(i:Int)),amw,b];refine aD (akB _) λc=>aR _ (ah _) ?_;have e:((i:Int)+(a:Int))=((i+a:Nat):Int):=omq;show SM (jj N n (w,s,((i:Int)+(a:Int))));rw[e];exact g n (i+a) omq omq
def akE(N:Nat)(a b:Int)(w:Int)(s:Bs):∀(k n i:Nat),s.length-i<=k->k<n->SM (ji N n (a,b,w,s,(i:Int))):=by
 intro k;induction k with
 |zero=>
  intro n i g h;obtain⟨n,rfl⟩:∃m,n=m+1:=⟨n-1,omq⟩;show SM (bif decide ((i:Int)<(s.length:Int)) then _ else some _);rw[amm omq];exact ah _
 |succ k j=>
  intro n i g h;obtain⟨n,rfl⟩:∃m,n=m+1:=⟨n-1,omq⟩;show SM (bif decide ((i:Int)<(s.length:Int)) then(bif decide (0<=(i:Int)) then _ else none) else some _);refine ln (λc=> ?_) λ_=>ah _;have l:(i:Int)<(s.length:Int):=amZ c;obtain⟨r,d,f,o,p⟩:=Bd s i;rw[amq (by omega:(0:Int)<=(i:Int)),amw,f];refine aD (akA _ _ _) λc=>aR _ (ah _) ?_;have e:((i:Int)+(d:Int))=((i+d:Nat):Int):=omq;show SM (ji N n (a,b,w,s,((i:Int)+(d:Int))));rw[e];exact j n (i+d) omq omq
def afa(N:Nat)(a b:Int)(w:Int)(s:Bs):∀(k n i:Nat),s.length-i<=k->k<n->SM (gX N n (a,b,w,s,(i:Int))):=by
 intro k;induction k with
 |zero=>
  intro n i g h;obtain⟨n,rfl⟩:∃m,n=m+1:=⟨n-1,omq⟩;show SM (bif decide ((i:Int)<(s.length:Int)) then _ else some _);rw[amm omq];exact ah _
 |succ k j=>
  intro n i g h;obtain⟨n,rfl⟩:∃m,n=m+1:=⟨n-1,omq⟩;show SM (bif decide ((i:Int)<(s.length:Int)) then(bif decide (0<=(i:Int)) then _ else none) else some _);refine ln (λc=> ?_) λ_=>ah _;have l:(i:Int)<(s.length:Int):=amZ c;obtain⟨r,d,f,o,p⟩:=Bd s i;rw[amq (by omega:(0:Int)<=(i:Int)),amw,f];refine aD (abu _ _ _) λc=>aR _ (ah _) ?_;have e:((i:Int)+(d:Int))=((i+d:Nat):Int):=omq;show SM (gX N n (a,b,w,s,((i:Int)+(d:Int))));rw[e];exact j n (i+d) omq omq
def akF(s:Bs)(h:s.length<100000000):SM (gy s):=by
 unfold gy bj;rw[show Nat.ble s.length 1099511627776=true from ann omq];exact ah _
def CJ{x:Option (Bool⊕Unit)}(h:SM x):SM (x.bind λy=>(match y with
 |Sum.inl c=>some c
 |Sum.inr _=>some true)):=aD h λy=>by cases y<;>exact ah _
def Kx{N:Nat}(a:FN N)(t:Int×Bs)(h:t.2.length<100000000):SM (iE N t):=by
 unfold FN at a;unfold iE;have v:=akF t.2 h;refine aR _ (aD v λ_=>aR _ (ah _) (CJ (ae9 N 0 t.2 t.2.length N 0 omq omq))) (aR _ (aD v λ_=>aR _ (ah _) (CJ (akC N 1 t.2 t.2.length N 0 omq omq))) (aR _ (aD v λ_=>aR _ (ah _) (CJ (akE N 32 126 1 t.2 t.2.length N 0 omq omq))) (aR _ (aD v λ_=>aR _ (ah _) (CJ (afa N 0 127 1 t.2 t.2.length N 0 omq omq))) (aR _ (aD v λ_=>aR _ (ah _) (CJ (afa N 32 126 1 t.2 t.2.length N 0 omq omq))) (aR _ (aD v λ_=>aR _ (ah _) (CJ (ae9 N 4 t.2 t.2.length N 0 omq omq))) (aR _ (aD v λ_=>aR _ (ah _) (CJ (akD N 2 t.2 t.2.length N 0 omq omq))) (ah _)))))))
def akG(N:Nat)(w:Int)(r:Nat)(u:r<=1114111)(s:Bs)(p:Int):∀(k n:Nat)(acc:Bs),k<n->k<=8->acc.length+k<=900000000->OW (gq N n (w,(r:Int),(k:Int)-1,acc,s,p)) λy=>∃l,y=(w,l,s,p)/\l.length=acc.length+k:=by
 intro k;induction k with
 |zero=>
  intro n acc o j i;obtain⟨n,rfl⟩:∃m,n=m+1:=⟨n-1,omq⟩;exact aa ⟨acc,rfl,rfl⟩
 |succ k t=>
  intro n acc o j i;obtain⟨n,rfl⟩:∃m,n=m+1:=⟨n-1,omq⟩;have e:((k+1:Nat):Int)-1=(k:Int):=omq;have f:iK .i64 8 (k:Int)=((8*k:Nat):Int):=by
   show IntKind.i64.wrap _=_;rw[amU _ omq];omega
  rw[e];show OW (bif decide ((k:Int)>=0) then(bif decide (0<=iK .i64 8 (k:Int)) then(toB (IntKind.wrap .u8 (xO .i32 (r:Int) (iK .i64 8 (k:Int))))).bind (λa=>(app 1 acc [a]).bind λd=>gq N n (w,(r:Int),aC .i64 (k:Int) 1,d,s,p)) else none) else some (w,acc,s,p)) _;rw[amq (by omega:(k:Int)>=0),amw,f,amq (by omega:(0:Int)<=((8*k:Nat):Int)),amw];have c:∃b,toB (IntKind.wrap .u8 (xO .i32 (r:Int) ((8*k:Nat):Int)))=some b:=by
   refine⟨UInt8.ofNat (IntKind.wrap .u8 (xO .i32 (r:Int) ((8*k:Nat):Int))).toNat,?_⟩;unfold toB;have:=IntKind.wrap_u8 (xO .i32 (r:Int) ((8*k:Nat):Int));rw[amE ⟨omq,omq⟩]
  obtain⟨b,c⟩:=c;rw[c,amj,cQ omq (by simp only[amr,amI];omega),amj,show aC .i64 (k:Int) 1=(k:Int)-1 from qc omq];obtain⟨y,q,l,g,h⟩:=t n (acc++[b]) omq omq soq;exact⟨y,q,l,g,by rw[h];simp;omega⟩
def akH{N:Nat}(j:FN N)(w:Nat)(F:w<=4)(s:Bs)(E:s.length<=100000000):∀(k n i:Nat)(acc:Bs),s.length-i<=k->k<n->acc.length<=4*i->i<=200000000->acc.length<=4*s.length->OW (bY N n ((w:Int),acc,s,(i:Int))) λl=>l.length<=4*s.length:=by
 unfold FN at j;intro k;induction k with
 |zero=>
  intro n i acc p q o _ b;obtain⟨n,rfl⟩:∃m,n=m+1:=⟨n-1,omq⟩;show OW (bif decide ((i:Int)<(s.length:Int)) then _ else some acc) _;rw[amm omq];exact aa b
 |succ k x=>
  intro n i acc p q o C b;obtain⟨n,rfl⟩:∃m,n=m+1:=⟨n-1,omq⟩;show OW (bif decide ((i:Int)<(s.length:Int)) then(bif decide (0<=(i:Int)) then(gq N N ((w:Int),(iC s (i:Int)).1,aC .i64 (w:Int) 1,acc,s,(i:Int)+(iC s (i:Int)).2)).bind (λ(v,z,A,g)=>bY N n (v,z,A,g)) else none) else some acc) _;refine aq (λc=> ?_) λ_=>aa b;have B:(i:Int)<(s.length:Int):=amZ c;obtain⟨r,a,d,t,u⟩:=Bd s i;rw[amq (by omega:(0:Int)<=(i:Int)),amw,d,qc omq];refine ag (akG N (w:Int) r t s _ w N acc omq omq omq) ?_;rintro y ⟨l,rfl,D⟩;have e:((i:Int)+(a:Int))=((i+a:Nat):Int):=omq;dsimp only;rw[e];rcases amB 200000000 (i+a) with h|f
  ·obtain⟨n,rfl⟩:∃m,n=m+1:=⟨n-1,omq⟩;show OW (bif decide (((i+a:Nat):Int)<(s.length:Int)) then _ else some l) _;rw[amm omq];exact aa (show l.length<=4*s.length by omega)
  ·exact x n (i+a) l omq omq omq f omq
def afb{N:Nat}(b:FN N)(t:Int×Bs)(h:t.2.length<10000000):OW (aV N t) λr=>r.1.length<=4*t.2.length:=by
 have d:=b;unfold FN at d;have a:∀w:Nat,w<=4->OW ((bY N N ((w:Int),[],t.2,0)).bind λl=>some (l,(0:Int))) λr=>r.1.length<=4*t.2.length:=λw g=>
  ag (akH b w g t.2 omq t.2.length N 0 [] omq omq siq omq siq) λl f=>aa f
 have e:OW ((H7 t.2).bind λs=>some (s,(0:Int))) λr=>r.1.length<=4*t.2.length:=by
  have:H7 t.2=some t.2:=by
   unfold H7 bj;rw[amE omq]
  rw[this];exact aa (show t.2.length<=_ by omega)
 unfold aV;refine ag (Kx b t omq) λc _=>aq (λ_=>aa siq) λ_=> ?_;refine aq (λ_=>e) λ_=>aq (λ_=>a 1 omq) λ_=>aq (λ_=>a 1 omq) λ_=>aq (λ_=>a 1 omq) λ_=>aq (λ_=>a 1 omq) λ_=>aq (λ_=>a 4 omq) λ_=>aq (λ_=>a 2 omq) λ_=>e
def ad5(r:Int):(Lib.encodeRune r).length<=4:=by
 unfold Lib.encodeRune Lib.encodeRuneZ;rw[am7];split
 ·simp
 ·split
  ·simp
  ·split
   ·simp
   ·split<;>simp
def Pi{α:Type}(f:α->Bs)(h:∀x,(f x).length<=4):∀l:List α,(l.flatMap f).length<=4*l.length
 |[]=>by simp
 |a::r=>by
  have b:=h a;have c:=Pi f h r;simp only[apF,amo,amr];omega
def abv(c:Bs)(wd m:Nat):(wi c wd m).length<=4*m:=by
 unfold wi;have:=Pi (λx:Fin m=>Lib.encodeRune (unitAt c wd x.val)) (λx=>ad5 _) (List.finRange m);simpa using this
def abw{α b:Type}{x:Option α}{f:α->b}{Q:b->Prop}(h:OW x λa=>Q (f a)):OW (x.map f) Q:=by
 obtain⟨a,rfl,c⟩:=h;exact⟨_,rfl,c⟩
def ai1{N:Nat}(a:FN N)(i wd:Nat)(k:Int)(c:Bs)(f:c.length<9000000):OW (Er N i wd k c) λr=>r.1.2.length<=4*c.length:=by
 unfold Er;refine aq (λ_=>aq (λ_=> ?_) λ_=>aa siq) λ_=>aa siq;have d:=abv c wd (c.length / wd);have e:c.length / wd<=c.length:=Nat.div_le_self _ _;refine abw (xR (Kx a (k,wi c wd (c.length / wd)) (show(wi c wd (c.length / wd)).length<_ by omega)) λb _=> ?_);cases b
 ·simp
 ·show(wi c wd (c.length / wd)).length<=_;omega
def afc{N:Nat}(a:FN N)(k:Int)(c:Bs)(d:c.length<9000000):OW (aK N k c) λr=>r.1.2.length<=4*c.length:=by
 rw[xi];unfold Zf;rw[show Nat.ble c.length 35184372088831=true from ann omq,amw];split
 ·refine abw (xR (Kx a (k,c) (show c.length<_ by omega)) λb _=> ?_);cases b
  ·simp
  ·show c.length<=_;omega
 ·repeat' first|exact ai1 a _ _ k c d|exact aa siq|split
end Go.Fw
namespace Go.Fw
open Go
def ad6{N:Nat}(b:FN N)(a:Bs)(j:a.length<9000000):OW (pF N a) λr=>r.1.2.length<=4*a.length:=by
 unfold pF syv;refine ag (wj b a omq) ?_;rintro⟨v,e,o⟩ (⟨d,t,c,f,g⟩|⟨c,_⟩)
 ·cases d;dsimp only;refine aq (λ_=>aa siq) λ_=>aq (λ_=>aa siq) λ_=>aq (λ_=>aa siq) λ_=> ?_;have h:=cZ t;have i:a.length=(aj t).length:=by rw[f]
  rw[g.body,amj];exact ag (afc b v.2.1 t.2.2.2 omq) λr k=>aa (by dsimp only;omega)
 ·dsimp only;rw[mq c];exact aa siq
def Mw{N:Nat}(b:FN N)(a:Bs)(d:a.length<9000000):OW (mZ N a) λr=>r.1.2.length<=4*a.length:=by
 unfold mZ syv;refine ag (ad6 b a d) λr e=> ?_;refine aq (λ_=>aa siq) λ_=>aq (λ_=>aa siq) λ_=> ?_;refine ag (R:=λ_=>True) ?_ λc _=>aq (λ_=>aa siq) λ_=>aa e;unfold qQ syv;exact aq (λ_=>aa trivial) λ_=>aa trivial
def ad7(c:Nat)(f:c<4)(k:Bool)(num:Int):OW (eM (c:Int) k num) λr=>r.2=0->∃n:Nat,n<31/\num=(n:Int):=by
 unfold eM syv;rw[amm (by omega:¬(c:Int)<0),amm (by omega:¬(c:Int)>3),amp,amp];refine aq (λ_=>aa (λh=>by simp at h)) λc1=>aq (λ_=>aa (λh=>by simp at h)) λb=> ?_;have d:¬num<0:=aod c1;have e:¬num>=31:=aod b;obtain⟨n,rfl⟩:∃n:Nat,num=(n:Int):=⟨num.toNat,omq⟩;have a:=JV (c:=c) (num:=n) k f omq;unfold eM syv at a;rw[amm (by omega:¬(c:Int)<0),amm (by omega:¬(c:Int)>3),amm d,amm e]at a;simp only[amp]at a;exact Lk a λ_=>⟨n,omq,rfl⟩
def CL{N:Nat}(g:FN N)(c:Nat)(i:c<4)(k:Bool)(num:Int)(b:Bs)(m:b.length<1000000000)(f:Int)(d:f=(c:Int)):OW (cz N f k num [b]) λr=>r.1.length<=b.length+6:=by
 subst d;have a:=g;unfold FN at a;by_cases j:∃n:Nat,n<31/\num=(n:Int)
 ·obtain⟨n,l,rfl⟩:=j;exact Lk (qo g c n k b _ _ rfl rfl i l omq) (dr (b:=b) omq)
 ·unfold cz syv;rw[qB N [b] soq a.2 soq,amj];refine ag (R:=λr=>r.1.length<=b.length+6) ?_ λr e=>aa e;unfold pu syv;refine ag (ad7 c i k num) λr e=> ?_;refine aq (λ_=>aa siq) λh=> ?_;exact absurd (e (by simpa using h)) j
def Vs{N:Nat}(a:FN N)(t:Int×Bs)(h:t.2.length<10000000):OW (iY N t) λr=>r.1.length<=4*t.2.length+6:=by
 unfold iY syv;refine ag (afb a t h) λr c=>aq (λ_=>aa siq) λ_=> ?_;exact ag (CL a 0 omq false t.1 r.1 omq 0 rfl) λq b=>aa (by first|omega|(dsimp only;omega))
def Xt{N:Nat}(s:FN N)(c:Bs)(C:c.length<9000000):OW (uP N c) λl=>l=[]∨∃a,(∀t∈a,okT t)/\c=ax a/\l=a.map aj:=by
 have h:=s;unfold FN at h;unfold uP syv;obtain⟨l,e,o,p,_⟩:=Na N c omq 0 c.length omq (amt _) omq;rw[show bT N c 0 (c.length:Int)=_ from p,amj];dsimp only;by_cases q:e=0
 ·subst q;obtain⟨a,B,d,rfl⟩:=Nc N omq c 0 c.length omq (amt _) omq l o p;rw[an4,anb]at d;have f:=Ll a [] [];rw[anc,amG,<-d,amI]at f;have r:=f.length;have x:=ez a;have u:c.length=(ax a).length:=by rw[<-d]
  rw[show((0:Int) !=0)=false from rfl,amp];have j:∀(k n i:Nat),(fV 0 a).length-i=k->k<n->i<=(fV 0 a).length->pD N n (c,fV 0 a,((fV 0 a).length:Int),(i:Int),(a.take i).map aj)=some (a.map aj):=by
   intro k;induction k with
   |zero=>
    intro n i w y v;obtain⟨n,rfl⟩:∃m,n=m+1:=⟨n-1,omq⟩;show(bif decide ((i:Int)<((fV 0 a).length:Int)) then _ else _)=_;rw[amm omq,amp,amR omq]
   |succ k A=>
    intro n i w y v;obtain⟨n,rfl⟩:∃m,n=m+1:=⟨n-1,omq⟩;have b:i<(fV 0 a).length:=omq;obtain⟨t,z,g⟩:=f.get (aml b);show(bif decide ((i:Int)<((fV 0 a).length:Int)) then _ else _)=_;rw[amq omq,amw,aM (aml b),amj,g.whole,amj,cQ omq soq,amj,bg omq];have:=A n (i+1) omq omq omq;rw[ans,z,anu]at this;exact this
  rw[show pD N N (c,fV 0 a,((fV 0 a).length:Int),0,[])=_ from j _ N 0 rfl omq omq];exact aa (.inr ⟨a,B,d.symm▸rfl,rfl⟩)
 ·rw[mq q];exact aa (.inl rfl)
def QP{N:Nat}(d:FN N)(a:Bs)(k:a.length<9000000)(n:Int):OW (uQ N a n) λr=>r.1.length<=a.length:=by
 unfold uQ syv;refine ag (wj d a omq) ?_;rintro⟨v,e,o⟩ (⟨f,t,b,g,h⟩|⟨b,_⟩)
 ·cases f;dsimp only;have i:=cZ t;have j:a.length=(aj t).length:=by rw[g]
  refine ag (sG _ _ _ _) λc _=>aq (λ_=>aa siq) λ_=> ?_;rw[h.body,amj];exact aa (by dsimp only;omega)
 ·dsimp only;rw[mq b];exact aa siq
abbrev fP:=Int×Bs×Bs×Bs×List Rdn×(Int×Bs)×Int×Bs
def GB(N B:Nat)(g:fP):Prop:=(g.2.1=[]∨gG g.2.1=true/\(fQ g.2.1).length<=B)/\g.2.2.1.length<=4*B/\g.2.2.2.1.length<=B/\nB N g.2.2.2.2.1=true/\(ju g.2.2.2.2.1).length<=B+2/\g.2.2.2.2.2.1.2.length<=4*B/\g.2.2.2.2.2.2.2.length<=4*B
def CM(N:Nat):nB N []=true/\(ju []).length=2:=⟨rfl,by decide⟩
def agE{N:Nat}(b:FN N)(k:Int)(c:Bs)(z:c.length<9000000):OW (nN N (k,c)) λr=>r.1.2.2.2.1.length<=c.length/\(r.2=true->GB N c.length r.1):=by
 unfold nN syv;refine ag (Xt b c z) λl B=> ?_;have a:OW (some (((0:Int),([]:Bs),([]:Bs),([]:Bs),([]:List Rdn),((0:Int),([]:Bs)),(0:Int),([]:Bs)),false):Option (fP×Bool)) (λr=>r.1.2.2.2.1.length<=c.length/\(r.2=true->GB N c.length r.1)):=aa ⟨by simp,λh=>by cases h⟩;refine aq (λ_=>a) λc1=> ?_;rcases B with rfl|⟨H,g,f,rfl⟩
 ·cases c1
 match H,g,f,c1 with
 |[],_,_,c1=>cases c1
 |[_],_,_,c1=>cases c1
 |_::_::_::_,_,_,c1=>exact absurd c1 (by simp only[amz,amr,bne_eq_false_iff_eq];omega)
 |[t,u],g,f,_=>
  have i:c.length=(aj t).length+(aj u).length:=by rw[f,H4,amo]
  rw[amz,ix0,amj];refine ag (wj b (aj t) omq) ?_;rintro⟨v,e,o⟩ (⟨E,S,j,Q,F⟩|⟨j,_⟩)
  ·cases E;dsimp only;rw[show((0:Int) !=0)=false from rfl,amp];refine ag (sG _ _ _ _) λc _=>aq (λ_=>a) λ_=> ?_;obtain⟨p,q,r,I,n,J,K,L,M,b7⟩:=F.bd;rw[amj];have x:v.2.2.2.2.1=(q:Int):=n;have m:0<=v.2.2.2.2.1/\v.2.2.2.2.1<=((aj t).length:Int):=⟨omq,omq⟩;refine ag (HH m.1 m.2 (aqq _)) λs C=> ?_;have D:s.length<=(aj t).length:=by rw[C,anj,amT];omega
   refine ag (qr b s omq) λd A=> ?_;rw[show ix (aj t::List.map aj [u]) 1=some (aj u) from rfl,amj];refine ag (QP b (aj u) omq 0) λw P=> ?_;rw[iH omq,amj];refine aq (λ_=>aa ⟨by dsimp only;omega,λh=> ?_⟩) λ_=>aa ⟨by dsimp only;omega,λh=>by cases h⟩;obtain⟨G,R⟩:=CM N;rcases A with⟨O,d2,y⟩|rfl
   ·exact⟨.inr ⟨d2,by rw[y];omega⟩,by simp,by dsimp only;omega,G,by dsimp only;omega,by simp,by simp⟩
   ·cases h
  ·dsimp only;rw[mq j];exact a
def Vt{N:Nat}(a:FN N)(k:Int)(c:Bs)(b:c.length<9000000):OW (oG N (k,c)) λr=>r.1.2.2.2.1.length<=c.length/\(r.2=true->GB N c.length r.1):=by
 unfold oG syv;obtain⟨e,f⟩:=CM N;exact ag (afc a 22 c b) λr d=>aa ⟨by simp,λ_=>⟨.inl rfl,d,by simp,e,by dsimp only;omega,by simp,by simp⟩⟩
def Xu{N:Nat}(k:Int)(c:Bs)(b:c.length<9000000):OW (nO (k,c)) λr=>r.1.2.2.2.1.length<=c.length/\(r.2=true->GB N c.length r.1):=by
 unfold nO syv;obtain⟨a,d⟩:=CM N;rw[iH (by dsimp only;omega),amj];exact aa ⟨amt _,λ_=>⟨.inl rfl,by simp,amt _,a,by dsimp only;omega,by simp,by simp⟩⟩
def akI{N:Nat}(e:FN N)(k:Int)(c:Bs)(f:c.length<9000000):OW (kx N (k,c)) λr=>r.1.2.2.2.1.length<=c.length/\(r.2=true->GB N c.length r.1):=by
 unfold kx syv;refine ag (Xj e c f) λr g=>aa ⟨by simp,λh=> ?_⟩;rcases g with⟨_,b,d⟩|⟨a,_⟩
 ·exact⟨.inl rfl,by simp,by simp,b,by rw[d];omega,by simp,by simp⟩
 ·exact absurd (by simpa using h) a
def akJ{N:Nat}(d:FN N)(k:Int)(c:Bs)(g:c.length<9000000):OW (na N (k,c)) λr=>r.1.2.2.2.1.length<=c.length/\(r.2=true->GB N c.length r.1):=by
 unfold na syv;obtain⟨f,i⟩:=CM N;refine ag (qr d c omq) λr e=>aa ⟨by simp,λh=> ?_⟩;rcases e with⟨_,a,b⟩|rfl
 ·exact⟨.inr ⟨a,by rw[b];exact amt _⟩,by simp,by simp,f,by dsimp only;omega,by simp,by simp⟩
 ·cases h
def agF{N:Nat}(b:FN N)(k:Int)(c:Bs)(z:c.length<9000000):OW (nP N (k,c)) λr=>r.1.2.2.2.1.length<=c.length/\(r.2=true->GB N c.length r.1):=by
 obtain⟨E,G⟩:=CM N;unfold nP syv;refine ag (Xt b c z) λl A=> ?_;have a:∀x∈l,x.length<=c.length:=by
  rcases A with rfl|⟨F,_,j,rfl⟩
  ·simp
  ·intro x f;obtain⟨t,D,rfl⟩:=anh.1 f;rw[j];exact gh F t D
 refine ag (R:=λy=>y=Sum.inr ()∨∃g i s,y=Sum.inl (g,k,i,s)/\(∀x∈g,x.length<=c.length)/\s.length<=4*c.length) ?_ ?_
 ·refine aq (λu=> ?_) λ_=>aa (.inr ⟨_,_,_,rfl,a,by simp⟩);have v:((l.length:Nat):Int)=2:=by simpa using u
  refine ag (xS omq omq) λe o=> ?_;have:=a e o.2;refine ag (QP b e omq 0) λr B=> ?_;refine ag (Mw b r.1 omq) λd m=> ?_;refine aq (λ_=>aa (.inl rfl)) λ_=>aq (λ_=>aa (.inl rfl)) λ_=> ?_;refine ag (HH omq omq (aqq _)) λs C=>aa (.inr ⟨_,_,_,rfl,λx f=> ?_,anI m omq⟩);rw[C]at f;exact a x (apU (List.mem_of_mem_drop f))
 ·rintro y (rfl|⟨g,i,s,rfl,w,j⟩)
  ·exact aa ⟨by simp,λh=>by cases h⟩
  ·dsimp only;refine aq (λ_=>aa ⟨by simp,λh=>by cases h⟩) λc1=> ?_;have q:((g.length:Nat):Int)=1:=by simpa using c1
   refine ag (xS omq omq) λe o=> ?_;have:=w e o.2;refine ag (QP b e omq 1) λr B=> ?_;refine ag (Mw b r.1 omq) λd m=> ?_;have n:d.1.2.length<=4*c.length:=anI m omq;have p:GB N c.length (k,[],[],[],[],(i,s),d.1):=⟨.inl rfl,by simp,by simp,E,by dsimp only;omega,j,n⟩;exact aq (λ_=>aa ⟨by simp,λ_=>p⟩) λ_=>aa ⟨by simp,λ_=>p⟩
def Vu{N:Nat}(a:FN N)(b:Bs)(c:b.length<10000000):SM (xt N b):=by
 unfold xt syv;exact aD (SP (ZL a b c)) λ_=>ah _
def HV{N:Nat}(a:FN N)(k:Int)(b:Bs)(c:b.length<1000000000):OW (mC N k b) λr=>r.1.length<=b.length+6:=by
 unfold mC syv;exact ag (CL a 2 omq true k b c 2 rfl) λr d=>aa d
def Xv{N:Nat}(a:FN N)(g:fP)(h:g.2.2.2.1.length<9000000):SM (mY N g):=by
 unfold mY syv;refine aR _ (aD (Vu a _ omq) λ_=>ah _) (aR _ ?_ (aR _ (aR _ (ah _) (aR _ (ah _) (aR _ (ah _) (ah _)))) (ah _)));exact Bc (HV a _ _ omq) λr b=>aR _ (aD (Vu a _ omq) λ_=>ah _) (ah _)
def RO(k:Int):SM (jn k):=by
 unfold jn syv;refine aD (aR _ (ah _) (aD (aR _ (ah _) (aD (aR _ (ah _) (ah _)) λ_=>ah _)) λ_=>ah _)) λ_=>aR _ (ah _) (ah _)
def zG:fP:=(0,[],[],[],[],(0,[]),0,[])
def akK{N:Nat}(g:FN N)(B:Nat)(c:Bs)(q:c.length<9000000)(o:c.length<=B)(x:Option (fP×Bool))(p:Int)(h:OW x λr=>r.1.2.2.2.1.length<=c.length/\(r.2=true->GB N c.length r.1)):
 OW (x.bind λ(a,b)=>bif (!b) then some (zG,(6:Int),p) else(mY N a).bind λd=>bif (!d) then some (zG,6,p) else some (a,0,0)) λr=>r.2.1=0->GB N B r.1:=by
 refine ag h λr i=> ?_;refine aq (λ_=>aa (λh=>by cases h)) λc1=> ?_;refine ag (Xv g r.1 omq) λc _=>aq (λ_=>aa (λh=>by cases h)) λ_=>aa λ_=> ?_;obtain⟨e,j,k,f,l,m,n⟩:=i.2 (by simpa using c1);refine⟨e.imp id λh=>⟨h.1,?_⟩,?_,?_,f,?_,?_,?_⟩<;>dsimp only<;>omega
def ad8{N:Nat}(d:FN N)(a:Bs)(y:a.length<9000000):OW (oX N a) λr=>r.2.1=0->GB N a.length r.1:=by
 unfold oX syv;refine ag (wj d a omq) ?_;rintro⟨v,e,o⟩ (⟨p,t,g,q,s⟩|⟨g,_⟩)
 ·cases p;have u:=cZ t;have w:a.length=(aj t).length:=by rw[q]
  dsimp only;rw[show((0:Int) !=0)=false from rfl,amp,s.body];have f:OW (some (zG,(3:Int),(0:Int)):Option (fP×Int×Int)) λr=>r.2.1=0->GB N a.length r.1:=aa λh=>by cases h
  have b:∀(i:Bool)(x:Option (fP×Bool)),OW x (λr=>r.1.2.2.2.1.length<=t.2.2.2.length/\(r.2=true->GB N t.2.2.2.length r.1))->OW (bif i then some (zG,(3:Int),(0:Int)) else(jn v.2.1).bind λk=>bif (!(v.2.2.1==k)) then some (zG,3,0) else(some t.2.2.2).bind λz=>x.bind λ(j,l)=>bif (!l) then some (zG,(6:Int),v.2.2.2.2.1) else(mY N j).bind λm=>bif (!m) then some (zG,6,v.2.2.2.2.1) else some (j,0,0)) (λr=>r.2.1=0->GB N a.length r.1):=by
   intro i x n;refine aq (λ_=>f) λ_=>ag (RO _) λc _=>aq (λ_=>f) λ_=> ?_;rw[amj];exact akK d a.length t.2.2.2 omq omq x _ n
  refine aq (λ_=>b _ _ (agE d _ _ omq)) λ_=> ?_;refine aq (λ_=>b _ _ (Vt d _ _ omq)) λ_=> ?_;refine aq (λ_=>b _ _ (Vt d _ _ omq)) λ_=> ?_;refine aq (λ_=>b _ _ (Xu _ _ omq)) λ_=> ?_;refine aq (λ_=>b _ _ (akI d _ _ omq)) λ_=> ?_;refine aq (λ_=>b _ _ (agF d _ _ omq)) λ_=> ?_;refine aq (λ_=>b _ _ (Vt d _ _ omq)) λ_=> ?_;refine aq (λ_=>b _ _ (Xu _ _ omq)) λ_=> ?_;refine aq (λ_=>b _ _ (akJ d _ _ omq)) λ_=> ?_;exact f
 ·dsimp only;rw[mq g];exact aa λh=>absurd h g
end Go.Fw
def aqn:=@List.sum_append
namespace Go.Fw
open Go
def Vv{σ e:Type}{Q:e->Prop}(F:Nat->Nat->σ->Option e)(L:Nat)(I:Nat->σ->Prop)
 (a:∀n s,I L s->OW (F (n+1) L s) Q)
 (step:∀n i s,i<L->I i s->(∀b,I (i+1) b->OW (F n (i+1) b) Q)->OW (F (n+1) i s) Q):∀n i s,i<=L->L-i<n->I i s->OW (F n i s) Q:=by
 intro n;induction n with
 |zero=>intro i s _ h;omega
 |succ n f=>
  intro i s g j d;by_cases h:i=L
  ·subst h;exact a n s d
  ·exact step n i s omq d λb c=>f (i+1) b omq omq c
def cH.snoc{α c:Type}{R:α->c->Prop}{xs:List α}{d:List c}{a:α}{b:c}(h:cH R xs d)(r:R a b):cH R (xs++[a]) (d++[b]):=by
 induction h with
 |nil=>exact .cons r .nil
 |cons e _ f=>exact .cons e f
def cH.get1{α e:Type}{R:α->e->Prop}{xs:List α}{c:List e}(h:cH R xs c){i:Nat}(d:i<c.length):∃a b,xs[i]?=some a/\c[i]?=some b/\R a b:=by
 obtain⟨a,f,g⟩:=h.get (aml d);exact⟨a,_,f,aml d,g⟩
def kI(a:List TLV):List Nat:=a.map λt=>(aj t).length
def CN:∀a:List TLV,(kI a).sum=(ax a).length
 |[]=>rfl
 |t::a=>by
  have:=CN a;unfold kI ax at*;simp only[amz,anK,List.flatten_cons,amo];omega
def NF(c:List TLV):∀b∈kI c,2<=b:=by
 intro b a;obtain⟨t,_,rfl⟩:=anh.1 a;have:=tm t;have:(aE t.2.2.2.length).length≠0:=by
  have:=KT t.2.2.2.length;unfold aE;split
  ·omega
  ·simp
 omega
def RP(a:List TLV)(i:Nat)(t:TLV)(h:a[i]?=some t):kI (a.take (i+1))=kI (a.take i)++[(aj t).length]:=by
 unfold kI;rw[ans,h,anu];rfl
def GL(N B:Nat)(c:List fP):Prop:=∃a:List Nat,cH (GB N) a c/\a.sum<=B/\∀b∈a,2<=b
def Ls:∀a:List Nat,(∀b∈a,2<=b)->2*a.length<=a.sum
 |[],_=>by simp
 |b::a,h=>by
  have d:=h b siq;have e:=Ls a λx c=>h x (by simp[c]);simp only[amr,anK];omega
def HW:∀(bs:List Nat)(i:Nat),(bs.take i).sum<=bs.sum
 |[],i=>by simp
 |b::bs,0=>by simp
 |b::bs,i+1=>by
  have:=HW bs i;simp only[aol,anK];omega
variable{Z:List fP}
def GL.len{N B:Nat}(h:GL N B Z):2*Z.length<=B:=by
 obtain⟨a,b,d,c⟩:=h;have:=Ls a c;have:=b.length;omega
def GL.mono{N B C:Nat}(h:GL N B Z)(e:B<=C):GL N C Z:=by
 obtain⟨a,b,d,c⟩:=h;exact⟨a,b,omq,c⟩
def GL.nil(N B:Nat):GL N B []:=⟨[],.nil,by simp,by simp⟩
def Vw{N:Nat}(k:FN N)(a:Bs)(E:a.length<9000000):OW (fg N a) λr=>r.2.1=0->GL N a.length r.1:=by
 have m:=k;unfold FN at m;unfold fg syv;refine ag (jt k a omq 0 16) ?_;rintro⟨l,e,o⟩ (⟨C,b,u,_,_,D,p⟩|⟨u,_⟩)
 ·cases C;have G:(ax b).length<a.length:=by rw[D];exact dq
  have c:=p.length;have z:=ez b;dsimp only at p c⊢;rw[show((0:Int) !=0)=false from rfl,amp];refine aq (λ_=>aa λ_=>GL.nil _ _) λ_=> ?_;have v:=Vv (Q:=λy:(Int×Int)⊕List fP=>∀g,y=.inr g->cH (GB N) (kI b) g) (λn i s=>rN N n (a,l,(l.length:Int),(i:Int),s)) l.length (λi s=>i<=l.length/\cH (GB N) (kI (b.take i)) s)
   (λn s f=>by
     show OW (bif decide ((l.length:Int)<(l.length:Int)) then _ else some _) _;rw[amm omq];refine aa λg h=> ?_;cases h;have:=f.2;rwa[amR omq]at this)
   (λn i s q f rec=>by
     have d:=f.2.length;unfold kI at d;rw[am7,amT]at d;show OW (bif decide ((i:Int)<(l.length:Int)) then _ else some _) _;obtain⟨t,e,w,B,x⟩:=p.get1 q;have F:=gh b t (amS w);rw[amq omq,amw,aM B,amj,x.whole,amj];refine ag (ad8 k (aj t) omq) λr A=>aq (λ_=>aa λg h=>by cases h) λc1=> ?_;rw[cQ omq soq,amj,bg omq];refine rec _ ⟨omq,?_⟩;rw[RP b i t w];exact f.2.snoc (A (by simpa using c1)))
   N 0 [] omq omq ⟨omq,.nil⟩
  refine ag v ?_;rintro(⟨i,j⟩|g) h
  ·refine aa λh=> ?_;exact GL.nil _ _
  ·exact aa λ_=>⟨kI b,h g rfl,by rw[CN];omega,NF b⟩
 ·dsimp only;rw[mq u];exact aa λh=>absurd h u
def ad9(g:fP):SM (Oj g):=Go.Proofs.Tryz.alone_sm0 g
def ai2{N:Nat}(j:FN N)(x y:Int×Bs)(B:Nat)(F:x.2.length<=4*B)(G:y.2.length<=4*B)(H:B<=200000)(c:List (Int×Bs))(m:c=[x,y])(L:Int)(I:L=(2:Nat)):OW (gR N N (c,L,0,[])) λr=>∀l,r=.inr l->l.length<=32*B+24:=by
 have k:=j;unfold FN at k;have p:=Vv (Q:=λy:Int⊕Bs=>∀g,y=.inr g->g.length<=32*B+24) (λn i s=>gR N n (c,L,(i:Int),s)) 2 (λi s=>s.length<=i*(16*B+12))
  (λn s z=>by
    show OW (bif decide (((2:Nat):Int)<L) then _ else some (Sum.inr s)) _;rw[amm omq];refine aa λg h=> ?_;cases h;omega)
  (λn i s D z rec=>by
    show OW (bif decide ((i:Int)<L) then _ else some (Sum.inr s)) _;rw[amq omq,amw];have J:i*(16*B+12)<=2*(16*B+12):=ank _ omq;have E:(i+1)*(16*B+12)=i*(16*B+12)+(16*B+12):=aoK _ _;obtain⟨e,A,C⟩:∃e,c[i]?=some e/\e.2.length<=4*B:=by
     subst m;rcases (by omega:i=0∨i=1) with rfl|rfl
     ·exact⟨x,rfl,F⟩
     ·exact⟨y,rfl,G⟩
    have w:∀b:Bs,b.length<=(i+1)*(16*B+12)->OW (gR N n (c,L,az .i64 (i:Int) 1,b)) λy:Int⊕Bs=>∀g,y=.inr g->g.length<=32*B+24:=λb h=>by
     rw[bg omq];exact rec b h
    rw[aM A,amj];have a:∀b o,o=(i:Int)->b=s->OW ((iY N e).bind λx=>match x with
     |(t,d)=>bif d !=0 then some (Sum.inl d) else(mC N o t).bind λx=>match x with
      |(u,f)=>bif f !=0 then some (Sum.inl f) else(app 1 b u).bind λv=>gR N n (c,L,az .i64 o 1,v)) λy:Int⊕Bs=>∀g,y=.inr g->g.length<=32*B+24:=by
     rintro _ _ rfl rfl;refine ag (Vs j e omq) λr M=>aq (λ_=>aa λg h=>by cases h) λ_=> ?_;refine ag (HV j i r.1 omq) λq K=>aq (λ_=>aa λg h=>by cases h) λ_=> ?_;rw[cQ omq omq,amj];refine w _ ?_;rw[amo];omega
    exact aq (λ_=>aq (λ_=>w s omq) λ_=>a s i rfl rfl) λ_=>a s i rfl rfl)
  N 0 [] omq omq siq
 exact p
def agG{N:Nat}(a:FN N)(g:fP)(B:Nat)(h:GB N B g)(u:B<=200000):OW (pI N g) λr=>r.1.length<=36*B+40:=by
 have d:=a;unfold FN at d;obtain⟨m,v,w,j,n,o,s⟩:=h;have b:OW (ko N g.2.1) λr=>r.1.length<=B+6:=by
  rcases m with h|⟨k,t⟩
  ·rw[h];refine Lk (F0 a [] siq) ?_;have:=tq [];cases gG []
   ·simp
   ·exact anI this siq
  ·have:=F1 k;refine Lk (F0 a _ omq) ?_;rw[k];exact anI t omq
 unfold pI syv;refine aq (λ_=> ?_) λ_=> ?_
 ·refine ag b λr f=>aq (λ_=>aa siq) λ_=> ?_;refine ag (CL a 0 omq false 6 r.1 omq 0 rfl) λq z=>aq (λ_=>aa siq) λ_=> ?_;refine ag (HV a 0 _ omq) λp x=> ?_;have e:([q.1,p.1]:List Bs).flatten.length=q.1.length+p.1.length:=by simp
  try dsimp only
  rw[qB N _ soq d.2 (by rw[e];omega),amj];refine aa ?_;dsimp only;rw[e];omega
 ·refine ag (R:=λy=>∃c,y=(g.1,c,g.1,g.2.1,g.2.2.1,g.2.2.2.1,g.2.2.2.2.1,g.2.2.2.2.2.1.1,g.2.2.2.2.2.1.2,g.2.2.2.2.2.2)) ?_ ?_
  ·refine aq (λ_=>aa ⟨_,rfl⟩) λ_=> ?_;refine ag (R:=λy=>∃c,y=(g.1,c,g.1,g.2.1,g.2.2.1,g.2.2.2.1,g.2.2.2.2.1,g.2.2.2.2.2.1.1,g.2.2.2.2.2.1.2,g.2.2.2.2.2.2)) ?_ ?_
   ·exact aq (λ_=>aa ⟨_,rfl⟩) λ_=>aa ⟨_,rfl⟩
   ·rintro _ ⟨c,rfl⟩;exact aa ⟨_,rfl⟩
  ·rintro _ ⟨c,rfl⟩;dsimp only;refine aq (λ_=> ?_) λ_=> ?_
   ·exact ag (afb a (22,g.2.2.1) (by dsimp only;omega)) λr f=>aa (by dsimp only at f⊢;omega)
   ·refine ag (R:=λy=>∃c,y=(g.1,c,g.1,g.2.1,g.2.2.1,g.2.2.2.1,g.2.2.2.2.1,g.2.2.2.2.2.1.1,g.2.2.2.2.2.1.2,g.2.2.2.2.2.2)) ?_ ?_
    ·exact aq (λ_=>aa ⟨_,rfl⟩) λ_=>aa ⟨_,rfl⟩
    ·rintro _ ⟨c,rfl⟩;dsimp only;refine aq (λ_=>aa (by dsimp only;omega)) λ_=>aq (λ_=> ?_) λ_=>aq (λ_=> ?_) λ_=>aq (λ_=> ?_) λ_=>aa siq
     ·have A:=Xk j;refine ag (Lk (Q:=λr=>r.1.length<=B+2) (Vh a _ omq) ?_) λr f=>aa (by first|omega|(dsimp only;omega));rw[j];exact n
     ·refine ag (ai2 a (g.2.2.2.2.2.1.1,g.2.2.2.2.2.1.2) g.2.2.2.2.2.2 B o s u _ rfl _ rfl) ?_;rintro(i|l) h
      ·exact aa siq
      ·have:=h l rfl;exact aa (by dsimp only;omega)
     ·exact ag b λr f=>aa (by first|omega|(dsimp only;omega))
def al4{N:Nat}(a:FN N)(g:fP)(B:Nat)(h:GB N B g)(b:B<=200000):OW (ri N g) λr=>r.1.length<=36*B+60:=by
 unfold ri syv;refine ag (ad9 g) λc _=>aq (λ_=>aa siq) λ_=> ?_;refine ag (Xv a g (by have:=h.2.2.1;omega)) λc _=>aq (λ_=>aa siq) λ_=> ?_;refine ag (agG a g B h b) λr e=>aq (λ_=>aa siq) λ_=> ?_;refine ag (RO _) λc _=> ?_;refine ag (CL a 2 omq c g.1 r.1 omq 2 rfl) λq d=> ?_;refine ag (ad8 a q.1 omq) λp _=>aq (λ_=>aa siq) λ_=>aq (λ_=>aa siq) λ_=> ?_;exact aa (by dsimp only;omega)
def akL{N:Nat}(e:FN N)(a:List fP)(B:Nat)(h:GL N B a)(E:B<=200000):OW (nj N a) λr=>r.1.length<=66*B+6:=by
 have f:=e;unfold FN at f;have x:=h.len;obtain⟨d,q,D,u⟩:=h;unfold nj syv;have o:=Vv (Q:=λy:Int⊕List Bs=>∀l,y=.inr l->l.length<=a.length/\l.flatten.length<=66*B) (λn i s=>pK N n (a,(a.length:Int),(i:Int),s)) a.length (λi s=>s.length=i/\s.flatten.length<=66*(d.take i).sum)
  (λn s w=>by
    show OW (bif decide ((a.length:Int)<(a.length:Int)) then _ else some _) _;rw[amm omq];refine aa λg h=> ?_;cases h;have:=HW d a.length;exact⟨by first|omega|(dsimp only;omega),by first|omega|(dsimp only;omega)⟩)
  (λn i s j w rec=>by
    show OW (bif decide ((i:Int)<(a.length:Int)) then _ else some _) _;obtain⟨b,g,p,C,v⟩:=q.get1 j;have t:=u b (amS p);have m:(d.take (i+1)).sum=(d.take i).sum+b:=by
     rw[ans,p,aqn];simp
    have A:=HW d (i+1);rw[amq omq,amw,aM C,amj];refine ag (al4 e g b v omq) λr F=>aq (λ_=>aa λg h=>by cases h) λc1=> ?_;rw[cQ omq soq,amj,bg omq];refine rec _ ⟨by simp;omega,?_⟩;rw[aoU,amo,m];simp only[List.flatten_cons,List.flatten_nil,amG];omega)
  N 0 [] omq omq ⟨rfl,by simp⟩
 refine ag o ?_;rintro(i|l) z
 ·exact aa siq
 ·obtain⟨G,H⟩:=z l rfl;refine aq (λ_=>aa siq) λ_=> ?_;rw[Pv e l omq omq,amj];have:=dr (c:=0) (k:=true) (num:=16) (b:=l.flatten) omq;exact aa (by dsimp only;omega)
def Vx{N:Nat}(c:FN N)(a:List fP)(B:Nat)(h:GL N B a)(b:B<=200000):SM (gn N a):=by
 unfold gn syv;exact ag (akL c a B h b) λr _=>ah _
end Go.Fw
namespace Go.Fw
open Go
def cV{σ β:Type}{Q:β->Prop}(b:(σ->Option β)->σ->Option β)(L:Nat)(I:Nat->σ->Prop)
 (step:∀(G:σ->Option β) i s,i<=L->I i s->(∀a,i<L->I (i+1) a->OW (G a) Q)->OW (b G s) Q):
 ∀n i s,i<=L->L-i<n->I i s->OW (Nat.rec (motive:=λ_=>σ->Option β) (λ_=>none) (λ_ G=>b G) n s) Q:=by
 intro n;induction n with
 |zero=>intro i s _ h;omega
 |succ n f=>exact λi s e j d=>step _ i s e d λa g c=>f (i+1) a omq omq c
def IN(a:Bs)(l:List aJ):Prop:=∀e∈l,0<=e.2.2.2.1/\e.2.2.2.1<=e.2.2.2.2.1/\e.2.2.2.2.1<=e.2.2.2.2.2/\e.2.2.2.2.2<=(a.length:Int)
def EL.ei{a:Bs}{t:TLV}{e:aJ}(h:EL a t e):0<=e.2.2.2.1/\e.2.2.2.1<=e.2.2.2.2.1/\e.2.2.2.2.1<=e.2.2.2.2.2/\e.2.2.2.2.2<=(a.length:Int):=by
 obtain⟨p,q,r,b,c,d,f,g,i,_⟩:=h.bd;rw[b,c,d];omega
def cH.mem{α β:Type}{R:α->β->Prop}{xs:List α}{b:List β}(h:cH R xs b):∀y∈b,∃x∈xs,R x y:=by
 induction h with
 |nil=>intro y a;cases a
 |cons r _ e=>
  intro y a;rcases amN.1 a with rfl|a
  ·exact⟨_,by simp,r⟩
  ·obtain⟨x,d,c⟩:=e y a;exact⟨x,by simp[d],c⟩
def cH.inn{a:Bs}{d:List TLV}{l:List aJ}(h:cH (EL a) d l):IN a l:=λe c=>by
 obtain⟨t,_,b⟩:=h.mem e c;exact b.ei
def qK(N:Nat)(a:Bs)(c n:Int):OP (ba N a c n) λr=>r.2.1≠0->r.1=[]:=by
 unfold ba syv;refine aB (cU _) λr _=>aF (λ_=>ay λ_=>rfl) λ_=> ?_;refine aB (cU _) λc _=>aF (λ_=>ay λ_=>rfl) λ_=> ?_;refine aB (R:=λr=>r.2.1≠0->r.1=[]) ?_ λr h=>ay h;unfold bT syv;refine aF (λ_=>ay λ_=>rfl) λ_=>aF (λ_=>ay λ_=>rfl) λ_=>aF (λ_=>ay λ_=>rfl) λ_=> ?_;refine aB (cU _) ?_;rintro(⟨i,j⟩|⟨i,j,l⟩) _
 ·exact ay λ_=>rfl
 ·exact ay λh=>absurd rfl h
section
variable {β:Type}{Q:β→Prop}
def Lt{N:Nat}(q:FN N){a:Bs}{g k:Int}(c n:Nat)(r:g=(c:Int))(s:k=(n:Int))(x:a.length<9000000){f:List aJ×Int×Int->Option β}(m:∀e o,e≠0->OW (f ([],e,o)) Q)(h:∀l,IN a l->2*l.length<=a.length->OW (f (l,0,0)) Q):OW ((ba N a g k).bind f) Q:=by
 subst r s;refine ag (AT (jt q a omq c n) (qK N a _ _)) ?_;rintro⟨l,e,o⟩ ⟨⟨t,b,d,_,_,u,j⟩|⟨d,_⟩,v⟩
 ·cases t;refine h l j.inn ?_;have h:b.length=l.length:=j.length;have p:=CN b;have i:=Ls (kI b) (NF b);have w:(ax b).length<a.length:=by rw[u];exact dq
  unfold kI at i;rw[am7]at i;unfold kI at p;omega
 ·obtain rfl:l=[]:=v d;exact m e o d
def yg{N:Nat}(d:FN N){a:Bs}(g:a.length<9000000){f:List aJ×Int×Int->Option β}(b:∀e o,e≠0->OW (f ([],e,o)) Q)(c:∀l,IN a l->2*l.length<=a.length->OW (f (l,0,0)) Q):OW ((ba N a 0 16).bind f) Q:=Lt d 0 16 rfl rfl g b c
def Zs{N:Nat}(k:FN N){a:Bs}(n:a.length<9000000){f:aJ×Int×Int->Option β}(i:∀v e o,e≠0->OW (f (v,e,o)) Q)(j:∀v:aJ,0<=v.2.2.2.1->v.2.2.2.1<=v.2.2.2.2.1->v.2.2.2.2.1<=v.2.2.2.2.2->v.2.2.2.2.2<=(a.length:Int)->OW (f (v,0,0)) Q):OW ((cm N a).bind f) Q:=by
 refine ag (wj k a omq) ?_;rintro⟨v,e,o⟩ (⟨l,t,b,p,m⟩|⟨b,_⟩)
 ·cases l;obtain⟨c,d,g,h⟩:=m.ei;exact j v c d g h
 ·exact i v e o b
def zA{a:Bs}{l:List aJ}{i:Int}{f:aJ->Option β}(o:IN a l)(j:0<=i)(m:i<(l.length:Int))(k:∀e:aJ,0<=e.2.2.2.1->e.2.2.2.1<=e.2.2.2.2.1->e.2.2.2.2.1<=e.2.2.2.2.2->e.2.2.2.2.2<=(a.length:Int)->ix l i=some e->OW (f e) Q):OW ((ix l i).bind f) Q:=by
 obtain⟨e,h,n⟩:=xS j m;obtain⟨b,c,d,g⟩:=o e n.2;rw[h];exact k e b c d g h
def Zt{α:Type}{l:List α}{i:Int}{e:α}{f:α->Option β}(h:ix l i=some e)(k:OW (f e) Q):OW ((ix l i).bind f) Q:=by rw[h];exact k
def wm{α:Type}{a:List α}{i j:Int}{f:List α->Option β}(b:0<=i)(c:i<=j)(d:j<=(a.length:Int))(k:∀s:List α,s.length<=a.length->(s.length:Int)=j-i->OW (f s) Q):OW ((slc a i j).bind f) Q:=by
 refine ag (HH b c d) λs e=> ?_;have:s.length=min j.toNat a.length-i.toNat:=by rw[e,anj,amT]
 exact k s omq omq
def Vy{b:Bs}{a:List aJ}{i j:Int}{f:List aJ->Option β}(m:IN b a)(g:0<=i)(h:i<=j)(l:j<=(a.length:Int))(k:∀s:List aJ,IN b s->s.length<=a.length->(s.length:Int)=j-i->OW (f s) Q):OW ((slc a i j).bind f) Q:=by
 refine ag (HH g h l) λs d=> ?_;have:s.length=min j.toNat a.length-i.toNat:=by rw[d,anj,amT]
 refine k s (λe c=>m e ?_) omq omq;rw[d]at c;exact apU (List.mem_of_mem_drop c)
def Zu{e:aJ}{c n:Int}{k:Bool}{f:Bool->Option β}(h:∀b,OW (f b) Q):OW ((eu e c k n).bind f) Q:=ag (sG e c n k) λb _=>h b
def FQ{s:Bs}{f:Bs->Option β}(a:s.length<10000000)(k:OW (f s) Q):OW ((cC s).bind f) Q:=by rw[iH a];exact k
def Lj{α:Type}{w:Nat}{l:List α}{x:α}{f:List α->Option β}(b:w<=200)(h:l.length<100000000)(k:∀a:List α,a=l++[x]->a.length=l.length+1->OW (f a) Q):OW ((app w l [x]).bind f) Q:=by
 rw[cQ b soq];exact k _ rfl siq
def bx{α:Type}{x:α}{f:α->Option β}(h:OW (f x) Q):OW ((some x).bind f) Q:=h
def eK{α γ:Type}{x:Option α}{g:α->Option γ}{f:γ->Option β}(h:OW (x.bind λa=>(g a).bind f) Q):OW ((x.bind g).bind f) Q:=by
 rw[Option.bind_assoc];exact h
def eA{α:Type}{c:Bool}{x y:Option α}{f:α->Option β}(a:OW (bif c then x.bind f else y.bind f) Q):OW ((bif c then x else y).bind f) Q:=by
 cases c<;>exact a
def od{e:Int}{x y:Option β}(a:e≠0->OW x Q)(b:e=0->OW y Q):OW (bif (e !=0) then x else y) Q:=aq (λh=>a (by simpa using h)) λh=>b (by simpa using h)
def QH{e d:Int}{x y:Option β}(a:e=d->OW x Q)(b:e≠d->OW y Q):OW (bif (e==d) then x else y) Q:=aq (λh=>a (by simpa using h)) λh=>b (by simpa using h)
def afd{e d:Int}{x y:Option β}(a:e≠d->OW x Q)(b:e=d->OW y Q):OW (bif (e !=d) then x else y) Q:=aq (λh=>a (by simpa using h)) λh=>b (by simpa using h)
def aN{p:Prop}[Decidable p]{x y:Option β}(a:p->OW x Q)(b:¬p->OW y Q):OW (bif decide p then x else y) Q:=aq (λh=>a (amZ h)) λh=>b (aod h)
def gF{c:Bool}{x y:Option β}(h:OW (bif c then y else x) Q):OW (bif !c then x else y) Q:=by cases c<;>exact h
def k_t{x y:Option β}(h:OW x Q):OW (bif true then x else y) Q:=h
def k_f{x y:Option β}(h:OW y Q):OW (bif false then x else y) Q:=h
def k_c(c:Bool){x y:Option β}(a:OW x Q)(b:OW y Q):OW (bif c then x else y) Q:=aq (λ_=>a) λ_=>b
def fG{α:Type}{x:Option α}{f:α->Option β}(h:SM x)(k:∀a,OW (f a) Q):OW (x.bind f) Q:=ag h λa _=>k a
def DU{α γ:Type}{x:Option (α×γ)}{f:α×γ->Option β}(h:SM x)(k:∀a b,OW (f (a,b)) Q):OW (x.bind f) Q:=ag h λa _=>k a.1 a.2
def Zv{α γ d:Type}{x:Option (α×γ×d)}{f:α×γ×d->Option β}(h:SM x)(k:∀a b c,OW (f (a,b,c)) Q):OW (x.bind f) Q:=ag h λa _=>k a.1 a.2.1 a.2.2
def Vz{N:Nat}(d:FN N){a:Bs}{f:Bs×Int->Option β}(g:a.length<9000000)(k:∀s e,s.length<=21*(a.length+1)->OW (f (s,e)) Q):OW ((dj N a).bind f) Q:=by
 refine ag (qr d a omq) ?_;rintro⟨s,e⟩ (⟨_,b,c⟩|h)
 ·dsimp only at b c;have:=F1 b;rw[c]at this;exact k s e omq
 ·cases h;exact k _ _ siq
def Zw{N:Nat}(c:FN N){a:Bs}{f:Bs×Int->Option β}(d:a.length<9000000)(k:∀s,s.length<=a.length+6->OW (f (s,0)) Q):OW ((eF N [a]).bind f) Q:=by
 have b:([a]:List Bs).flatten=a:=by simp
 rw[Pv c [a] siq (by rw[b];omega),b,amj];exact k _ (dr omq)
variable{Z:Int}
def ai3{N:Nat}(g:FN N)(c:Nat)(h:c<4){b:Bool}{n:Int}{a:Bs}(d:Z=(c:Int)){f:Bs×Int->Option β}(j:a.length<9000000)(k:∀s e,s.length<=a.length+6->OW (f (s,e)) Q):OW ((cz N Z b n [a]).bind f) Q:=
 ag (CL g c h b n a omq Z d) λr i=>k r.1 r.2 i
def QQ{N:Nat}(c:FN N){b:Bool}{n:Int}{a:Bs}{f:Bs×Int->Option β}(d:a.length<9000000)(k:∀s e,s.length<=a.length+6->OW (f (s,e)) Q):OW ((cz N 0 b n [a]).bind f) Q:=ai3 c 0 omq rfl d k
def aea{N:Nat}(b:FN N){a:Bs}{f:fP×Int×Int->Option β}(c:a.length<9000000)(k:∀g e o,(e=0->GB N a.length g)->OW (f (g,e,o)) Q):OW ((oX N a).bind f) Q:=ag (ad8 b a c) λr d=>k r.1 r.2.1 r.2.2 d
def Zx{N:Nat}(b:FN N){a:Bs}{f:List fP×Int×Int->Option β}(c:a.length<9000000)(k:∀g e o,(e=0->GL N a.length g)->OW (f (g,e,o)) Q):OW ((fg N a).bind f) Q:=ag (Vw b a c) λr d=>k r.1 r.2.1 r.2.2 d
def VA{N:Nat}(b:FN N){a:Bs}{f:Fw.Node×Int×Int->Option β}(c:a.length<9000000)(k:∀t e o,OW (f (t,e,o)) Q):OW ((fx N a).bind f) Q:=ag (ZL b a omq) λr _=>k r.1 r.2.1 r.2.2
end
def Lu{P:Prop}(h:P:=by repeat (first|with_reducible exact(zz _)|with_reducible exact aa trivial|with_reducible refine od (λ_=> ?_) (λ_=> ?_)|with_reducible refine QH (λ_=> ?_) (λ_=> ?_)|with_reducible refine afd (λ_=> ?_) (λ_=> ?_)|with_reducible refine aN (λ_=> ?_) (λ_=> ?_)|with_reducible refine gF ?_|with_reducible refine k_t ?_|with_reducible refine k_f ?_|with_reducible refine k_c _ ?_ ?_|(with_reducible refine bx ?_<;>try dsimp only)|with_reducible refine eK ?_|with_reducible refine eA ?_|with_reducible refine Zu (λ_=> ?_)|with_reducible refine Zt asq ?_|with_reducible refine zA asq omq omq (λ_ _ _ _ _ _=> ?_)|with_reducible refine Vy asq omq omq omq (λ_ _ _ _=> ?_)|with_reducible refine wm omq omq omq (λ_ _ _=> ?_)|with_reducible refine FQ omq ?_|with_reducible refine Lj omq omq (λ_ _ _=> ?_)|(with_reducible refine Vz asq omq (λ_ _ _=> ?_)<;>try dsimp only)|(with_reducible refine yg asq omq (λ_ _ _=> ?_) (λ_ _ _=> ?_)<;>try dsimp only)|(with_reducible refine Zs asq omq (λ_ _ _ _=> ?_) (λ_ _ _ _ _=> ?_)<;>try dsimp only)|(with_reducible refine Zw asq omq (λ_ _=> ?_)<;>try dsimp only)|(with_reducible refine QQ asq omq (λ_ _ _=> ?_)<;>try dsimp only)|(with_reducible refine aea asq omq (λ_ _ _ _=> ?_)<;>try dsimp only)|(with_reducible refine Zx asq omq (λ_ _ _ _=> ?_)<;>try dsimp only)|(with_reducible refine VA asq omq (λ_ _ _=> ?_)<;>try dsimp only)|(exfalso;omega)|(exfalso;dsimp only at*;omega)|dsimp only)):P:=h
def aeb{N:Nat}(b:FN N)(a:Bs)(c:a.length<9000000):SM (zm N a):=by
 unfold zm syv
 (have zz:∀(P:Prop)(h:P:=by exact trivial),P:= @id;exact Lu)
def ai4{N:Nat}(b:FN N)(l:List Bs)(B:Nat)(d:B<9000000)(f:l.length<9000000)(h:∀x∈l,x.length<=B):SM (ic N l):=by
 have a:=b;unfold FN at a;unfold ic syv;refine fG ?_ λy=> ?_
 ·unfold jF syv;refine cV _ l.length (λi s=>∃j,s=(l,(l.length:Int),j)/\j=(i:Int)) ?_ N 0 _ omq omq ⟨_,rfl,rfl⟩;rintro G i _ e ⟨j,rfl,rfl⟩ rec;dsimp only;refine aN (λ_=> ?_) (λ_=>aa trivial);refine ag (xS omq omq) λx c=> ?_;have:=h x c.2;unfold Dj syv;refine fG (aD (aeb b x omq) λ_=>ah _) λ_=> ?_
  (have zz:∀(P:Prop)(h:P:=by exact rec _ omq ⟨_,rfl,bg omq⟩),P:= @id;exact Lu)
 ·cases y<;>exact ah _
def aec{N:Nat}(a:FN N)(l:List Bs)(B:Nat)(b:B<9000000)(c:l.length<9000000)(h:∀x∈l,x.length<=B):SM (sn N l):=by
 unfold sn syv;refine aR _ ?_ (ah _);refine aD (AU (QK a l omq λx d=>by have:=h x d;omega)) λ_=>aR _ ?_ (ah _);unfold jH syv;exact aD (aD (ai4 a l B b c h) λ_=>ah _) λ_=>ah _
def aed{N:Nat}(p:FN N)(s a:Bs)(A:a.length<9000000):SM (mX N s a):=by
 have q:=p;unfold FN at q;have w:∀(l:List aJ)(v:Int×Int),IN a l->2*l.length<=a.length->OW (ir N N (a,l,(l.length:Int),0,[],[],s,v)) λr=>r.2.1.length<=l.length/\∀x∈r.2.1,x.length<=a.length:=by
  rintro l ⟨E,F⟩ B k;unfold ir syv;refine cV _ l.length (λi D=>∃j c,D=(a,l,(l.length:Int),j,[],c,s,E,F)/\j=(i:Int)/\c.length<=i/\∀x∈c,x.length<=a.length) ?_ N 0 _ omq omq ⟨_,_,rfl,rfl,by simp,by simp⟩;rintro G i _ H ⟨j,c,rfl,rfl,hc1,hc2⟩ rec;dsimp only;refine aN (λ_=> ?_) (λ_=>aa ⟨by dsimp only;omega,hc2⟩);refine zA B omq omq λe _ _ _ _ _=>wm omq omq omq λx C _=>FQ omq (Lj omq omq λI t _=> ?_);refine rec _ omq ⟨_,_,rfl,bg omq,omq,?_⟩;rw[t];intro y f;rcases am6.1 f with f|f
  ·exact hc2 y f
  ·rw[anl.1 f];exact C
 unfold mX syv;have d:∀(l:List aJ)(v:Int×Int),IN a l->2*l.length<=a.length->OW ((ir N N (a,l,(l.length:Int),0,[],[],s,v)).bind λx=>match x with
  |(_,b,g,u,_)=>bif (u==0) then(sn N b).bind λm=>some ((g,b),m) else some ((g,b),false)) λ_=>True:=by
  intro l v n k;refine ag (w l v n k) λr z=> ?_;refine aq (λ_=> ?_) λ_=>aa trivial;exact aD (aec p _ a.length omq (Nat.lt_of_le_of_lt z.1 omq) z.2) λ_=>ah _
 refine Lt p 0 17 rfl rfl A (λe o _=>d [] (e,o) (λ_ h=>by cases h) siq) λl n k=>d l (0,0) n k
def abx{N:Nat}(b:FN N)(a:Bs)(k:a.length<9000000):SM (kM N a):=by
 have d:=b;unfold FN at d;have f:∀a:Bs,a.length<9000000->SM (ie N a):=λa k=>by
  unfold ie syv
  (have zz:∀(P:Prop)(h:P:=by exact DU (aed b _ _ omq) λ_ _=>aa trivial),P:= @id;exact Lu)
 unfold kM lY kb syv;refine bx (DU ?_ λ_ _=>aa trivial);refine Lt b 0 16 rfl rfl k (λe o h=>od (λ_=>aa trivial) λg=>absurd g h) λl m g=> ?_;dsimp only;refine od (λ_=>aa trivial) λ_=>fG ?_ λy=> ?_
 ·unfold jd syv;refine cV _ l.length (λi s=>∃j c,s=(a,l,(l.length:Int),j,c)/\j=(i:Int)/\c.length<=i) ?_ N 0 _ omq omq ⟨_,_,rfl,rfl,by simp⟩;rintro G i _ p ⟨j,c,rfl,rfl,n⟩ rec;dsimp only;refine aN (λ_=> ?_) (λ_=>aa trivial);refine zA m omq omq λe _ _ _ _ _=>wm omq omq omq λx q _=>DU (f x omq) λ_ _=> ?_
  (have zz:∀(P:Prop)(h:P:=by exact rec _ omq ⟨_,_,rfl,bg omq,omq⟩),P:= @id;exact Lu)
 ·rcases y with i|⟨x,y⟩
  ·exact ah _
  ·exact aR _ (ah _) (ah _)
def Zy{N:Nat}(g:FN N)(a:Bs)(k:a.length<9000000):SM (nk N a):=by
 have b:=g;unfold FN at b;have d:∀a:Bs,a.length<9000000->SM (gM N a):=λa k=>by
  unfold gM qS syv
  (have zz:∀(P:Prop)(h:P:=by exact trivial),P:= @id;exact Lu)
 unfold nk pN jL syv;refine bx (DU ?_ λ_ _=>aa trivial);refine Lt g 0 16 rfl rfl k (λe o h=>od (λ_=>aa trivial) λf=>absurd f h) λl m f=> ?_;dsimp only;refine od (λ_=>aa trivial) λ_=>fG ?_ λy=> ?_
 ·unfold iX syv;refine cV _ l.length (λi s=>∃j c,s=(a,l,(l.length:Int),j,c)/\j=(i:Int)/\c.length<=i) ?_ N 0 _ omq omq ⟨_,_,rfl,rfl,by simp⟩;rintro G i _ p ⟨j,c,rfl,rfl,n⟩ rec;dsimp only;refine aN (λ_=> ?_) (λ_=>aa trivial);refine zA m omq omq λe _ _ _ _ _=>wm omq omq omq λx q _=>DU (d x omq) λ_ _=> ?_
  (have zz:∀(P:Prop)(h:P:=by exact rec _ omq ⟨_,_,rfl,bg omq,omq⟩),P:= @id;exact Lu)
 ·rcases y with i|⟨x,y⟩
  ·exact ah _
  ·exact aR _ (ah _) (ah _)
end Go.Fw
namespace Go.Fw
def amd{α β:Type}{Q:β->Prop}{x:Option α}{f:α->Option β}(h:OW (x.bind f) Q):OW x λa=>OW (f a) Q:=by
 cases x with
 |none=>obtain⟨_,h,_⟩:=h;cases h
 |some a=>exact⟨a,rfl,h⟩
def ame{α:Type}{Q:α->Prop}{c:Bool}{x y:Option α}(h:OW (cond c x y) Q):OW (cond c x y) Q:=h
def ajS{p q:Prop}(h:p->q)(k:p):q:=h k
section
variable {β:Type}{Q:β→Prop}
def KG{N:Nat}(u:FN N){a:Bs}{i j:Int}{f:List aJ×Int×Int->Option β}(z:0<=i)(A:i<=j)(B:j<=(a.length:Int))(C:a.length<9000000)(v:∀e o,e≠0->OW (f ([],e,o)) Q)(w:∀l o,IN a l->2*l.length<=a.length->OW (f (l,0,o)) Q):OW ((bT N a i j).bind f) Q:=by
 unfold FN at u;obtain⟨i,rfl⟩:∃n:Nat,i=(n:Int):=⟨i.toNat,omq⟩;obtain⟨j,rfl⟩:∃n:Nat,j=(n:Int):=⟨j.toNat,omq⟩;obtain⟨l,e,o,h,_⟩:=Na N a omq i j omq omq omq;have g:OP (bT N a (i:Int) (j:Int)) λr=>r.2.1≠0->r.1=[]:=by
  unfold bT syv;refine aF (λ_=>ay λ_=>rfl) λ_=>aF (λ_=>ay λ_=>rfl) λ_=>aF (λ_=>ay λ_=>rfl) λ_=> ?_;refine aB (cU _) ?_;rintro(⟨i,j⟩|⟨i,j,l⟩) _
  ·exact ay λ_=>rfl
  ·exact ay λh=>absurd rfl h
 have s:=g _ h;rw[h];by_cases d:e=0
 ·subst d;obtain⟨b,q1,p,rfl⟩:=Nc N omq a i j omq omq omq l o h;have c:=Ll b (a.take i) (a.drop j);have t:a.take i++ax b++a.drop j=a:=by
   rw[<-p];have m:=anD i (a.take j);rw[List.take_take,aqm omq]at m;rw[m,anD]
  rw[t,amT,aqm omq]at c;refine w _ _ c.inn ?_;have x:b.length=(fV i b).length:=c.length;have q:=CN b;have k:=Ls (kI b) (NF b);have y:(ax b).length<=a.length:=by rw[<-p,anj,amT];omega
  unfold kI at k;rw[am7]at k;unfold kI at q;omega
 ·obtain rfl:l=[]:=s d;exact v e o d
def PB{α:Type}{a:List α}{x y j:Int}{f:List α->Option β}(b:0<=x+y)(c:x+y<=j)(d:j<=(a.length:Int))(e:a.length<9000000)(k:∀s:List α,s.length<=a.length->(s.length:Int)=j-(x+y)->OW (f s) Q):OW ((slc a (az .i64 x y) j).bind f) Q:=by
 rw[bX ⟨omq,omq⟩];exact wm b c d k
def ST{α:Type}{l:List α}{i:Int}{f:α->Option β}(a:0<=i)(b:i<(l.length:Int))(k:∀e,ix l i=some e->OW (f e) Q):OW ((ix l i).bind f) Q:=by
 obtain⟨e,h,c⟩:=xS a b;rw[h];exact k e h
def SU{N:Nat}(g:FN N){a:Bs}{f:Rdn×Int×Int->Option β}(i:a.length<9000000)(k:∀r e o,(e=0->wR r<=32*a.length)->OW (f (r,e,o)) Q):OW ((ed N a).bind f) Q:=by
 refine ag (aa8 g a i) ?_;rintro⟨r,e,o⟩ (⟨b,c,d⟩|⟨b,_⟩)
 ·have:=aa9 c;refine k r e o λ_=> ?_;rw[<-d];exact this
 ·exact k r e o λh=>absurd h b
def PC{a:Bs}{f:Bool×Int->Option β}(k:∀b e,OW (f (b,e)) Q):OW ((dY a).bind f) Q:=DU (Xs a) k
def Ly{N:Nat}(c:FN N){a:Bs}{f:Int×Int->Option β}(d:a.length<10000000)(k:∀b e,OW (f (b,e)) Q):OW ((iL N a 9).bind f) Q:=DU (Vr c a d) k
def amf{α:Type}{x:Option α}{v:α}{f:α->Option β}(h:x=some v)(k:OW (f v) Q):OW (x.bind f) Q:=by rw[h];exact k
def ak9{N:Nat}(a:FN N){g:List fP}{f:Bool->Option β}(h:GL N 200000 g)(c:∀b,OW (f b) Q):OW ((gn N g).bind f) Q:=fG (Vx a g _ h (amt _)) c
def amg{a:Bs}{f:Bool->Option β}(c:∀b,OW (f b) Q):OW ((oW a).bind f) Q:=fG (AU (gB _)) c
end
def aeE{P:Prop}(h:P:=by first|assumption|exact GL.nil _ _|refine GL.mono asq omq|refine GL.mono (ajS asq asq) omq):P:=h
def aeF{P:Prop}(h:P:=by repeat' (first|((conv=>arg 1;whnf);first|exact⟨_,rfl,trivial⟩|refine adK rfl ?_|(refine ame ?_;(conv=>arg 1;arg 1;dsimp only[bC]);first|refine gF ?_|(refine QH (λ_=> ?_) (λ_=> ?_)<;>try (exfalso;omega))|(refine aN (λ_=> ?_) (λ_=> ?_)<;>try (exfalso;omega))|refine k_c _ ?_ ?_)|((try refine Zd ?_);(conv=>arg 1;whnf);(try refine QJ ?_);(conv=>arg 1;whnf;dsimp only[bC]);refine amd ?_;first|refine Zu (λ_=> ?_)|refine amf asq ?_|refine zA asq omq omq (λ_ _ _ _ _ _=> ?_)|refine Vy asq omq omq omq (λ_ _ _ _=> ?_)|refine wm omq omq omq (λ_ _ _=> ?_)|refine FQ omq ?_|refine Lj omq omq (λ_ _ _=> ?_)|refine Vz hNN omq (λ_ _ _=> ?_)|refine yg hNN omq (λ_ _ _=> ?_) (λ_ _ _=> ?_)|refine Zs hNN omq (λ_ _ _ _=> ?_) (λ_ _ _ _ _=> ?_)|refine Zw hNN omq (λ_ _=> ?_)|refine QQ hNN omq (λ_ _ _=> ?_)|refine aea hNN omq (λ_ _ _ _=> ?_)|refine Zx hNN omq (λ_ _ _ _=> ?_)|refine VA hNN omq (λ_ _ _=> ?_)|refine ST omq omq (λ_ _=> ?_)|refine PB omq omq omq omq (λ_ _ _=> ?_)|refine SU hNN omq (λ_ _ _ _=> ?_)|refine ak9 hNN aeE (λ_=> ?_)|refine amg (λ_=> ?_)|refine KG hNN omq omq omq omq (λ_ _ _=> ?_) (λ_ _ _ _=> ?_)|refine PC (λ_ _=> ?_)|refine Ly hNN omq (λ_ _=> ?_))|refine Zd ?_|refine QJ ?_)|(exfalso;omega)|exact zz _)):P:=h
end Go.Fw
namespace Go.Fw
def al0{P:Prop}(h:P:=by first|assumption|exact anI (ajS asq asq) omq):P:=h
end Go.Fw
namespace Go.Proofs.Tryz
open Go Go.Fw
attribute [local irreducible] slc cC ix app
attribute [local semireducible] Ix
set_option maxRecDepth 6000
set_option maxHeartbeats 0
def keyid_sm0(a:Bs)(b:a.length<190000):SM (zw.run a):=by
 refine Ze ?_;exact aeF
end Go.Proofs.Tryz
namespace Go.Fw
open Go
def bH{P:Prop}(h:P:=by repeat (first|with_reducible exact(zz _)|with_reducible exact aa trivial|with_reducible refine od (λ_=> ?_) (λ_=> ?_)|with_reducible refine QH (λ_=> ?_) (λ_=> ?_)|with_reducible refine afd (λ_=> ?_) (λ_=> ?_)|with_reducible refine aN (λ_=> ?_) (λ_=> ?_)|with_reducible refine gF ?_|with_reducible refine k_t ?_|with_reducible refine k_f ?_|with_reducible refine k_c _ ?_ ?_|(with_reducible refine bx ?_<;>try dsimp only)|with_reducible refine eK ?_|with_reducible refine eA ?_|with_reducible refine Zu (λ_=> ?_)|with_reducible refine Zt asq ?_|with_reducible refine zA asq omq omq (λ_ _ _ _ _ _=> ?_)|with_reducible refine Vy asq omq omq omq (λ_ _ _ _=> ?_)|with_reducible refine wm omq omq omq (λ_ _ _=> ?_)|with_reducible refine FQ omq ?_|with_reducible refine Lj omq omq (λ_ _ _=> ?_)|(with_reducible refine Vz asq omq (λ_ _ _=> ?_)<;>try dsimp only)|(with_reducible refine yg asq omq (λ_ _ _=> ?_) (λ_ _ _=> ?_)<;>try dsimp only)|(with_reducible refine Zs asq omq (λ_ _ _ _=> ?_) (λ_ _ _ _ _=> ?_)<;>try dsimp only)|(with_reducible refine Zw asq omq (λ_ _=> ?_)<;>try dsimp only)|(with_reducible refine QQ asq omq (λ_ _ _=> ?_)<;>try dsimp only)|(with_reducible refine aea asq omq (λ_ _ _ _=> ?_)<;>try dsimp only)|(with_reducible refine Zx asq omq (λ_ _ _ _=> ?_)<;>try dsimp only)|(with_reducible refine VA asq omq (λ_ _ _=> ?_)<;>try dsimp only)|(with_reducible refine ST omq omq (λ_ _=> ?_)<;>try dsimp only)|(with_reducible refine PB omq omq omq omq (λ_ _ _=> ?_)<;>try dsimp only)|(with_reducible refine SU asq omq (λ_ _ _ _=> ?_)<;>try dsimp only)|(with_reducible refine KG asq omq omq omq omq (λ_ _ _=> ?_) (λ_ _ _ _=> ?_)<;>try dsimp only)|(with_reducible refine PC (λ_ _=> ?_)<;>try dsimp only)|(with_reducible refine Ly asq omq (λ_ _=> ?_)<;>try dsimp only)|(exfalso;omega)|(exfalso;dsimp only at*;omega)|dsimp only)):P:=h
def aa0{N:Nat}(n:FN N)(a:Bs)(r:a.length<9000000)(e:aJ)(t:0<=e.2.2.2.1)(u:e.2.2.2.1<=e.2.2.2.2.1)(p:e.2.2.2.2.1<=e.2.2.2.2.2)(q:e.2.2.2.2.2<=(a.length:Int)):SM (xx N a e):=by
 have m:=n;unfold FN at m;unfold xx syv;refine KG n omq p q r (λ_ _ _=> ?_) λl o x h=> ?_
 ·(have zz:∀(P:Prop)(h:P:=by exact trivial),P:= @id;exact bH)
 ·dsimp only;refine od (λ_=>aa trivial) λ_=> ?_;refine fG ?_ λy=> ?_
  ·unfold zY syv;refine cV _ l.length (λi s=>∃j c1 b d f g k c,s=(a,l,(l.length:Int),j,c1,b,d,f,g,k,c)/\j=(i:Int)/\c.length<=i) ?_ N 0 _ omq omq ⟨_,_,_,_,_,_,_,_,rfl,rfl,by simp⟩;rintro G i _ w ⟨j,c1,b,d,f,g,k,c,rfl,rfl,v⟩ rec;dsimp only
   (have zz:∀(P:Prop)(h:P:=by exact rec _ omq ⟨_,_,_,_,_,_,_,_,rfl,bg omq,omq⟩),P:= @id;exact bH)
  ·rcases y with⟨i,j⟩|⟨c1,b,d,f,g,k,c⟩
   ·exact ah _
   ·(have zz:∀(P:Prop)(h:P:=by exact trivial),P:= @id;exact bH)
def Za{N:Nat}(c:FN N)(a:Bs)(f:a.length<9000000):SM (oZ N a):=by
 have d:=c;unfold FN at d;unfold oZ syv;refine yg c f (λ_ _ _=> ?_) λl p h=> ?_
 ·(have zz:∀(P:Prop)(h:P:=by exact trivial),P:= @id;exact bH)
 ·dsimp only;refine od (λ_=>aa trivial) λ_=> ?_;refine fG ?_ λy=> ?_
  ·unfold yz syv;refine cV _ l.length (λi s=>∃j g c1 b,s=(a,g,l,(l.length:Int),j,c1,b)/\j=(i:Int)) ?_ N 0 _ omq omq ⟨_,_,_,_,rfl,rfl⟩;rintro G i _ t ⟨j,g,c1,b,rfl,rfl⟩ rec;dsimp only;refine aN (λ_=> ?_) λ_=>aa trivial;refine zA p omq omq λe k m n o _=> ?_;refine Zu λ_=>gF (k_c _ ?_ (aa trivial));refine aN (λ_=>aa trivial) λ_=>aN (λ_=>aa trivial) λ_=> ?_;refine Zv (aa0 c a f e k m n o) λ_ _ _=> ?_
   (have zz:∀(P:Prop)(h:P:=by exact rec _ omq ⟨_,_,_,_,rfl,bg omq⟩),P:= @id;exact bH)
  ·rcases y with⟨i,j⟩|⟨c1,b,q,r⟩
   ·exact ah _
   ·(have zz:∀(P:Prop)(h:P:=by exact trivial),P:= @id;exact bH)
def Vf{N:Nat}(a:FN N)(g:List fP)(r:Rdn)(x:Int)(d:GL N 200000 g)(e:wR r<=6500000):SM (oL N (g,r) x):=by
 unfold oL syv;have b:SM (gn N (g,r).1):=Vx a g _ d (amt _);have c:SM (su N (g,r).2):=AU (aa6 a r omq)
 repeat (first|exact ah _|refine aR _ ?_ ?_|refine aD b λ_=> ?_|refine aD c λ_=> ?_)
end Go.Fw
namespace Go.Fw
open Go
def PK(N:Nat)(r:List fP×Rdn×Int×List fP×Bool×Bool×Bool×Bool×Bool×Bool):Prop:=GL N 200000 r.1/\wR r.2.1<=6500000/\GL N 200000 r.2.2.2.1
end Go.Fw
namespace Go.Proofs.Tryz
open Go Go.Fw
attribute [local irreducible] slc cC ix app
attribute [local semireducible] Iq Mg
set_option maxRecDepth 6000
set_option maxHeartbeats 0
def Zb(s a:Bs)(H:s.length<=6)(D:a.length<190000)(l:List aJ)(F:IN a l)(h:2*l.length<=a.length):OW (pG.1.fn (s,a,(-1),l,(l.length:Int),0,[],[],0,[],false,false,false,false,false,false)) λy:(Int×Int)⊕(List fP×Rdn×Int×List fP×Bool×Bool×Bool×Bool×Bool×Bool)=>∀r,y=.inr r->PK NN r:=by
 have C:=hNN;have n:=hNN;unfold FN at n;refine cV _ l.length (λi B=>∃(o j:Int)(g:List fP)(r:Rdn)(x:Int)(h:List fP)(c1 c d e f k:Bool),B=(s,a,o,l,(l.length:Int),j,g,r,x,h,c1,c,d,e,f,k)/\j=(i:Int)/\-1<=o/\GL NN 200000 g/\wR r<=6500000/\GL NN 200000 h) ?_ NN 0 _ omq omq ⟨_,_,_,_,_,_,_,_,_,_,_,_,rfl,rfl,omq,GL.nil _ _,by decide,GL.nil _ _⟩;rintro G i _ E ⟨o,j,g,r,x,h,c1,c,d,e,f,k,rfl,rfl,z,u,A,w⟩ rec;have m:∀v,OW (some (Sum.inl v):Option ((Int×Int)⊕(List fP×Rdn×Int×List fP×Bool×Bool×Bool×Bool×Bool×Bool))) λy=>∀r,y=.inr r->PK NN r:=λv=>aa λr h=>by cases h
 have b:∀(g:List fP)(r:Rdn) x (h:List fP) c1 c d e f k,GL NN 200000 g->wR r<=6500000->GL NN 200000 h->OW (some (Sum.inr (g,r,x,h,c1,c,d,e,f,k)):Option ((Int×Int)⊕(List fP×Rdn×Int×List fP×Bool×Bool×Bool×Bool×Bool×Bool))) λy=>∀r,y=.inr r->PK NN r:=λg r x h _ _ _ _ _ _ p q t=>aa λr h=>by cases h;exact⟨p,q,t⟩
 have zz:∀(P:Prop)(h:P:=by first|exact m _|exact b _ _ _ _ _ _ _ _ _ _ u A w|((conv=>arg 1;dsimp only);exact rec _ omq ⟨_,_,_,_,_,_,_,_,_,_,_,_,rfl,bg omq,by first|omega|(dsimp only;omega),aeE,al0,aeE⟩)),P:=λ_ h=>h;exact aeF
def adI{α a:Type}{f:α->Option a}{x:α}{Q:a->Prop}(h:OW (f x) Q):OW (OY f x) Q:=by rw[UP];exact h
def kinds_w(s a:Bs)(d:s.length<=6)(b:a.length<190000):OW (ne.run (s,a)) λr=>r.2.2.2.2.2.2.2.2.2.2.1=0->GL NN 200000 r.1/\wR r.2.1<=6500000/\GL NN 200000 r.2.2.2.1:=by
 refine Ze ?_;have zz:∀(P:Prop)(h:P:=by first|((conv=>arg 1;whnf);exact aa λh=>absurd h asq)|((conv=>arg 1;whnf);refine adI ?_;refine al2 (Zb s a d b _ asq asq) ?_;rintro(⟨i,j⟩|⟨n,o,p,r4,e,f,g,k,l,m⟩) c<;>(conv=>arg 1;whnf)<;>first|exact aa λ_=>c _ rfl|exact aa λ_=>⟨GL.nil _ _,by show wR []<=_;decide,GL.nil _ _⟩)),P:=λ_ h=>h;exact aeF
end Go.Proofs.Tryz
namespace Go.Fw
open Go
def kinds_w(d:FN NN)(s a:Bs)(c:s.length<=6)(b:a.length<190000):OW (E2 NN s a) λr=>r.2.2.2.2.2.2.2.2.2.2.1=0->GL NN 200000 r.1/\wR r.2.1<=6500000/\GL NN 200000 r.2.2.2.1:=Go.Proofs.Tryz.kinds_w s a c b
def aa1(a:FN NN)(g:List fP)(r:Rdn)(x:Int)(h:List fP)(c:GL NN 200000 g)(e:wR r<=6500000)(d:GL NN 200000 h):SM (zt NN (g,r,x,h)):=by
 unfold zt oM syv;have b:SM (gn NN (g,r,x,h).2.2.2):=Vx a h _ d (amt _);refine aD (Vf a g r x c e) λ_=> ?_
 repeat (first|exact ah _|refine aR _ ?_ ?_|refine aD b λ_=> ?_|refine aD (ah _) λ_=> ?_)
def adJ(b:FN NN)(a:Bs)(h:a.length<190000):SM (zu NN a):=by
 unfold zu syv;refine ag (kinds_w b _ a deq h) ?_;rintro⟨j,k,l,r4,m,n,p,q,r,s,e,o⟩ c;dsimp only at c⊢;refine od (λ_=>aa trivial) λi=> ?_;obtain⟨d,f,g⟩:=c i;exact fG (aa1 b j k l r4 d f g) λ_=>gF (k_c _ (aa trivial) (aa trivial))
def aa2(b:FN NN)(a:Bs)(k:a.length<190000):SM (jI NN a):=by
 have d:=b;unfold FN at d;unfold jI syv;refine yg b omq (λe o f=> ?_) λl g h=> ?_
 ·dsimp only;rw[mq f];exact aa trivial
 ·dsimp only;refine od (λh=>absurd rfl h) λ_=>fG ?_ λy=> ?_
  ·unfold vf syv;refine cV _ l.length (λi s=>∃j c,s=(a,l,(l.length:Int),j,c)/\j=(i:Int)/\c.length<=i) ?_ NN 0 _ omq omq ⟨_,_,rfl,rfl,by simp⟩;rintro G i _ n ⟨j,c,rfl,rfl,m⟩ rec;dsimp only;refine aN (λ_=> ?_) (λ_=>aa trivial);refine zA g omq omq λe _ _ _ _ _=>wm omq omq omq λx p _=>Zv (adJ b x omq) λ_ _ _=> ?_
   (have zz:∀(P:Prop)(h:P:=by exact rec _ omq ⟨_,_,rfl,bg omq,omq⟩),P:= @id;exact bH)
  ·rcases y with⟨i,j⟩|⟨x,y⟩
   ·exact ah _
   ·(have zz:∀(P:Prop)(h:P:=by exact trivial),P:= @id;exact bH)
def Zc(b:FN NN)(a:Bs)(h:a.length<190000):SM (jT NN a):=by
 unfold jT syv;refine ag (kinds_w b _ a deq h) ?_;rintro⟨j,k,l,r4,m,n,p,q,r,s,e,o⟩ c;dsimp only at c⊢;refine od (λ_=>aa trivial) λi=> ?_;obtain⟨d,f,t⟩:=c i;refine fG ?_ λ_=>gF (k_c _ (aa trivial) (aa trivial));unfold uY oM syv;dsimp only;have g:=Vf b j k l d f
 repeat (first|with_reducible exact aa trivial|with_reducible refine eA ?_|with_reducible refine bx ?_|with_reducible refine k_c _ ?_ ?_|with_reducible refine fG g λ_=> ?_|dsimp only)
end Go.Fw
namespace Go.Fw
open Go
def QI(B:Nat)(q:List (Bs×Bs)):Prop:=∀x∈q,x.1.length<=21*(B+1)/\x.2.length<=B
def MI(B:Nat)(q:List (Bs×Bs)):Prop:=∀x∈q,x.1.length<=21*(B+1)/\x.2.length<=21*(B+1)
def PI(B:Nat)(p:List (Bs×List (Bs×Bs))):Prop:=∀x∈p,x.1.length<=21*(B+1)/\QI B x.2/\x.2.length<=B
def QI.nil(B:Nat):QI B []:=λ_ h=>by cases h
variable{Z:Nat}
def QI.snoc{q l:List (Bs×Bs)}{s t:Bs}(h:QI Z q)(e:l=q++[(s,t)])(b:s.length<=21*(Z+1))(c:t.length<=Z):QI Z l:=by
 subst e;intro x a;rcases am6.1 a with a|a
 ·exact h x a
 ·rw[anl.1 a];exact⟨b,c⟩
def MI.snoc{q l:List (Bs×Bs)}{s t:Bs}(h:MI Z q)(e:l=q++[(s,t)])(b:s.length<=21*(Z+1))(c:t.length<=21*(Z+1)):MI Z l:=by
 subst e;intro x a;rcases am6.1 a with a|a
 ·exact h x a
 ·rw[anl.1 a];exact⟨b,c⟩
def PI.snoc{q l:List (Bs×List (Bs×Bs))}{s:Bs}{t:List (Bs×Bs)}(h:PI Z q)(e:l=q++[(s,t)])(c:s.length<=21*(Z+1))(d:QI Z t)(b:t.length<=Z):PI Z l:=by
 subst e;intro x a;rcases am6.1 a with a|a
 ·exact h x a
 ·rw[anl.1 a];exact⟨c,d,b⟩
def aee{N:Nat}(b:FN N)(a:Bs)(c:a.length<9000000):SM (sw N a):=by
 unfold sw syv
 (have zz:∀(P:Prop)(h:P:=by exact trivial),P:= @id;exact bH)
def QR{N:Nat}(a:FN N)(s:Bs)(b:s.length<10000000):SM (xX N s):=AU (DW a s b)
def ai5{N:Nat}(D:FN N)(B:Nat)(J:B<190000)(x:Bs)(M:x.length<=B)(l:List aJ)(L:IN x l)(I:2*l.length<=x.length)(p:List (Bs×List (Bs×Bs)))(e a2:Int)(a3:Bool)(a4 a5 f:Int)(s:Bs)(q:List (Bs×Bs))(g d2:Int)(k:Bool)(m n o r t:Int)(w:Bool)(z A C:Int):
 OW (rl N N (x,l,(l.length:Int),0,p,e,a2,a3,a4,a5,f,s,q,g,d2,k,m,n,o,r,t,w,z,A,C,[],[])) λy=>match y with
  |.inl (b,_,_,_,_,_,_,d,c,_,_,_,_,_,_,_,_,_,_,_,_,u,v,_,_)=>b=p/\d=s/\c=q/\u.length<=21*(B+1)/\v.length<=B
  |.inr (b,_,_,_,_,_,_,d,c,_,_,_,_,_,_,_,_,_,_,_,_,u,v)=>b=p/\d=s/\c=q/\u.length<=21*(B+1)/\v.length<=B:=by
 have a:=D;unfold FN at a;unfold rl syv;refine cV _ l.length (λi H=>∃j u v,H=(x,l,(l.length:Int),j,p,e,a2,a3,a4,a5,f,s,q,g,d2,k,m,n,o,r,t,w,z,A,C,u,v)/\j=(i:Int)/\u.length<=21*(B+1)/\v.length<=B) ?_ N 0 _ omq omq ⟨_,_,_,rfl,rfl,by simp,by simp⟩;rintro G i _ K ⟨j,u,v,rfl,rfl,E,F⟩ rec;dsimp only;unfold iw sw syv;refine aN (λ_=> ?_) λ_=>aa ⟨rfl,rfl,rfl,E,F⟩
 (have zz:∀(P:Prop)(h:P:=by exact by first|exact rec _ omq ⟨_,_,_,rfl,bg omq,omq,omq⟩|exact aa ⟨rfl,rfl,rfl,omq,omq⟩),P:= @id;exact bH)
def ai6{N:Nat}(D:FN N)(B:Nat)(W:B<190000)(x:Bs)(hx:x.length<=B)(l:List aJ)(X:IN x l)(h2:2*l.length<=x.length)(p:List (Bs×List (Bs×Bs)))(c a2:Int)(a3:Bool)(a4 a5 d:Int)(s:Bs)(q:List (Bs×Bs))(Y:QI B q)(Z:q.length<=B)(f d2:Int)(g:Bool)(k m n:Int):
 OW (rm N N (x,l,(l.length:Int),0,p,c,a2,a3,a4,a5,d,s,q,f,d2,g,k,m,n)) λy=>match y with
  |.inl (t,_,_,_,_,_,_,w,b,_,_,_,_,_,_,_,_)=>t=p/\w=s/\QI B b/\b.length<=q.length+l.length
  |.inr (t,_,_,_,_,_,_,w,b,_,_,_,_,_,_)=>t=p/\w=s/\QI B b/\b.length<=q.length+l.length:=by
 have E:=D;unfold FN at E;unfold rm syv;refine cV _ l.length (λi st=>∃j c a2 a3 a4 a5 d r f d2 g k m n,st=(x,l,(l.length:Int),j,p,c,a2,a3,a4,a5,d,s,r,f,d2,g,k,m,n)/\j=(i:Int)/\QI B r/\r.length<=q.length+i) ?_ N 0 _ omq omq ⟨_,_,_,_,_,_,_,_,_,_,_,_,_,_,rfl,rfl,Y,omq⟩;rintro G i _ hi ⟨j,c,a2,a3,a4,a5,d,r,f,d2,g,k,m,n,rfl,rfl,a,j3⟩ rec;dsimp only;unfold iw syv;refine aN (λ_=> ?_) λ_=>aa ⟨rfl,rfl,a,omq⟩;refine zA X omq omq λe _ _ _ _ _=>wm omq omq omq λz hz _=> ?_;refine yg D omq (λe o he=> ?_) λl2 F V=> ?_
 ·dsimp only
  (have zz:∀(P:Prop)(h:P:=by exact by first|exact rec _ omq ⟨_,_,_,_,_,_,_,_,_,_,_,_,_,_,rfl,bg omq,QI.snoc a asq siq siq,omq⟩|exact aa ⟨rfl,rfl,QI.snoc a asq siq siq,omq⟩),P:= @id;exact bH)
 ·dsimp only;refine od (λh=>absurd rfl h) λ_=> ?_;refine aN (λ_=> ?_) λ_=>aN (λ_=> ?_) λ_=> ?_
  ·(have zz:∀(P:Prop)(h:P:=by exact by first|exact rec _ omq ⟨_,_,_,_,_,_,_,_,_,_,_,_,_,_,rfl,bg omq,QI.snoc a asq siq siq,omq⟩|exact aa ⟨rfl,rfl,QI.snoc a asq siq siq,omq⟩),P:= @id;exact bH)
  ·(have zz:∀(P:Prop)(h:P:=by exact by first|exact rec _ omq ⟨_,_,_,_,_,_,_,_,_,_,_,_,_,_,rfl,bg omq,QI.snoc a asq siq siq,omq⟩|exact aa ⟨rfl,rfl,QI.snoc a asq siq siq,omq⟩),P:= @id;exact bH)
  ·refine ag (ai5 D B W z omq l2 F V p c a2 a3 a4 a5 d s r f d2 g k m n _ _ _ _ _ _) ?_;rintro(⟨t,H,I,J,K,L,M,w,b,O,Q,R,S,T,U,i1,i2,i3,i4,i5,i6,u,v,o1,o2⟩|⟨t,H,I,J,K,L,M,w,b,O,Q,R,S,T,U,i1,i2,i3,i4,i5,i6,u,v⟩) ⟨rfl,rfl,rfl,A,C⟩
   ·dsimp only
    (have zz:∀(P:Prop)(h:P:=by exact by first|exact rec _ omq ⟨_,_,_,_,_,_,_,_,_,_,_,_,_,_,rfl,bg omq,QI.snoc a asq A C,omq⟩|exact aa ⟨rfl,rfl,QI.snoc a asq A C,omq⟩),P:= @id;exact bH)
   ·dsimp only
    (have zz:∀(P:Prop)(h:P:=by exact by first|exact rec _ omq ⟨_,_,_,_,_,_,_,_,_,_,_,_,_,_,rfl,bg omq,QI.snoc a asq A C,omq⟩|exact aa ⟨rfl,rfl,QI.snoc a asq A C,omq⟩),P:= @id;exact bH)
end Go.Fw
namespace Go.Fw
open Go
def ai8{d:Type}{Q:d->Prop}{N:Nat}(i:FN N){a:Bs}(p:a.length<9000000){f:List aJ×Int×Int->Option d}(g:∀e o,e≠0->OW (f ([],e,o)) Q)(h:∀l b,cH (EL a) b l->(ax b).length<a.length->OW (f (l,0,0)) Q):OW ((ba N a 0 16).bind f) Q:=by
 refine ag (AT (jt i a omq 0 16) (qK N a _ _)) ?_;rintro⟨l,e,o⟩ ⟨⟨j,b,c,_,_,k,m⟩|⟨c,_⟩,n⟩
 ·cases j;exact h l b m (by rw[k];exact dq)
 ·obtain rfl:l=[]:=n c;exact g e o c
def aef(a:List TLV)(i:Nat)(t:TLV)(h:a[i]?=some t):(kI (a.take (i+1))).sum=(kI (a.take i)).sum+(aj t).length/\(kI (a.take (i+1))).sum<=(ax a).length:=by
 constructor
 ·rw[RP a i t h,aqn];simp
 ·have b:kI (a.take (i+1))=(kI a).take (i+1):=by unfold kI;rw[List.map_take]
  rw[b,<-CN a];exact HW _ _
set_option maxHeartbeats 1000000 in
def ai9{N:Nat}(r:FN N)(B:Nat)(W:B<190000)(x:Bs)(hx:x.length<=B)(l:List aJ)(c:List TLV)(D:cH (EL x) c l)(hs:(ax c).length<x.length)(p:List (Bs×List (Bs×Bs)))(d a2:Int)(a3:Bool)(a4 a5 f:Int):
 OW (rn N N (x,l,(l.length:Int),0,p,d,a2,a3,a4,a5,f,[],[])) λy=>match y with
  |.inl (m,_,_,_,_,_,_,n,b,_,_)=>m=p/\n.length<=21*(B+1)/\QI B b/\b.length<=B
  |.inr (m,_,_,_,_,_,_,n,b)=>m=p/\n.length<=21*(B+1)/\QI B b/\b.length<=B:=by
 have u:=r;unfold FN at u;have E:c.length=l.length:=D.length;have Y:=ez c;unfold rn syv;refine cV _ l.length (λi st=>∃j d a2 a3 a4 a5 f s q,st=(x,l,(l.length:Int),j,p,d,a2,a3,a4,a5,f,s,q)/\j=(i:Int)/\s.length<=21*(B+1)/\QI B q/\q.length<=(kI (c.take i)).sum/\q.length<=B) ?_ N 0 _ omq omq ⟨_,_,_,_,_,_,_,_,_,rfl,rfl,by simp,QI.nil _,by simp,by simp⟩;rintro G i _ hi ⟨j,d,a2,a3,a4,a5,f,s,q,rfl,rfl,A,a,j3,g⟩ rec;dsimp only;unfold iw syv;refine aN (λ_=> ?_) λ_=>aa ⟨rfl,A,a,g⟩;obtain⟨t,e,F,v,X⟩:=D.get1 (i:=i) omq;have Z:=gh c t (amS F);obtain⟨k,C⟩:=aef c i t F;refine Zt (aM v) ?_;rw[X.whole];refine bx ?_;generalize aj t=z at Z k⊢;refine QH (λ_=> ?_) λ_=> ?_
 ·(have zz:∀(P:Prop)(h:P:=by exact by first|exact rec _ omq ⟨_,_,_,_,_,_,_,_,_,rfl,bg omq,omq,a,omq,omq⟩|exact aa ⟨rfl,omq,a,omq⟩),P:= @id;exact bH)
 ·refine yg r omq (λ_ _ _=> ?_) λl2 w V=> ?_
  ·dsimp only
   (have zz:∀(P:Prop)(h:P:=by exact by first|exact rec _ omq ⟨_,_,_,_,_,_,_,_,_,rfl,bg omq,omq,a,omq,omq⟩|exact aa ⟨rfl,omq,a,omq⟩),P:= @id;exact bH)
  ·dsimp only;refine od (λh=>absurd rfl h) λ_=> ?_;refine aN (λ_=> ?_) λ_=>aN (λ_=> ?_) λ_=> ?_
   ·(have zz:∀(P:Prop)(h:P:=by exact by first|exact rec _ omq ⟨_,_,_,_,_,_,_,_,_,rfl,bg omq,omq,a,omq,omq⟩|exact aa ⟨rfl,omq,a,omq⟩),P:= @id;exact bH)
   ·(have zz:∀(P:Prop)(h:P:=by exact by first|exact rec _ omq ⟨_,_,_,_,_,_,_,_,_,rfl,bg omq,omq,a,omq,omq⟩|exact aa ⟨rfl,omq,a,omq⟩),P:= @id;exact bH)
   ·refine ag (ai6 r B W z omq l2 w V p d a2 a3 a4 a5 f s q a g _ _ _ _ _ _) ?_;rintro(⟨m,H,I,J,K,L,M,n,b,O,Q,R,S,T,U,o1,o2⟩|⟨m,H,I,J,K,L,M,n,b,O,Q,R,S,T,U⟩) ⟨rfl,rfl,o,hv⟩
    ·dsimp only
     (have zz:∀(P:Prop)(h:P:=by exact by first|exact rec _ omq ⟨_,_,_,_,_,_,_,_,_,rfl,bg omq,omq,o,omq,omq⟩|exact aa ⟨rfl,omq,o,omq⟩),P:= @id;exact bH)
    ·dsimp only
     (have zz:∀(P:Prop)(h:P:=by exact by first|exact rec _ omq ⟨_,_,_,_,_,_,_,_,_,rfl,bg omq,omq,o,omq,omq⟩|exact aa ⟨rfl,omq,o,omq⟩),P:= @id;exact bH)
def aja{N:Nat}(g:FN N)(B:Nat)(v:B<190000)(x:Bs)(K:x.length<=B)(l:List aJ)(w:IN x l)(I:2*l.length<=x.length):
 OW (rt N N (x,l,(l.length:Int),0,[])) λy=>match y with
  |.inl (b,_,_)=>PI B b/\b.length<=B
  |.inr b=>PI B b/\b.length<=B:=by
 have k:=g;unfold FN at k;unfold rt syv;refine cV _ l.length (λi F=>∃j p,F=(x,l,(l.length:Int),j,p)/\j=(i:Int)/\PI B p/\p.length<=i) ?_ N 0 _ omq omq ⟨_,_,rfl,rfl,(λ_ h=>by cases h),by simp⟩;rintro G i _ J ⟨j,p,rfl,rfl,a,A⟩ rec;dsimp only;unfold iw syv;refine aN (λ_=> ?_) λ_=>aa ⟨a,omq⟩;refine zA w omq omq λe _ _ _ _ _=>wm omq omq omq λz L _=> ?_;refine ai8 g omq (λ_ _ _=> ?_) λC H m u=> ?_
 ·dsimp only
  (have zz:∀(P:Prop)(h:P:=by exact by first|exact rec _ omq ⟨_,_,rfl,bg omq,PI.snoc a asq siq (QI.nil _) siq,omq⟩|exact aa ⟨PI.snoc a asq siq (QI.nil _) siq,omq⟩),P:= @id;exact bH)
 ·dsimp only;refine od (λh=>absurd rfl h) λ_=> ?_;refine aN (λ_=> ?_) λ_=>aN (λ_=> ?_) λ_=> ?_
  ·(have zz:∀(P:Prop)(h:P:=by exact by first|exact rec _ omq ⟨_,_,rfl,bg omq,PI.snoc a asq siq (QI.nil _) siq,omq⟩|exact aa ⟨PI.snoc a asq siq (QI.nil _) siq,omq⟩),P:= @id;exact bH)
  ·(have zz:∀(P:Prop)(h:P:=by exact by first|exact rec _ omq ⟨_,_,rfl,bg omq,PI.snoc a asq siq (QI.nil _) siq,omq⟩|exact aa ⟨PI.snoc a asq siq (QI.nil _) siq,omq⟩),P:= @id;exact bH)
  ·refine ag (ai9 g B v z omq C H m u p _ _ _ _ _ _) ?_;rintro(⟨b,n,o,q,r,s,t,E,D,M,O⟩|⟨b,n,o,q,r,s,t,E,D⟩) ⟨rfl,c,d,f⟩
   ·dsimp only
    (have zz:∀(P:Prop)(h:P:=by exact by first|exact rec _ omq ⟨_,_,rfl,bg omq,PI.snoc a asq c d f,omq⟩|exact aa ⟨PI.snoc a asq c d f,omq⟩),P:= @id;exact bH)
   ·dsimp only
    (have zz:∀(P:Prop)(h:P:=by exact by first|exact rec _ omq ⟨_,_,rfl,bg omq,PI.snoc a asq c d f,omq⟩|exact aa ⟨PI.snoc a asq c d f,omq⟩),P:= @id;exact bH)
def SQ{a α:Type}{Q:a->Prop}{l:List α}{i:Int}{f:α->Option a}(b:0<=i)(c:i<(l.length:Int))(k:∀e∈l,OW (f e) Q):OW ((ix l i).bind f) Q:=ag (xS b c) λe d=>k e d.2
def aeg{N:Nat}(a:FN N)(B:Nat)(g:B<190000)(q:List (Bs×Bs))(d:QI B q)(k:q.length<=B):SM (cG N q):=by
 have b:=a;unfold FN at b;unfold cG fw syv;refine fG (fG ?_ λy=>by cases y<;>exact aa trivial) λ_=>aa trivial;unfold eU syv;refine cV _ q.length (λi f=>∃j,f=(q,(q.length:Int),j)/\j=(i:Int)) ?_ N 0 _ omq omq ⟨_,rfl,rfl⟩;rintro G i _ h ⟨j,rfl,rfl⟩ rec;dsimp only;refine aN (λ_=> ?_) λ_=>aa trivial;refine SQ omq omq λe c=> ?_;have:=d e c;unfold sU syv;refine fG (fG (QR a _ omq) λ_=>gF (k_c _ (fG (aee a _ omq) λ_=>aa trivial) (aa trivial))) λ_=>k_c _ (aa trivial) ?_;exact rec _ omq ⟨_,rfl,bg omq⟩
def QS{N:Nat}(a:FN N)(B:Nat)(c:B<190000)(p:List (Bs×List (Bs×Bs)))(f:PI B p)(k:p.length<=B):SM (xz N p):=by
 have b:=a;unfold FN at b;unfold xz syv;refine fG ?_ λy=>by cases y<;>exact aa trivial
 unfold Ab syv;refine cV _ p.length (λi g=>∃j r,g=(p,p,(p.length:Int),j,r)/\j=(i:Int)) ?_ N 0 _ omq omq ⟨_,_,rfl,rfl⟩;rintro G i _ h ⟨j,r,rfl,rfl⟩ rec;dsimp only;refine aN (λ_=> ?_) λ_=>aa trivial;refine SQ omq omq λe d=> ?_;have:=f e d;refine fG (QR a _ omq) λ_=>gF (k_c _ ?_ (aa trivial));refine k_c _ (aa trivial) (fG (aeg a B c _ this.2.1 this.2.2) λ_=>k_c _ (aa trivial) ?_);exact rec _ omq ⟨_,_,rfl,bg omq⟩
def abA{N:Nat}(c:FN N)(a:Bs)(d:a.length<190000):SM (qw N a):=by
 have b:=QS c a.length d [] (λ_ h=>by cases h) siq;unfold qw iw syv;refine yg c omq (λ_ _ _=> ?_) λl j h=> ?_
 ·dsimp only
  (have zz:∀(P:Prop)(h:P:=by exact fG b λ_=>by(have zz:∀(P:Prop)(h:P:=by exact trivial),P:= @id;exact bH)),P:=λ_ h=>h;exact bH)
 ·dsimp only;refine od (λh=>absurd rfl h) λ_=>aN (λ_=> ?_) λ_=>aN (λ_=> ?_) λ_=> ?_
  ·(have zz:∀(P:Prop)(h:P:=by exact fG b λ_=>by(have zz:∀(P:Prop)(h:P:=by exact trivial),P:= @id;exact bH)),P:=λ_ h=>h;exact bH)
  ·(have zz:∀(P:Prop)(h:P:=by exact fG b λ_=>by(have zz:∀(P:Prop)(h:P:=by exact trivial),P:= @id;exact bH)),P:=λ_ h=>h;exact bH)
  ·refine ag (aja c a.length d a (amt _) l j h) ?_;rintro(⟨p,e,o⟩|p) ⟨g,i⟩
   ·have f:=QS c a.length d p g i;dsimp only
    (have zz:∀(P:Prop)(h:P:=by exact fG f λ_=>by(have zz:∀(P:Prop)(h:P:=by exact trivial),P:= @id;exact bH)),P:=λ_ h=>h;exact bH)
   ·have f:=QS c a.length d p g i;dsimp only
    (have zz:∀(P:Prop)(h:P:=by exact fG f λ_=>by(have zz:∀(P:Prop)(h:P:=by exact trivial),P:= @id;exact bH)),P:=λ_ h=>h;exact bH)
def ajb{N:Nat}(e:FN N)(B:Nat)(n:B<190000)(x:Bs)(r:x.length<=B)(l:List aJ)(q:IN x l)(m:2*l.length<=x.length)(p:List (Bs×Bs))(c a2:Int)(a3:Bool)(a4 a5 d:Int):
 OW (jU N N (x,l,(l.length:Int),0,p,c,a2,a3,a4,a5,d,[],[])) λy=>match y with
  |.inl (b,_,_,_,_,_,_,u,v,_,_)=>b=p/\u.length<=21*(B+1)/\v.length<=21*(B+1)
  |.inr (b,_,_,_,_,_,_,u,v)=>b=p/\u.length<=21*(B+1)/\v.length<=21*(B+1):=by
 have a:=e;unfold FN at a;unfold jU syv;refine cV _ l.length (λi k=>∃j u v,k=(x,l,(l.length:Int),j,p,c,a2,a3,a4,a5,d,u,v)/\j=(i:Int)/\u.length<=21*(B+1)/\v.length<=21*(B+1)) ?_ N 0 _ omq omq ⟨_,_,_,rfl,rfl,by simp,by simp⟩;rintro G i _ o ⟨j,u,v,rfl,rfl,f,g⟩ rec;dsimp only;unfold iw syv;refine aN (λ_=> ?_) λ_=>aa ⟨rfl,f,g⟩
 (have zz:∀(P:Prop)(h:P:=by exact by first|exact rec _ omq ⟨_,_,_,rfl,bg omq,omq,omq⟩|exact aa ⟨rfl,omq,omq⟩),P:= @id;exact bH)
def ajc{N:Nat}(f:FN N)(B:Nat)(w:B<190000)(x:Bs)(I:x.length<=B)(l:List aJ)(A:IN x l)(F:2*l.length<=x.length):
 OW (jW N N (x,l,(l.length:Int),0,[])) λy=>match y with
  |.inl (b,_,_)=>MI B b/\b.length<=B
  |.inr b=>MI B b/\b.length<=B:=by
 have g:=f;unfold FN at g;unfold jW syv;refine cV _ l.length (λi E=>∃j p,E=(x,l,(l.length:Int),j,p)/\j=(i:Int)/\MI B p/\p.length<=i) ?_ N 0 _ omq omq ⟨_,_,rfl,rfl,(λ_ h=>by cases h),by simp⟩;rintro G i _ H ⟨j,p,rfl,rfl,a,C⟩ rec;dsimp only;unfold iw syv;refine aN (λ_=> ?_) λ_=>aa ⟨a,omq⟩;refine zA A omq omq λe _ _ _ _ _=>wm omq omq omq λz J _=> ?_;refine yg f omq (λ_ _ _=> ?_) λD k t=> ?_
 ·dsimp only
  (have zz:∀(P:Prop)(h:P:=by exact by first|exact rec _ omq ⟨_,_,rfl,bg omq,MI.snoc a asq siq siq,omq⟩|exact aa ⟨MI.snoc a asq siq siq,omq⟩),P:= @id;exact bH)
 ·dsimp only;refine od (λh=>absurd rfl h) λ_=> ?_;refine aN (λ_=> ?_) λ_=>aN (λ_=> ?_) λ_=> ?_
  ·(have zz:∀(P:Prop)(h:P:=by exact by first|exact rec _ omq ⟨_,_,rfl,bg omq,MI.snoc a asq siq siq,omq⟩|exact aa ⟨MI.snoc a asq siq siq,omq⟩),P:= @id;exact bH)
  ·(have zz:∀(P:Prop)(h:P:=by exact by first|exact rec _ omq ⟨_,_,rfl,bg omq,MI.snoc a asq siq siq,omq⟩|exact aa ⟨MI.snoc a asq siq siq,omq⟩),P:= @id;exact bH)
  ·refine ag (ajb f B w z omq D k t p _ _ _ _ _ _) ?_;rintro(⟨b,m,n,o,q,r,s,u,v,K,L⟩|⟨b,m,n,o,q,r,s,u,v⟩) ⟨rfl,c,d⟩
   ·dsimp only
    (have zz:∀(P:Prop)(h:P:=by exact by first|exact rec _ omq ⟨_,_,rfl,bg omq,MI.snoc a asq c d,omq⟩|exact aa ⟨MI.snoc a asq c d,omq⟩),P:= @id;exact bH)
   ·dsimp only
    (have zz:∀(P:Prop)(h:P:=by exact by first|exact rec _ omq ⟨_,_,rfl,bg omq,MI.snoc a asq c d,omq⟩|exact aa ⟨MI.snoc a asq c d,omq⟩),P:= @id;exact bH)
def QT{N:Nat}(c:FN N)(B:Nat)(k:B<190000)(p:List (Bs×Bs))(f:MI B p)(m:p.length<=B):SM (ma N p):=by
 have a:=c;unfold FN at a;unfold ma syv;refine aN (λ_=>fG ?_ λy=>by cases y<;>exact aa trivial) λ_=>aa trivial;have b:∀s:Bs,s.length<10000000->SM (ky N s):=λs g=>by
  unfold ky syv;exact fG (QR c s g) λ_=>k_c _ (aa trivial) (aa trivial)
 unfold pc syv;refine cV _ p.length (λi h=>∃j,h=(p,(p.length:Int),j)/\j=(i:Int)) ?_ N 0 _ omq omq ⟨_,rfl,rfl⟩;rintro G i _ l ⟨j,rfl,rfl⟩ rec;dsimp only;refine aN (λ_=> ?_) λ_=>aa trivial;refine SQ omq omq λe d=> ?_;have:=f e d;refine fG (b _ omq) λ_=>gF (k_c _ (fG (b _ omq) λ_=>gF (k_c _ ?_ (aa trivial))) (aa trivial));exact rec _ omq ⟨_,rfl,bg omq⟩
def ZA{N:Nat}(c:FN N)(a:Bs)(d:a.length<190000):SM (iZ N a):=by
 have b:=QT c a.length d [] (λ_ h=>by cases h) siq;unfold iZ iw syv;refine yg c omq (λ_ _ _=> ?_) λl j h=> ?_
 ·dsimp only
  (have zz:∀(P:Prop)(h:P:=by exact fG b λ_=>by(have zz:∀(P:Prop)(h:P:=by exact trivial),P:= @id;exact bH)),P:=λ_ h=>h;exact bH)
 ·dsimp only;refine od (λh=>absurd rfl h) λ_=>aN (λ_=> ?_) λ_=>aN (λ_=> ?_) λ_=> ?_
  ·(have zz:∀(P:Prop)(h:P:=by exact fG b λ_=>by(have zz:∀(P:Prop)(h:P:=by exact trivial),P:= @id;exact bH)),P:=λ_ h=>h;exact bH)
  ·(have zz:∀(P:Prop)(h:P:=by exact fG b λ_=>by(have zz:∀(P:Prop)(h:P:=by exact trivial),P:= @id;exact bH)),P:=λ_ h=>h;exact bH)
  ·refine ag (ajc c a.length d a (amt _) l j h) ?_;rintro(⟨p,e,o⟩|p) ⟨g,i⟩
   ·have f:=QT c a.length d p g i;dsimp only
    (have zz:∀(P:Prop)(h:P:=by exact fG f λ_=>by(have zz:∀(P:Prop)(h:P:=by exact trivial),P:= @id;exact bH)),P:=λ_ h=>h;exact bH)
   ·have f:=QT c a.length d p g i;dsimp only
    (have zz:∀(P:Prop)(h:P:=by exact fG f λ_=>by(have zz:∀(P:Prop)(h:P:=by exact trivial),P:= @id;exact bH)),P:=λ_ h=>h;exact bH)
end Go.Fw
namespace Go.Fw
open Go
def FR{a α:Type}{Q:a->Prop}{x:Option α}{f:α->Option a}(h:OW (x.bind f) Q):OW (agree (List.replicate 2 x) f) Q:=by
 rw[show List.replicate 2 x=List.replicate (1+1) x from rfl,nI];exact h
def al5{α:Type}{i:Int}{s:Bs}{c:Bool}{p:Option (α×Int×Int)}{f}(h:SM p)(k:∀l v,SM (f l v)):SM (wy i s c p f):=by
 unfold wy;refine FR (ag (aD h λa=> ?_) λ_ _=>k_c _ (ah _) (ah _));exact aR _ (k _ _) (ah _)
def akM{i:Int}{s:Bs}{c:Bool}{f:Unit->Int×Int->_}(h:False):SM (wy i s c none f):=h.elim
def agI(b:Bs)(h:b.length<190000):SM (kL b):=by
 unfold kL syv;exact FQ omq (ah _)
def Pj(s:Bs):∀(b:List Bs)(a:List Int),uk s b a∈0::a
 |[],_=>by simp[uk]
 |_::_,[]=>by simp[uk]
 |i::b,n::a=>by
  have:=Pj s b a;unfold uk;split
  ·simp
  ·simp only[amN]at this⊢;exact this.imp id .inr
def abB(s:Bs):DQ s∈0::HF:=by
 unfold DQ;split
 ·simp
 ·exact Pj s _ _
set_option maxHeartbeats 8000000 in
set_option maxRecDepth 100000 in
def abC(a:FN NN)(v:bE)(d:v.1.length<10000000)(e:v.2.2.length<190000):SM (mF NN v):=by
 unfold mF;rw[RK a v d,amj,zk,amj];obtain⟨s,c,b⟩:=v;dsimp only at d e⊢;refine gF (k_c _ ?_ (aa trivial));have f:=abB s;generalize DQ s=k at f⊢;refine ag (R:=λt=>t.2.2.1=b/\t.2.2.2.1=k) (by cases k==0<;>exact aa ⟨rfl,rfl⟩) ?_;rintro⟨_,_,_,_,i,g⟩ ⟨rfl,rfl⟩;dsimp only at e f⊢
 repeat first
  |(refine aq (λh=>al5 (by first
   |with_reducible exact abx a _ omq
   |with_reducible exact Zy a _ omq
   |with_reducible exact ad3 a _ omq
   |with_reducible exact Sm a _ omq
   |with_reducible exact QO a _ omq
   |with_reducible exact agD a _ omq
   |with_reducible exact Zp a _ omq
   |with_reducible exact ad1 a _ omq
   |with_reducible exact Zo a _ omq
   |with_reducible exact Zc a _ omq
   |with_reducible exact aa2 a _ omq
   |with_reducible exact abA a _ omq
   |with_reducible exact ZA a _ omq
   |with_reducible exact Za a _ omq
   |with_reducible exact ad4 a _ omq
   |with_reducible exact Wm a _ omq
   |with_reducible exact agI _ omq
   |with_reducible exact SP (Vw a _ omq)
   |exact Go.Proofs.Tryz.keyid_sm0 _ omq) λ_ _=>by first
   |exact ah _
   |exact FR (ah _)) λh=> ?_)
  |refine akM ?_
 simp_all[HF]
def ajd(b:FN NN)(l:List bE)(o:l.length<10000000)(h:∀v∈l,v.1.length<10000000/\v.2.2.length<190000):SM (xB NN l):=by
 have a:=b;unfold FN at a;unfold xB syv;refine fG ?_ λy=>by cases y<;>exact aa trivial
 unfold Ai syv;refine cV _ l.length (λi k=>∃j c,k=(l,(l.length:Int),j,c)/\j=(i:Int)/\c.length<=i) ?_ NN 0 _ omq omq ⟨_,_,rfl,rfl,by simp⟩;rintro G i _ n ⟨j,c,rfl,rfl,m⟩ rec;dsimp only;refine aN (λ_=> ?_) λ_=>aa trivial;refine SQ omq omq λe f=> ?_;have:=h e f;refine Zv (abC b e this.1 this.2) λ_ _ _=> ?_;dsimp only;refine od (λ_=>aa trivial) λ_=> ?_;refine ag (R:=λd=>d.length=c.length+1) ?_ λd g=>rec _ omq ⟨_,_,rfl,bg omq,omq⟩;unfold app;rw[amE (by unfold bj;simp only[anN];omega)];exact aa siq
end Go.Fw
namespace Go.Fw
open Go
abbrev Ent:=Bs×eQ×List bE
def XB(l:List bE):Prop:=wL l<10000000/\∀v∈l,v.2.2.length<190000
def XB.nil:XB []:=⟨by decide,λ_ h=>by cases h⟩
noncomputable def Ky(N:Nat)(l:List bE):Bool:=(dL N l).getD false
def Pk{l:List bE}{v:bE}(h:v∈l):v.1.length<wL l/\v.2.2.length<wL l:=by
 have:=Vj h;omega
def QU(d:FN NN)(l:List bE)(h:XB l):dL NN l=some (Ky NN l):=by
 have g:=Pd l;have f:=h.1;have b:SM (dL NN l):=by
  unfold dL syv;refine DU (ajd d l omq λv a=>⟨by have:=Pk a;omega,h.2 v a⟩) λ_ _=> ?_;dsimp only;rw[Pc d l omq λv a=>by have:=Pk a;omega];exact k_c _ (aa trivial) (k_c _ (aa trivial) (aa trivial))
 obtain⟨c,e,_⟩:=b;unfold Ky;rw[e];rfl
def VC(d:FN NN){l:List bE}(h:XB l)(hd:Ky NN l=true):l=[]∨dU l=true:=by
 have a:=QU d l h;have f:=Pd l;have e:=h.1;rw[hd]at a;have b:OP (dL NN l) λc=>c=true->l=[]∨dU l=true:=by
  unfold dL syv;refine aB (cU _) λr _=> ?_;rw[Pc d l omq λv a=>by have:=Pk a;omega];refine aF (λc=> ?_) λ_=>aF (λ_=>ay λh=>.inr h) λ_=>ay λh=>by cases h
  refine ay λ_=>.inl ?_;have:((l.length:Nat):Int)=0:=by simpa using c
  exact List.length_eq_zero_iff.1 omq
 exact b true a rfl
noncomputable def mr(e:Ent):Bs:=aj (0,false,2,e.1)++(gm e.2.1++(bif e.2.2.isEmpty then [] else dS e.2.2))
noncomputable def Lv(e:Ent):List TLV:=(0,false,2,e.1)::ia e.2.1::(bif e.2.2.isEmpty then [] else [yf e.2.2])
noncomputable def rF(e:Ent):Bs:=tlv 0 true 16 (mr e)
def abD(e:Ent):ax (Lv e)=mr e:=by
 unfold Lv mr;cases e.2.2.isEmpty
 ·simp[ax,gm,dS]
 ·simp[ax,gm]
noncomputable def rG(e:Ent):Bool:=ft e.1&&(decide (e.1.length<=20)&&(fB e.2.1&&(e.2.2.isEmpty||dU e.2.2)))
def QV{l:List bE}(h:dU l=true):l.isEmpty=false:=by
 unfold dU at h;cases l with
 |nil=>simp at h
 |cons=>rfl
def akN(d:FN NN)(e:Ent)(h:rG e=true)(q:wL e.2.2<10000000):pT NN e=some (rF e,0):=by
 unfold rG at h;simp only[amk,anO,amX]at h;obtain⟨l,m,g,a⟩:=h;have r:=RL e.2.2 omq;have p:=DT e.2.1;have j:=dr (c:=0) (k:=false) (num:=2) (b:=e.1) omq;have o:(aj (0,false,2,e.1)).length<=e.1.length+6:=j;unfold pT syv;rw[qo d 0 2 false e.1 0 2 rfl rfl omq omq omq,amj];dsimp only;rw[cQ omq siq,amj,Vn d,g,amj];simp only[amw];rw[cQ omq siq,amj,jO,jO];rcases a with a|a
 ·have:e.2.2=[]:=aqg.1 a;rw[this];simp only[amI];rw[amm omq,amp,amj];dsimp only;rw[show((0:Int) !=0)=false from rfl,amp,DS d _ (mr e) ?_ siq ?_,amj]
  ·rfl
  ·unfold mr;rw[a];simp
  ·unfold mr;rw[a];simp only[amo,amw,amI];omega
 ·have f:=QV a;have n:0<e.2.2.length:=by
   cases i:e.2.2 with
   |nil=>rw[i]at f;cases f
   |cons=>simp
  rw[amq omq,amw,abc d _ omq,a,amj];simp only[amw];rw[cQ omq siq,amj,amj,jO];dsimp only;rw[show((0:Int) !=0)=false from rfl,amp,DS d _ (mr e) ?_ siq ?_,amj]
  ·rfl
  ·unfold mr;rw[f];simp
  ·unfold mr;rw[f];simp only[amo,amp];omega
def aeh(d:FN NN)(s:Bs)(b:ft s=true)(f:s.length<=20):aS NN (aj (0,false,2,s)) 2=some (s,0,0):=by
 obtain⟨e,c,a⟩:=Lm d (0,false,2,s) ⟨omq,by show 2<31;omega,by show s.length<=_;omega⟩;unfold aS kO syv;rw[c,amj];dsimp only;rw[show((0:Int) !=0)=false from rfl,amp,a.yes 0 2 false 0 2 rfl rfl rfl rfl rfl,amj,am3,amp,a.body,amj];dsimp only;rw[gB,b,amj,am3,amp,amm omq,amp,iH omq];rfl
def aei(i:FN NN)(a:Bs)(j:a.length<10000000):OW (aS NN a 2) λr=>(r.2=(0,0)/\ft r.1=true/\r.1.length<=20/\a=aj (0,false,2,r.1))∨(r.1=[]/\r.2.1≠0/\0<=r.2.2/\r.2.2<=(a.length:Int)):=by
 unfold aS kO syv;refine ag (wj i a j) ?_;rintro⟨v,e,o⟩ (⟨m,t,f,b,c⟩|⟨f,b,c⟩)
 ·cases m;dsimp only;rw[show((0:Int) !=0)=false from rfl,amp];have h:t.2.2.2.length<=a.length:=by rw[b];exact ap0 (cZ t)
  rcases EL.cs c 0 2 false 0 2 rfl rfl with⟨d,g⟩|⟨d,g⟩
  ·rw[d,amj,am3,amp,c.body,amj,gB];simp only[amj];cases k:ft t.2.2.2
   ·exact aa (.inr ⟨rfl,by decide,by show(0:Int)<=0;omega,by show(0:Int)<=_;omega⟩)
   ·simp only[am3,amp];by_cases l:t.2.2.2.length<=20
    ·rw[amm omq,amp,iH omq];exact aa (.inl ⟨rfl,k,l,by rw[b];exact amV aj g⟩)
    ·rw[amq omq,amw];exact aa (.inr ⟨rfl,by decide,by show(0:Int)<=0;omega,by show(0:Int)<=_;omega⟩)
  ·rw[d,amj];exact aa (.inr ⟨rfl,by decide,by show(0:Int)<=0;omega,by show(0:Int)<=_;omega⟩)
 ·dsimp only;rw[mq f];exact aa (.inr ⟨rfl,f,b,c⟩)
end Go.Fw
namespace Go.Fw
open Go
def VD{x y:Int}(h:0<=x)(k:0<=y):0<=rD x y:=by rw[Ld];split<;>assumption
def Xw{x y:Int}:rD x y<=y:=by rw[Ld];split<;>omega
def aej{x y:Int}(a:0<=x)(b:x<10000000)(c:0<=y)(d:y<10000000):0<=az .i64 x y:=by rw[bX ⟨omq,omq⟩];omega
section
variable {β:Type}{Q:β→Prop}
def AV{α:Type}{x:α}{r:List α}{f:α->Option β}(k:OW (f x) Q):OW ((ix (x::r) 0).bind f) Q:=k
def Pl{α:Type}{x:α}{r:List α}{f:List α->Option β}(k:OW (f r) Q):OW ((slc (x::r) 1 (((x::r).length:Nat):Int)).bind f) Q:=by
 have:slc (x::r) 1 (((x::r).length:Nat):Int)=some r:=by
  unfold slc;rw[amE (by simp only[amr];omega)];simp
 rw[this];exact k
def FT{a:Bs}{t:TLV}{e:aJ}{f:Bs->Option β}(h:EL a t e)(k:OW (f (aj t)) Q):OW ((slc a e.2.2.2.1 e.2.2.2.2.2).bind f) Q:=by rw[h.whole];exact k
def Kz{α:Type}{x:α}{r:List α}{A B:Option β}(h:OW B Q):OW (bif (((x::r).length:Nat):Int)==0 then A else B) Q:=by
 have:((((x::r).length:Nat):Int)==0)=false:=amO.2 (by simp only[amr];omega);rw[this];exact h
def VF{α:Type}{A B:Option β}(h:OW A Q):OW (bif ((([]:List α).length:Nat):Int)==0 then A else B) Q:=h
def lU{α:Type}{x:α}{r:List α}{A B:Option β}(h:OW A Q):OW (bif decide ((((x::r).length:Nat):Int)>0) then A else B) Q:=by
 rw[amq (by simp only[amr];omega)];exact h
def nC{α:Type}{A B:Option β}(h:OW B Q):OW (bif decide (((([]:List α).length:Nat):Int)>0) then A else B) Q:=h
def bF{α:Type}{x:Option α}{v:α}{f:α->Option β}(h:x=some v)(k:OW (f v) Q):OW (x.bind f) Q:=by rw[h];exact k
def k_z{A B:Option β}(h:OW B Q):OW (bif ((0:Int) !=0) then A else B) Q:=h
def tp{A B:Option β}(h:OW A Q):OW (bif ((0:Int)==0) then A else B) Q:=h
def VG{e:Int}{A B:Option β}(a:e≠0)(h:OW A Q):OW (bif (e !=0) then A else B) Q:=by rw[mq a];exact h
def wo{e:Int}{A B:Option β}(a:e≠0)(h:OW B Q):OW (bif (e==0) then A else B) Q:=by rw[amO.2 a];exact h
def NH(h:FN NN){a:Bs}{f:Bs×Int×Int->Option β}(i:a.length<10000000)(j:∀e o,e≠0->0<=o->o<=(a.length:Int)->OW (f ([],e,o)) Q)(k:∀s,ft s=true->s.length<=20->a=aj (0,false,2,s)->OW (f (s,0,0)) Q):OW ((aS NN a 2).bind f) Q:=by
 refine ag (aei h a i) ?_;rintro⟨s,e,o⟩ (⟨b,c,d,g⟩|⟨b,c,d,g⟩)
 ·cases b;exact k s c d g
 ·cases b;exact j e o c d g
def VH(h:FN NN){a:Bs}{f:eQ×Int×Int->Option β}(i:a.length<10000000)(j:∀t e o,e≠0->0<=o->o<=(a.length:Int)->OW (f (t,e,o)) Q)(k:∀t,fB t=true->gm t=a->OW (f (t,0,0)) Q):OW ((dM NN a).bind f) Q:=by
 refine ag (agw h a i) ?_;rintro⟨s,e,o⟩ (⟨d,b,c⟩|⟨b,c,g⟩)
 ·cases d;exact k s b c
 ·exact j s e o b c g
end
def agJ(N:Nat)(a:Bs):OP (bB N a) λr=>r.2.1≠0->r.1=[]:=by
 unfold bB syv;refine aB (cU _) λr _=>aF (λ_=>ay λ_=>rfl) λ_=> ?_;refine aB (cU _) ?_;rintro(⟨i,j⟩|⟨i,j,l⟩) _
 ·exact ay λ_=>rfl
 ·exact aB (cU _) λc _=>aF (λ_=>ay λ_=>rfl) λ_=>ay λh=>absurd rfl h
def agK{l:List bE}(h:dU l=true)(j:(dS l).length<190000):XB l:=by
 have b:=agr h;refine⟨omq,λv a=> ?_⟩;have c:=tn fF l v a;have d:((l.map fF).flatten).length<=(dS l).length:=ap0 (cZ (yf l));have e:(iV v.2.2).2.2.2.length<(aj (iV v.2.2)).length:=cZ _;have f:=gh (gE v) (iV v.2.2) (by unfold gE;simp);have g:(ax (gE v)).length<(fF v).length:=cZ (HM v);have i:(iV v.2.2).2.2.2.length=v.2.2.length:=rfl;omega
def Pm{β:Type}{Q:β->Prop}(i:FN NN){a:Bs}{f:List bE×Int×Int->Option β}(m:a.length<190000)(j:∀e o,e≠0->0<=o->o<=(a.length:Int)->OW (f ([],e,o)) Q)(k:∀l,dU l=true->dS l=a->XB l->OW (f (l,0,0)) Q):OW ((bB NN a).bind f) Q:=by
 refine ag (AT (ags i a omq) (agJ NN a)) ?_;rintro⟨s,e,o⟩ ⟨⟨d,b,c⟩|⟨b,c,g⟩,h⟩
 ·cases d;exact k s b c (agK b (by dsimp only at c;rw[c];omega))
 ·obtain rfl:s=[]:=h b;exact j e o b c g
def jv{P:Prop}(h:P:=by repeat ((try dsimp only);first|with_reducible exact(zz _)|with_reducible refine bx ?_|with_reducible refine k_z ?_|with_reducible refine tp ?_|with_reducible refine VG (by first|assumption|decide) ?_|with_reducible refine wo (by first|assumption|decide) ?_|with_reducible refine k_t ?_|with_reducible refine k_f ?_|with_reducible refine gF ?_|with_reducible refine Kz ?_|with_reducible refine VF ?_|with_reducible refine lU ?_|with_reducible refine nC ?_|with_reducible refine FR ?_|with_reducible refine eK ?_|with_reducible refine eA ?_|with_reducible refine AV ?_|with_reducible refine Pl ?_|with_reducible refine FT asq ?_|with_reducible refine bF asq ?_|with_reducible refine NH asq omq (λ_ _ _ _ _=> ?_) (λ_ _ _ _=> ?_)|with_reducible refine VH asq omq (λ_ _ _ _ _ _=> ?_) (λ_ _ _=> ?_)|with_reducible refine Pm asq omq (λ_ _ _ _ _=> ?_) (λ_ _ _ _=> ?_)|exact(zz _))):P:=h
def aje(g:FN NN)(v:Ent)(h:rG v=true)(a:Bs)(n:rF v=a)(D:a.length<190000):bz NN a=some (v,0,0):=by
 have b:(mr v).length<a.length:=by rw[<-n];exact dq
 have C:=h;unfold rG at h;simp only[amk,anO,amX]at h;obtain⟨j,k,m,i⟩:=h;have u:∀t∈Lv v,okT t:=by
  unfold Lv;intro t e;simp only[amN]at e;rcases e with rfl|rfl|e
  ·exact⟨omq,by show 2<31;omega,by show v.1.length<=_;omega⟩
  ·exact HU _
  ·unfold mr at b;cases o:v.2.2.isEmpty
   ·rw[o]at e b;rw[anl.1 e];simp only[amo,amp]at b;have:=cZ (yf v.2.2);have q:(aj (yf v.2.2)).length=(dS v.2.2).length:=rfl;exact⟨by show 0<4;omega,by show 16<31;omega,omq⟩
   ·rw[o]at e;cases e
 obtain⟨l,w,d⟩:=lq g (c:=0) (num:=16) omq omq a (Lv v) (by rw[abD];exact n.symm) u omq 0 16 rfl rfl;have z:=aeh g v.1 j k;have e:=QM g v.2.1 m (aj (ia v.2.1)) rfl;suffices OW (bz NN a) λr=>r=(v,0,0) by
  obtain⟨r,y,rfl⟩:=this;exact y
 unfold bz dT syv;rw[w,amj];obtain⟨s,t,x⟩:=v;dsimp only at j k m i z e;unfold Lv at d;dsimp only at d;cases f:x.isEmpty
 ·rw[f]at d;simp only[amp]at d;rw[f]at i;have p:dU x=true:=by simpa using i
  have E:=Xl g x p (aj (yf x)) rfl (by
   unfold mr at b;rw[f]at b;simp only[amo,amp]at b;have q:(aj (yf x)).length=(dS x).length:=rfl;omega)
  cases d with
  |cons A d=>cases d with
   |cons B d=>cases d with
    |cons F d=>
     cases d
     (have zz:∀(P:Prop)(h:P:=by exact aa rfl),P:= @id;exact jv)
 ·rw[f]at d;simp only[amw]at d;obtain rfl:x=[]:=aqg.1 f;cases d with
  |cons A d=>cases d with
   |cons B d=>
    cases d
    (have zz:∀(P:Prop)(h:P:=by exact aa rfl),P:= @id;exact jv)
end Go.Fw
namespace Go.Fw
open Go
def EL.lb{a:Bs}{t:TLV}{e:aJ}(h:EL a t e):0<=e.2.2.2.1/\e.2.2.2.1<=(a.length:Int)/\(aj t).length<=a.length:=by
 obtain⟨p,q,r,b,c,d,f,g,i,b7⟩:=h.bd;rw[b];omega
def EPS(a:Bs)(r:Ent×Int×Int):Prop:=((r.2=(0,0)/\rG r.1=true/\rF r.1=a)∨(r.2.1≠0/\0<=r.2.2/\r.2.2<=(a.length:Int)))/\r.1.1.length<=20/\XB r.1.2.2
def Be{a:Bs}{s:Bs}{t:eQ}{x:List bE}{e o:Int}(d:e≠0)(b:0<=o)(c:o<=(a.length:Int))(f:s.length<=20)(g:XB x):OW (some ((s,t,x),e,o)) (EPS a):=aa ⟨.inr ⟨d,b,c⟩,f,g⟩
def agL{a:Bs}{t0 b t2:TLV}{s:Bs}{t:eQ}{x:List bE}(h:a=tlv 0 true 16 (ax [t0,b,t2]))(i:ft s=true)(l:s.length<=20)(c:aj t0=aj (0,false,2,s))(v:fB t=true)(d:gm t=aj b)(k:dU x=true)(e:dS x=aj t2)(f:XB x):OW (some ((s,t,x),0,0)) (EPS a):=by
 refine aa ⟨.inl ⟨rfl,?_,?_⟩,l,f⟩
 ·unfold rG;simp[i,l,v,k]
 ·unfold rF mr;rw[h,QV k];dsimp only;rw[d,amp,e,<-c];simp[ax]
def agM{a:Bs}{t0 b:TLV}{s:Bs}{t:eQ}(h:a=tlv 0 true 16 (ax [t0,b]))(i:ft s=true)(l:s.length<=20)(c:aj t0=aj (0,false,2,s))(v:fB t=true)(d:gm t=aj b):OW (some ((s,t,[]),0,0)) (EPS a):=by
 refine aa ⟨.inl ⟨rfl,?_,?_⟩,l,XB.nil⟩
 ·unfold rG;simp[i,l,v]
 ·unfold rF mr;rw[h];dsimp only;rw[d,<-c];simp[ax]
def cE{P:Prop}(h:P:=by first|omega|exact VD (by first|omega|exact aej omq omq omq omq) omq|exact Xw):P:=h
def ajf(n:FN NN)(a:Bs)(C:a.length<190000):OW (bz NN a) (EPS a):=by
 unfold bz dT syv;refine ag (AT (jt n a omq 0 16) (qK NN a _ _)) ?_;rintro⟨l,e,o⟩ ⟨⟨p,E,c,_,_,D,b⟩|⟨c,q,r⟩,s⟩
 ·cases p;dsimp only at b;cases b with
  |nil=>(have zz:∀(P:Prop)(h:P:=by exact Be (by first|assumption|decide) cE cE siq XB.nil),P:= @id;exact jv)
  |cons i b=>
   obtain⟨t,u,v⟩:=i.lb;cases b with
   |nil=>(have zz:∀(P:Prop)(h:P:=by exact Be (by first|assumption|decide) cE cE (by first|assumption|simp) XB.nil),P:= @id;exact jv)
   |cons j b=>
    obtain⟨w,x,y⟩:=j.lb;cases b with
    |nil=>(have zz:∀(P:Prop)(h:P:=by exact by first|exact agM asq asq asq asq asq asq|exact Be (by first|assumption|decide) cE cE (by first|assumption|simp) XB.nil),P:= @id;exact jv)
    |cons k b=>
     obtain⟨z,A,B⟩:=k.lb;cases b with
     |nil=>(have zz:∀(P:Prop)(h:P:=by exact by first|exact agL asq asq asq asq asq asq asq asq asq|exact Be (by first|assumption|decide) cE cE (by first|assumption|simp) (by first|assumption|exact XB.nil)),P:= @id;exact jv)
     |cons m b=>
      obtain⟨d,f,g⟩:=m.lb
      (have zz:∀(P:Prop)(h:P:=by exact Be (by first|assumption|decide) cE cE (by first|assumption|simp) (by first|assumption|exact XB.nil)),P:= @id;exact jv)
 ·obtain rfl:l=[]:=s c;dsimp only at c q r
  (have zz:∀(P:Prop)(h:P:=by exact Be (by first|assumption|decide) cE cE siq XB.nil),P:= @id;exact jv)
end Go.Fw
