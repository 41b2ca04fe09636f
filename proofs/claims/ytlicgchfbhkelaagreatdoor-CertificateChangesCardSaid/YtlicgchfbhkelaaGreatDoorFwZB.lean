/- A framework for proofs about Go programs in this model: part ZB. Everything is proved; no condition is added. -/
import Derived.Lib.TrimU
import Derived.Test.YtlicgchfbhkelaaGreatDoorFwZA
set_option linter.unusedVariables false
set_option linter.unusedSimpArgs false
set_option linter.defProp false
def amz:=@of_decide_eq_false
namespace Go.Fw
open Go
abbrev SM{α:Type}(x:Option α):Prop:=OW x λ_=>True
def ai{α:Type}(a:α):SM (some a):=⟨a,rfl,trivial⟩
def zQ{α:Type}{x:Option α}{a:α}(h:x=some a):SM x:=⟨a,h,trivial⟩
def Ah{α b:Type}{x:Option α}{f:α->Option b}{R:α->Prop}(h:OW x R)(k:∀a,R a->SM (f a)):SM (x.bind f):=ah h k
def aE{α b:Type}{x:Option α}{f:α->Option b}(h:SM x)(k:∀a,SM (f a)):SM (x.bind f):=ah h λa _=>k a
def lf{α:Type}{c:Bool}{x y:Option α}(a:c=true->SM x)(b:c=false->SM y):SM (bif c then x else y):=aw a b
def aN{α:Type}(c:Bool){x y:Option α}(a:SM x)(b:SM y):SM (bif c then x else y):=aw (λ_=>a) λ_=>b
def Rz{α:Type}{x:Option α}{Q:α->Prop}(h:OW x Q):SM x:=tq h λ_ _=>trivial
def vw(e:aV)(c n:Int)(k:Bool):SM (eu e c k n):=zQ (YQ e c n k)
def V9(c:Bs):SM (dH c):=by obtain⟨v,e,h⟩:=Te c;exact zQ h
def aaj{N:Nat}(a:FN N)(c:Bs)(b:c.length<10000000):SM (nQ N c):=zQ (Pv a c b)
def afC{N:Nat}(a:FN N)(c:Bs)(b:c.length<10000000):SM (cS N c):=Rz (pT a c b)
def acV(c:Bs)(a:c.length<10000000):SM (cw c):=zQ (iz a)
def ahR(x:gR)(g:x.1.length<10000000):∃i,ud x=some i/\(i<=8*(x.1.length:Int)):=by
 obtain⟨c,a,b⟩:=wQ x omq;unfold ud syv;rw[a,akX];cases c
 ·exact⟨0,rfl,omq⟩
 ·obtain⟨d,f⟩:=b rfl;have e:iB .i64 8 (x.1.length:Int)=8*(x.1.length:Int):=by
   show IntKind.i64.wrap _=_;rw[alA _ omq]
  refine⟨aC .i64 (iB .i64 8 (x.1.length:Int)) x.2,rfl,?_⟩;rw[e,pF omq];omega
def bat(x:gR)(b:x.1.length<10000000)(i:Nat)(h:i<100000000):SM (pZ x (i:Int)):=by
 unfold pZ syv;rw[ak3 (by omega:(i:Int)>=0),ala];obtain⟨m,d,f⟩:=ahR x b;rw[d,akX];refine lf (λc=> ?_) λ_=>ai _;have g:(i:Int)<m:=alC c;have e:vf .i64 (i:Int) 8=((i / 8:Nat):Int):=by
  show IntKind.i64.wrap ((i:Int).tdiv 8)=_;rw[anw omq,alA _ omq];omega
 have a:Int.tmod (i:Int) 8=((i % 8:Nat):Int):=by
  rw[an0 omq];omega
 rw[e,bc (akZ (show i / 8<x.1.length by omega)),akX,a,pF omq,ak3 omq,ala];exact ai _
def X4(N:Nat)(x:gR)(f:x.1.length<10000000)(m:Int)(j:m<=100000):∀(k n i:Nat)(s:Int),(m-(i:Int)).toNat=k->k<n->i<=100000->SM (gk N n (s,m,(i:Int),x.1,x.2)):=by
 intro k;induction k with
 |zero=>
  intro n i s e g d;obtain⟨n,rfl⟩:∃m,n=m+1:=⟨n-1,omq⟩;show SM (bif decide ((i:Int)<m) then _ else some s);rw[ak0 omq];exact ai _
 |succ k h=>
  intro n i s e g d;obtain⟨n,rfl⟩:∃m,n=m+1:=⟨n-1,omq⟩;show SM (bif decide ((i:Int)<m) then(pZ x (i:Int)).bind _ else some s);rw[ak3 omq,ala];refine aE (bat x f i omq) λc=> ?_;have b:∀a,SM (gk N n (a,m,ay .i64 (i:Int) 1,x.1,x.2)):=λa=>by
   rw[bu omq];exact h n (i+1) a omq omq omq
  rw[ak3 (by omega:(0:Int)<=(i:Int))];cases c
  ·exact b _
  ·exact b _
def Ul{N:Nat}(p:FN N)(c:Bs)(d:c.length<10000000):SM (iD N c 9):=by
 have f:=p;unfold FN at f;unfold iD syv;obtain⟨x,e,a,o⟩:=Tb c omq;have g:x.1.length<10000000:=by
  by_cases q:e=0
  ·have:=(o q).1;rw[this]at d;simp[cn]at d;omega
  ·unfold bA syv at a;cases c with
   |nil=>cases a;simp
   |cons b r=>
    rw[PD,ak0 siq,ak5,qd,akX,iz (by simp at d;omega),akX,ix0,akX]at a;obtain⟨w,u,_⟩:=wQ (r,IntKind.wrap .i64 (b.toNat:Int)) (by simp at d⊢;omega);rw[u,akX]at a;cases w
    ·cases a;simp
    ·cases a;simp at d⊢;omega
 rw[show decide ((9:Int)<1)=false from rfl,show decide ((9:Int)>32)=false from rfl,ak5,ak5,a,akX];dsimp only;obtain⟨i,s,t⟩:=ahR x g;rw[s,akX];refine aN _ (ai _) (lf (λ_=>ai _) λm=> ?_);have n:¬i>9:=amz m;have j:SM ((gk N N (0,i,0,x)).bind λh=>some (h,(0:Int))):=by
  refine aE ?_ λ_=>ai _;exact X4 N x g i omq (i-((0:Nat):Int)).toNat N 0 0 rfl omq omq
 refine lf (λk=> ?_) λ_=>j;have l:i>0:=alC k;rw[pF omq,show i-1=(((i-1).toNat:Nat):Int) from omq];exact aE (bat x g _ omq) λc=>aN _ (ai _) j
variable{Z:Type}
def EU{N:Nat}(g:FN N)(a:Bs)(h:a.length<10000000)(f:aV×Int×Int->Option Z)(c:∀v e o,e≠0->SM (f (v,e,o)))(d:∀v t,EL a t v->t.2.2.2.length<10000000->SM (f (v,0,0))):SM ((bM N a).bind f):=by
 refine Ah (CY g a h) ?_;rintro⟨v,e,o⟩ (⟨i,t,b,j,k⟩|⟨b,_⟩)
 ·cases i;refine d v t k ?_;have:=bt t;have:a.length=(ag t).length:=by rw[j]
  omega
 ·exact c v e o b
def pS{e:Int}(h:e≠0):(e !=0)=true:=by simpa using h
def X5{N:Nat}(d:FN N)(a:Bs)(f:a.length<10000000):SM (jJ N a):=by
 unfold jJ syv;refine EU d a f _ (λv e o g=> ?_) λv t b h=> ?_
 ·dsimp only;rw[pS g];exact ai _
 ·dsimp only;refine aE (vw _ _ _ _) λc=>aN _ (ai _) ?_;rw[b.body,akX];exact aE (acV _ h) λ_=>ai _
def Va{N:Nat}(b:FN N)(a:Bs)(f:a.length<10000000):SM (nx N a):=by
 unfold nx syv;refine EU b a f _ (λv e o g=> ?_) λv t d h=> ?_
 ·dsimp only;rw[pS g];exact ai _
 ·dsimp only;refine aE (vw _ _ _ _) λc=>aN _ (ai _) ?_;rw[d.body,akX];exact aE (Ul b _ h) λ_=>aN _ (ai _) (aN _ (ai _) (ai _))
def aak(i:Int)(h:0<=i)(a:i<=10):SM (yy i):=by
 unfold yy Iv syv;have:i=0∨i=1∨i=2∨i=3∨i=4∨i=5∨i=6∨i=7∨i=8∨i=9∨i=10:=omq;rcases this with rfl|rfl|rfl|rfl|rfl|rfl|rfl|rfl|rfl|rfl|rfl<;>exact ai _
def X6{N:Nat}(b:FN N)(a:Bs)(g:a.length<10000000):SM (rH N a):=by
 unfold rH syv;refine EU b a g _ (λv e o h=> ?_) λv t f i=> ?_
 ·dsimp only;rw[pS h];exact ai _
 ·dsimp only;refine aE (vw _ _ _ _) λc=>aN _ (ai _) ?_;rw[f.body,akX];refine aE (aaj b _ i) λr=>aN _ (ai _) (lf (λ_=>ai _) λc1=>lf (λ_=>ai _) λd=> ?_);exact aE (aak r.1 (by have:=amz c1;omega) (by have:=amz d;omega)) λ_=>aN _ (ai _) (ai _)
def acW{N:Nat}(b:FN N)(a:Bs)(f:a.length<10000000):SM (mj N a):=by
 unfold mj syv;refine EU b a f _ (λv e o g=> ?_) λv t d h=> ?_
 ·dsimp only;rw[pS g];exact ai _
 ·dsimp only;refine aE (vw _ _ _ _) λc=>aN _ (ai _) ?_;rw[d.body,akX];exact aE (Rz (QA b _ h)) λ_=>aN _ (ai _) (ai _)
def acX{N:Nat}(a:FN N)(c:Bs)(b:c.length<10000000):SM (uk N c):=by
 unfold uk syv;exact aE (aaj a c b) λr=>aN _ (aN _ (ai _) (ai _)) (ai _)
def JA{N:Nat}(d:FN N)(a:Bs)(t:TLV)(e:aV)(b:EL a t e)(f:t.2.2.2.length<10000000)(x y:Int):SM (jK N a e.1 e.2.1 e.2.2.1 e.2.2.2.1 e.2.2.2.2.1 e.2.2.2.2.2 x y):=by
 unfold jK syv;refine aE (vw _ _ _ _) λc=>aN _ (ai _) ?_;rw[b.body,akX];exact aE (acX d _ f) λ_=>aN _ (ai _) (ai _)
def Q9{N:Nat}(b:FN N)(a:Bs)(d:a.length<10000000):SM (lA N a):=by
 unfold lA sV syv;refine aE ?_ λ_=>ai _;refine EU b a d _ (λv e o f=> ?_) λv t c g=> ?_
 ·dsimp only;rw[pS f];exact ai _
 ·dsimp only;exact aE (JA b a t v c g 0 2) λ_=>aN _ (ai _) (ai _)
def afD(c:Bs):SM (wD c):=by
 unfold wD syv;rw[gp,akX];refine lf (λ_=>ai _) λh=> ?_;have a:ii c=true:=by simpa using h
 cases c with
 |nil=>cases a
 |cons x r=>
  rw[ix0];exact aN _ (aN _ (ai _) (aN _ (ai _) (ai _))) (aN _ (ai _) (ai _))
def aal(c:Bs):SM (oo c):=by
 unfold oo syv;rw[gp,akX];exact aN _ (aN _ (aE (afD c) λ_=>ai _) (ai _)) (ai _)
def Pw{N:Nat}(d:FN N)(a:Bs)(f:a.length<10000000):SM (iG N a):=by
 unfold iG ri syv;refine aE ?_ λ_=>ai _;refine EU d a f _ (λv e o g=> ?_) λv t b h=> ?_
 ·dsimp only;rw[pS g];exact ai _
 ·dsimp only;refine aE ?_ λ_=>aN _ (ai _) (ai _);unfold sM syv;refine aE (vw _ _ _ _) λc=>aN _ (ai _) ?_;rw[show slc a v.2.2.2.2.1 v.2.2.2.2.2=_ from b.body,akX];unfold sK syv;rw[iz h,akX];exact aE (aE (aal _) λ_=>ai _) λ_=>aN _ (ai _) (ai _)
def Mw{N:Nat}(m:FN N)(a:Bs)(n:a.length<10000000)(c num:Nat)(d i:Int)(p:d=(c:Int))(q:i=(num:Int))(f:List aV×Int×Int->Option Z)(j:∀v e o,e≠0->SM (f (v,e,o)))(k:∀l b,br (EL a) b l->(ak b).length<a.length->a=tlv c true num (ak b)->SM (f (l,0,0))):SM ((aW N a d i).bind f):=by
 subst p q;refine Ah (nj m a n c num) ?_;rintro⟨l,e,o⟩ (⟨r,b,g,_,_,h,s⟩|⟨g,_⟩)
 ·cases r;exact k l b s (by rw[h];exact gi) h
 ·exact j l e o g
def br.bodies{a:Bs}{b:List TLV}{l:List aV}(h:br (EL a) b l){i:Nat}{e:aV}(f:l[i]?=some e):∃t,EL a t e/\t∈b/\t.2.2.2.length<(ak b).length/\(ag t).length<=(ak b).length:=by
 obtain⟨t,c,d⟩:=h.get f;have:=fc b t (alz c);have:=bt t;exact⟨t,d,alz c,omq,omq⟩
def X7(a:Bs)(t:TLV)(e:aV)(b:EL a t e)(x y:Int):SM (mN a e.1 e.2.1 e.2.2.1 e.2.2.2.1 e.2.2.2.2.1 e.2.2.2.2.2 x y):=by
 unfold mN syv;refine aE (vw _ _ _ _) λc=>aN _ (ai _) ?_;rw[b.body,akX];unfold Cs syv;exact aE (aE (V9 _) λ_=>aN _ (ai _) (ai _)) λ_=>aN _ (ai _) (ai _)
def acY{N:Nat}(f:FN N)(a:Bs)(k:a.length<10000000):SM (rG N a):=by
 unfold rG syv;refine Mw f a k 0 16 0 16 rfl rfl _ (λv e o m=> ?_) λl p g n _=> ?_
 ·dsimp only;rw[pS m];exact ai _
 ·dsimp only;rw[show((0:Int) !=0)=false from rfl,ak5];refine Ah (R:=λy=>(∃c,y=Sum.inl (a,l,c))∨∃i,y=Sum.inr i) ?_ ?_
  ·refine aw (λc=> ?_) λ_=>aa (.inl ⟨_,rfl⟩);refine ah (xc omq (by simpa using c)) λe h=> ?_;obtain⟨t,b,_,_,_⟩:=g.bodies h.1;refine ah (X7 a t e b 0 1) λr _=> ?_;refine aw (λ_=> ?_) λ_=>aa (.inl ⟨_,rfl⟩);exact ah (xc omq (by simpa using c)) λe h=>aa (.inr ⟨_,rfl⟩)
  ·rintro y (⟨c,rfl⟩|⟨i,rfl⟩)
   ·dsimp only;refine Ah (R:=λy=>(∃c d e,y=Sum.inl (l,c,d,e))∨∃i,y=Sum.inr i) ?_ ?_
    ·refine aw (λc=> ?_) λ_=>aa (.inl ⟨_,_,_,rfl⟩);have j:((l.length:Nat):Int)>1:=alC c;refine ah (xc omq omq) λe h=> ?_;obtain⟨t,b,_,_,_⟩:=g.bodies h.1;refine ah (JA f a t e b omq 0 2) λr _=> ?_;refine aw (λ_=> ?_) λ_=>aa (.inl ⟨_,_,_,rfl⟩);exact ah (xc omq omq) λe h=>aa (.inr ⟨_,rfl⟩)
    ·rintro y (⟨c,d,e,rfl⟩|⟨i,rfl⟩)
     ·dsimp only;refine lf (λc=> ?_) λ_=>ai _;have j:((l.length:Nat):Int)>2:=alC c;exact Ah (xc omq omq) λe h=>ai _
     ·exact ai _
   ·exact ai _
def aam{N:Nat}(s:FN N)(a:Bs)(z:a.length<10000000)(g:List TLV)(l:List aV)(j:br (EL a) g l)(A:(ak g).length<a.length):∀(k n i:Nat)(e:Int)(d:Bool)(i9:Int)(b:Bool)(c:Int),l.length-i=k->k<n->i<=l.length->
 OW (nC N n (a,e,l,(l.length:Int),(i:Int),d,i9,b,c)) λ_=>True:=by
 have o:=j.length;have w:=eN g;intro k;induction k with
 |zero=>
  intro n i e d i9 b c v x u;obtain⟨n,rfl⟩:∃m,n=m+1:=⟨n-1,omq⟩;show OW (bif decide ((i:Int)<(l.length:Int)) then _ else some _) _;rw[ak0 omq];exact ai _
 |succ k y=>
  intro n i e d i9 b c v x u;obtain⟨n,rfl⟩:∃m,n=m+1:=⟨n-1,omq⟩;have f:i<l.length:=omq;have p:=akZ f;obtain⟨t,q,_,_,_⟩:=j.bodies p;show OW (bif decide ((i:Int)<(l.length:Int)) then _ else some _) _;have h:∀(e:Int)(d:Bool)(i9:Int)(b:Bool)(c:Int),OW (nC N n (a,e,l,(l.length:Int),ay .i64 (i:Int) 1,d,i9,b,c)) λ_=>True:=λe d i9 b c=>by
   rw[bu omq];exact y n (i+1) e d i9 b c omq omq omq
  rw[ak3 omq,ala,bc p,akX];refine ah (JA s a t _ q omq 2 _) λr _=> ?_;refine aw (λ_=>ai _) λ_=>aw (λ_=>ai _) λ_=>aw (λ_=>ai _) λ_=> ?_;cases (l[i].2.1==0)
  ·exact h _ _ _ _ _
  ·exact h _ _ _ _ _
def afE{N:Nat}(b:FN N)(a:Bs)(d:a.length<10000000):SM (ml N a):=by
 have c:=b;unfold FN at c;unfold ml syv;refine Mw b a d 0 16 0 16 rfl rfl _ (λv e o j=> ?_) λl h f m _=> ?_
 ·dsimp only;rw[pS j];exact ai _
 ·dsimp only;have g:=f.length;have k:=eN h;rw[show((0:Int) !=0)=false from rfl,ak5];refine aE (aam b a d h l f m l.length N 0 (-1) false 0 false 0 omq omq omq) λy=> ?_;rcases y with i|⟨n,p,q,r,s,t⟩
  ·exact ai _
  ·exact aN _ (ai _) (ai _)
def X8{N:Nat}(p:FN N)(a:Bs)(y:a.length<10000000)(d:List TLV)(l:List aV)(e:br (EL a) d l)(z:(ak d).length<a.length):∀(k n i:Nat)(acc:List Bs),l.length-i=k->k<n->i<=l.length->acc.length<=i->
 OW (rZ N n (a,l,(l.length:Int),(i:Int),0,0,acc)) λ_=>True:=by
 have f:=e.length;have v:=eN d;intro k;induction k with
 |zero=>
  intro n i acc u w s _;obtain⟨n,rfl⟩:∃m,n=m+1:=⟨n-1,omq⟩;show OW (bif decide ((i:Int)<(l.length:Int)) then _ else some _) _;rw[ak0 omq];exact ai _
 |succ k x=>
  intro n i acc u w s q;obtain⟨n,rfl⟩:∃m,n=m+1:=⟨n-1,omq⟩;have b:i<l.length:=omq;have g:=akZ b;obtain⟨t,o,_,_,_⟩:=e.bodies g;have j:∀acc:List Bs,acc.length<=i+1->OW (rZ N n (a,l,(l.length:Int),ay .i64 (i:Int) 1,0,0,acc)) λ_=>True:=λacc h=>by
   rw[bu omq];exact x n (i+1) acc omq omq omq h
  show OW (bif decide ((i:Int)<(l.length:Int)) then _ else some _) _;rw[ak3 omq,ala,bc g,akX];refine ah (vw _ _ _ _) λc _=>aw (λ_=>ai _) λ_=> ?_;rw[o.body,akX];refine ah (afC p _ omq) λr _=>aw (λ_=>ai _) λ_=> ?_;rw[dQ omq (by simp only[ak4,alq];omega),akX];exact j _ soq
def acZ{N:Nat}(b:FN N)(a:Bs)(d:a.length<10000000):SM (rK N a):=by
 have c:=b;unfold FN at c;unfold rK syv;refine Mw b a d 0 16 0 16 rfl rfl _ (λv e o k=> ?_) λl h f n _=> ?_
 ·dsimp only;rw[pS k];exact ai _
 ·dsimp only;have g:=f.length;have m:=eN h;rw[show((0:Int) !=0)=false from rfl,ak5];refine aE (X8 b a d h l f n l.length N 0 [] omq omq omq siq) λy=> ?_;rcases y with⟨i,j⟩|⟨p,q,r,s⟩
  ·exact ai _
  ·exact aN _ (ai _) (ai _)
end Go.Fw
namespace Go.Fw
open Go
def XV{α b:Type}{Q:b->Prop}{x:Option α}{f:α->Option b}(h:OW x λa=>OW (f a) Q):OW (x.bind f) Q:=by
 obtain⟨a,rfl,h⟩:=h;exact h
def akF{α:Type}{Q:α->Prop}{c:Bool}{x y:Option α}(a:c=true->OW x Q)(b:c=false->OW y Q):OW (cond c x y) Q:=by
 cases c;exact b rfl;exact a rfl
def akG{α b:Type}{Q:b->Prop}{R:α->Prop}{x:Option α}{f:α->Option b}(h:OW x R)(k:∀a,R a->OW (f a) Q):OW x λa=>OW (f a) Q:=by
 obtain⟨a,rfl,h⟩:=h;exact⟨a,rfl,k a h⟩
def acH{α b:Type}{Q:b->Prop}{x:Option α}{a:α}{f:α->Option b}(h:x=some a)(k:OW (f a) Q):OW x λa=>OW (f a) Q:=⟨a,h,k⟩
def XW{b:Bse}{d:AD b}{x:Tup (PV.tcss d.ap)}{Q:Tup d.rp.tcs->Prop}(h:OW (BB d.c.cxs d.f d.ap d.rp x) Q):OW (d.run x) Q:=by rw[AD.run_eq];exact h
def Pr{α a:Type}{Q:a->Prop}{f:α->Option a}{x:α}(h:OW (f x) Q):OW (Gi f x) Q:=by rw[Gj];exact h
def hNN:FN NN:=by unfold FN;rw[aiZ];decide
end Go.Fw
namespace Go.Fw
def akR{P:Prop}(h:P:=by repeat' ((conv=>arg 1;whnf);first|exact⟨_,rfl,trivial⟩|refine akF (λ_=> ?_) λ_=> ?_|refine XV (acH rfl ?_)|refine acH rfl ?_|refine XV ?_|refine Pr ?_)):P:=h
end Go.Fw
namespace Go.Proofs.Tryz
open Go Go.Fw
set_option maxRecDepth 100000
set_option maxHeartbeats 4000000
def alone_sm0(g:Int×Bs×Bs×Bs×List (List (Bs×Bs))×(Int×Bs)×Int×Bs):SM (um.run g):=by
 refine XW ?_;exact akR
end Go.Proofs.Tryz
namespace Go.Fw
open Go
def Ai(s:Bs)(i:Nat):∃r w:Nat,im s (i:Int)=((r:Int),(w:Int))/\r<=1114111/\1<=w:=by
 refine⟨(Utf8.decode ⟨s.toArray⟩ i).1,(Utf8.decode ⟨s.toArray⟩ i).2,rfl,Lib.rune_le _ _,Lib.width_pos _ _⟩
def ajj(r:Nat)(h:r<=1114111):SM (sf (r:Int)):=by
 unfold sf;rw[ak3 (by omega:(-2147483648:Int)<=(r:Int)),ak3 (by omega:(r:Int)<=2147483647)];exact ai _
def ad2(r:Int):SM (FU r):=zQ (JL r)
def ajk(r:Nat)(h:r<=1114111):SM (dJ (r:Int)):=by
 have a:=aE (ajj r h) λc=>ai c;unfold dJ;exact aN _ (aN _ (ai _) (aN _ (aN _ (ai _) (aN _ (aN _ (ai _) a) a)) (aN _ (aN _ (ai _) a) a))) (aN _ (aN _ (ai _) (aN _ (aN _ (ai _) a) a)) (aN _ (aN _ (ai _) a) a))
def aan(r a b:Int):SM (bh r a b):=by
 unfold bh;exact aN _ (ai _) (ai _)
def ajl(r a b:Int):SM (cK r a b):=by
 unfold cK;exact aE (aan r a b) λc=>aN _ (ai _) (aN _ (ai _) (ai _))
def ajm(r:Int):SM (dK r):=by
 unfold dK;exact aE (ad2 r) λc=>aN _ (ai _) (ai _)
def ad3(N:Nat)(w:Int)(s:Bs):∀(k n i:Nat),s.length-i<=k->k<n->SM (gJ N n (w,s,(i:Int))):=by
 intro k;induction k with
 |zero=>
  intro n i d f;obtain⟨n,rfl⟩:∃m,n=m+1:=⟨n-1,omq⟩;show SM (bif decide ((i:Int)<(s.length:Int)) then _ else some _);rw[ak0 omq];exact ai _
 |succ k g=>
  intro n i d f;obtain⟨n,rfl⟩:∃m,n=m+1:=⟨n-1,omq⟩;show SM (bif decide ((i:Int)<(s.length:Int)) then(bif decide (0<=(i:Int)) then _ else none) else some _);refine lf (λc=> ?_) λ_=>ai _;have h:(i:Int)<(s.length:Int):=alC c;obtain⟨r,a,b,j,l⟩:=Ai s i;rw[ak3 (by omega:(0:Int)<=(i:Int)),ala,b];refine aE (ad2 _) λc=>aN _ (ai _) ?_;have e:((i:Int)+(a:Int))=((i+a:Nat):Int):=omq;show SM (gJ N n (w,s,((i:Int)+(a:Int))));rw[e];exact g n (i+a) omq omq
def ajn(N:Nat)(w:Int)(s:Bs):∀(k n i:Nat),s.length-i<=k->k<n->SM (ja N n (w,s,(i:Int))):=by
 intro k;induction k with
 |zero=>
  intro n i d f;obtain⟨n,rfl⟩:∃m,n=m+1:=⟨n-1,omq⟩;show SM (bif decide ((i:Int)<(s.length:Int)) then _ else some _);rw[ak0 omq];exact ai _
 |succ k h=>
  intro n i d f;obtain⟨n,rfl⟩:∃m,n=m+1:=⟨n-1,omq⟩;show SM (bif decide ((i:Int)<(s.length:Int)) then(bif decide (0<=(i:Int)) then _ else none) else some _);refine lf (λc=> ?_) λ_=>ai _;have j:(i:Int)<(s.length:Int):=alC c;obtain⟨r,a,b,g,l⟩:=Ai s i;rw[ak3 (by omega:(0:Int)<=(i:Int)),ala,b];refine aE (ajk r g) λc=>aN _ (ai _) ?_;have e:((i:Int)+(a:Int))=((i+a:Nat):Int):=omq;show SM (ja N n (w,s,((i:Int)+(a:Int))));rw[e];exact h n (i+a) omq omq
def ajo(N:Nat)(w:Int)(s:Bs):∀(k n i:Nat),s.length-i<=k->k<n->SM (jc N n (w,s,(i:Int))):=by
 intro k;induction k with
 |zero=>
  intro n i d f;obtain⟨n,rfl⟩:∃m,n=m+1:=⟨n-1,omq⟩;show SM (bif decide ((i:Int)<(s.length:Int)) then _ else some _);rw[ak0 omq];exact ai _
 |succ k g=>
  intro n i d f;obtain⟨n,rfl⟩:∃m,n=m+1:=⟨n-1,omq⟩;show SM (bif decide ((i:Int)<(s.length:Int)) then(bif decide (0<=(i:Int)) then _ else none) else some _);refine lf (λc=> ?_) λ_=>ai _;have h:(i:Int)<(s.length:Int):=alC c;obtain⟨r,a,b,j,l⟩:=Ai s i;rw[ak3 (by omega:(0:Int)<=(i:Int)),ala,b];refine aE (ajm _) λc=>aN _ (ai _) ?_;have e:((i:Int)+(a:Int))=((i+a:Nat):Int):=omq;show SM (jc N n (w,s,((i:Int)+(a:Int))));rw[e];exact g n (i+a) omq omq
def ajp(N:Nat)(a b:Int)(w:Int)(s:Bs):∀(k n i:Nat),s.length-i<=k->k<n->SM (jb N n (a,b,w,s,(i:Int))):=by
 intro k;induction k with
 |zero=>
  intro n i g h;obtain⟨n,rfl⟩:∃m,n=m+1:=⟨n-1,omq⟩;show SM (bif decide ((i:Int)<(s.length:Int)) then _ else some _);rw[ak0 omq];exact ai _
 |succ k j=>
  intro n i g h;obtain⟨n,rfl⟩:∃m,n=m+1:=⟨n-1,omq⟩;show SM (bif decide ((i:Int)<(s.length:Int)) then(bif decide (0<=(i:Int)) then _ else none) else some _);refine lf (λc=> ?_) λ_=>ai _;have l:(i:Int)<(s.length:Int):=alC c;obtain⟨r,d,f,o,p⟩:=Ai s i;rw[ak3 (by omega:(0:Int)<=(i:Int)),ala,f];refine aE (ajl _ _ _) λc=>aN _ (ai _) ?_;have e:((i:Int)+(d:Int))=((i+d:Nat):Int):=omq;show SM (jb N n (a,b,w,s,((i:Int)+(d:Int))));rw[e];exact j n (i+d) omq omq
def ad4(N:Nat)(a b:Int)(w:Int)(s:Bs):∀(k n i:Nat),s.length-i<=k->k<n->SM (gK N n (a,b,w,s,(i:Int))):=by
 intro k;induction k with
 |zero=>
  intro n i g h;obtain⟨n,rfl⟩:∃m,n=m+1:=⟨n-1,omq⟩;show SM (bif decide ((i:Int)<(s.length:Int)) then _ else some _);rw[ak0 omq];exact ai _
 |succ k j=>
  intro n i g h;obtain⟨n,rfl⟩:∃m,n=m+1:=⟨n-1,omq⟩;show SM (bif decide ((i:Int)<(s.length:Int)) then(bif decide (0<=(i:Int)) then _ else none) else some _);refine lf (λc=> ?_) λ_=>ai _;have l:(i:Int)<(s.length:Int):=alC c;obtain⟨r,d,f,o,p⟩:=Ai s i;rw[ak3 (by omega:(0:Int)<=(i:Int)),ala,f];refine aE (aan _ _ _) λc=>aN _ (ai _) ?_;have e:((i:Int)+(d:Int))=((i+d:Nat):Int):=omq;show SM (gK N n (a,b,w,s,((i:Int)+(d:Int))));rw[e];exact j n (i+d) omq omq
def ajq(s:Bs)(h:s.length<100000000):SM (gm s):=by
 unfold gm ba;rw[show Nat.ble s.length 1099511627776=true from alY omq];exact ai _
def BI{x:Option (Bool⊕Unit)}(h:SM x):SM (x.bind λy=>(match y with
 |Sum.inl c=>some c
 |Sum.inr _=>some true)):=aE h λy=>by cases y<;>exact ai _
def JB{N:Nat}(a:FN N)(t:Int×Bs)(h:t.2.length<100000000):SM (ip N t):=by
 unfold FN at a;unfold ip;have v:=ajq t.2 h;refine aN _ (aE v λ_=>aN _ (ai _) (BI (ad3 N 0 t.2 t.2.length N 0 omq omq))) (aN _ (aE v λ_=>aN _ (ai _) (BI (ajn N 1 t.2 t.2.length N 0 omq omq))) (aN _ (aE v λ_=>aN _ (ai _) (BI (ajp N 32 126 1 t.2 t.2.length N 0 omq omq))) (aN _ (aE v λ_=>aN _ (ai _) (BI (ad4 N 0 127 1 t.2 t.2.length N 0 omq omq))) (aN _ (aE v λ_=>aN _ (ai _) (BI (ad4 N 32 126 1 t.2 t.2.length N 0 omq omq))) (aN _ (aE v λ_=>aN _ (ai _) (BI (ad3 N 4 t.2 t.2.length N 0 omq omq))) (aN _ (aE v λ_=>aN _ (ai _) (BI (ajo N 2 t.2 t.2.length N 0 omq omq))) (ai _)))))))
def ajr(N:Nat)(w:Int)(r:Nat)(u:r<=1114111)(s:Bs)(p:Int):∀(k n:Nat)(acc:Bs),k<n->k<=8->acc.length+k<=900000000->OW (gb N n (w,(r:Int),(k:Int)-1,acc,s,p)) λy=>∃l,y=(w,l,s,p)/\l.length=acc.length+k:=by
 intro k;induction k with
 |zero=>
  intro n acc o j i;obtain⟨n,rfl⟩:∃m,n=m+1:=⟨n-1,omq⟩;exact aa ⟨acc,rfl,rfl⟩
 |succ k t=>
  intro n acc o j i;obtain⟨n,rfl⟩:∃m,n=m+1:=⟨n-1,omq⟩;have e:((k+1:Nat):Int)-1=(k:Int):=omq;have f:iB .i64 8 (k:Int)=((8*k:Nat):Int):=by
   show IntKind.i64.wrap _=_;rw[alA _ omq];omega
  rw[e];show OW (bif decide ((k:Int)>=0) then(bif decide (0<=iB .i64 8 (k:Int)) then(toB (IntKind.wrap .u8 (wY .i32 (r:Int) (iB .i64 8 (k:Int))))).bind (λa=>(app 1 acc [a]).bind λd=>gb N n (w,(r:Int),aC .i64 (k:Int) 1,d,s,p)) else none) else some (w,acc,s,p)) _;rw[ak3 (by omega:(k:Int)>=0),ala,f,ak3 (by omega:(0:Int)<=((8*k:Nat):Int)),ala];have c:∃b,toB (IntKind.wrap .u8 (wY .i32 (r:Int) ((8*k:Nat):Int)))=some b:=by
   refine⟨UInt8.ofNat (IntKind.wrap .u8 (wY .i32 (r:Int) ((8*k:Nat):Int))).toNat,?_⟩;unfold toB;have:=IntKind.wrap_u8 (wY .i32 (r:Int) ((8*k:Nat):Int));rw[ali ⟨omq,omq⟩]
  obtain⟨b,c⟩:=c;rw[c,akX,dQ omq (by simp only[ak4,alq];omega),akX,show aC .i64 (k:Int) 1=(k:Int)-1 from pF omq];obtain⟨y,q,l,g,h⟩:=t n (acc++[b]) omq omq soq;exact⟨y,q,l,g,by rw[h];simp;omega⟩
def ajs{N:Nat}(j:FN N)(w:Nat)(F:w<=4)(s:Bs)(E:s.length<=100000000):∀(k n i:Nat)(acc:Bs),s.length-i<=k->k<n->acc.length<=4*i->i<=200000000->acc.length<=4*s.length->OW (bR N n ((w:Int),acc,s,(i:Int))) λl=>l.length<=4*s.length:=by
 unfold FN at j;intro k;induction k with
 |zero=>
  intro n i acc p q o _ b;obtain⟨n,rfl⟩:∃m,n=m+1:=⟨n-1,omq⟩;show OW (bif decide ((i:Int)<(s.length:Int)) then _ else some acc) _;rw[ak0 omq];exact aa b
 |succ k x=>
  intro n i acc p q o C b;obtain⟨n,rfl⟩:∃m,n=m+1:=⟨n-1,omq⟩;show OW (bif decide ((i:Int)<(s.length:Int)) then(bif decide (0<=(i:Int)) then(gb N N ((w:Int),(im s (i:Int)).1,aC .i64 (w:Int) 1,acc,s,(i:Int)+(im s (i:Int)).2)).bind (λ(v,z,A,g)=>bR N n (v,z,A,g)) else none) else some acc) _;refine aw (λc=> ?_) λ_=>aa b;have B:(i:Int)<(s.length:Int):=alC c;obtain⟨r,a,d,t,u⟩:=Ai s i;rw[ak3 (by omega:(0:Int)<=(i:Int)),ala,d,pF omq];refine ah (ajr N (w:Int) r t s _ w N acc omq omq omq) ?_;rintro y ⟨l,rfl,D⟩;have e:((i:Int)+(a:Int))=((i+a:Nat):Int):=omq;dsimp only;rw[e];rcases alf 200000000 (i+a) with h|f
  ·obtain⟨n,rfl⟩:∃m,n=m+1:=⟨n-1,omq⟩;show OW (bif decide (((i+a:Nat):Int)<(s.length:Int)) then _ else some l) _;rw[ak0 omq];exact aa (show l.length<=4*s.length by omega)
  ·exact x n (i+a) l omq omq omq f omq
def ad5{N:Nat}(b:FN N)(t:Int×Bs)(h:t.2.length<10000000):OW (aP N t) λr=>r.1.length<=4*t.2.length:=by
 have d:=b;unfold FN at d;have a:∀w:Nat,w<=4->OW ((bR N N ((w:Int),[],t.2,0)).bind λl=>some (l,(0:Int))) λr=>r.1.length<=4*t.2.length:=λw g=>
  ah (ajs b w g t.2 omq t.2.length N 0 [] omq omq siq omq siq) λl f=>aa f
 have e:OW ((GY t.2).bind λs=>some (s,(0:Int))) λr=>r.1.length<=4*t.2.length:=by
  have:GY t.2=some t.2:=by
   unfold GY ba;rw[ali omq]
  rw[this];exact aa (show t.2.length<=_ by omega)
 unfold aP;refine ah (JB b t omq) λc _=>aw (λ_=>aa siq) λ_=> ?_;refine aw (λ_=>e) λ_=>aw (λ_=>a 1 omq) λ_=>aw (λ_=>a 1 omq) λ_=>aw (λ_=>a 1 omq) λ_=>aw (λ_=>a 1 omq) λ_=>aw (λ_=>a 4 omq) λ_=>aw (λ_=>a 2 omq) λ_=>e
def ac0(r:Int):(Lib.encodeRune r).length<=4:=by
 unfold Lib.encodeRune Lib.encodeRuneZ;rw[alQ];split
 ·simp
 ·split
  ·simp
  ·split
   ·simp
   ·split<;>simp
def Ob{α:Type}(f:α->Bs)(h:∀x,(f x).length<=4):∀l:List α,(l.flatMap f).length<=4*l.length
 |[]=>by simp
 |a::r=>by
  have b:=h a;have c:=Ob f h r;simp only[aol,ak2,ak4];omega
def aao(c:Bs)(wd m:Nat):(vq c wd m).length<=4*m:=by
 unfold vq;have:=Ob (λx:Fin m=>Lib.encodeRune (unitAt c wd x.val)) (λx=>ac0 _) (List.finRange m);simpa using this
def aap{α b:Type}{x:Option α}{f:α->b}{Q:b->Prop}(h:OW x λa=>Q (f a)):OW (x.map f) Q:=by
 obtain⟨a,rfl,c⟩:=h;exact⟨_,rfl,c⟩
def ahS{N:Nat}(a:FN N)(i wd:Nat)(k:Int)(c:Bs)(f:c.length<9000000):OW (Dx N i wd k c) λr=>r.1.2.length<=4*c.length:=by
 unfold Dx;refine aw (λ_=>aw (λ_=> ?_) λ_=>aa siq) λ_=>aa siq;have d:=aao c wd (c.length / wd);have e:c.length / wd<=c.length:=Nat.div_le_self _ _;refine aap (tq (JB a (k,vq c wd (c.length / wd)) (show(vq c wd (c.length / wd)).length<_ by omega)) λb _=> ?_);cases b
 ·simp
 ·show(vq c wd (c.length / wd)).length<=_;omega
def ad6{N:Nat}(a:FN N)(k:Int)(c:Bs)(d:c.length<9000000):OW (aI N k c) λr=>r.1.2.length<=4*c.length:=by
 rw[wq];unfold XX;rw[show Nat.ble c.length 35184372088831=true from alY omq,ala];split
 ·refine aap (tq (JB a (k,c) (show c.length<_ by omega)) λb _=> ?_);cases b
  ·simp
  ·show c.length<=_;omega
 ·repeat' first|exact ahS a _ _ k c d|exact aa siq|split
end Go.Fw
namespace Go.Fw
open Go
def ac1{N:Nat}(b:FN N)(a:Bs)(j:a.length<9000000):OW (ph N a) λr=>r.1.2.length<=4*a.length:=by
 unfold ph syv;refine ah (CY b a omq) ?_;rintro⟨v,e,o⟩ (⟨d,t,c,f,g⟩|⟨c,_⟩)
 ·cases d;dsimp only;refine aw (λ_=>aa siq) λ_=>aw (λ_=>aa siq) λ_=>aw (λ_=>aa siq) λ_=> ?_;have h:=bt t;have i:a.length=(ag t).length:=by rw[f]
  rw[g.body,akX];exact ah (ad6 b v.2.1 t.2.2.2 omq) λr k=>aa (by dsimp only;omega)
 ·dsimp only;rw[pS c];exact aa siq
def Lq{N:Nat}(b:FN N)(a:Bs)(d:a.length<9000000):OW (mL N a) λr=>r.1.2.length<=4*a.length:=by
 unfold mL syv;refine ah (ac1 b a d) λr e=> ?_;refine aw (λ_=>aa siq) λ_=>aw (λ_=>aa siq) λ_=> ?_;refine ah (R:=λ_=>True) ?_ λc _=>aw (λ_=>aa siq) λ_=>aa e;unfold qu syv;exact aw (λ_=>aa trivial) λ_=>aa trivial
def ac2(c:Nat)(f:c<4)(k:Bool)(num:Int):OW (dY (c:Int) k num) λr=>r.2=0->∃n:Nat,n<31/\num=(n:Int):=by
 unfold dY syv;rw[ak0 (by omega:¬(c:Int)<0),ak0 (by omega:¬(c:Int)>3),ak5,ak5];refine aw (λ_=>aa (λh=>by simp at h)) λc1=>aw (λ_=>aa (λh=>by simp at h)) λb=> ?_;have d:¬num<0:=amz c1;have e:¬num>=31:=amz b;obtain⟨n,rfl⟩:∃n:Nat,num=(n:Int):=⟨num.toNat,omq⟩;have a:=I0 (c:=c) (num:=n) k f omq;unfold dY syv at a;rw[ak0 (by omega:¬(c:Int)<0),ak0 (by omega:¬(c:Int)>3),ak0 d,ak0 e]at a;simp only[ak5]at a;exact Kc a λ_=>⟨n,omq,rfl⟩
def BJ{N:Nat}(g:FN N)(c:Nat)(i:c<4)(k:Bool)(num:Int)(b:Bs)(m:b.length<1000000000)(f:Int)(d:f=(c:Int)):OW (cr N f k num [b]) λr=>r.1.length<=b.length+6:=by
 subst d;have a:=g;unfold FN at a;by_cases j:∃n:Nat,n<31/\num=(n:Int)
 ·obtain⟨n,l,rfl⟩:=j;exact Kc (kA g c n k b _ _ rfl rfl i l omq) (eC (b:=b) omq)
 ·unfold cr syv;rw[qe N [b] soq a.2 soq,akX];refine ah (R:=λr=>r.1.length<=b.length+6) ?_ λr e=>aa e;unfold oU syv;refine ah (ac2 c i k num) λr e=> ?_;refine aw (λ_=>aa siq) λh=> ?_;exact absurd (e (by simpa using h)) j
def Um{N:Nat}(a:FN N)(t:Int×Bs)(h:t.2.length<10000000):OW (iR N t) λr=>r.1.length<=4*t.2.length+6:=by
 unfold iR syv;refine ah (ad5 a t h) λr c=>aw (λ_=>aa siq) λ_=> ?_;exact ah (BJ a 0 omq false t.1 r.1 omq 0 rfl) λq b=>aa (by first|omega|(dsimp only;omega))
def Wa{N:Nat}(s:FN N)(c:Bs)(C:c.length<9000000):OW (uf N c) λl=>l=[]∨∃a,(∀t∈a,okT t)/\c=ak a/\l=a.map ag:=by
 have h:=s;unfold FN at h;unfold uf syv;obtain⟨l,e,o,p,_⟩:=L0 N c omq 0 c.length omq (ak7 _) omq;rw[show bK N c 0 (c.length:Int)=_ from p,akX];dsimp only;by_cases q:e=0
 ·subst q;obtain⟨a,B,d,rfl⟩:=L6 N omq c 0 c.length omq (ak7 _) omq l o p;rw[amC,alR]at d;have f:=Ke a [] [];rw[alN,alm,<-d,alq]at f;have r:=f.length;have x:=eN a;have u:c.length=(ak a).length:=by rw[<-d]
  rw[show((0:Int) !=0)=false from rfl,ak5];have j:∀(k n i:Nat),(fG 0 a).length-i=k->k<n->i<=(fG 0 a).length->pf N n (c,fG 0 a,((fG 0 a).length:Int),(i:Int),(a.take i).map ag)=some (a.map ag):=by
   intro k;induction k with
   |zero=>
    intro n i w y v;obtain⟨n,rfl⟩:∃m,n=m+1:=⟨n-1,omq⟩;show(bif decide ((i:Int)<((fG 0 a).length:Int)) then _ else _)=_;rw[ak0 omq,ak5,alw omq]
   |succ k A=>
    intro n i w y v;obtain⟨n,rfl⟩:∃m,n=m+1:=⟨n-1,omq⟩;have b:i<(fG 0 a).length:=omq;obtain⟨t,z,g⟩:=f.get (akZ b);show(bif decide ((i:Int)<((fG 0 a).length:Int)) then _ else _)=_;rw[ak3 omq,ala,bc (akZ b),akX,g.whole,akX,dQ omq soq,akX,bu omq];have:=A n (i+1) omq omq omq;rw[al8,z,al9]at this;exact this
  rw[show pf N N (c,fG 0 a,((fG 0 a).length:Int),0,[])=_ from j _ N 0 rfl omq omq];exact aa (.inr ⟨a,B,d.symm▸rfl,rfl⟩)
 ·rw[pS q];exact aa (.inl rfl)
def Px{N:Nat}(d:FN N)(a:Bs)(k:a.length<9000000)(n:Int):OW (ug N a n) λr=>r.1.length<=a.length:=by
 unfold ug syv;refine ah (CY d a omq) ?_;rintro⟨v,e,o⟩ (⟨f,t,b,g,h⟩|⟨b,_⟩)
 ·cases f;dsimp only;have i:=bt t;have j:a.length=(ag t).length:=by rw[g]
  refine ah (vw _ _ _ _) λc _=>aw (λ_=>aa siq) λ_=> ?_;rw[h.body,akX];exact aa (by dsimp only;omega)
 ·dsimp only;rw[pS b];exact aa siq
abbrev fB:=Int×Bs×Bs×Bs×List Rdn×(Int×Bs)×Int×Bs
def GB(N B:Nat)(g:fB):Prop:=(g.2.1=[]∨gu g.2.1=true/\(fh g.2.1).length<=B)/\g.2.2.1.length<=4*B/\g.2.2.2.1.length<=B/\nk N g.2.2.2.2.1=true/\(ep g.2.2.2.2.1).length<=B+2/\g.2.2.2.2.2.1.2.length<=4*B/\g.2.2.2.2.2.2.2.length<=4*B
def BK(N:Nat):nk N []=true/\(ep []).length=2:=⟨rfl,by decide⟩
def afF{N:Nat}(b:FN N)(k:Int)(c:Bs)(z:c.length<9000000):OW (ny N (k,c)) λr=>r.1.2.2.2.1.length<=c.length/\(r.2=true->GB N c.length r.1):=by
 unfold ny syv;refine ah (Wa b c z) λl B=> ?_;have a:OW (some (((0:Int),([]:Bs),([]:Bs),([]:Bs),([]:List Rdn),((0:Int),([]:Bs)),(0:Int),([]:Bs)),false):Option (fB×Bool)) (λr=>r.1.2.2.2.1.length<=c.length/\(r.2=true->GB N c.length r.1)):=aa ⟨by simp,λh=>by cases h⟩;refine aw (λ_=>a) λc1=> ?_;rcases B with rfl|⟨H,g,f,rfl⟩
 ·cases c1
 match H,g,f,c1 with
 |[],_,_,c1=>cases c1
 |[_],_,_,c1=>cases c1
 |_::_::_::_,_,_,c1=>exact absurd c1 (by simp only[alc,ak4,bne_eq_false_iff_eq];omega)
 |[t,u],g,f,_=>
  have i:c.length=(ag t).length+(ag u).length:=by rw[f,GU,ak2]
  rw[alc,ix0,akX];refine ah (CY b (ag t) omq) ?_;rintro⟨v,e,o⟩ (⟨E,S,j,Q,F⟩|⟨j,_⟩)
  ·cases E;dsimp only;rw[show((0:Int) !=0)=false from rfl,ak5];refine ah (vw _ _ _ _) λc _=>aw (λ_=>a) λ_=> ?_;obtain⟨p,q,r,I,n,J,K,L,M,b7⟩:=F.bd;rw[akX];have x:v.2.2.2.2.1=(q:Int):=n;have m:0<=v.2.2.2.2.1/\v.2.2.2.2.1<=((ag t).length:Int):=⟨omq,omq⟩;refine ah (GF m.1 m.2 (aoT _)) λs C=> ?_;have D:s.length<=(ag t).length:=by rw[C,al0,alB];omega
   refine ah (pT b s omq) λd A=> ?_;rw[show ix (ag t::List.map ag [u]) 1=some (ag u) from rfl,akX];refine ah (Px b (ag u) omq 0) λw P=> ?_;rw[iz omq,akX];refine aw (λ_=>aa ⟨by dsimp only;omega,λh=> ?_⟩) λ_=>aa ⟨by dsimp only;omega,λh=>by cases h⟩;obtain⟨G,R⟩:=BK N;rcases A with⟨O,d2,y⟩|rfl
   ·exact⟨.inr ⟨d2,by rw[y];omega⟩,by simp,by dsimp only;omega,G,by dsimp only;omega,by simp,by simp⟩
   ·cases h
  ·dsimp only;rw[pS j];exact a
def Un{N:Nat}(a:FN N)(k:Int)(c:Bs)(b:c.length<9000000):OW (od N (k,c)) λr=>r.1.2.2.2.1.length<=c.length/\(r.2=true->GB N c.length r.1):=by
 unfold od syv;obtain⟨e,f⟩:=BK N;exact ah (ad6 a 22 c b) λr d=>aa ⟨by simp,λ_=>⟨.inl rfl,d,by simp,e,by dsimp only;omega,by simp,by simp⟩⟩
def Wb{N:Nat}(k:Int)(c:Bs)(b:c.length<9000000):OW (nz (k,c)) λr=>r.1.2.2.2.1.length<=c.length/\(r.2=true->GB N c.length r.1):=by
 unfold nz syv;obtain⟨a,d⟩:=BK N;rw[iz (by dsimp only;omega),akX];exact aa ⟨ak7 _,λ_=>⟨.inl rfl,by simp,ak7 _,a,by dsimp only;omega,by simp,by simp⟩⟩
def ajt{N:Nat}(e:FN N)(k:Int)(c:Bs)(f:c.length<9000000):OW (kl N (k,c)) λr=>r.1.2.2.2.1.length<=c.length/\(r.2=true->GB N c.length r.1):=by
 unfold kl syv;refine ah (VZ e c f) λr g=>aa ⟨by simp,λh=> ?_⟩;rcases g with⟨_,b,d⟩|⟨a,_⟩
 ·exact⟨.inl rfl,by simp,by simp,b,by rw[d];omega,by simp,by simp⟩
 ·exact absurd (by simpa using h) a
def aju{N:Nat}(d:FN N)(k:Int)(c:Bs)(g:c.length<9000000):OW (mM N (k,c)) λr=>r.1.2.2.2.1.length<=c.length/\(r.2=true->GB N c.length r.1):=by
 unfold mM syv;obtain⟨f,i⟩:=BK N;refine ah (pT d c omq) λr e=>aa ⟨by simp,λh=> ?_⟩;rcases e with⟨_,a,b⟩|rfl
 ·exact⟨.inr ⟨a,by rw[b];exact ak7 _⟩,by simp,by simp,f,by dsimp only;omega,by simp,by simp⟩
 ·cases h
def afG{N:Nat}(b:FN N)(k:Int)(c:Bs)(z:c.length<9000000):OW (nA N (k,c)) λr=>r.1.2.2.2.1.length<=c.length/\(r.2=true->GB N c.length r.1):=by
 obtain⟨E,G⟩:=BK N;unfold nA syv;refine ah (Wa b c z) λl A=> ?_;have a:∀x∈l,x.length<=c.length:=by
  rcases A with rfl|⟨F,_,j,rfl⟩
  ·simp
  ·intro x f;obtain⟨t,D,rfl⟩:=alW.1 f;rw[j];exact fc F t D
 refine ah (R:=λy=>y=Sum.inr ()∨∃g i s,y=Sum.inl (g,k,i,s)/\(∀x∈g,x.length<=c.length)/\s.length<=4*c.length) ?_ ?_
 ·refine aw (λu=> ?_) λ_=>aa (.inr ⟨_,_,_,rfl,a,by simp⟩);have v:((l.length:Nat):Int)=2:=by simpa using u
  refine ah (xc omq omq) λe o=> ?_;have:=a e o.2;refine ah (Px b e omq 0) λr B=> ?_;refine ah (Lq b r.1 omq) λd m=> ?_;refine aw (λ_=>aa (.inl rfl)) λ_=>aw (λ_=>aa (.inl rfl)) λ_=> ?_;refine ah (GF omq omq (aoT _)) λs C=>aa (.inr ⟨_,_,_,rfl,λx f=> ?_,amo m omq⟩);rw[C]at f;exact a x (aoC (List.mem_of_mem_drop f))
 ·rintro y (rfl|⟨g,i,s,rfl,w,j⟩)
  ·exact aa ⟨by simp,λh=>by cases h⟩
  ·dsimp only;refine aw (λ_=>aa ⟨by simp,λh=>by cases h⟩) λc1=> ?_;have q:((g.length:Nat):Int)=1:=by simpa using c1
   refine ah (xc omq omq) λe o=> ?_;have:=w e o.2;refine ah (Px b e omq 1) λr B=> ?_;refine ah (Lq b r.1 omq) λd m=> ?_;have n:d.1.2.length<=4*c.length:=amo m omq;have p:GB N c.length (k,[],[],[],[],(i,s),d.1):=⟨.inl rfl,by simp,by simp,E,by dsimp only;omega,j,n⟩;exact aw (λ_=>aa ⟨by simp,λ_=>p⟩) λ_=>aa ⟨by simp,λ_=>p⟩
def Uo{N:Nat}(a:FN N)(b:Bs)(c:b.length<10000000):SM (wC N b):=by
 unfold wC syv;exact aE (Rz (Yk a b c)) λ_=>ai _
def GP{N:Nat}(a:FN N)(k:Int)(b:Bs)(c:b.length<1000000000):OW (mh N k b) λr=>r.1.length<=b.length+6:=by
 unfold mh syv;exact ah (BJ a 2 omq true k b c 2 rfl) λr d=>aa d
def Wc{N:Nat}(a:FN N)(g:fB)(h:g.2.2.2.1.length<9000000):SM (mK N g):=by
 unfold mK syv;refine aN _ (aE (Uo a _ omq) λ_=>ai _) (aN _ ?_ (aN _ (aN _ (ai _) (aN _ (ai _) (aN _ (ai _) (ai _)))) (ai _)));exact Ah (GP a _ _ omq) λr b=>aN _ (aE (Uo a _ omq) λ_=>ai _) (ai _)
def QE(k:Int):SM (jj k):=by
 unfold jj syv;refine aE (aN _ (ai _) (aE (aN _ (ai _) (aE (aN _ (ai _) (ai _)) λ_=>ai _)) λ_=>ai _)) λ_=>aN _ (ai _) (ai _)
def zG:fB:=(0,[],[],[],[],(0,[]),0,[])
def ajv{N:Nat}(g:FN N)(B:Nat)(c:Bs)(q:c.length<9000000)(o:c.length<=B)(x:Option (fB×Bool))(p:Int)(h:OW x λr=>r.1.2.2.2.1.length<=c.length/\(r.2=true->GB N c.length r.1)):
 OW (x.bind λ(a,b)=>bif (!b) then some (zG,(6:Int),p) else(mK N a).bind λd=>bif (!d) then some (zG,6,p) else some (a,0,0)) λr=>r.2.1=0->GB N B r.1:=by
 refine ah h λr i=> ?_;refine aw (λ_=>aa (λh=>by cases h)) λc1=> ?_;refine ah (Wc g r.1 omq) λc _=>aw (λ_=>aa (λh=>by cases h)) λ_=>aa λ_=> ?_;obtain⟨e,j,k,f,l,m,n⟩:=i.2 (by simpa using c1);refine⟨e.imp id λh=>⟨h.1,?_⟩,?_,?_,f,?_,?_,?_⟩<;>dsimp only<;>omega
def ac3{N:Nat}(d:FN N)(a:Bs)(y:a.length<9000000):OW (oI N a) λr=>r.2.1=0->GB N a.length r.1:=by
 unfold oI syv;refine ah (CY d a omq) ?_;rintro⟨v,e,o⟩ (⟨p,t,g,q,s⟩|⟨g,_⟩)
 ·cases p;have u:=bt t;have w:a.length=(ag t).length:=by rw[q]
  dsimp only;rw[show((0:Int) !=0)=false from rfl,ak5,s.body];have f:OW (some (zG,(3:Int),(0:Int)):Option (fB×Int×Int)) λr=>r.2.1=0->GB N a.length r.1:=aa λh=>by cases h
  have b:∀(i:Bool)(x:Option (fB×Bool)),OW x (λr=>r.1.2.2.2.1.length<=t.2.2.2.length/\(r.2=true->GB N t.2.2.2.length r.1))->OW (bif i then some (zG,(3:Int),(0:Int)) else(jj v.2.1).bind λk=>bif (!(v.2.2.1==k)) then some (zG,3,0) else(some t.2.2.2).bind λz=>x.bind λ(j,l)=>bif (!l) then some (zG,(6:Int),v.2.2.2.2.1) else(mK N j).bind λm=>bif (!m) then some (zG,6,v.2.2.2.2.1) else some (j,0,0)) (λr=>r.2.1=0->GB N a.length r.1):=by
   intro i x n;refine aw (λ_=>f) λ_=>ah (QE _) λc _=>aw (λ_=>f) λ_=> ?_;rw[akX];exact ajv d a.length t.2.2.2 omq omq x _ n
  refine aw (λ_=>b _ _ (afF d _ _ omq)) λ_=> ?_;refine aw (λ_=>b _ _ (Un d _ _ omq)) λ_=> ?_;refine aw (λ_=>b _ _ (Un d _ _ omq)) λ_=> ?_;refine aw (λ_=>b _ _ (Wb _ _ omq)) λ_=> ?_;refine aw (λ_=>b _ _ (ajt d _ _ omq)) λ_=> ?_;refine aw (λ_=>b _ _ (afG d _ _ omq)) λ_=> ?_;refine aw (λ_=>b _ _ (Un d _ _ omq)) λ_=> ?_;refine aw (λ_=>b _ _ (Wb _ _ omq)) λ_=> ?_;refine aw (λ_=>b _ _ (aju d _ _ omq)) λ_=> ?_;exact f
 ·dsimp only;rw[pS g];exact aa λh=>absurd h g
end Go.Fw
def aoG:=@List.sum_append
namespace Go.Fw
open Go
def Up{σ e:Type}{Q:e->Prop}(F:Nat->Nat->σ->Option e)(L:Nat)(I:Nat->σ->Prop)
 (a:∀n s,I L s->OW (F (n+1) L s) Q)
 (step:∀n i s,i<L->I i s->(∀b,I (i+1) b->OW (F n (i+1) b) Q)->OW (F (n+1) i s) Q):∀n i s,i<=L->L-i<n->I i s->OW (F n i s) Q:=by
 intro n;induction n with
 |zero=>intro i s _ h;omega
 |succ n f=>
  intro i s g j d;by_cases h:i=L
  ·subst h;exact a n s d
  ·exact step n i s omq d λb c=>f (i+1) b omq omq c
def br.snoc{α c:Type}{R:α->c->Prop}{xs:List α}{d:List c}{a:α}{b:c}(h:br R xs d)(r:R a b):br R (xs++[a]) (d++[b]):=by
 induction h with
 |nil=>exact .cons r .nil
 |cons e _ f=>exact .cons e f
def br.get1{α e:Type}{R:α->e->Prop}{xs:List α}{c:List e}(h:br R xs c){i:Nat}(d:i<c.length):∃a b,xs[i]?=some a/\c[i]?=some b/\R a b:=by
 obtain⟨a,f,g⟩:=h.get (akZ d);exact⟨a,_,f,akZ d,g⟩
def kB(a:List TLV):List Nat:=a.map λt=>(ag t).length
def BL:∀a:List TLV,(kB a).sum=(ak a).length
 |[]=>rfl
 |t::a=>by
  have:=BL a;unfold kB ak at*;simp only[alc,amm,alx,ak2];omega
def Mx(c:List TLV):∀b∈kB c,2<=b:=by
 intro b a;obtain⟨t,_,rfl⟩:=alW.1 a;have:=sr t;have:(aF t.2.2.2.length).length≠0:=by
  have:=JQ t.2.2.2.length;unfold aF;split
  ·omega
  ·simp
 omega
def QF(a:List TLV)(i:Nat)(t:TLV)(h:a[i]?=some t):kB (a.take (i+1))=kB (a.take i)++[(ag t).length]:=by
 unfold kB;rw[al8,h,al9];rfl
def GL(N B:Nat)(c:List fB):Prop:=∃a:List Nat,br (GB N) a c/\a.sum<=B/\∀b∈a,2<=b
def Kj:∀a:List Nat,(∀b∈a,2<=b)->2*a.length<=a.sum
 |[],_=>by simp
 |b::a,h=>by
  have d:=h b siq;have e:=Kj a λx c=>h x (by simp[c]);simp only[ak4,amm];omega
def GQ:∀(bs:List Nat)(i:Nat),(bs.take i).sum<=bs.sum
 |[],i=>by simp
 |b::bs,0=>by simp
 |b::bs,i+1=>by
  have:=GQ bs i;simp only[am0,amm];omega
variable{Z:List fB}
def GL.len{N B:Nat}(h:GL N B Z):2*Z.length<=B:=by
 obtain⟨a,b,d,c⟩:=h;have:=Kj a c;have:=b.length;omega
def GL.mono{N B C:Nat}(h:GL N B Z)(e:B<=C):GL N C Z:=by
 obtain⟨a,b,d,c⟩:=h;exact⟨a,b,omq,c⟩
def GL.nil(N B:Nat):GL N B []:=⟨[],.nil,by simp,by simp⟩
def Uq{N:Nat}(k:FN N)(a:Bs)(E:a.length<9000000):OW (eM N a) λr=>r.2.1=0->GL N a.length r.1:=by
 have m:=k;unfold FN at m;unfold eM syv;refine ah (nj k a omq 0 16) ?_;rintro⟨l,e,o⟩ (⟨C,b,u,_,_,D,p⟩|⟨u,_⟩)
 ·cases C;have G:(ak b).length<a.length:=by rw[D];exact gi
  have c:=p.length;have z:=eN b;dsimp only at p c⊢;rw[show((0:Int) !=0)=false from rfl,ak5];refine aw (λ_=>aa λ_=>GL.nil _ _) λ_=> ?_;have v:=Up (Q:=λy:(Int×Int)⊕List fB=>∀g,y=.inr g->br (GB N) (kB b) g) (λn i s=>rf N n (a,l,(l.length:Int),(i:Int),s)) l.length (λi s=>i<=l.length/\br (GB N) (kB (b.take i)) s)
   (λn s f=>by
     show OW (bif decide ((l.length:Int)<(l.length:Int)) then _ else some _) _;rw[ak0 omq];refine aa λg h=> ?_;cases h;have:=f.2;rwa[alw omq]at this)
   (λn i s q f rec=>by
     have d:=f.2.length;unfold kB at d;rw[alQ,alB]at d;show OW (bif decide ((i:Int)<(l.length:Int)) then _ else some _) _;obtain⟨t,e,w,B,x⟩:=p.get1 q;have F:=fc b t (alz w);rw[ak3 omq,ala,bc B,akX,x.whole,akX];refine ah (ac3 k (ag t) omq) λr A=>aw (λ_=>aa λg h=>by cases h) λc1=> ?_;rw[dQ omq soq,akX,bu omq];refine rec _ ⟨omq,?_⟩;rw[QF b i t w];exact f.2.snoc (A (by simpa using c1)))
   N 0 [] omq omq ⟨omq,.nil⟩
  refine ah v ?_;rintro(⟨i,j⟩|g) h
  ·refine aa λh=> ?_;exact GL.nil _ _
  ·exact aa λ_=>⟨kB b,h g rfl,by rw[BL];omega,Mx b⟩
 ·dsimp only;rw[pS u];exact aa λh=>absurd h u
def ac4(g:fB):SM (Na g):=Go.Proofs.Tryz.alone_sm0 g
def ahT{N:Nat}(j:FN N)(x y:Int×Bs)(B:Nat)(F:x.2.length<=4*B)(G:y.2.length<=4*B)(H:B<=200000)(c:List (Int×Bs))(m:c=[x,y])(L:Int)(I:L=(2:Nat)):OW (gE N N (c,L,0,[])) λr=>∀l,r=.inr l->l.length<=32*B+24:=by
 have k:=j;unfold FN at k;have p:=Up (Q:=λy:Int⊕Bs=>∀g,y=.inr g->g.length<=32*B+24) (λn i s=>gE N n (c,L,(i:Int),s)) 2 (λi s=>s.length<=i*(16*B+12))
  (λn s z=>by
    show OW (bif decide (((2:Nat):Int)<L) then _ else some (Sum.inr s)) _;rw[ak0 omq];refine aa λg h=> ?_;cases h;omega)
  (λn i s D z rec=>by
    show OW (bif decide ((i:Int)<L) then _ else some (Sum.inr s)) _;rw[ak3 omq,ala];have J:i*(16*B+12)<=2*(16*B+12):=al6 _ omq;have E:(i+1)*(16*B+12)=i*(16*B+12)+(16*B+12):=anq _ _;obtain⟨e,A,C⟩:∃e,c[i]?=some e/\e.2.length<=4*B:=by
     subst m;rcases (by omega:i=0∨i=1) with rfl|rfl
     ·exact⟨x,rfl,F⟩
     ·exact⟨y,rfl,G⟩
    have w:∀b:Bs,b.length<=(i+1)*(16*B+12)->OW (gE N n (c,L,ay .i64 (i:Int) 1,b)) λy:Int⊕Bs=>∀g,y=.inr g->g.length<=32*B+24:=λb h=>by
     rw[bu omq];exact rec b h
    rw[bc A,akX];have a:∀b o,o=(i:Int)->b=s->OW ((iR N e).bind λx=>match x with
     |(t,d)=>bif d !=0 then some (Sum.inl d) else(mh N o t).bind λx=>match x with
      |(u,f)=>bif f !=0 then some (Sum.inl f) else(app 1 b u).bind λv=>gE N n (c,L,ay .i64 o 1,v)) λy:Int⊕Bs=>∀g,y=.inr g->g.length<=32*B+24:=by
     rintro _ _ rfl rfl;refine ah (Um j e omq) λr M=>aw (λ_=>aa λg h=>by cases h) λ_=> ?_;refine ah (GP j i r.1 omq) λq K=>aw (λ_=>aa λg h=>by cases h) λ_=> ?_;rw[dQ omq omq,akX];refine w _ ?_;rw[ak2];omega
    exact aw (λ_=>aw (λ_=>w s omq) λ_=>a s i rfl rfl) λ_=>a s i rfl rfl)
  N 0 [] omq omq siq
 exact p
def afH{N:Nat}(a:FN N)(g:fB)(B:Nat)(h:GB N B g)(u:B<=200000):OW (pk N g) λr=>r.1.length<=36*B+40:=by
 have d:=a;unfold FN at d;obtain⟨m,v,w,j,n,o,s⟩:=h;have b:OW (ke N g.2.1) λr=>r.1.length<=B+6:=by
  rcases m with h|⟨k,t⟩
  ·rw[h];refine Kc (EX a [] siq) ?_;have:=su [];cases gu []
   ·simp
   ·exact amo this siq
  ·have:=EY k;refine Kc (EX a _ omq) ?_;rw[k];exact amo t omq
 unfold pk syv;refine aw (λ_=> ?_) λ_=> ?_
 ·refine ah b λr f=>aw (λ_=>aa siq) λ_=> ?_;refine ah (BJ a 0 omq false 6 r.1 omq 0 rfl) λq z=>aw (λ_=>aa siq) λ_=> ?_;refine ah (GP a 0 _ omq) λp x=> ?_;have e:([q.1,p.1]:List Bs).flatten.length=q.1.length+p.1.length:=by simp
  try dsimp only
  rw[qe N _ soq d.2 (by rw[e];omega),akX];refine aa ?_;dsimp only;rw[e];omega
 ·refine ah (R:=λy=>∃c,y=(g.1,c,g.1,g.2.1,g.2.2.1,g.2.2.2.1,g.2.2.2.2.1,g.2.2.2.2.2.1.1,g.2.2.2.2.2.1.2,g.2.2.2.2.2.2)) ?_ ?_
  ·refine aw (λ_=>aa ⟨_,rfl⟩) λ_=> ?_;refine ah (R:=λy=>∃c,y=(g.1,c,g.1,g.2.1,g.2.2.1,g.2.2.2.1,g.2.2.2.2.1,g.2.2.2.2.2.1.1,g.2.2.2.2.2.1.2,g.2.2.2.2.2.2)) ?_ ?_
   ·exact aw (λ_=>aa ⟨_,rfl⟩) λ_=>aa ⟨_,rfl⟩
   ·rintro _ ⟨c,rfl⟩;exact aa ⟨_,rfl⟩
  ·rintro _ ⟨c,rfl⟩;dsimp only;refine aw (λ_=> ?_) λ_=> ?_
   ·exact ah (ad5 a (22,g.2.2.1) (by dsimp only;omega)) λr f=>aa (by dsimp only at f⊢;omega)
   ·refine ah (R:=λy=>∃c,y=(g.1,c,g.1,g.2.1,g.2.2.1,g.2.2.2.1,g.2.2.2.2.1,g.2.2.2.2.2.1.1,g.2.2.2.2.2.1.2,g.2.2.2.2.2.2)) ?_ ?_
    ·exact aw (λ_=>aa ⟨_,rfl⟩) λ_=>aa ⟨_,rfl⟩
    ·rintro _ ⟨c,rfl⟩;dsimp only;refine aw (λ_=>aa (by dsimp only;omega)) λ_=>aw (λ_=> ?_) λ_=>aw (λ_=> ?_) λ_=>aw (λ_=> ?_) λ_=>aa siq
     ·have A:=V1 j;refine ah (Kc (Q:=λr=>r.1.length<=B+2) (N4 a _ omq) ?_) λr f=>aa (by first|omega|(dsimp only;omega));rw[j];exact n
     ·refine ah (ahT a (g.2.2.2.2.2.1.1,g.2.2.2.2.2.1.2) g.2.2.2.2.2.2 B o s u _ rfl _ rfl) ?_;rintro(i|l) h
      ·exact aa siq
      ·have:=h l rfl;exact aa (by dsimp only;omega)
     ·exact ah b λr f=>aa (by first|omega|(dsimp only;omega))
def akI{N:Nat}(a:FN N)(g:fB)(B:Nat)(h:GB N B g)(b:B<=200000):OW (qH N g) λr=>r.1.length<=36*B+60:=by
 unfold qH syv;refine ah (ac4 g) λc _=>aw (λ_=>aa siq) λ_=> ?_;refine ah (Wc a g (by have:=h.2.2.1;omega)) λc _=>aw (λ_=>aa siq) λ_=> ?_;refine ah (afH a g B h b) λr e=>aw (λ_=>aa siq) λ_=> ?_;refine ah (QE _) λc _=> ?_;refine ah (BJ a 2 omq c g.1 r.1 omq 2 rfl) λq d=> ?_;refine ah (ac3 a q.1 omq) λp _=>aw (λ_=>aa siq) λ_=>aw (λ_=>aa siq) λ_=> ?_;exact aa (by dsimp only;omega)
def ajw{N:Nat}(e:FN N)(a:List fB)(B:Nat)(h:GL N B a)(E:B<=200000):OW (mQ N a) λr=>r.1.length<=66*B+6:=by
 have f:=e;unfold FN at f;have x:=h.len;obtain⟨d,q,D,u⟩:=h;unfold mQ syv;have o:=Up (Q:=λy:Int⊕List Bs=>∀l,y=.inr l->l.length<=a.length/\l.flatten.length<=66*B) (λn i s=>pm N n (a,(a.length:Int),(i:Int),s)) a.length (λi s=>s.length=i/\s.flatten.length<=66*(d.take i).sum)
  (λn s w=>by
    show OW (bif decide ((a.length:Int)<(a.length:Int)) then _ else some _) _;rw[ak0 omq];refine aa λg h=> ?_;cases h;have:=GQ d a.length;exact⟨by first|omega|(dsimp only;omega),by first|omega|(dsimp only;omega)⟩)
  (λn i s j w rec=>by
    show OW (bif decide ((i:Int)<(a.length:Int)) then _ else some _) _;obtain⟨b,g,p,C,v⟩:=q.get1 j;have t:=u b (alz p);have m:(d.take (i+1)).sum=(d.take i).sum+b:=by
     rw[al8,p,aoG];simp
    have A:=GQ d (i+1);rw[ak3 omq,ala,bc C,akX];refine ah (akI e g b v omq) λr F=>aw (λ_=>aa λg h=>by cases h) λc1=> ?_;rw[dQ omq soq,akX,bu omq];refine rec _ ⟨by simp;omega,?_⟩;rw[an5,ak2,m];simp only[alx,amn,alm];omega)
  N 0 [] omq omq ⟨rfl,by simp⟩
 refine ah o ?_;rintro(i|l) z
 ·exact aa siq
 ·obtain⟨G,H⟩:=z l rfl;refine aw (λ_=>aa siq) λ_=> ?_;rw[Oe e l omq omq,akX];have:=eC (c:=0) (k:=true) (num:=16) (b:=l.flatten) omq;exact aa (by dsimp only;omega)
def Ur{N:Nat}(c:FN N)(a:List fB)(B:Nat)(h:GL N B a)(b:B<=200000):SM (fZ N a):=by
 unfold fZ syv;exact ah (ajw c a B h b) λr _=>ai _
end Go.Fw
namespace Go.Fw
open Go
def ff{σ β:Type}{Q:β->Prop}(b:(σ->Option β)->σ->Option β)(L:Nat)(I:Nat->σ->Prop)
 (step:∀(G:σ->Option β) i s,i<=L->I i s->(∀a,i<L->I (i+1) a->OW (G a) Q)->OW (b G s) Q):
 ∀n i s,i<=L->L-i<n->I i s->OW (Nat.rec (motive:=λ_=>σ->Option β) (λ_=>none) (λ_ G=>b G) n s) Q:=by
 intro n;induction n with
 |zero=>intro i s _ h;omega
 |succ n f=>exact λi s e j d=>step _ i s e d λa g c=>f (i+1) a omq omq c
def IN(a:Bs)(l:List aV):Prop:=∀e∈l,0<=e.2.2.2.1/\e.2.2.2.1<=e.2.2.2.2.1/\e.2.2.2.2.1<=e.2.2.2.2.2/\e.2.2.2.2.2<=(a.length:Int)
def EL.ei{a:Bs}{t:TLV}{e:aV}(h:EL a t e):0<=e.2.2.2.1/\e.2.2.2.1<=e.2.2.2.2.1/\e.2.2.2.2.1<=e.2.2.2.2.2/\e.2.2.2.2.2<=(a.length:Int):=by
 obtain⟨p,q,r,b,c,d,f,g,i,_⟩:=h.bd;rw[b,c,d];omega
def br.mem{α β:Type}{R:α->β->Prop}{xs:List α}{b:List β}(h:br R xs b):∀y∈b,∃x∈xs,R x y:=by
 induction h with
 |nil=>intro y a;cases a
 |cons r _ e=>
  intro y a;rcases alr.1 a with rfl|a
  ·exact⟨_,by simp,r⟩
  ·obtain⟨x,d,c⟩:=e y a;exact⟨x,by simp[d],c⟩
def br.inn{a:Bs}{d:List TLV}{l:List aV}(h:br (EL a) d l):IN a l:=λe c=>by
 obtain⟨t,_,b⟩:=h.mem e c;exact b.ei
def GR(N:Nat)(a:Bs)(c n:Int):OP (aW N a c n) λr=>r.2.1≠0->r.1=[]:=by
 unfold aW syv;refine aU (bX _) λr _=>aD (λ_=>aA λ_=>rfl) λ_=> ?_;refine aU (bX _) λc _=>aD (λ_=>aA λ_=>rfl) λ_=> ?_;refine aU (R:=λr=>r.2.1≠0->r.1=[]) ?_ λr h=>aA h;unfold bK syv;refine aD (λ_=>aA λ_=>rfl) λ_=>aD (λ_=>aA λ_=>rfl) λ_=>aD (λ_=>aA λ_=>rfl) λ_=> ?_;refine aU (bX _) ?_;rintro(⟨i,j⟩|⟨i,j,l⟩) _
 ·exact aA λ_=>rfl
 ·exact aA λh=>absurd rfl h
section
variable {β:Type}{Q:β→Prop}
def Kk{N:Nat}(q:FN N){a:Bs}{g k:Int}(c n:Nat)(r:g=(c:Int))(s:k=(n:Int))(x:a.length<9000000){f:List aV×Int×Int->Option β}(m:∀e o,e≠0->OW (f ([],e,o)) Q)(h:∀l,IN a l->2*l.length<=a.length->OW (f (l,0,0)) Q):OW ((aW N a g k).bind f) Q:=by
 subst r s;refine ah (CW (nj q a omq c n) (GR N a _ _)) ?_;rintro⟨l,e,o⟩ ⟨⟨t,b,d,_,_,u,j⟩|⟨d,_⟩,v⟩
 ·cases t;refine h l j.inn ?_;have h:b.length=l.length:=j.length;have p:=BL b;have i:=Kj (kB b) (Mx b);have w:(ak b).length<a.length:=by rw[u];exact gi
  unfold kB at i;rw[alQ]at i;unfold kB at p;omega
 ·obtain rfl:l=[]:=v d;exact m e o d
def xo{N:Nat}(d:FN N){a:Bs}(g:a.length<9000000){f:List aV×Int×Int->Option β}(b:∀e o,e≠0->OW (f ([],e,o)) Q)(c:∀l,IN a l->2*l.length<=a.length->OW (f (l,0,0)) Q):OW ((aW N a 0 16).bind f) Q:=Kk d 0 16 rfl rfl g b c
def X9{N:Nat}(k:FN N){a:Bs}(n:a.length<9000000){f:aV×Int×Int->Option β}(i:∀v e o,e≠0->OW (f (v,e,o)) Q)(j:∀v:aV,0<=v.2.2.2.1->v.2.2.2.1<=v.2.2.2.2.1->v.2.2.2.2.1<=v.2.2.2.2.2->v.2.2.2.2.2<=(a.length:Int)->OW (f (v,0,0)) Q):OW ((bM N a).bind f) Q:=by
 refine ah (CY k a omq) ?_;rintro⟨v,e,o⟩ (⟨l,t,b,p,m⟩|⟨b,_⟩)
 ·cases l;obtain⟨c,d,g,h⟩:=m.ei;exact j v c d g h
 ·exact i v e o b
def BM{a:Bs}{l:List aV}{i:Int}{f:aV->Option β}(o:IN a l)(j:0<=i)(m:i<(l.length:Int))(k:∀e:aV,0<=e.2.2.2.1->e.2.2.2.1<=e.2.2.2.2.1->e.2.2.2.2.1<=e.2.2.2.2.2->e.2.2.2.2.2<=(a.length:Int)->ix l i=some e->OW (f e) Q):OW ((ix l i).bind f) Q:=by
 obtain⟨e,h,n⟩:=xc j m;obtain⟨b,c,d,g⟩:=o e n.2;rw[h];exact k e b c d g h
def Ya{α:Type}{l:List α}{i:Int}{e:α}{f:α->Option β}(h:ix l i=some e)(k:OW (f e) Q):OW ((ix l i).bind f) Q:=by rw[h];exact k
def vy{α:Type}{a:List α}{i j:Int}{f:List α->Option β}(b:0<=i)(c:i<=j)(d:j<=(a.length:Int))(k:∀s:List α,s.length<=a.length->(s.length:Int)=j-i->OW (f s) Q):OW ((slc a i j).bind f) Q:=by
 refine ah (GF b c d) λs e=> ?_;have:s.length=min j.toNat a.length-i.toNat:=by rw[e,al0,alB]
 exact k s omq omq
def Us{b:Bs}{a:List aV}{i j:Int}{f:List aV->Option β}(m:IN b a)(g:0<=i)(h:i<=j)(l:j<=(a.length:Int))(k:∀s:List aV,IN b s->s.length<=a.length->(s.length:Int)=j-i->OW (f s) Q):OW ((slc a i j).bind f) Q:=by
 refine ah (GF g h l) λs d=> ?_;have:s.length=min j.toNat a.length-i.toNat:=by rw[d,al0,alB]
 refine k s (λe c=>m e ?_) omq omq;rw[d]at c;exact aoC (List.mem_of_mem_drop c)
def Yb{e:aV}{c n:Int}{k:Bool}{f:Bool->Option β}(h:∀b,OW (f b) Q):OW ((eu e c k n).bind f) Q:=ah (vw e c n k) λb _=>h b
def EV{s:Bs}{f:Bs->Option β}(a:s.length<10000000)(k:OW (f s) Q):OW ((cw s).bind f) Q:=by rw[iz a];exact k
def Kb{α:Type}{w:Nat}{l:List α}{x:α}{f:List α->Option β}(b:w<=200)(h:l.length<100000000)(k:∀a:List α,a=l++[x]->a.length=l.length+1->OW (f a) Q):OW ((app w l [x]).bind f) Q:=by
 rw[dQ b soq];exact k _ rfl siq
def iq{α:Type}{x:α}{f:α->Option β}(h:OW (f x) Q):OW ((some x).bind f) Q:=h
def gQ{α γ:Type}{x:Option α}{g:α->Option γ}{f:γ->Option β}(h:OW (x.bind λa=>(g a).bind f) Q):OW ((x.bind g).bind f) Q:=by
 rw[Option.bind_assoc];exact h
def BN{α:Type}{c:Bool}{x y:Option α}{f:α->Option β}(a:OW (bif c then x.bind f else y.bind f) Q):OW ((bif c then x else y).bind f) Q:=by
 cases c<;>exact a
def oC{e:Int}{x y:Option β}(a:e≠0->OW x Q)(b:e=0->OW y Q):OW (bif (e !=0) then x else y) Q:=aw (λh=>a (by simpa using h)) λh=>b (by simpa using h)
def Pq{e d:Int}{x y:Option β}(a:e=d->OW x Q)(b:e≠d->OW y Q):OW (bif (e==d) then x else y) Q:=aw (λh=>a (by simpa using h)) λh=>b (by simpa using h)
def ad7{e d:Int}{x y:Option β}(a:e≠d->OW x Q)(b:e=d->OW y Q):OW (bif (e !=d) then x else y) Q:=aw (λh=>a (by simpa using h)) λh=>b (by simpa using h)
def aY{p:Prop}[Decidable p]{x y:Option β}(a:p->OW x Q)(b:¬p->OW y Q):OW (bif decide p then x else y) Q:=aw (λh=>a (alC h)) λh=>b (amz h)
def gS{c:Bool}{x y:Option β}(h:OW (bif c then y else x) Q):OW (bif !c then x else y) Q:=by cases c<;>exact h
def k_t{x y:Option β}(h:OW x Q):OW (bif true then x else y) Q:=h
def k_f{x y:Option β}(h:OW y Q):OW (bif false then x else y) Q:=h
def k_c(c:Bool){x y:Option β}(a:OW x Q)(b:OW y Q):OW (bif c then x else y) Q:=aw (λ_=>a) λ_=>b
def fg{α:Type}{x:Option α}{f:α->Option β}(h:SM x)(k:∀a,OW (f a) Q):OW (x.bind f) Q:=ah h λa _=>k a
def CZ{α γ:Type}{x:Option (α×γ)}{f:α×γ->Option β}(h:SM x)(k:∀a b,OW (f (a,b)) Q):OW (x.bind f) Q:=ah h λa _=>k a.1 a.2
def Yc{α γ d:Type}{x:Option (α×γ×d)}{f:α×γ×d->Option β}(h:SM x)(k:∀a b c,OW (f (a,b,c)) Q):OW (x.bind f) Q:=ah h λa _=>k a.1 a.2.1 a.2.2
def Ut{N:Nat}(d:FN N){a:Bs}{f:Bs×Int->Option β}(g:a.length<9000000)(k:∀s e,s.length<=21*(a.length+1)->OW (f (s,e)) Q):OW ((cS N a).bind f) Q:=by
 refine ah (pT d a omq) ?_;rintro⟨s,e⟩ (⟨_,b,c⟩|h)
 ·dsimp only at b c;have:=EY b;rw[c]at this;exact k s e omq
 ·cases h;exact k _ _ siq
def Yd{N:Nat}(c:FN N){a:Bs}{f:Bs×Int->Option β}(d:a.length<9000000)(k:∀s,s.length<=a.length+6->OW (f (s,0)) Q):OW ((dr N [a]).bind f) Q:=by
 have b:([a]:List Bs).flatten=a:=by simp
 rw[Oe c [a] siq (by rw[b];omega),b,akX];exact k _ (eC omq)
variable{Z:Int}
def ahU{N:Nat}(g:FN N)(c:Nat)(h:c<4){b:Bool}{n:Int}{a:Bs}(d:Z=(c:Int)){f:Bs×Int->Option β}(j:a.length<9000000)(k:∀s e,s.length<=a.length+6->OW (f (s,e)) Q):OW ((cr N Z b n [a]).bind f) Q:=
 ah (BJ g c h b n a omq Z d) λr i=>k r.1 r.2 i
def Py{N:Nat}(c:FN N){b:Bool}{n:Int}{a:Bs}{f:Bs×Int->Option β}(d:a.length<9000000)(k:∀s e,s.length<=a.length+6->OW (f (s,e)) Q):OW ((cr N 0 b n [a]).bind f) Q:=ahU c 0 omq rfl d k
def ac5{N:Nat}(b:FN N){a:Bs}{f:fB×Int×Int->Option β}(c:a.length<9000000)(k:∀g e o,(e=0->GB N a.length g)->OW (f (g,e,o)) Q):OW ((oI N a).bind f) Q:=ah (ac3 b a c) λr d=>k r.1 r.2.1 r.2.2 d
def Ye{N:Nat}(b:FN N){a:Bs}{f:List fB×Int×Int->Option β}(c:a.length<9000000)(k:∀g e o,(e=0->GL N a.length g)->OW (f (g,e,o)) Q):OW ((eM N a).bind f) Q:=ah (Uq b a c) λr d=>k r.1 r.2.1 r.2.2 d
def Uu{N:Nat}(b:FN N){a:Bs}{f:Fw.Node×Int×Int->Option β}(c:a.length<9000000)(k:∀t e o,OW (f (t,e,o)) Q):OW ((eU N a).bind f) Q:=ah (Yk b a omq) λr _=>k r.1 r.2.1 r.2.2
end
def Kl{P:Prop}(h:P:=by repeat (first|with_reducible exact(zz _)|with_reducible exact aa trivial|with_reducible refine oC (λ_=> ?_) (λ_=> ?_)|with_reducible refine Pq (λ_=> ?_) (λ_=> ?_)|with_reducible refine ad7 (λ_=> ?_) (λ_=> ?_)|with_reducible refine aY (λ_=> ?_) (λ_=> ?_)|with_reducible refine gS ?_|with_reducible refine k_t ?_|with_reducible refine k_f ?_|with_reducible refine k_c _ ?_ ?_|(with_reducible refine iq ?_<;>try dsimp only)|with_reducible refine gQ ?_|with_reducible refine BN ?_|with_reducible refine Yb (λ_=> ?_)|with_reducible refine Ya asq ?_|with_reducible refine BM asq omq omq (λ_ _ _ _ _ _=> ?_)|with_reducible refine Us asq omq omq omq (λ_ _ _ _=> ?_)|with_reducible refine vy omq omq omq (λ_ _ _=> ?_)|with_reducible refine EV omq ?_|with_reducible refine Kb omq omq (λ_ _ _=> ?_)|(with_reducible refine Ut asq omq (λ_ _ _=> ?_)<;>try dsimp only)|(with_reducible refine xo asq omq (λ_ _ _=> ?_) (λ_ _ _=> ?_)<;>try dsimp only)|(with_reducible refine X9 asq omq (λ_ _ _ _=> ?_) (λ_ _ _ _ _=> ?_)<;>try dsimp only)|(with_reducible refine Yd asq omq (λ_ _=> ?_)<;>try dsimp only)|(with_reducible refine Py asq omq (λ_ _ _=> ?_)<;>try dsimp only)|(with_reducible refine ac5 asq omq (λ_ _ _ _=> ?_)<;>try dsimp only)|(with_reducible refine Ye asq omq (λ_ _ _ _=> ?_)<;>try dsimp only)|(with_reducible refine Uu asq omq (λ_ _ _=> ?_)<;>try dsimp only)|(exfalso;omega)|(exfalso;dsimp only at*;omega)|dsimp only)):P:=h
def ac6{N:Nat}(b:FN N)(a:Bs)(c:a.length<9000000):SM (yr N a):=by
 unfold yr syv
 (have zz:∀(P:Prop)(h:P:=by exact trivial),P:= @id;exact Kl)
def ahV{N:Nat}(b:FN N)(l:List Bs)(B:Nat)(d:B<9000000)(f:l.length<9000000)(h:∀x∈l,x.length<=B):SM (gV N l):=by
 have a:=b;unfold FN at a;unfold gV syv;refine fg ?_ λy=> ?_
 ·unfold jy syv;refine ff _ l.length (λi s=>∃j,s=(l,(l.length:Int),j)/\j=(i:Int)) ?_ N 0 _ omq omq ⟨_,rfl,rfl⟩;rintro G i _ e ⟨j,rfl,rfl⟩ rec;dsimp only;refine aY (λ_=> ?_) (λ_=>aa trivial);refine ah (xc omq omq) λx c=> ?_;have:=h x c.2;unfold Cj syv;refine fg (aE (ac6 b x omq) λ_=>ai _) λ_=> ?_
  (have zz:∀(P:Prop)(h:P:=by exact rec _ omq ⟨_,rfl,bu omq⟩),P:= @id;exact Kl)
 ·cases y<;>exact ai _
def ac7{N:Nat}(a:FN N)(l:List Bs)(B:Nat)(b:B<9000000)(c:l.length<9000000)(h:∀x∈l,x.length<=B):SM (rF N l):=by
 unfold rF syv;refine aN _ ?_ (ai _);refine aE (zQ (Ps a l omq λx d=>by have:=h x d;omega)) λ_=>aN _ ?_ (ai _);unfold jA syv;exact aE (aE (ahV a l B b c h) λ_=>ai _) λ_=>ai _
def ac8{N:Nat}(p:FN N)(s a:Bs)(A:a.length<9000000):SM (mJ N s a):=by
 have q:=p;unfold FN at q;have w:∀(l:List aV)(v:Int×Int),IN a l->2*l.length<=a.length->OW (ia N N (a,l,(l.length:Int),0,[],[],s,v)) λr=>r.2.1.length<=l.length/\∀x∈r.2.1,x.length<=a.length:=by
  rintro l ⟨E,F⟩ B k;unfold ia syv;refine ff _ l.length (λi D=>∃j c,D=(a,l,(l.length:Int),j,[],c,s,E,F)/\j=(i:Int)/\c.length<=i/\∀x∈c,x.length<=a.length) ?_ N 0 _ omq omq ⟨_,_,rfl,rfl,by simp,by simp⟩;rintro G i _ H ⟨j,c,rfl,rfl,hc1,hc2⟩ rec;dsimp only;refine aY (λ_=> ?_) (λ_=>aa ⟨by dsimp only;omega,hc2⟩);refine BM B omq omq λe _ _ _ _ _=>vy omq omq omq λx C _=>EV omq (Kb omq omq λI t _=> ?_);refine rec _ omq ⟨_,_,rfl,bu omq,omq,?_⟩;rw[t];intro y f;rcases alM.1 f with f|f
  ·exact hc2 y f
  ·rw[al3.1 f];exact C
 unfold mJ syv;have d:∀(l:List aV)(v:Int×Int),IN a l->2*l.length<=a.length->OW ((ia N N (a,l,(l.length:Int),0,[],[],s,v)).bind λx=>match x with
  |(_,b,g,u,_)=>bif (u==0) then(rF N b).bind λm=>some ((g,b),m) else some ((g,b),false)) λ_=>True:=by
  intro l v n k;refine ah (w l v n k) λr z=> ?_;refine aw (λ_=> ?_) λ_=>aa trivial;exact aE (ac7 p _ a.length omq (Nat.lt_of_le_of_lt z.1 omq) z.2) λ_=>ai _
 refine Kk p 0 17 rfl rfl A (λe o _=>d [] (e,o) (λ_ h=>by cases h) siq) λl n k=>d l (0,0) n k
def aaq{N:Nat}(b:FN N)(a:Bs)(k:a.length<9000000):SM (kF N a):=by
 have d:=b;unfold FN at d;have f:∀a:Bs,a.length<9000000->SM (gW N a):=λa k=>by
  unfold gW syv
  (have zz:∀(P:Prop)(h:P:=by exact CZ (ac8 b _ _ omq) λ_ _=>aa trivial),P:= @id;exact Kl)
 unfold kF lS jT syv;refine iq (CZ ?_ λ_ _=>aa trivial);refine Kk b 0 16 rfl rfl k (λe o h=>oC (λ_=>aa trivial) λg=>absurd g h) λl m g=> ?_;dsimp only;refine oC (λ_=>aa trivial) λ_=>fg ?_ λy=> ?_
 ·unfold iW syv;refine ff _ l.length (λi s=>∃j c,s=(a,l,(l.length:Int),j,c)/\j=(i:Int)/\c.length<=i) ?_ N 0 _ omq omq ⟨_,_,rfl,rfl,by simp⟩;rintro G i _ p ⟨j,c,rfl,rfl,n⟩ rec;dsimp only;refine aY (λ_=> ?_) (λ_=>aa trivial);refine BM m omq omq λe _ _ _ _ _=>vy omq omq omq λx q _=>CZ (f x omq) λ_ _=> ?_
  (have zz:∀(P:Prop)(h:P:=by exact rec _ omq ⟨_,_,rfl,bu omq,omq⟩),P:= @id;exact Kl)
 ·rcases y with i|⟨x,y⟩
  ·exact ai _
  ·exact aN _ (ai _) (ai _)
def Yf{N:Nat}(g:FN N)(a:Bs)(k:a.length<9000000):SM (mR N a):=by
 have b:=g;unfold FN at b;have d:∀a:Bs,a.length<9000000->SM (gy N a):=λa k=>by
  unfold gy qw syv
  (have zz:∀(P:Prop)(h:P:=by exact trivial),P:= @id;exact Kl)
 unfold mR pp jE syv;refine iq (CZ ?_ λ_ _=>aa trivial);refine Kk g 0 16 rfl rfl k (λe o h=>oC (λ_=>aa trivial) λf=>absurd f h) λl m f=> ?_;dsimp only;refine oC (λ_=>aa trivial) λ_=>fg ?_ λy=> ?_
 ·unfold iP syv;refine ff _ l.length (λi s=>∃j c,s=(a,l,(l.length:Int),j,c)/\j=(i:Int)/\c.length<=i) ?_ N 0 _ omq omq ⟨_,_,rfl,rfl,by simp⟩;rintro G i _ p ⟨j,c,rfl,rfl,n⟩ rec;dsimp only;refine aY (λ_=> ?_) (λ_=>aa trivial);refine BM m omq omq λe _ _ _ _ _=>vy omq omq omq λx q _=>CZ (d x omq) λ_ _=> ?_
  (have zz:∀(P:Prop)(h:P:=by exact rec _ omq ⟨_,_,rfl,bu omq,omq⟩),P:= @id;exact Kl)
 ·rcases y with i|⟨x,y⟩
  ·exact ai _
  ·exact aN _ (ai _) (ai _)
end Go.Fw
namespace Go.Fw
def akS{α β:Type}{Q:β->Prop}{x:Option α}{f:α->Option β}(h:OW (x.bind f) Q):OW x λa=>OW (f a) Q:=by
 cases x with
 |none=>obtain⟨_,h,_⟩:=h;cases h
 |some a=>exact⟨a,rfl,h⟩
def akT{α:Type}{Q:α->Prop}{c:Bool}{x y:Option α}(h:OW (cond c x y) Q):OW (cond c x y) Q:=h
def aiG{p q:Prop}(h:p->q)(k:p):q:=h k
section
variable {β:Type}{Q:β→Prop}
def UJ{N:Nat}(u:FN N){a:Bs}{i j:Int}{f:List aV×Int×Int->Option β}(z:0<=i)(A:i<=j)(B:j<=(a.length:Int))(C:a.length<9000000)(v:∀e o,e≠0->OW (f ([],e,o)) Q)(w:∀l o,IN a l->2*l.length<=a.length->OW (f (l,0,o)) Q):OW ((bK N a i j).bind f) Q:=by
 unfold FN at u;obtain⟨i,rfl⟩:∃n:Nat,i=(n:Int):=⟨i.toNat,omq⟩;obtain⟨j,rfl⟩:∃n:Nat,j=(n:Int):=⟨j.toNat,omq⟩;obtain⟨l,e,o,h,_⟩:=L0 N a omq i j omq omq omq;have g:OP (bK N a (i:Int) (j:Int)) λr=>r.2.1≠0->r.1=[]:=by
  unfold bK syv;refine aD (λ_=>aA λ_=>rfl) λ_=>aD (λ_=>aA λ_=>rfl) λ_=>aD (λ_=>aA λ_=>rfl) λ_=> ?_;refine aU (bX _) ?_;rintro(⟨i,j⟩|⟨i,j,l⟩) _
  ·exact aA λ_=>rfl
  ·exact aA λh=>absurd rfl h
 have s:=g _ h;rw[h];by_cases d:e=0
 ·subst d;obtain⟨b,q1,p,rfl⟩:=L6 N omq a i j omq omq omq l o h;have c:=Ke b (a.take i) (a.drop j);have t:a.take i++ak b++a.drop j=a:=by
   rw[<-p];have m:=amk i (a.take j);rw[List.take_take,ao3 omq]at m;rw[m,amk]
  rw[t,alB,ao3 omq]at c;refine w _ _ c.inn ?_;have x:b.length=(fG i b).length:=c.length;have q:=BL b;have k:=Kj (kB b) (Mx b);have y:(ak b).length<=a.length:=by rw[<-p,al0,alB];omega
  unfold kB at k;rw[alQ]at k;unfold kB at q;omega
 ·obtain rfl:l=[]:=s d;exact v e o d
def aa1{α:Type}{a:List α}{x y j:Int}{f:List α->Option β}(b:0<=x+y)(c:x+y<=j)(d:j<=(a.length:Int))(e:a.length<9000000)(k:∀s:List α,s.length<=a.length->(s.length:Int)=j-(x+y)->OW (f s) Q):OW ((slc a (ay .i64 x y) j).bind f) Q:=by
 rw[bO ⟨omq,omq⟩];exact vy b c d k
def aen{α:Type}{l:List α}{i:Int}{f:α->Option β}(a:0<=i)(b:i<(l.length:Int))(k:∀e,ix l i=some e->OW (f e) Q):OW ((ix l i).bind f) Q:=by
 obtain⟨e,h,c⟩:=xc a b;rw[h];exact k e h
def aeo{N:Nat}(g:FN N){a:Bs}{f:Rdn×Int×Int->Option β}(i:a.length<9000000)(k:∀r e o,(e=0->wR r<=32*a.length)->OW (f (r,e,o)) Q):OW ((dL N a).bind f) Q:=by
 refine ah (ZW g a i) ?_;rintro⟨r,e,o⟩ (⟨b,c,d⟩|⟨b,_⟩)
 ·have:=ZX c;refine k r e o λ_=> ?_;rw[<-d];exact this
 ·exact k r e o λh=>absurd h b
def aa2{a:Bs}{f:Bool×Int->Option β}(k:∀b e,OW (f (b,e)) Q):OW ((dH a).bind f) Q:=CZ (V9 a) k
def Wn{N:Nat}(c:FN N){a:Bs}{f:Int×Int->Option β}(d:a.length<10000000)(k:∀b e,OW (f (b,e)) Q):OW ((iD N a 9).bind f) Q:=CZ (Ul c a d) k
def akU{α:Type}{x:Option α}{v:α}{f:α->Option β}(h:x=some v)(k:OW (f v) Q):OW (x.bind f) Q:=by rw[h];exact k
def ajU{N:Nat}(a:FN N){g:List fB}{f:Bool->Option β}(h:GL N 200000 g)(c:∀b,OW (f b) Q):OW ((fZ N g).bind f) Q:=fg (Ur a g _ h (ak7 _)) c
def akV{a:Bs}{f:Bool->Option β}(c:∀b,OW (f b) Q):OW ((oG a).bind f) Q:=fg (zQ (gp _)) c
end
def adx{P:Prop}(h:P:=by first|assumption|exact GL.nil _ _|refine GL.mono asq omq|refine GL.mono (aiG asq asq) omq):P:=h
def ady{P:Prop}(h:P:=by repeat' (first|((conv=>arg 1;whnf);first|exact⟨_,rfl,trivial⟩|refine acH rfl ?_|(refine akT ?_;(conv=>arg 1;arg 1;dsimp only[bz]);first|refine gS ?_|(refine Pq (λ_=> ?_) (λ_=> ?_)<;>try (exfalso;omega))|(refine aY (λ_=> ?_) (λ_=> ?_)<;>try (exfalso;omega))|refine k_c _ ?_ ?_)|((try refine XV ?_);(conv=>arg 1;whnf);(try refine Pr ?_);(conv=>arg 1;whnf;dsimp only[bz]);refine akS ?_;first|refine Yb (λ_=> ?_)|refine akU asq ?_|refine BM asq omq omq (λ_ _ _ _ _ _=> ?_)|refine Us asq omq omq omq (λ_ _ _ _=> ?_)|refine vy omq omq omq (λ_ _ _=> ?_)|refine EV omq ?_|refine Kb omq omq (λ_ _ _=> ?_)|refine Ut hNN omq (λ_ _ _=> ?_)|refine xo hNN omq (λ_ _ _=> ?_) (λ_ _ _=> ?_)|refine X9 hNN omq (λ_ _ _ _=> ?_) (λ_ _ _ _ _=> ?_)|refine Yd hNN omq (λ_ _=> ?_)|refine Py hNN omq (λ_ _ _=> ?_)|refine ac5 hNN omq (λ_ _ _ _=> ?_)|refine Ye hNN omq (λ_ _ _ _=> ?_)|refine Uu hNN omq (λ_ _ _=> ?_)|refine aen omq omq (λ_ _=> ?_)|refine aa1 omq omq omq omq (λ_ _ _=> ?_)|refine aeo hNN omq (λ_ _ _ _=> ?_)|refine ajU hNN adx (λ_=> ?_)|refine akV (λ_=> ?_)|refine UJ hNN omq omq omq omq (λ_ _ _=> ?_) (λ_ _ _ _=> ?_)|refine aa2 (λ_ _=> ?_)|refine Wn hNN omq (λ_ _=> ?_))|refine XV ?_|refine Pr ?_)|(exfalso;omega)|exact zz _)):P:=h
end Go.Fw
namespace Go.Fw
def akE{P:Prop}(h:P:=by first|assumption|exact amo (aiG asq asq) omq):P:=h
end Go.Fw
namespace Go.Proofs.Tryz
open Go Go.Fw
attribute [local irreducible] slc cw ix app
attribute [local semireducible] Hv
set_option maxRecDepth 6000
set_option maxHeartbeats 0
def keyid_sm0(a:Bs)(b:a.length<190000):SM (yB.run a):=by
 refine XW ?_;exact ady
end Go.Proofs.Tryz
namespace Go.Fw
open Go
def bC{P:Prop}(h:P:=by repeat (first|with_reducible exact(zz _)|with_reducible exact aa trivial|with_reducible refine oC (λ_=> ?_) (λ_=> ?_)|with_reducible refine Pq (λ_=> ?_) (λ_=> ?_)|with_reducible refine ad7 (λ_=> ?_) (λ_=> ?_)|with_reducible refine aY (λ_=> ?_) (λ_=> ?_)|with_reducible refine gS ?_|with_reducible refine k_t ?_|with_reducible refine k_f ?_|with_reducible refine k_c _ ?_ ?_|(with_reducible refine iq ?_<;>try dsimp only)|with_reducible refine gQ ?_|with_reducible refine BN ?_|with_reducible refine Yb (λ_=> ?_)|with_reducible refine Ya asq ?_|with_reducible refine BM asq omq omq (λ_ _ _ _ _ _=> ?_)|with_reducible refine Us asq omq omq omq (λ_ _ _ _=> ?_)|with_reducible refine vy omq omq omq (λ_ _ _=> ?_)|with_reducible refine EV omq ?_|with_reducible refine Kb omq omq (λ_ _ _=> ?_)|(with_reducible refine Ut asq omq (λ_ _ _=> ?_)<;>try dsimp only)|(with_reducible refine xo asq omq (λ_ _ _=> ?_) (λ_ _ _=> ?_)<;>try dsimp only)|(with_reducible refine X9 asq omq (λ_ _ _ _=> ?_) (λ_ _ _ _ _=> ?_)<;>try dsimp only)|(with_reducible refine Yd asq omq (λ_ _=> ?_)<;>try dsimp only)|(with_reducible refine Py asq omq (λ_ _ _=> ?_)<;>try dsimp only)|(with_reducible refine ac5 asq omq (λ_ _ _ _=> ?_)<;>try dsimp only)|(with_reducible refine Ye asq omq (λ_ _ _ _=> ?_)<;>try dsimp only)|(with_reducible refine Uu asq omq (λ_ _ _=> ?_)<;>try dsimp only)|(with_reducible refine aen omq omq (λ_ _=> ?_)<;>try dsimp only)|(with_reducible refine aa1 omq omq omq omq (λ_ _ _=> ?_)<;>try dsimp only)|(with_reducible refine aeo asq omq (λ_ _ _ _=> ?_)<;>try dsimp only)|(with_reducible refine UJ asq omq omq omq omq (λ_ _ _=> ?_) (λ_ _ _ _=> ?_)<;>try dsimp only)|(with_reducible refine aa2 (λ_ _=> ?_)<;>try dsimp only)|(with_reducible refine Wn asq omq (λ_ _=> ?_)<;>try dsimp only)|(exfalso;omega)|(exfalso;dsimp only at*;omega)|dsimp only)):P:=h
def ZO{N:Nat}(n:FN N)(a:Bs)(r:a.length<9000000)(e:aV)(t:0<=e.2.2.2.1)(u:e.2.2.2.1<=e.2.2.2.2.1)(p:e.2.2.2.2.1<=e.2.2.2.2.2)(q:e.2.2.2.2.2<=(a.length:Int)):SM (wG N a e):=by
 have m:=n;unfold FN at m;unfold wG syv;refine UJ n omq p q r (λ_ _ _=> ?_) λl o x h=> ?_
 ·(have zz:∀(P:Prop)(h:P:=by exact trivial),P:= @id;exact bC)
 ·dsimp only;refine oC (λ_=>aa trivial) λ_=> ?_;refine fg ?_ λy=> ?_
  ·unfold yT syv;refine ff _ l.length (λi s=>∃j c1 b d f g k c,s=(a,l,(l.length:Int),j,c1,b,d,f,g,k,c)/\j=(i:Int)/\c.length<=i) ?_ N 0 _ omq omq ⟨_,_,_,_,_,_,_,_,rfl,rfl,by simp⟩;rintro G i _ w ⟨j,c1,b,d,f,g,k,c,rfl,rfl,v⟩ rec;dsimp only
   (have zz:∀(P:Prop)(h:P:=by exact rec _ omq ⟨_,_,_,_,_,_,_,_,rfl,bu omq,omq⟩),P:= @id;exact bC)
  ·rcases y with⟨i,j⟩|⟨c1,b,d,f,g,k,c⟩
   ·exact ai _
   ·(have zz:∀(P:Prop)(h:P:=by exact trivial),P:= @id;exact bC)
def XR{N:Nat}(c:FN N)(a:Bs)(f:a.length<9000000):SM (oK N a):=by
 have d:=c;unfold FN at d;unfold oK syv;refine xo c f (λ_ _ _=> ?_) λl p h=> ?_
 ·(have zz:∀(P:Prop)(h:P:=by exact trivial),P:= @id;exact bC)
 ·dsimp only;refine oC (λ_=>aa trivial) λ_=> ?_;refine fg ?_ λy=> ?_
  ·unfold xH syv;refine ff _ l.length (λi s=>∃j g c1 b,s=(a,g,l,(l.length:Int),j,c1,b)/\j=(i:Int)) ?_ N 0 _ omq omq ⟨_,_,_,_,rfl,rfl⟩;rintro G i _ t ⟨j,g,c1,b,rfl,rfl⟩ rec;dsimp only;refine aY (λ_=> ?_) λ_=>aa trivial;refine BM p omq omq λe k m n o _=> ?_;refine Yb λ_=>gS (k_c _ ?_ (aa trivial));refine aY (λ_=>aa trivial) λ_=>aY (λ_=>aa trivial) λ_=> ?_;refine Yc (ZO c a f e k m n o) λ_ _ _=> ?_
   (have zz:∀(P:Prop)(h:P:=by exact rec _ omq ⟨_,_,_,_,rfl,bu omq⟩),P:= @id;exact bC)
  ·rcases y with⟨i,j⟩|⟨c1,b,q,r⟩
   ·exact ai _
   ·(have zz:∀(P:Prop)(h:P:=by exact trivial),P:= @id;exact bC)
def T9{N:Nat}(a:FN N)(g:List fB)(r:Rdn)(x:Int)(d:GL N 200000 g)(e:wR r<=6500000):SM (ot N (g,r) x):=by
 unfold ot syv;have b:SM (fZ N (g,r).1):=Ur a g _ d (ak7 _);have c:SM (rI N (g,r).2):=zQ (ZU a r omq)
 repeat (first|exact ai _|refine aN _ ?_ ?_|refine aE b λ_=> ?_|refine aE c λ_=> ?_)
end Go.Fw
namespace Go.Fw
open Go
def PK(N:Nat)(r:List fB×Rdn×Int×List fB×Bool×Bool×Bool×Bool×Bool×Bool):Prop:=GL N 200000 r.1/\wR r.2.1<=6500000/\GL N 200000 r.2.2.2.1
end Go.Fw
namespace Go.Proofs.Tryz
open Go Go.Fw
attribute [local irreducible] slc cw ix app
attribute [local semireducible] Ho K8
set_option maxRecDepth 6000
set_option maxHeartbeats 0
def XT(s a:Bs)(H:s.length<=6)(D:a.length<190000)(l:List aV)(F:IN a l)(h:2*l.length<=a.length):OW (pi.1.fn (s,a,(-1),l,(l.length:Int),0,[],[],0,[],false,false,false,false,false,false)) λy:(Int×Int)⊕(List fB×Rdn×Int×List fB×Bool×Bool×Bool×Bool×Bool×Bool)=>∀r,y=.inr r->PK NN r:=by
 have C:=hNN;have n:=hNN;unfold FN at n;refine ff _ l.length (λi B=>∃(o j:Int)(g:List fB)(r:Rdn)(x:Int)(h:List fB)(c1 c d e f k:Bool),B=(s,a,o,l,(l.length:Int),j,g,r,x,h,c1,c,d,e,f,k)/\j=(i:Int)/\-1<=o/\GL NN 200000 g/\wR r<=6500000/\GL NN 200000 h) ?_ NN 0 _ omq omq ⟨_,_,_,_,_,_,_,_,_,_,_,_,rfl,rfl,omq,GL.nil _ _,by decide,GL.nil _ _⟩;rintro G i _ E ⟨o,j,g,r,x,h,c1,c,d,e,f,k,rfl,rfl,z,u,A,w⟩ rec;have m:∀v,OW (some (Sum.inl v):Option ((Int×Int)⊕(List fB×Rdn×Int×List fB×Bool×Bool×Bool×Bool×Bool×Bool))) λy=>∀r,y=.inr r->PK NN r:=λv=>aa λr h=>by cases h
 have b:∀(g:List fB)(r:Rdn) x (h:List fB) c1 c d e f k,GL NN 200000 g->wR r<=6500000->GL NN 200000 h->OW (some (Sum.inr (g,r,x,h,c1,c,d,e,f,k)):Option ((Int×Int)⊕(List fB×Rdn×Int×List fB×Bool×Bool×Bool×Bool×Bool×Bool))) λy=>∀r,y=.inr r->PK NN r:=λg r x h _ _ _ _ _ _ p q t=>aa λr h=>by cases h;exact⟨p,q,t⟩
 have zz:∀(P:Prop)(h:P:=by first|exact m _|exact b _ _ _ _ _ _ _ _ _ _ u A w|((conv=>arg 1;dsimp only);exact rec _ omq ⟨_,_,_,_,_,_,_,_,_,_,_,_,rfl,bu omq,by first|omega|(dsimp only;omega),adx,akE,adx⟩)),P:=λ_ h=>h;exact ady
def acF{α a:Type}{f:α->Option a}{x:α}{Q:a->Prop}(h:OW (f x) Q):OW (NP f x) Q:=by rw[TI];exact h
def kinds_w(s a:Bs)(d:s.length<=6)(b:a.length<190000):OW (mO.run (s,a)) λr=>r.2.2.2.2.2.2.2.2.2.2.1=0->GL NN 200000 r.1/\wR r.2.1<=6500000/\GL NN 200000 r.2.2.2.1:=by
 refine XW ?_;have zz:∀(P:Prop)(h:P:=by first|((conv=>arg 1;whnf);exact aa λh=>absurd h asq)|((conv=>arg 1;whnf);refine acF ?_;refine akG (XT s a d b _ asq asq) ?_;rintro(⟨i,j⟩|⟨n,o,p,r4,e,f,g,k,l,m⟩) c<;>(conv=>arg 1;whnf)<;>first|exact aa λ_=>c _ rfl|exact aa λ_=>⟨GL.nil _ _,by show wR []<=_;decide,GL.nil _ _⟩)),P:=λ_ h=>h;exact ady
end Go.Proofs.Tryz
namespace Go.Fw
open Go
def kinds_w(d:FN NN)(s a:Bs)(c:s.length<=6)(b:a.length<190000):OW (D5 NN s a) λr=>r.2.2.2.2.2.2.2.2.2.2.1=0->GL NN 200000 r.1/\wR r.2.1<=6500000/\GL NN 200000 r.2.2.2.1:=Go.Proofs.Tryz.kinds_w s a c b
def ZP(a:FN NN)(g:List fB)(r:Rdn)(x:Int)(h:List fB)(c:GL NN 200000 g)(e:wR r<=6500000)(d:GL NN 200000 h):SM (yz NN (g,r,x,h)):=by
 unfold yz ou syv;have b:SM (fZ NN (g,r,x,h).2.2.2):=Ur a h _ d (ak7 _);refine aE (T9 a g r x c e) λ_=> ?_
 repeat (first|exact ai _|refine aN _ ?_ ?_|refine aE b λ_=> ?_|refine aE (ai _) λ_=> ?_)
def acG(b:FN NN)(a:Bs)(h:a.length<190000):SM (yA NN a):=by
 unfold yA syv;refine ah (kinds_w b _ a deq h) ?_;rintro⟨j,k,l,r4,m,n,p,q,r,s,e,o⟩ c;dsimp only at c⊢;refine oC (λ_=>aa trivial) λi=> ?_;obtain⟨d,f,g⟩:=c i;exact fg (ZP b j k l r4 d f g) λ_=>gS (k_c _ (aa trivial) (aa trivial))
def ZQ(b:FN NN)(a:Bs)(k:a.length<190000):SM (jB NN a):=by
 have d:=b;unfold FN at d;unfold jB syv;refine xo b omq (λe o f=> ?_) λl g h=> ?_
 ·dsimp only;rw[pS f];exact aa trivial
 ·dsimp only;refine oC (λh=>absurd rfl h) λ_=>fg ?_ λy=> ?_
  ·unfold uu syv;refine ff _ l.length (λi s=>∃j c,s=(a,l,(l.length:Int),j,c)/\j=(i:Int)/\c.length<=i) ?_ NN 0 _ omq omq ⟨_,_,rfl,rfl,by simp⟩;rintro G i _ n ⟨j,c,rfl,rfl,m⟩ rec;dsimp only;refine aY (λ_=> ?_) (λ_=>aa trivial);refine BM g omq omq λe _ _ _ _ _=>vy omq omq omq λx p _=>Yc (acG b x omq) λ_ _ _=> ?_
   (have zz:∀(P:Prop)(h:P:=by exact rec _ omq ⟨_,_,rfl,bu omq,omq⟩),P:= @id;exact bC)
  ·rcases y with⟨i,j⟩|⟨x,y⟩
   ·exact ai _
   ·(have zz:∀(P:Prop)(h:P:=by exact trivial),P:= @id;exact bC)
def XU(b:FN NN)(a:Bs)(h:a.length<190000):SM (jL NN a):=by
 unfold jL syv;refine ah (kinds_w b _ a deq h) ?_;rintro⟨j,k,l,r4,m,n,p,q,r,s,e,o⟩ c;dsimp only at c⊢;refine oC (λ_=>aa trivial) λi=> ?_;obtain⟨d,f,t⟩:=c i;refine fg ?_ λ_=>gS (k_c _ (aa trivial) (aa trivial));unfold uo ou syv;dsimp only;have g:=T9 b j k l d f
 repeat (first|with_reducible exact aa trivial|with_reducible refine BN ?_|with_reducible refine iq ?_|with_reducible refine k_c _ ?_ ?_|with_reducible refine fg g λ_=> ?_|dsimp only)
end Go.Fw
namespace Go.Fw
open Go
def QI(B:Nat)(q:List (Bs×Bs)):Prop:=∀x∈q,x.1.length<=21*(B+1)/\x.2.length<=B
def MI(B:Nat)(q:List (Bs×Bs)):Prop:=∀x∈q,x.1.length<=21*(B+1)/\x.2.length<=21*(B+1)
def PI(B:Nat)(p:List (Bs×List (Bs×Bs))):Prop:=∀x∈p,x.1.length<=21*(B+1)/\QI B x.2/\x.2.length<=B
def QI.nil(B:Nat):QI B []:=λ_ h=>by cases h
variable{Z:Nat}
def QI.snoc{q l:List (Bs×Bs)}{s t:Bs}(h:QI Z q)(e:l=q++[(s,t)])(b:s.length<=21*(Z+1))(c:t.length<=Z):QI Z l:=by
 subst e;intro x a;rcases alM.1 a with a|a
 ·exact h x a
 ·rw[al3.1 a];exact⟨b,c⟩
def MI.snoc{q l:List (Bs×Bs)}{s t:Bs}(h:MI Z q)(e:l=q++[(s,t)])(b:s.length<=21*(Z+1))(c:t.length<=21*(Z+1)):MI Z l:=by
 subst e;intro x a;rcases alM.1 a with a|a
 ·exact h x a
 ·rw[al3.1 a];exact⟨b,c⟩
def PI.snoc{q l:List (Bs×List (Bs×Bs))}{s:Bs}{t:List (Bs×Bs)}(h:PI Z q)(e:l=q++[(s,t)])(c:s.length<=21*(Z+1))(d:QI Z t)(b:t.length<=Z):PI Z l:=by
 subst e;intro x a;rcases alM.1 a with a|a
 ·exact h x a
 ·rw[al3.1 a];exact⟨c,d,b⟩
def ac9{N:Nat}(b:FN N)(a:Bs)(c:a.length<9000000):SM (rJ N a):=by
 unfold rJ syv
 (have zz:∀(P:Prop)(h:P:=by exact trivial),P:= @id;exact bC)
def Pz{N:Nat}(a:FN N)(s:Bs)(b:s.length<10000000):SM (xi N s):=zQ (C0 a s b)
def ahW{N:Nat}(D:FN N)(B:Nat)(J:B<190000)(x:Bs)(M:x.length<=B)(l:List aV)(L:IN x l)(I:2*l.length<=x.length)(p:List (Bs×List (Bs×Bs)))(e a2:Int)(a3:Bool)(a4 a5 f:Int)(s:Bs)(q:List (Bs×Bs))(g d2:Int)(k:Bool)(m n o r t:Int)(w:Bool)(z A C:Int):
 OW (qJ N N (x,l,(l.length:Int),0,p,e,a2,a3,a4,a5,f,s,q,g,d2,k,m,n,o,r,t,w,z,A,C,[],[])) λy=>match y with
  |.inl (b,_,_,_,_,_,_,d,c,_,_,_,_,_,_,_,_,_,_,_,_,u,v,_,_)=>b=p/\d=s/\c=q/\u.length<=21*(B+1)/\v.length<=B
  |.inr (b,_,_,_,_,_,_,d,c,_,_,_,_,_,_,_,_,_,_,_,_,u,v)=>b=p/\d=s/\c=q/\u.length<=21*(B+1)/\v.length<=B:=by
 have a:=D;unfold FN at a;unfold qJ syv;refine ff _ l.length (λi H=>∃j u v,H=(x,l,(l.length:Int),j,p,e,a2,a3,a4,a5,f,s,q,g,d2,k,m,n,o,r,t,w,z,A,C,u,v)/\j=(i:Int)/\u.length<=21*(B+1)/\v.length<=B) ?_ N 0 _ omq omq ⟨_,_,_,rfl,rfl,by simp,by simp⟩;rintro G i _ K ⟨j,u,v,rfl,rfl,E,F⟩ rec;dsimp only;unfold ib rJ syv;refine aY (λ_=> ?_) λ_=>aa ⟨rfl,rfl,rfl,E,F⟩
 (have zz:∀(P:Prop)(h:P:=by exact by first|exact rec _ omq ⟨_,_,_,rfl,bu omq,omq,omq⟩|exact aa ⟨rfl,rfl,rfl,omq,omq⟩),P:= @id;exact bC)
def ahX{N:Nat}(D:FN N)(B:Nat)(W:B<190000)(x:Bs)(hx:x.length<=B)(l:List aV)(X:IN x l)(h2:2*l.length<=x.length)(p:List (Bs×List (Bs×Bs)))(c a2:Int)(a3:Bool)(a4 a5 d:Int)(s:Bs)(q:List (Bs×Bs))(Y:QI B q)(Z:q.length<=B)(f d2:Int)(g:Bool)(k m n:Int):
 OW (qK N N (x,l,(l.length:Int),0,p,c,a2,a3,a4,a5,d,s,q,f,d2,g,k,m,n)) λy=>match y with
  |.inl (t,_,_,_,_,_,_,w,b,_,_,_,_,_,_,_,_)=>t=p/\w=s/\QI B b/\b.length<=q.length+l.length
  |.inr (t,_,_,_,_,_,_,w,b,_,_,_,_,_,_)=>t=p/\w=s/\QI B b/\b.length<=q.length+l.length:=by
 have E:=D;unfold FN at E;unfold qK syv;refine ff _ l.length (λi st=>∃j c a2 a3 a4 a5 d r f d2 g k m n,st=(x,l,(l.length:Int),j,p,c,a2,a3,a4,a5,d,s,r,f,d2,g,k,m,n)/\j=(i:Int)/\QI B r/\r.length<=q.length+i) ?_ N 0 _ omq omq ⟨_,_,_,_,_,_,_,_,_,_,_,_,_,_,rfl,rfl,Y,omq⟩;rintro G i _ hi ⟨j,c,a2,a3,a4,a5,d,r,f,d2,g,k,m,n,rfl,rfl,a,e9⟩ rec;dsimp only;unfold ib syv;refine aY (λ_=> ?_) λ_=>aa ⟨rfl,rfl,a,omq⟩;refine BM X omq omq λe _ _ _ _ _=>vy omq omq omq λz hz _=> ?_;refine xo D omq (λe o he=> ?_) λl2 F V=> ?_
 ·dsimp only
  (have zz:∀(P:Prop)(h:P:=by exact by first|exact rec _ omq ⟨_,_,_,_,_,_,_,_,_,_,_,_,_,_,rfl,bu omq,QI.snoc a asq siq siq,omq⟩|exact aa ⟨rfl,rfl,QI.snoc a asq siq siq,omq⟩),P:= @id;exact bC)
 ·dsimp only;refine oC (λh=>absurd rfl h) λ_=> ?_;refine aY (λ_=> ?_) λ_=>aY (λ_=> ?_) λ_=> ?_
  ·(have zz:∀(P:Prop)(h:P:=by exact by first|exact rec _ omq ⟨_,_,_,_,_,_,_,_,_,_,_,_,_,_,rfl,bu omq,QI.snoc a asq siq siq,omq⟩|exact aa ⟨rfl,rfl,QI.snoc a asq siq siq,omq⟩),P:= @id;exact bC)
  ·(have zz:∀(P:Prop)(h:P:=by exact by first|exact rec _ omq ⟨_,_,_,_,_,_,_,_,_,_,_,_,_,_,rfl,bu omq,QI.snoc a asq siq siq,omq⟩|exact aa ⟨rfl,rfl,QI.snoc a asq siq siq,omq⟩),P:= @id;exact bC)
  ·refine ah (ahW D B W z omq l2 F V p c a2 a3 a4 a5 d s r f d2 g k m n _ _ _ _ _ _) ?_;rintro(⟨t,H,I,J,K,L,M,w,b,O,Q,R,S,T,U,i1,i2,i3,i4,i5,i6,u,v,o1,o2⟩|⟨t,H,I,J,K,L,M,w,b,O,Q,R,S,T,U,i1,i2,i3,i4,i5,i6,u,v⟩) ⟨rfl,rfl,rfl,A,C⟩
   ·dsimp only
    (have zz:∀(P:Prop)(h:P:=by exact by first|exact rec _ omq ⟨_,_,_,_,_,_,_,_,_,_,_,_,_,_,rfl,bu omq,QI.snoc a asq A C,omq⟩|exact aa ⟨rfl,rfl,QI.snoc a asq A C,omq⟩),P:= @id;exact bC)
   ·dsimp only
    (have zz:∀(P:Prop)(h:P:=by exact by first|exact rec _ omq ⟨_,_,_,_,_,_,_,_,_,_,_,_,_,_,rfl,bu omq,QI.snoc a asq A C,omq⟩|exact aa ⟨rfl,rfl,QI.snoc a asq A C,omq⟩),P:= @id;exact bC)
end Go.Fw
namespace Go.Fw
open Go
def ahZ{d:Type}{Q:d->Prop}{N:Nat}(i:FN N){a:Bs}(p:a.length<9000000){f:List aV×Int×Int->Option d}(g:∀e o,e≠0->OW (f ([],e,o)) Q)(h:∀l b,br (EL a) b l->(ak b).length<a.length->OW (f (l,0,0)) Q):OW ((aW N a 0 16).bind f) Q:=by
 refine ah (CW (nj i a omq 0 16) (GR N a _ _)) ?_;rintro⟨l,e,o⟩ ⟨⟨j,b,c,_,_,k,m⟩|⟨c,_⟩,n⟩
 ·cases j;exact h l b m (by rw[k];exact gi)
 ·obtain rfl:l=[]:=n c;exact g e o c
def ada(a:List TLV)(i:Nat)(t:TLV)(h:a[i]?=some t):(kB (a.take (i+1))).sum=(kB (a.take i)).sum+(ag t).length/\(kB (a.take (i+1))).sum<=(ak a).length:=by
 constructor
 ·rw[QF a i t h,aoG];simp
 ·have b:kB (a.take (i+1))=(kB a).take (i+1):=by unfold kB;rw[List.map_take]
  rw[b,<-BL a];exact GQ _ _
set_option maxHeartbeats 1000000 in
def ah0{N:Nat}(r:FN N)(B:Nat)(W:B<190000)(x:Bs)(hx:x.length<=B)(l:List aV)(c:List TLV)(D:br (EL x) c l)(hs:(ak c).length<x.length)(p:List (Bs×List (Bs×Bs)))(d a2:Int)(a3:Bool)(a4 a5 f:Int):
 OW (qL N N (x,l,(l.length:Int),0,p,d,a2,a3,a4,a5,f,[],[])) λy=>match y with
  |.inl (m,_,_,_,_,_,_,n,b,_,_)=>m=p/\n.length<=21*(B+1)/\QI B b/\b.length<=B
  |.inr (m,_,_,_,_,_,_,n,b)=>m=p/\n.length<=21*(B+1)/\QI B b/\b.length<=B:=by
 have u:=r;unfold FN at u;have E:c.length=l.length:=D.length;have Y:=eN c;unfold qL syv;refine ff _ l.length (λi st=>∃j d a2 a3 a4 a5 f s q,st=(x,l,(l.length:Int),j,p,d,a2,a3,a4,a5,f,s,q)/\j=(i:Int)/\s.length<=21*(B+1)/\QI B q/\q.length<=(kB (c.take i)).sum/\q.length<=B) ?_ N 0 _ omq omq ⟨_,_,_,_,_,_,_,_,_,rfl,rfl,by simp,QI.nil _,by simp,by simp⟩;rintro G i _ hi ⟨j,d,a2,a3,a4,a5,f,s,q,rfl,rfl,A,a,e9,g⟩ rec;dsimp only;unfold ib syv;refine aY (λ_=> ?_) λ_=>aa ⟨rfl,A,a,g⟩;obtain⟨t,e,F,v,X⟩:=D.get1 (i:=i) omq;have Z:=fc c t (alz F);obtain⟨k,C⟩:=ada c i t F;refine Ya (bc v) ?_;rw[X.whole];refine iq ?_;generalize ag t=z at Z k⊢;refine Pq (λ_=> ?_) λ_=> ?_
 ·(have zz:∀(P:Prop)(h:P:=by exact by first|exact rec _ omq ⟨_,_,_,_,_,_,_,_,_,rfl,bu omq,omq,a,omq,omq⟩|exact aa ⟨rfl,omq,a,omq⟩),P:= @id;exact bC)
 ·refine xo r omq (λ_ _ _=> ?_) λl2 w V=> ?_
  ·dsimp only
   (have zz:∀(P:Prop)(h:P:=by exact by first|exact rec _ omq ⟨_,_,_,_,_,_,_,_,_,rfl,bu omq,omq,a,omq,omq⟩|exact aa ⟨rfl,omq,a,omq⟩),P:= @id;exact bC)
  ·dsimp only;refine oC (λh=>absurd rfl h) λ_=> ?_;refine aY (λ_=> ?_) λ_=>aY (λ_=> ?_) λ_=> ?_
   ·(have zz:∀(P:Prop)(h:P:=by exact by first|exact rec _ omq ⟨_,_,_,_,_,_,_,_,_,rfl,bu omq,omq,a,omq,omq⟩|exact aa ⟨rfl,omq,a,omq⟩),P:= @id;exact bC)
   ·(have zz:∀(P:Prop)(h:P:=by exact by first|exact rec _ omq ⟨_,_,_,_,_,_,_,_,_,rfl,bu omq,omq,a,omq,omq⟩|exact aa ⟨rfl,omq,a,omq⟩),P:= @id;exact bC)
   ·refine ah (ahX r B W z omq l2 w V p d a2 a3 a4 a5 f s q a g _ _ _ _ _ _) ?_;rintro(⟨m,H,I,J,K,L,M,n,b,O,Q,R,S,T,U,o1,o2⟩|⟨m,H,I,J,K,L,M,n,b,O,Q,R,S,T,U⟩) ⟨rfl,rfl,o,hv⟩
    ·dsimp only
     (have zz:∀(P:Prop)(h:P:=by exact by first|exact rec _ omq ⟨_,_,_,_,_,_,_,_,_,rfl,bu omq,omq,o,omq,omq⟩|exact aa ⟨rfl,omq,o,omq⟩),P:= @id;exact bC)
    ·dsimp only
     (have zz:∀(P:Prop)(h:P:=by exact by first|exact rec _ omq ⟨_,_,_,_,_,_,_,_,_,rfl,bu omq,omq,o,omq,omq⟩|exact aa ⟨rfl,omq,o,omq⟩),P:= @id;exact bC)
def ah1{N:Nat}(g:FN N)(B:Nat)(v:B<190000)(x:Bs)(K:x.length<=B)(l:List aV)(w:IN x l)(I:2*l.length<=x.length):
 OW (qN N N (x,l,(l.length:Int),0,[])) λy=>match y with
  |.inl (b,_,_)=>PI B b/\b.length<=B
  |.inr b=>PI B b/\b.length<=B:=by
 have k:=g;unfold FN at k;unfold qN syv;refine ff _ l.length (λi F=>∃j p,F=(x,l,(l.length:Int),j,p)/\j=(i:Int)/\PI B p/\p.length<=i) ?_ N 0 _ omq omq ⟨_,_,rfl,rfl,(λ_ h=>by cases h),by simp⟩;rintro G i _ J ⟨j,p,rfl,rfl,a,A⟩ rec;dsimp only;unfold ib syv;refine aY (λ_=> ?_) λ_=>aa ⟨a,omq⟩;refine BM w omq omq λe _ _ _ _ _=>vy omq omq omq λz L _=> ?_;refine ahZ g omq (λ_ _ _=> ?_) λC H m u=> ?_
 ·dsimp only
  (have zz:∀(P:Prop)(h:P:=by exact by first|exact rec _ omq ⟨_,_,rfl,bu omq,PI.snoc a asq siq (QI.nil _) siq,omq⟩|exact aa ⟨PI.snoc a asq siq (QI.nil _) siq,omq⟩),P:= @id;exact bC)
 ·dsimp only;refine oC (λh=>absurd rfl h) λ_=> ?_;refine aY (λ_=> ?_) λ_=>aY (λ_=> ?_) λ_=> ?_
  ·(have zz:∀(P:Prop)(h:P:=by exact by first|exact rec _ omq ⟨_,_,rfl,bu omq,PI.snoc a asq siq (QI.nil _) siq,omq⟩|exact aa ⟨PI.snoc a asq siq (QI.nil _) siq,omq⟩),P:= @id;exact bC)
  ·(have zz:∀(P:Prop)(h:P:=by exact by first|exact rec _ omq ⟨_,_,rfl,bu omq,PI.snoc a asq siq (QI.nil _) siq,omq⟩|exact aa ⟨PI.snoc a asq siq (QI.nil _) siq,omq⟩),P:= @id;exact bC)
  ·refine ah (ah0 g B v z omq C H m u p _ _ _ _ _ _) ?_;rintro(⟨b,n,o,q,r,s,t,E,D,M,O⟩|⟨b,n,o,q,r,s,t,E,D⟩) ⟨rfl,c,d,f⟩
   ·dsimp only
    (have zz:∀(P:Prop)(h:P:=by exact by first|exact rec _ omq ⟨_,_,rfl,bu omq,PI.snoc a asq c d f,omq⟩|exact aa ⟨PI.snoc a asq c d f,omq⟩),P:= @id;exact bC)
   ·dsimp only
    (have zz:∀(P:Prop)(h:P:=by exact by first|exact rec _ omq ⟨_,_,rfl,bu omq,PI.snoc a asq c d f,omq⟩|exact aa ⟨PI.snoc a asq c d f,omq⟩),P:= @id;exact bC)
def RA{a α:Type}{Q:a->Prop}{l:List α}{i:Int}{f:α->Option a}(b:0<=i)(c:i<(l.length:Int))(k:∀e∈l,OW (f e) Q):OW ((ix l i).bind f) Q:=ah (xc b c) λe d=>k e d.2
def adb{N:Nat}(a:FN N)(B:Nat)(g:B<190000)(q:List (Bs×Bs))(d:QI B q)(k:q.length<=B):SM (cB N q):=by
 have b:=a;unfold FN at b;unfold cB eT syv;refine fg (fg ?_ λy=>by cases y<;>exact aa trivial) λ_=>aa trivial;unfold ez syv;refine ff _ q.length (λi f=>∃j,f=(q,(q.length:Int),j)/\j=(i:Int)) ?_ N 0 _ omq omq ⟨_,rfl,rfl⟩;rintro G i _ h ⟨j,rfl,rfl⟩ rec;dsimp only;refine aY (λ_=> ?_) λ_=>aa trivial;refine RA omq omq λe c=> ?_;have:=d e c;unfold AY syv;refine fg (fg (Pz a _ omq) λ_=>gS (k_c _ (fg (ac9 a _ omq) λ_=>aa trivial) (aa trivial))) λ_=>k_c _ (aa trivial) ?_;exact rec _ omq ⟨_,rfl,bu omq⟩
def PA{N:Nat}(a:FN N)(B:Nat)(c:B<190000)(p:List (Bs×List (Bs×Bs)))(f:PI B p)(k:p.length<=B):SM (wI N p):=by
 have b:=a;unfold FN at b;unfold wI syv;refine fg ?_ λy=>by cases y<;>exact aa trivial
 unfold yW syv;refine ff _ p.length (λi g=>∃j r,g=(p,p,(p.length:Int),j,r)/\j=(i:Int)) ?_ N 0 _ omq omq ⟨_,_,rfl,rfl⟩;rintro G i _ h ⟨j,r,rfl,rfl⟩ rec;dsimp only;refine aY (λ_=> ?_) λ_=>aa trivial;refine RA omq omq λe d=> ?_;have:=f e d;refine fg (Pz a _ omq) λ_=>gS (k_c _ ?_ (aa trivial));refine k_c _ (aa trivial) (fg (adb a B c _ this.2.1 this.2.2) λ_=>k_c _ (aa trivial) ?_);exact rec _ omq ⟨_,_,rfl,bu omq⟩
def aat{N:Nat}(c:FN N)(a:Bs)(d:a.length<190000):SM (qa N a):=by
 have b:=PA c a.length d [] (λ_ h=>by cases h) siq;unfold qa ib syv;refine xo c omq (λ_ _ _=> ?_) λl j h=> ?_
 ·dsimp only
  (have zz:∀(P:Prop)(h:P:=by exact fg b λ_=>by(have zz:∀(P:Prop)(h:P:=by exact trivial),P:= @id;exact bC)),P:=λ_ h=>h;exact bC)
 ·dsimp only;refine oC (λh=>absurd rfl h) λ_=>aY (λ_=> ?_) λ_=>aY (λ_=> ?_) λ_=> ?_
  ·(have zz:∀(P:Prop)(h:P:=by exact fg b λ_=>by(have zz:∀(P:Prop)(h:P:=by exact trivial),P:= @id;exact bC)),P:=λ_ h=>h;exact bC)
  ·(have zz:∀(P:Prop)(h:P:=by exact fg b λ_=>by(have zz:∀(P:Prop)(h:P:=by exact trivial),P:= @id;exact bC)),P:=λ_ h=>h;exact bC)
  ·refine ah (ah1 c a.length d a (ak7 _) l j h) ?_;rintro(⟨p,e,o⟩|p) ⟨g,i⟩
   ·have f:=PA c a.length d p g i;dsimp only
    (have zz:∀(P:Prop)(h:P:=by exact fg f λ_=>by(have zz:∀(P:Prop)(h:P:=by exact trivial),P:= @id;exact bC)),P:=λ_ h=>h;exact bC)
   ·have f:=PA c a.length d p g i;dsimp only
    (have zz:∀(P:Prop)(h:P:=by exact fg f λ_=>by(have zz:∀(P:Prop)(h:P:=by exact trivial),P:= @id;exact bC)),P:=λ_ h=>h;exact bC)
def ah2{N:Nat}(e:FN N)(B:Nat)(n:B<190000)(x:Bs)(r:x.length<=B)(l:List aV)(q:IN x l)(m:2*l.length<=x.length)(p:List (Bs×Bs))(c a2:Int)(a3:Bool)(a4 a5 d:Int):
 OW (jM N N (x,l,(l.length:Int),0,p,c,a2,a3,a4,a5,d,[],[])) λy=>match y with
  |.inl (b,_,_,_,_,_,_,u,v,_,_)=>b=p/\u.length<=21*(B+1)/\v.length<=21*(B+1)
  |.inr (b,_,_,_,_,_,_,u,v)=>b=p/\u.length<=21*(B+1)/\v.length<=21*(B+1):=by
 have a:=e;unfold FN at a;unfold jM syv;refine ff _ l.length (λi k=>∃j u v,k=(x,l,(l.length:Int),j,p,c,a2,a3,a4,a5,d,u,v)/\j=(i:Int)/\u.length<=21*(B+1)/\v.length<=21*(B+1)) ?_ N 0 _ omq omq ⟨_,_,_,rfl,rfl,by simp,by simp⟩;rintro G i _ o ⟨j,u,v,rfl,rfl,f,g⟩ rec;dsimp only;unfold ib syv;refine aY (λ_=> ?_) λ_=>aa ⟨rfl,f,g⟩
 (have zz:∀(P:Prop)(h:P:=by exact by first|exact rec _ omq ⟨_,_,_,rfl,bu omq,omq,omq⟩|exact aa ⟨rfl,omq,omq⟩),P:= @id;exact bC)
def ah3{N:Nat}(f:FN N)(B:Nat)(w:B<190000)(x:Bs)(I:x.length<=B)(l:List aV)(A:IN x l)(F:2*l.length<=x.length):
 OW (jO N N (x,l,(l.length:Int),0,[])) λy=>match y with
  |.inl (b,_,_)=>MI B b/\b.length<=B
  |.inr b=>MI B b/\b.length<=B:=by
 have g:=f;unfold FN at g;unfold jO syv;refine ff _ l.length (λi E=>∃j p,E=(x,l,(l.length:Int),j,p)/\j=(i:Int)/\MI B p/\p.length<=i) ?_ N 0 _ omq omq ⟨_,_,rfl,rfl,(λ_ h=>by cases h),by simp⟩;rintro G i _ H ⟨j,p,rfl,rfl,a,C⟩ rec;dsimp only;unfold ib syv;refine aY (λ_=> ?_) λ_=>aa ⟨a,omq⟩;refine BM A omq omq λe _ _ _ _ _=>vy omq omq omq λz J _=> ?_;refine xo f omq (λ_ _ _=> ?_) λD k t=> ?_
 ·dsimp only
  (have zz:∀(P:Prop)(h:P:=by exact by first|exact rec _ omq ⟨_,_,rfl,bu omq,MI.snoc a asq siq siq,omq⟩|exact aa ⟨MI.snoc a asq siq siq,omq⟩),P:= @id;exact bC)
 ·dsimp only;refine oC (λh=>absurd rfl h) λ_=> ?_;refine aY (λ_=> ?_) λ_=>aY (λ_=> ?_) λ_=> ?_
  ·(have zz:∀(P:Prop)(h:P:=by exact by first|exact rec _ omq ⟨_,_,rfl,bu omq,MI.snoc a asq siq siq,omq⟩|exact aa ⟨MI.snoc a asq siq siq,omq⟩),P:= @id;exact bC)
  ·(have zz:∀(P:Prop)(h:P:=by exact by first|exact rec _ omq ⟨_,_,rfl,bu omq,MI.snoc a asq siq siq,omq⟩|exact aa ⟨MI.snoc a asq siq siq,omq⟩),P:= @id;exact bC)
  ·refine ah (ah2 f B w z omq D k t p _ _ _ _ _ _) ?_;rintro(⟨b,m,n,o,q,r,s,u,v,K,L⟩|⟨b,m,n,o,q,r,s,u,v⟩) ⟨rfl,c,d⟩
   ·dsimp only
    (have zz:∀(P:Prop)(h:P:=by exact by first|exact rec _ omq ⟨_,_,rfl,bu omq,MI.snoc a asq c d,omq⟩|exact aa ⟨MI.snoc a asq c d,omq⟩),P:= @id;exact bC)
   ·dsimp only
    (have zz:∀(P:Prop)(h:P:=by exact by first|exact rec _ omq ⟨_,_,rfl,bu omq,MI.snoc a asq c d,omq⟩|exact aa ⟨MI.snoc a asq c d,omq⟩),P:= @id;exact bC)
def PB{N:Nat}(c:FN N)(B:Nat)(k:B<190000)(p:List (Bs×Bs))(f:MI B p)(m:p.length<=B):SM (lU N p):=by
 have a:=c;unfold FN at a;unfold lU syv;refine aY (λ_=>fg ?_ λy=>by cases y<;>exact aa trivial) λ_=>aa trivial;have b:∀s:Bs,s.length<10000000->SM (ko N s):=λs g=>by
  unfold ko syv;exact fg (Pz c s g) λ_=>k_c _ (aa trivial) (aa trivial)
 unfold oM syv;refine ff _ p.length (λi h=>∃j,h=(p,(p.length:Int),j)/\j=(i:Int)) ?_ N 0 _ omq omq ⟨_,rfl,rfl⟩;rintro G i _ l ⟨j,rfl,rfl⟩ rec;dsimp only;refine aY (λ_=> ?_) λ_=>aa trivial;refine RA omq omq λe d=> ?_;have:=f e d;refine fg (b _ omq) λ_=>gS (k_c _ (fg (b _ omq) λ_=>gS (k_c _ ?_ (aa trivial))) (aa trivial));exact rec _ omq ⟨_,rfl,bu omq⟩
def Yh{N:Nat}(c:FN N)(a:Bs)(d:a.length<190000):SM (iS N a):=by
 have b:=PB c a.length d [] (λ_ h=>by cases h) siq;unfold iS ib syv;refine xo c omq (λ_ _ _=> ?_) λl j h=> ?_
 ·dsimp only
  (have zz:∀(P:Prop)(h:P:=by exact fg b λ_=>by(have zz:∀(P:Prop)(h:P:=by exact trivial),P:= @id;exact bC)),P:=λ_ h=>h;exact bC)
 ·dsimp only;refine oC (λh=>absurd rfl h) λ_=>aY (λ_=> ?_) λ_=>aY (λ_=> ?_) λ_=> ?_
  ·(have zz:∀(P:Prop)(h:P:=by exact fg b λ_=>by(have zz:∀(P:Prop)(h:P:=by exact trivial),P:= @id;exact bC)),P:=λ_ h=>h;exact bC)
  ·(have zz:∀(P:Prop)(h:P:=by exact fg b λ_=>by(have zz:∀(P:Prop)(h:P:=by exact trivial),P:= @id;exact bC)),P:=λ_ h=>h;exact bC)
  ·refine ah (ah3 c a.length d a (ak7 _) l j h) ?_;rintro(⟨p,e,o⟩|p) ⟨g,i⟩
   ·have f:=PB c a.length d p g i;dsimp only
    (have zz:∀(P:Prop)(h:P:=by exact fg f λ_=>by(have zz:∀(P:Prop)(h:P:=by exact trivial),P:= @id;exact bC)),P:=λ_ h=>h;exact bC)
   ·have f:=PB c a.length d p g i;dsimp only
    (have zz:∀(P:Prop)(h:P:=by exact fg f λ_=>by(have zz:∀(P:Prop)(h:P:=by exact trivial),P:= @id;exact bC)),P:=λ_ h=>h;exact bC)
end Go.Fw
namespace Go.Fw
open Go
def Wd{a α:Type}{Q:a->Prop}{x:Option α}{f:α->Option a}(h:OW (x.bind f) Q):OW (agree (List.replicate 2 x) f) Q:=by
 rw[show List.replicate 2 x=List.replicate (1+1) x from rfl,lL];exact h
def akJ{α:Type}{i:Int}{s:Bs}{c:Bool}{p:Option (α×Int×Int)}{f}(h:SM p)(k:∀l v,SM (f l v)):SM (wy i s c p f):=by
 unfold wy;refine Wd (ah (aE h λa=> ?_) λ_ _=>k_c _ (ai _) (ai _));exact aN _ (k _ _) (ai _)
def ajx{i:Int}{s:Bs}{c:Bool}{f:Unit->Int×Int->_}(h:False):SM (wy i s c none f):=h.elim
def afJ(b:Bs)(h:b.length<190000):SM (kE b):=by
 unfold kE syv;exact EV omq (ai _)
def Oc(s:Bs):∀(b:List Bs)(a:List Int),tp s b a∈0::a
 |[],_=>by simp[tp]
 |_::_,[]=>by simp[tp]
 |i::b,n::a=>by
  have:=Oc s b a;unfold tp;split
  ·simp
  ·simp only[alr]at this⊢;exact this.imp id .inr
def aau(s:Bs):CU s∈0::GE:=by
 unfold CU;split
 ·simp
 ·exact Oc s _ _
set_option maxHeartbeats 8000000 in
set_option maxRecDepth 100000 in
def aav(a:FN NN)(v:cb)(d:v.1.length<10000000)(e:v.2.2.length<190000):SM (mn NN v):=by
 unfold mn;rw[Qz a v d,akX,yn,akX];obtain⟨s,c,b⟩:=v;dsimp only at d e⊢;refine gS (k_c _ ?_ (aa trivial));have f:=aau s;generalize CU s=k at f⊢;refine ah (R:=λt=>t.2.2.1=b/\t.2.2.2.1=k) (by cases k==0<;>exact aa ⟨rfl,rfl⟩) ?_;rintro⟨_,_,_,_,i,g⟩ ⟨rfl,rfl⟩;dsimp only at e f⊢
 repeat first
  |(refine aw (λh=>akJ (by first
   |with_reducible exact aaq a _ omq
   |with_reducible exact Yf a _ omq
   |with_reducible exact acY a _ omq
   |with_reducible exact Q9 a _ omq
   |with_reducible exact Pw a _ omq
   |with_reducible exact afE a _ omq
   |with_reducible exact X6 a _ omq
   |with_reducible exact acW a _ omq
   |with_reducible exact X5 a _ omq
   |with_reducible exact XU a _ omq
   |with_reducible exact ZQ a _ omq
   |with_reducible exact aat a _ omq
   |with_reducible exact Yh a _ omq
   |with_reducible exact XR a _ omq
   |with_reducible exact acZ a _ omq
   |with_reducible exact Va a _ omq
   |with_reducible exact afJ _ omq
   |with_reducible exact Rz (Uq a _ omq)
   |exact Go.Proofs.Tryz.keyid_sm0 _ omq) λ_ _=>by first
   |exact ai _
   |exact Wd (ai _)) λh=> ?_)
  |refine ajx ?_
 simp_all[GE]
def ah4(b:FN NN)(l:List cb)(o:l.length<10000000)(h:∀v∈l,v.1.length<10000000/\v.2.2.length<190000):SM (wK NN l):=by
 have a:=b;unfold FN at a;unfold wK syv;refine fg ?_ λy=>by cases y<;>exact aa trivial
 unfold zd syv;refine ff _ l.length (λi k=>∃j c,k=(l,(l.length:Int),j,c)/\j=(i:Int)/\c.length<=i) ?_ NN 0 _ omq omq ⟨_,_,rfl,rfl,by simp⟩;rintro G i _ n ⟨j,c,rfl,rfl,m⟩ rec;dsimp only;refine aY (λ_=> ?_) λ_=>aa trivial;refine RA omq omq λe f=> ?_;have:=h e f;refine Yc (aav b e this.1 this.2) λ_ _ _=> ?_;dsimp only;refine oC (λ_=>aa trivial) λ_=> ?_;refine ah (R:=λd=>d.length=c.length+1) ?_ λd g=>rec _ omq ⟨_,_,rfl,bu omq,omq⟩;unfold app;rw[ali (by unfold ba;simp only[amr];omega)];exact aa siq
end Go.Fw
namespace Go.Fw
open Go
def XB(l:List cb):Prop:=wL l<10000000/\∀v∈l,v.2.2.length<190000
def XB.nil:XB []:=⟨by decide,λ_ h=>by cases h⟩
def Og{l:List cb}{v:cb}(h:v∈l):v.1.length<wL l/\v.2.2.length<wL l:=by
 have:=Ud h;omega
def afP{l:List cb}(h:gP l=true):l.isEmpty=false:=by
 unfold gP at h;cases l with
 |nil=>simp at h
 |cons=>rfl
def MD{x y:Int}(h:0<=x)(k:0<=y):0<=TQ x y:=by rw[J6];split<;>assumption
def PF{x y:Int}:TQ x y<=y:=by rw[J6];split<;>omega
def EL.lt{a:Bs}{t:TLV}{e:aV}(h:EL a t e):0<=e.2.2.2.1/\e.2.2.2.1<=(a.length:Int):=by
 have:=h.ei;omega
section
variable {β:Type}{Q:β→Prop}
def RD{α:Type}{x:α}{r:List α}{f:α->Option β}(k:OW (f x) Q):OW ((ix (x::r) 0).bind f) Q:=k
def ad9{α:Type}{x:α}{r:List α}{f:List α->Option β}(k:OW (f r) Q):OW ((slc (x::r) 1 (((x::r).length:Nat):Int)).bind f) Q:=by
 have:slc (x::r) 1 (((x::r).length:Nat):Int)=some r:=by
  unfold slc;rw[ali (by simp only[ak4];omega)];simp
 rw[this];exact k
def Kn{a:Bs}{t:TLV}{e:aV}{f:Bs->Option β}(h:EL a t e)(k:OW (f (ag t)) Q):OW ((slc a e.2.2.2.1 e.2.2.2.2.2).bind f) Q:=by rw[h.whole];exact k
def aaE{α:Type}{x:α}{r:List α}{A B:Option β}(h:OW B Q):OW (bif (((x::r).length:Nat):Int)==0 then A else B) Q:=by
 have:((((x::r).length:Nat):Int)==0)=false:=alu.2 (by simp only[ak4];omega);rw[this];exact h
def aaF{α:Type}{A B:Option β}(h:OW A Q):OW (bif ((([]:List α).length:Nat):Int)==0 then A else B) Q:=h
def aaG{α:Type}{x:α}{r:List α}{A B:Option β}(h:OW A Q):OW (bif decide ((((x::r).length:Nat):Int)>0) then A else B) Q:=by
 rw[ak3 (by simp only[ak4];omega)];exact h
def aaH{α:Type}{A B:Option β}(h:OW B Q):OW (bif decide (((([]:List α).length:Nat):Int)>0) then A else B) Q:=h
def cC{α:Type}{x:Option α}{v:α}{f:α->Option β}(h:x=some v)(k:OW (f v) Q):OW (x.bind f) Q:=by rw[h];exact k
def k_z{A B:Option β}(h:OW B Q):OW (bif ((0:Int) !=0) then A else B) Q:=h
def Uy{A B:Option β}(h:OW A Q):OW (bif ((0:Int)==0) then A else B) Q:=h
def G4{e:Int}{A B:Option β}(a:e≠0)(h:OW A Q):OW (bif (e !=0) then A else B) Q:=by rw[pS a];exact h
def RE{e:Int}{A B:Option β}(a:e≠0)(h:OW B Q):OW (bif (e==0) then A else B) Q:=by rw[alu.2 a];exact h
end
section
variable {β:Type}{Q:β→Prop}
def jG{α:Type}{w:Nat}{l:List α}{x:α}{f:List α->Option β}(a:w<=200)(h:l.length<=100)(k:OW (f (l++[x])) Q):OW ((app w l [x]).bind f) Q:=by
 rw[dQ a soq];exact k
end
section
variable {β:Type}{Q:β→Prop}
def Ko{α:Type}{x y:α}{r:List α}{f:α->Option β}(k:OW (f y) Q):OW ((ix (x::y::r) 1).bind f) Q:=k
def Yl{α:Type}{x y:α}{A B:Option β}(h:OW B Q):OW (bif ((([x,y].length:Nat):Int) !=2) then A else B) Q:=h
def aea{α:Type}{x y:α}{A B:Option β}(h:OW B Q):OW (bif decide ((([x,y].length:Nat):Int)<2) then A else B) Q:=h
def aeb{α:Type}{x y:α}{A B:Option β}(h:OW B Q):OW (bif decide ((([x,y].length:Nat):Int)>2) then A else B) Q:=h
def EZ{a:Bs}{t:TLV}{e:aV}{f:Bs->Option β}(h:EL a t e)(k:OW (f t.2.2.2) Q):OW ((slc a e.2.2.2.2.1 e.2.2.2.2.2).bind f) Q:=by rw[h.body];exact k
def aie{p:Prop}[Decidable p]{A B:Option β}(a:¬p)(h:OW B Q):OW (bif decide p then A else B) Q:=by rw[ak0 a];exact h
def akM{α:Type}{n:Nat}{x:Option α}{f:α->Option β}(h:OW (x.bind f) Q):OW (agree (List.replicate (n+1) x) f) Q:=by rw[lL];exact h
def ajE{α γ:Type}{n:Nat}{x:Option α}{g:α->Option γ}{f:γ->Option β}(h:OW ((x.bind g).bind f) Q):OW ((agree (List.replicate (n+1) x) g).bind f) Q:=by rw[lL];exact h
end
def stQ{P:Prop}(h:P:=by repeat ((try dsimp only);first|with_reducible exact(zz _)|with_reducible refine iq ?_|with_reducible refine k_z ?_|with_reducible refine Uy ?_|with_reducible refine k_t ?_|with_reducible refine k_f ?_|with_reducible refine gS ?_|with_reducible refine G4 (by first|assumption|decide) ?_|with_reducible refine RE (by first|assumption|decide) ?_|with_reducible refine aaE ?_|with_reducible refine aaF ?_|with_reducible refine aaG ?_|with_reducible refine aaH ?_|with_reducible refine Yl ?_|with_reducible refine aea ?_|with_reducible refine aeb ?_|with_reducible refine gQ ?_|with_reducible refine BN ?_|with_reducible refine RD ?_|with_reducible refine Ko ?_|with_reducible refine ad9 ?_|with_reducible refine Kn asq ?_|with_reducible refine EZ asq ?_|with_reducible refine cC asq ?_)):P:=h
noncomputable def mb(v:Bs×Bs):TLV:=(0,true,16,ag (bS v.1)++v.2)
def sw(x y:List TLV):ak (x++y)=ak x++ak y:=by simp[ak]
noncomputable def ir(x:gR):Bool:=(eI x).getD false
def vB(x:gR)(a:x.1.length<1000000000):eI x=some (ir x):=by
 obtain⟨c,h,_⟩:=wQ x omq;unfold ir;rw[h];rfl
end Go.Fw
namespace Go.Fw
open Go
abbrev DA:=(Bs×Bs)×Bs×Int
noncomputable def zR(N:Nat)(v:DA):Bool:=jR N v.1&&ir v.2
def vC(x:gR):TLV:=(0,false,3,cn x)
noncomputable def nM(v:DA):List TLV:=[mb v.1,vC v.2]
noncomputable def iu(v:DA):TLV:=(0,true,16,ak (nM v))
def KB(v:DA):Prop:=v.1.1.length<10000000/\v.1.2.length<10000000/\v.2.1.length<10000000
def C1{N:Nat}(c:FN N)(v:DA)(h:KB v):nw N v=some (zR N v):=by
 obtain⟨a,b,d⟩:=h;unfold nw zR syv;rw[yo c _ a b,akX,vB _ omq];cases jR N v.1<;>rfl
def JD(a:FN NN)(x:gR)(h:ir x=true)(b:x.1.length<10000000):eW NN x=some (cn x,0):=
 abM NN (by unfold FN at a;omega) (by unfold FN at a;omega) x omq (by rw[vB _ omq,h])
def jf(x:gR):(cn x).length=x.1.length+1:=rfl
def ajI(a:FN NN)(v:DA)(h:KB v)(b:zR NN v=true)(l:(ak (nM v)).length<100000000):iT NN v=some (ag (iu v),0):=by
 have i:=C1 a v h;obtain⟨d,e,f⟩:=h;rw[b]at i;unfold zR at b;simp only[akY]at b;have c:=RB a v.1 d e;rw[b.1]at c;simp only[ala]at c;have j:=JD a v.2 b.2 f;have m:=kA a 0 3 false (cn v.2) 0 3 rfl rfl omq omq (by rw[jf];omega);have k:=GJ a [eD v.1,ag (0,false,3,cn v.2)] (ak (nM v)) rfl siq omq;suffices OW (iT NN v) λr=>r=(ag (iu v),0) by
  obtain⟨r,g,rfl⟩:=this;exact g
 unfold iT ku syv
 (have zz:∀(P:Prop)(h:P:=by exact aa rfl),P:= @id;exact stQ)
def BP(t u:TLV):ak [t,u]=ag t++ag u:=by simp[ak]
def aij(g:FN NN)(v:DA)(d:zR NN v=true)(a:Bs)(f:ag (iu v)=a)(q:a.length<9000000):fy NN a=some (v,0,0):=by
 have j:(ak (nM v)).length<a.length:=by rw[<-f];exact bt (iu v)
 have m:(ak (nM v)).length=(ag (mb v.1)).length+(ag (vC v.2)).length:=by unfold nM;rw[BP,ak2]
 have u:=bt (mb v.1);have w:=bt (vC v.2);have x:(vC v.2).2.2.2.length=v.2.1.length+1:=rfl;unfold zR at d;simp only[akY]at d;obtain⟨l,s,b⟩:=lg g (c:=0) (num:=16) omq omq a (nM v) f.symm (by
  intro t e;unfold nM at e;simp only[alr,ant,or_false]at e;rcases e with rfl|rfl
  ·exact⟨by show 0<4;decide,by show 16<31;decide,omq⟩
  ·exact⟨by show 0<4;decide,by show 3<31;decide,omq⟩) omq 0 16 rfl rfl
 have n:=Ux g v.1 d.1 (ag (mb v.1)) rfl omq;have o:bA (vC v.2).2.2.2=some (v.2,0):=F7 v.2 omq (by rw[vB _ omq,d.2]);suffices OW (fy NN a) λr=>r=(v,0,0) by
  obtain⟨r,k,rfl⟩:=this;exact k
 unfold fy syv;unfold nM at b;cases b with
 |cons p b=>cases b with
  |cons i b=>
   cases b;have c1:=i.yes 0 3 false 0 3 rfl rfl rfl rfl rfl
   (have zz:∀(P:Prop)(h:P:=by exact aa rfl),P:= @id;exact stQ)
def pU(t u:dI):List TLV:=[jQ t,jQ u]
def fY(t u:dI):TLV:=(0,true,16,ak (pU t u))
def ME(t u:dI):(ak (pU t u)).length<=42:=by
 have a:=QC t;have b:=QC u;unfold pU;rw[BP,ak2];have c:(ag (jQ t)).length=(lO t).length:=rfl;have d:(ag (jQ u)).length=(lO u).length:=rfl;omega
def aik(a:FN NN)(t u:dI)(d:ij t=true)(e:ij u=true):gh NN t u=some (ag (fY t u),0):=by
 have b:=aah a t;have c:=aah a u;rw[d]at b;rw[e]at c;simp only[ala]at b c;have h:=ME t u;have f:=GJ a [lO t,lO u] (ak (pU t u)) rfl siq omq;suffices OW (gh NN t u) λr=>r=(ag (fY t u),0) by
  obtain⟨r,g,rfl⟩:=this;exact g
 unfold gh;refine akM (n:=3) (gQ (cC b ?_));dsimp only;refine gQ (jG omq siq (ajE (n:=0) (gQ (gQ (cC c ?_)))));dsimp only;refine gQ (jG omq siq ?_);refine iq (iq ?_);dsimp only;simp only[nh];refine k_z (cC f (aa rfl))
def afR(d:FN NN)(t u:dI)(f:ij t=true)(g:ij u=true):fw NN (ag (fY t u))=some (t,u,0,0):=by
 have i:=ME t u;have j:(ag (fY t u)).length<=(ak (pU t u)).length+6:=eC (b:=ak (pU t u)) omq;obtain⟨l,q,a⟩:=lg d (c:=0) (num:=16) omq omq (ag (fY t u)) (pU t u) rfl (by
  intro x e;unfold pU at e;simp only[alr,ant,or_false]at e;rcases e with rfl|rfl<;>exact Uh _) omq 0 16 rfl rfl
 have m:=V4 d t f (ag (jQ t)) rfl;have n:=V4 d u g (ag (jQ u)) rfl;suffices OW (fw NN (ag (fY t u))) λr=>r=(t,u,0,0) by
  obtain⟨r,k,rfl⟩:=this;exact k
 unfold fw syv;unfold pU at a;cases a with
 |cons o a=>cases a with
  |cons p a=>
   cases a
   (have zz:∀(P:Prop)(h:P:=by exact aa rfl),P:= @id;exact stQ)
def aed(b:FN NN)(s:Bs)(g:s.length<1000):fv NN (ag (0,false,2,s))=some (s,0,0):=by
 obtain⟨e,f,a⟩:=Ry b (0,false,2,s) ⟨omq,by show 2<31;omega,by show s.length<=_;omega⟩;have c1:=a.yes 0 2 false 0 2 rfl rfl rfl rfl rfl;have d:=iz (x:=s) omq;suffices OW (fv NN (ag (0,false,2,s))) λr=>r=(s,0,0) by
  obtain⟨r,c,rfl⟩:=this;exact c
 unfold fv syv
 (have zz:∀(P:Prop)(h:P:=by exact aa rfl),P:= @id;exact stQ)
def afS(b:FN NN)(x:gR)(h:ir x=true)(g:x.1.length<9000000):gG NN (ag (vC x))=some (x,0,0):=by
 have i:=jf x;obtain⟨e,f,a⟩:=Ry b (vC x) ⟨by show 0<4;decide,by show 3<31;decide,by show(cn x).length<=_;omega⟩;have c1:=a.yes 0 3 false 0 3 rfl rfl rfl rfl rfl;have d:bA (vC x).2.2.2=some (x,0):=F7 x omq (by rw[vB _ omq,h]);suffices OW (gG NN (ag (vC x))) λr=>r=(x,0,0) by
  obtain⟨r,c,rfl⟩:=this;exact c
 unfold gG syv
 (have zz:∀(P:Prop)(h:P:=by exact aa rfl),P:= @id;exact stQ)
end Go.Fw
