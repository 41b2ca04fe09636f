/- A framework for proofs about Go programs in this model: part ZB. Everything is proved; no condition is added. -/
import Derived.Lib.TrimU
import Derived.Test.YtlicgchfbhkelaaGreatDoorFwZA
set_option linter.unusedVariables false
set_option linter.unusedSimpArgs false
set_option linter.defProp false
def ai9:=@of_decide_eq_false
namespace Go.Fw
open Go
abbrev SM{α:Type}(x:Option α):Prop:=OW x λ_=>True
def ag{α:Type}(a:α):SM (some a):=⟨a,rfl,trivial⟩
def yO{α:Type}{x:Option α}{a:α}(h:x=some a):SM x:=⟨a,h,trivial⟩
def zf{α b:Type}{x:Option α}{f:α->Option b}{R:α->Prop}(h:OW x R)(k:∀a,R a->SM (f a)):SM (x.bind f):=aj h k
def aS{α b:Type}{x:Option α}{f:α->Option b}(h:SM x)(k:∀a,SM (f a)):SM (x.bind f):=aj h λa _=>k a
def nq{α:Type}{c:Bool}{x y:Option α}(a:c=true->SM x)(b:c=false->SM y):SM (bif c then x else y):=az a b
def bI{α:Type}(c:Bool){x y:Option α}(a:SM x)(b:SM y):SM (bif c then x else y):=az (λ_=>a) λ_=>b
def Py{α:Type}{x:Option α}{Q:α->Prop}(h:OW x Q):SM x:=IE h λ_ _=>trivial
def uQ(e:cM)(c n:Int)(k:Bool):SM (bz e c k n):=yO (Wx e c n k)
def T4(c:Bs):SM (cP c):=by obtain⟨v,e,h⟩:=Zs c;exact yO h
def XY{N:Nat}(a:FN N)(c:Bs)(b:c.length<10000000):SM (fF N c):=yO (T2 a c b)
def acT{N:Nat}(a:FN N)(c:Bs)(b:c.length<10000000):SM (cm N c):=Py (xA a c b)
def aau(c:Bs)(a:c.length<10000000):SM (fM c):=yO (nu a)
def aeT(x:lu)(g:x.1.length<10000000):∃i,fo x=some i/\(i<=8*(x.1.length:Int)):=by
 obtain⟨c,a,b⟩:=wa x (by omega);unfold fo syv;rw[a,ahI];cases c
 ·exact⟨0,rfl,by omega⟩
 ·obtain⟨d,f⟩:=b rfl;have e:lm .i64 8 (x.1.length:Int)=8*(x.1.length:Int):=by
   show IntKind.i64.wrap _=_;rw[aij _ (by omega)]
  refine⟨aU .i64 (lm .i64 8 (x.1.length:Int)) x.2,rfl,?_⟩;rw[e,qr (by omega)];omega
def bat(x:lu)(b:x.1.length<10000000)(i:Nat)(h:i<100000000):SM (fq x (i:Int)):=by
 unfold fq syv;rw[ahO (by omega:(i:Int)>=0),ahY];obtain⟨m,d,f⟩:=aeT x b;rw[d,ahI];refine nq (λc=> ?_) λ_=>ag _;have g:(i:Int)<m:=ail c;have e:gt .i64 (i:Int) 8=((i / 8:Nat):Int):=by
  show IntKind.i64.wrap ((i:Int).tdiv 8)=_;rw[aj7 (by omega),aij _ (by omega)];omega
 have a:Int.tmod (i:Int) 8=((i % 8:Nat):Int):=by
  rw[akD (by omega)];omega
 rw[e,de (ahK (show i / 8<x.1.length by omega)),ahI,a,qr (by omega),ahO (by omega),ahY];exact ag _
def VT(N:Nat)(x:lu)(f:x.1.length<10000000)(m:Int)(j:m<=100000):∀(k n i:Nat)(s:Int),(m-(i:Int)).toNat=k->k<n->i<=100000->SM (bh N n (s,m,(i:Int),x.1,x.2)):=by
 intro k;induction k with
 |zero=>
  intro n i s e g d;obtain⟨n,rfl⟩:∃m,n=m+1:=⟨n-1,by omega⟩;show SM (bif decide ((i:Int)<m) then _ else some s);rw[ahL (by omega)];exact ag _
 |succ k h=>
  intro n i s e g d;obtain⟨n,rfl⟩:∃m,n=m+1:=⟨n-1,by omega⟩;show SM (bif decide ((i:Int)<m) then(fq x (i:Int)).bind _ else some s);rw[ahO (by omega),ahY];refine aS (bat x f i (by omega)) λc=> ?_;have b:∀a,SM (bh N n (a,m,aw .i64 (i:Int) 1,x.1,x.2)):=λa=>by
   rw[dD (by omega)];exact h n (i+1) a (by omega) (by omega) (by omega)
  rw[ahO (by omega:(0:Int)<=(i:Int))];cases c
  ·exact b _
  ·exact b _
def R0{N:Nat}(p:FN N)(c:Bs)(d:c.length<10000000):SM (be N c 9):=by
 have f:=p;unfold FN at f;unfold be syv;obtain⟨x,e,a,o⟩:=Zn c (by omega);have g:x.1.length<10000000:=by
  by_cases q:e=0
  ·have:=(o q).1;rw[this]at d;simp[iC]at d;omega
  ·unfold bt syv at a;cases c with
   |nil=>cases a;simp
   |cons b r=>
    rw[Sc,ahL (by simp),ahQ,qL,ahI,nu (by simp at d;omega),ahI,ix0,ahI]at a;obtain⟨w,u,_⟩:=wa (r,IntKind.wrap .i64 (b.toNat:Int)) (by simp at d⊢;omega);rw[u,ahI]at a;cases w
    ·cases a;simp
    ·cases a;simp at d⊢;omega
 rw[show decide ((9:Int)<1)=false from rfl,show decide ((9:Int)>32)=false from rfl,ahQ,ahQ,a,ahI];dsimp only;obtain⟨i,s,t⟩:=aeT x g;rw[s,ahI];refine bI _ (ag _) (nq (λ_=>ag _) λm=> ?_);have n:¬i>9:=ai9 m;have j:SM ((bh N N (0,i,0,x)).bind λh=>some (h,(0:Int))):=by
  refine aS ?_ λ_=>ag _;exact VT N x g i (by omega) (i-((0:Nat):Int)).toNat N 0 0 rfl (by omega) (by omega)
 refine nq (λk=> ?_) λ_=>j;have l:i>0:=ail k;rw[qr (by omega),show i-1=(((i-1).toNat:Nat):Int) from by omega];exact aS (bat x g _ (by omega)) λc=>bI _ (ag _) j
variable{Z:Type}
def DC{N:Nat}(g:FN N)(a:Bs)(h:a.length<10000000)(f:cM×Int×Int->Option Z)(c:∀v e o,e≠0->SM (f (v,e,o)))(d:∀v t,EL a t v->t.2.2.2.length<10000000->SM (f (v,0,0))):SM ((bF N a).bind f):=by
 refine zf (IH g a h) ?_;rintro⟨v,e,o⟩ (⟨i,t,b,j,k⟩|⟨b,_⟩)
 ·cases i;refine d v t k ?_;have:=iE t;have:a.length=(ai t).length:=by rw[j]
  omega
 ·exact c v e o b
def qE{e:Int}(h:e≠0):(e !=0)=true:=by simpa using h
def VU{N:Nat}(d:FN N)(a:Bs)(f:a.length<10000000):SM (cF N a):=by
 unfold cF syv;refine DC d a f _ (λv e o g=> ?_) λv t b h=> ?_
 ·dsimp only;rw[qE g];exact ag _
 ·dsimp only;refine aS (uQ _ _ _ _) λc=>bI _ (ag _) ?_;rw[b.body,ahI];exact aS (aau _ h) λ_=>ag _
def ST{N:Nat}(b:FN N)(a:Bs)(f:a.length<10000000):SM (eg N a):=by
 unfold eg syv;refine DC b a f _ (λv e o g=> ?_) λv t d h=> ?_
 ·dsimp only;rw[qE g];exact ag _
 ·dsimp only;refine aS (uQ _ _ _ _) λc=>bI _ (ag _) ?_;rw[d.body,ahI];exact aS (R0 b _ h) λ_=>bI _ (ag _) (bI _ (ag _) (ag _))
def XZ(i:Int)(h:0<=i)(a:i<=10):SM (jQ i):=by
 have:i=0∨i=1∨i=2∨i=3∨i=4∨i=5∨i=6∨i=7∨i=8∨i=9∨i=10:=by omega
 rcases this with rfl|rfl|rfl|rfl|rfl|rfl|rfl|rfl|rfl|rfl|rfl<;>exact ag _
def VV{N:Nat}(b:FN N)(a:Bs)(g:a.length<10000000):SM (jf N a):=by
 unfold jf syv;refine DC b a g _ (λv e o h=> ?_) λv t f i=> ?_
 ·dsimp only;rw[qE h];exact ag _
 ·dsimp only;refine aS (uQ _ _ _ _) λc=>bI _ (ag _) ?_;rw[f.body,ahI];refine aS (XY b _ i) λr=>bI _ (ag _) (nq (λ_=>ag _) λc1=>nq (λ_=>ag _) λd=> ?_);exact aS (XZ r.1 (by have:=ai9 c1;omega) (by have:=ai9 d;omega)) λ_=>bI _ (ag _) (ag _)
def aav{N:Nat}(b:FN N)(a:Bs)(f:a.length<10000000):SM (gu N a):=by
 unfold gu syv;refine DC b a f _ (λv e o g=> ?_) λv t d h=> ?_
 ·dsimp only;rw[qE g];exact ag _
 ·dsimp only;refine aS (uQ _ _ _ _) λc=>bI _ (ag _) ?_;rw[d.body,ahI];exact aS (Py (XU b _ h)) λ_=>bI _ (ag _) (ag _)
def aaw{N:Nat}(a:FN N)(c:Bs)(b:c.length<10000000):SM (gZ N c):=by
 unfold gZ syv;exact aS (XY a c b) λr=>bI _ (bI _ (ag _) (ag _)) (ag _)
def H5{N:Nat}(d:FN N)(a:Bs)(t:TLV)(e:cM)(b:EL a t e)(f:t.2.2.2.length<10000000)(x y:Int):SM (eQ N a e.1 e.2.1 e.2.2.1 e.2.2.2.1 e.2.2.2.2.1 e.2.2.2.2.2 x y):=by
 unfold eQ syv;refine aS (uQ _ _ _ _) λc=>bI _ (ag _) ?_;rw[b.body,ahI];exact aS (aaw d _ f) λ_=>bI _ (ag _) (ag _)
def O9{N:Nat}(b:FN N)(a:Bs)(d:a.length<10000000):SM (iX N a):=by
 unfold iX iQ syv;refine aS ?_ λ_=>ag _;refine DC b a d _ (λv e o f=> ?_) λv t c g=> ?_
 ·dsimp only;rw[qE f];exact ag _
 ·dsimp only;exact aS (H5 b a t v c g 0 2) λ_=>bI _ (ag _) (ag _)
def acU(c:Bs):SM (iD c):=by
 unfold iD syv;rw[jV,ahI];refine nq (λ_=>ag _) λh=> ?_;have a:od c=true:=by simpa using h
 cases c with
 |nil=>cases a
 |cons x r=>
  rw[ix0];exact bI _ (bI _ (ag _) (bI _ (ag _) (ag _))) (bI _ (ag _) (ag _))
def X0(c:Bs):SM (fD c):=by
 unfold fD syv;rw[jV,ahI];exact bI _ (bI _ (aS (acU c) λ_=>ag _) (ag _)) (ag _)
def NF{N:Nat}(d:FN N)(a:Bs)(f:a.length<10000000):SM (dY N a):=by
 unfold dY eR syv;refine aS ?_ λ_=>ag _;refine DC d a f _ (λv e o g=> ?_) λv t b h=> ?_
 ·dsimp only;rw[qE g];exact ag _
 ·dsimp only;refine aS ?_ λ_=>bI _ (ag _) (ag _);unfold fw syv;refine aS (uQ _ _ _ _) λc=>bI _ (ag _) ?_;rw[show slc a v.2.2.2.2.1 v.2.2.2.2.2=_ from b.body,ahI];unfold fv syv;rw[nu h,ahI];exact aS (aS (X0 _) λ_=>ag _) λ_=>bI _ (ag _) (ag _)
def KH{N:Nat}(m:FN N)(a:Bs)(n:a.length<10000000)(c num:Nat)(d i:Int)(p:d=(c:Int))(q:i=(num:Int))(f:List cM×Int×Int->Option Z)(j:∀v e o,e≠0->SM (f (v,e,o)))(k:∀l b,eT (EL a) b l->(au b).length<a.length->a=tlv c true num (au b)->SM (f (l,0,0))):SM ((aF N a d i).bind f):=by
 subst p q;refine zf (tk m a n c num) ?_;rintro⟨l,e,o⟩ (⟨r,b,g,_,_,h,s⟩|⟨g,_⟩)
 ·cases r;exact k l b s (by rw[h];exact kH) h
 ·exact j l e o g
def eT.bodies{a:Bs}{b:List TLV}{l:List cM}(h:eT (EL a) b l){i:Nat}{e:cM}(f:l[i]?=some e):∃t,EL a t e/\t∈b/\t.2.2.2.length<(au b).length/\(ai t).length<=(au b).length:=by
 obtain⟨t,c,d⟩:=h.get f;have:=ko b t (aik c);have:=iE t;exact⟨t,d,aik c,by omega,by omega⟩
def VW(a:Bs)(t:TLV)(e:cM)(b:EL a t e)(x y:Int):SM (dS a e.1 e.2.1 e.2.2.1 e.2.2.2.1 e.2.2.2.2.1 e.2.2.2.2.2 x y):=by
 unfold dS syv;refine aS (uQ _ _ _ _) λc=>bI _ (ag _) ?_;rw[b.body,ahI];unfold gY syv;exact aS (aS (T4 _) λ_=>bI _ (ag _) (ag _)) λ_=>bI _ (ag _) (ag _)
def aax{N:Nat}(f:FN N)(a:Bs)(k:a.length<10000000):SM (iu N a):=by
 unfold iu syv;refine KH f a k 0 16 0 16 rfl rfl _ (λv e o m=> ?_) λl p g n _=> ?_
 ·dsimp only;rw[qE m];exact ag _
 ·dsimp only;rw[show((0:Int) !=0)=false from rfl,ahQ];refine zf (R:=λy=>(∃c,y=Sum.inl (a,l,c))∨∃i,y=Sum.inr i) ?_ ?_
  ·refine az (λc=> ?_) λ_=>aa (.inl ⟨_,rfl⟩);refine aj (xL (by omega) (by simpa using c)) λe h=> ?_;obtain⟨t,b,_,_,_⟩:=g.bodies h.1;refine aj (VW a t e b 0 1) λr _=> ?_;refine az (λ_=> ?_) λ_=>aa (.inl ⟨_,rfl⟩);exact aj (xL (by omega) (by simpa using c)) λe h=>aa (.inr ⟨_,rfl⟩)
  ·rintro y (⟨c,rfl⟩|⟨i,rfl⟩)
   ·dsimp only;refine zf (R:=λy=>(∃c d e,y=Sum.inl (l,c,d,e))∨∃i,y=Sum.inr i) ?_ ?_
    ·refine az (λc=> ?_) λ_=>aa (.inl ⟨_,_,_,rfl⟩);have j:((l.length:Nat):Int)>1:=ail c;refine aj (xL (by omega) (by omega)) λe h=> ?_;obtain⟨t,b,_,_,_⟩:=g.bodies h.1;refine aj (H5 f a t e b (by omega) 0 2) λr _=> ?_;refine az (λ_=> ?_) λ_=>aa (.inl ⟨_,_,_,rfl⟩);exact aj (xL (by omega) (by omega)) λe h=>aa (.inr ⟨_,rfl⟩)
    ·rintro y (⟨c,d,e,rfl⟩|⟨i,rfl⟩)
     ·dsimp only;refine nq (λc=> ?_) λ_=>ag _;have j:((l.length:Nat):Int)>2:=ail c;exact zf (xL (by omega) (by omega)) λe h=>ag _
     ·exact ag _
   ·exact ag _
def X1{N:Nat}(s:FN N)(a:Bs)(z:a.length<10000000)(g:List TLV)(l:List cM)(j:eT (EL a) g l)(A:(au g).length<a.length):∀(k n i:Nat)(e:Int)(d:Bool)(i9:Int)(b:Bool)(c:Int),l.length-i=k->k<n->i<=l.length->
 OW (im N n (a,e,l,(l.length:Int),(i:Int),d,i9,b,c)) λ_=>True:=by
 have o:=j.length;have w:=jb g;intro k;induction k with
 |zero=>
  intro n i e d i9 b c v x u;obtain⟨n,rfl⟩:∃m,n=m+1:=⟨n-1,by omega⟩;show OW (bif decide ((i:Int)<(l.length:Int)) then _ else some _) _;rw[ahL (by omega)];exact ag _
 |succ k y=>
  intro n i e d i9 b c v x u;obtain⟨n,rfl⟩:∃m,n=m+1:=⟨n-1,by omega⟩;have f:i<l.length:=by omega
  have p:=ahK f;obtain⟨t,q,_,_,_⟩:=j.bodies p;show OW (bif decide ((i:Int)<(l.length:Int)) then _ else some _) _;have h:∀(e:Int)(d:Bool)(i9:Int)(b:Bool)(c:Int),OW (im N n (a,e,l,(l.length:Int),aw .i64 (i:Int) 1,d,i9,b,c)) λ_=>True:=λe d i9 b c=>by
   rw[dD (by omega)];exact y n (i+1) e d i9 b c (by omega) (by omega) (by omega)
  rw[ahO (by omega),ahY,de p,ahI];refine aj (H5 s a t _ q (by omega) 2 _) λr _=> ?_;refine az (λ_=>ag _) λ_=>az (λ_=>ag _) λ_=>az (λ_=>ag _) λ_=> ?_;cases (l[i].2.1==0)
  ·exact h _ _ _ _ _
  ·exact h _ _ _ _ _
def acV{N:Nat}(b:FN N)(a:Bs)(d:a.length<10000000):SM (iF N a):=by
 have c:=b;unfold FN at c;unfold iF syv;refine KH b a d 0 16 0 16 rfl rfl _ (λv e o j=> ?_) λl h f m _=> ?_
 ·dsimp only;rw[qE j];exact ag _
 ·dsimp only;have g:=f.length;have k:=jb h;rw[show((0:Int) !=0)=false from rfl,ahQ];refine aS (X1 b a d h l f m l.length N 0 (-1) false 0 false 0 (by omega) (by omega) (by omega)) λy=> ?_;rcases y with i|⟨n,p,q,r,s,t⟩
  ·exact ag _
  ·exact bI _ (ag _) (ag _)
def VX{N:Nat}(p:FN N)(a:Bs)(y:a.length<10000000)(d:List TLV)(l:List cM)(e:eT (EL a) d l)(z:(au d).length<a.length):∀(k n i:Nat)(acc:List Bs),l.length-i=k->k<n->i<=l.length->acc.length<=i->
 OW (ki N n (a,l,(l.length:Int),(i:Int),0,0,acc)) λ_=>True:=by
 have f:=e.length;have v:=jb d;intro k;induction k with
 |zero=>
  intro n i acc u w s _;obtain⟨n,rfl⟩:∃m,n=m+1:=⟨n-1,by omega⟩;show OW (bif decide ((i:Int)<(l.length:Int)) then _ else some _) _;rw[ahL (by omega)];exact ag _
 |succ k x=>
  intro n i acc u w s q;obtain⟨n,rfl⟩:∃m,n=m+1:=⟨n-1,by omega⟩;have b:i<l.length:=by omega
  have g:=ahK b;obtain⟨t,o,_,_,_⟩:=e.bodies g;have j:∀acc:List Bs,acc.length<=i+1->OW (ki N n (a,l,(l.length:Int),aw .i64 (i:Int) 1,0,0,acc)) λ_=>True:=λacc h=>by
   rw[dD (by omega)];exact x n (i+1) acc (by omega) (by omega) (by omega) h
  show OW (bif decide ((i:Int)<(l.length:Int)) then _ else some _) _;rw[ahO (by omega),ahY,de g,ahI];refine aj (uQ _ _ _ _) λc _=>az (λ_=>ag _) λ_=> ?_;rw[o.body,ahI];refine aj (acT p _ (by omega)) λr _=>az (λ_=>ag _) λ_=> ?_;rw[gK (by omega) (by simp only[ahP,ah9];omega),ahI];exact j _ (by simp;omega)
def aay{N:Nat}(b:FN N)(a:Bs)(d:a.length<10000000):SM (li N a):=by
 have c:=b;unfold FN at c;unfold li syv;refine KH b a d 0 16 0 16 rfl rfl _ (λv e o k=> ?_) λl h f n _=> ?_
 ·dsimp only;rw[qE k];exact ag _
 ·dsimp only;have g:=f.length;have m:=jb h;rw[show((0:Int) !=0)=false from rfl,ahQ];refine aS (VX b a d h l f n l.length N 0 [] (by omega) (by omega) (by omega) (by simp)) λy=> ?_;rcases y with⟨i,j⟩|⟨p,q,r,s⟩
  ·exact ag _
  ·exact bI _ (ag _) (ag _)
end Go.Fw
namespace Go.Fw
open Go
def VI{α b:Type}{Q:b->Prop}{x:Option α}{f:α->Option b}(h:OW x λa=>OW (f a) Q):OW (x.bind f) Q:=by
 obtain⟨a,rfl,h⟩:=h;exact h
def ahs{α:Type}{Q:α->Prop}{c:Bool}{x y:Option α}(a:c=true->OW x Q)(b:c=false->OW y Q):OW (cond c x y) Q:=by
 cases c;exact b rfl;exact a rfl
def aht{α b:Type}{Q:b->Prop}{R:α->Prop}{x:Option α}{f:α->Option b}(h:OW x R)(k:∀a,R a->OW (f a) Q):OW x λa=>OW (f a) Q:=by
 obtain⟨a,rfl,h⟩:=h;exact⟨a,rfl,k a h⟩
def aag{α b:Type}{Q:b->Prop}{x:Option α}{a:α}{f:α->Option b}(h:x=some a)(k:OW (f a) Q):OW x λa=>OW (f a) Q:=⟨a,h,k⟩
def VJ{b:Bse}{d:AD b}{x:Tup (PV.tcss d.ap)}{Q:Tup d.rp.tcs->Prop}(h:OW (AF d.c.cxs d.f d.ap d.rp x) Q):OW (d.run x) Q:=by rw[AD.run_eq];exact h
def NB{α a:Type}{Q:a->Prop}{f:α->Option a}{x:α}(h:OW (f x) Q):OW (E0 f x) Q:=by rw[E1];exact h
def hNN:FN NN:=by unfold FN;rw[afP];decide
end Go.Fw
namespace Go.Fw
def ahC{P:Prop}(h:P:=by repeat' ((conv=>arg 1;whnf);first|exact⟨_,rfl,trivial⟩|refine ahs (λ_=> ?_) λ_=> ?_|refine VI (aag rfl ?_)|refine aag rfl ?_|refine VI ?_|refine NB ?_)):P:=h
end Go.Fw
namespace Go.Proofs.Tryz
open Go Go.Fw
set_option maxRecDepth 100000
set_option maxHeartbeats 4000000
def alone_sm0(g:Int×Bs×Bs×Bs×List (List (Bs×Bs))×(Int×Bs)×Int×Bs):SM (tX.run g):=by
 refine VJ ?_;exact ahC
end Go.Proofs.Tryz
namespace Go.Fw
open Go
def zg(s:Bs)(i:Nat):∃r w:Nat,kS s (i:Int)=((r:Int),(w:Int))/\r<=1114111/\1<=w:=by
 refine⟨(Utf8.decode ⟨s.toArray⟩ i).1,(Utf8.decode ⟨s.toArray⟩ i).2,rfl,Lib.rune_le _ _,Lib.width_pos _ _⟩
def af8(r:Nat)(h:r<=1114111):SM (sn (r:Int)):=by
 unfold sn;rw[ahO (by omega:(-2147483648:Int)<=(r:Int)),ahO (by omega:(r:Int)<=2147483647)];exact ag _
def abs(r:Int):SM (Ey r):=yO (Ih r)
def af9(r:Nat)(h:r<=1114111):SM (gR (r:Int)):=by
 have a:=aS (af8 r h) λc=>ag c;unfold gR;exact bI _ (bI _ (ag _) (bI _ (bI _ (ag _) (bI _ (bI _ (ag _) a) a)) (bI _ (bI _ (ag _) a) a))) (bI _ (bI _ (ag _) (bI _ (bI _ (ag _) a) a)) (bI _ (bI _ (ag _) a) a))
def X2(r a b:Int):SM (cU r a b):=by
 unfold cU;exact bI _ (ag _) (ag _)
def aga(r a b:Int):SM (fT r a b):=by
 unfold fT;exact aS (X2 r a b) λc=>bI _ (ag _) (bI _ (ag _) (ag _))
def agb(r:Int):SM (gS r):=by
 unfold gS;exact aS (abs r) λc=>bI _ (ag _) (ag _)
def abt(N:Nat)(w:Int)(s:Bs):∀(k n i:Nat),s.length-i<=k->k<n->SM (kC N n (w,s,(i:Int))):=by
 intro k;induction k with
 |zero=>
  intro n i d f;obtain⟨n,rfl⟩:∃m,n=m+1:=⟨n-1,by omega⟩;show SM (bif decide ((i:Int)<(s.length:Int)) then _ else some _);rw[ahL (by omega)];exact ag _
 |succ k g=>
  intro n i d f;obtain⟨n,rfl⟩:∃m,n=m+1:=⟨n-1,by omega⟩;show SM (bif decide ((i:Int)<(s.length:Int)) then(bif decide (0<=(i:Int)) then _ else none) else some _);refine nq (λc=> ?_) λ_=>ag _;have h:(i:Int)<(s.length:Int):=ail c;obtain⟨r,a,b,j,l⟩:=zg s i;rw[ahO (by omega:(0:Int)<=(i:Int)),ahY,b];refine aS (abs _) λc=>bI _ (ag _) ?_;have e:((i:Int)+(a:Int))=((i+a:Nat):Int):=by omega
  show SM (kC N n (w,s,((i:Int)+(a:Int))));rw[e];exact g n (i+a) (by omega) (by omega)
def agc(N:Nat)(w:Int)(s:Bs):∀(k n i:Nat),s.length-i<=k->k<n->SM (lO N n (w,s,(i:Int))):=by
 intro k;induction k with
 |zero=>
  intro n i d f;obtain⟨n,rfl⟩:∃m,n=m+1:=⟨n-1,by omega⟩;show SM (bif decide ((i:Int)<(s.length:Int)) then _ else some _);rw[ahL (by omega)];exact ag _
 |succ k h=>
  intro n i d f;obtain⟨n,rfl⟩:∃m,n=m+1:=⟨n-1,by omega⟩;show SM (bif decide ((i:Int)<(s.length:Int)) then(bif decide (0<=(i:Int)) then _ else none) else some _);refine nq (λc=> ?_) λ_=>ag _;have j:(i:Int)<(s.length:Int):=ail c;obtain⟨r,a,b,g,l⟩:=zg s i;rw[ahO (by omega:(0:Int)<=(i:Int)),ahY,b];refine aS (af9 r g) λc=>bI _ (ag _) ?_;have e:((i:Int)+(a:Int))=((i+a:Nat):Int):=by omega
  show SM (lO N n (w,s,((i:Int)+(a:Int))));rw[e];exact h n (i+a) (by omega) (by omega)
def agd(N:Nat)(w:Int)(s:Bs):∀(k n i:Nat),s.length-i<=k->k<n->SM (lQ N n (w,s,(i:Int))):=by
 intro k;induction k with
 |zero=>
  intro n i d f;obtain⟨n,rfl⟩:∃m,n=m+1:=⟨n-1,by omega⟩;show SM (bif decide ((i:Int)<(s.length:Int)) then _ else some _);rw[ahL (by omega)];exact ag _
 |succ k g=>
  intro n i d f;obtain⟨n,rfl⟩:∃m,n=m+1:=⟨n-1,by omega⟩;show SM (bif decide ((i:Int)<(s.length:Int)) then(bif decide (0<=(i:Int)) then _ else none) else some _);refine nq (λc=> ?_) λ_=>ag _;have h:(i:Int)<(s.length:Int):=ail c;obtain⟨r,a,b,j,l⟩:=zg s i;rw[ahO (by omega:(0:Int)<=(i:Int)),ahY,b];refine aS (agb _) λc=>bI _ (ag _) ?_;have e:((i:Int)+(a:Int))=((i+a:Nat):Int):=by omega
  show SM (lQ N n (w,s,((i:Int)+(a:Int))));rw[e];exact g n (i+a) (by omega) (by omega)
def age(N:Nat)(a b:Int)(w:Int)(s:Bs):∀(k n i:Nat),s.length-i<=k->k<n->SM (lP N n (a,b,w,s,(i:Int))):=by
 intro k;induction k with
 |zero=>
  intro n i g h;obtain⟨n,rfl⟩:∃m,n=m+1:=⟨n-1,by omega⟩;show SM (bif decide ((i:Int)<(s.length:Int)) then _ else some _);rw[ahL (by omega)];exact ag _
 |succ k j=>
  intro n i g h;obtain⟨n,rfl⟩:∃m,n=m+1:=⟨n-1,by omega⟩;show SM (bif decide ((i:Int)<(s.length:Int)) then(bif decide (0<=(i:Int)) then _ else none) else some _);refine nq (λc=> ?_) λ_=>ag _;have l:(i:Int)<(s.length:Int):=ail c;obtain⟨r,d,f,o,p⟩:=zg s i;rw[ahO (by omega:(0:Int)<=(i:Int)),ahY,f];refine aS (aga _ _ _) λc=>bI _ (ag _) ?_;have e:((i:Int)+(d:Int))=((i+d:Nat):Int):=by omega
  show SM (lP N n (a,b,w,s,((i:Int)+(d:Int))));rw[e];exact j n (i+d) (by omega) (by omega)
def abu(N:Nat)(a b:Int)(w:Int)(s:Bs):∀(k n i:Nat),s.length-i<=k->k<n->SM (kD N n (a,b,w,s,(i:Int))):=by
 intro k;induction k with
 |zero=>
  intro n i g h;obtain⟨n,rfl⟩:∃m,n=m+1:=⟨n-1,by omega⟩;show SM (bif decide ((i:Int)<(s.length:Int)) then _ else some _);rw[ahL (by omega)];exact ag _
 |succ k j=>
  intro n i g h;obtain⟨n,rfl⟩:∃m,n=m+1:=⟨n-1,by omega⟩;show SM (bif decide ((i:Int)<(s.length:Int)) then(bif decide (0<=(i:Int)) then _ else none) else some _);refine nq (λc=> ?_) λ_=>ag _;have l:(i:Int)<(s.length:Int):=ail c;obtain⟨r,d,f,o,p⟩:=zg s i;rw[ahO (by omega:(0:Int)<=(i:Int)),ahY,f];refine aS (X2 _ _ _) λc=>bI _ (ag _) ?_;have e:((i:Int)+(d:Int))=((i+d:Nat):Int):=by omega
  show SM (kD N n (a,b,w,s,((i:Int)+(d:Int))));rw[e];exact j n (i+d) (by omega) (by omega)
def agf(s:Bs)(h:s.length<100000000):SM (jT s):=by
 unfold jT cH;rw[show Nat.ble s.length 1099511627776=true from aiH (by omega)];exact ag _
def AM{x:Option (Bool⊕Unit)}(h:SM x):SM (x.bind λy=>(match y with
 |Sum.inl c=>some c
 |Sum.inr _=>some true)):=aS h λy=>by cases y<;>exact ag _
def H6{N:Nat}(a:FN N)(t:Int×Bs)(h:t.2.length<100000000):SM (kU N t):=by
 unfold FN at a;unfold kU;have v:=agf t.2 h;refine bI _ (aS v λ_=>bI _ (ag _) (AM (abt N 0 t.2 t.2.length N 0 (by omega) (by omega)))) (bI _ (aS v λ_=>bI _ (ag _) (AM (agc N 1 t.2 t.2.length N 0 (by omega) (by omega)))) (bI _ (aS v λ_=>bI _ (ag _) (AM (age N 32 126 1 t.2 t.2.length N 0 (by omega) (by omega)))) (bI _ (aS v λ_=>bI _ (ag _) (AM (abu N 0 127 1 t.2 t.2.length N 0 (by omega) (by omega)))) (bI _ (aS v λ_=>bI _ (ag _) (AM (abu N 32 126 1 t.2 t.2.length N 0 (by omega) (by omega)))) (bI _ (aS v λ_=>bI _ (ag _) (AM (abt N 4 t.2 t.2.length N 0 (by omega) (by omega)))) (bI _ (aS v λ_=>bI _ (ag _) (AM (agd N 2 t.2 t.2.length N 0 (by omega) (by omega)))) (ag _)))))))
def agh(N:Nat)(w:Int)(r:Nat)(u:r<=1114111)(s:Bs)(p:Int):∀(k n:Nat)(acc:Bs),k<n->k<=8->acc.length+k<=900000000->OW (jJ N n (w,(r:Int),(k:Int)-1,acc,s,p)) λy=>∃l,y=(w,l,s,p)/\l.length=acc.length+k:=by
 intro k;induction k with
 |zero=>
  intro n acc o j i;obtain⟨n,rfl⟩:∃m,n=m+1:=⟨n-1,by omega⟩;exact aa ⟨acc,rfl,rfl⟩
 |succ k t=>
  intro n acc o j i;obtain⟨n,rfl⟩:∃m,n=m+1:=⟨n-1,by omega⟩;have e:((k+1:Nat):Int)-1=(k:Int):=by omega
  have f:lm .i64 8 (k:Int)=((8*k:Nat):Int):=by
   show IntKind.i64.wrap _=_;rw[aij _ (by omega)];omega
  rw[e];show OW (bif decide ((k:Int)>=0) then(bif decide (0<=lm .i64 8 (k:Int)) then(toB (IntKind.wrap .u8 (wj .i32 (r:Int) (lm .i64 8 (k:Int))))).bind (λa=>(app 1 acc [a]).bind λd=>jJ N n (w,(r:Int),aU .i64 (k:Int) 1,d,s,p)) else none) else some (w,acc,s,p)) _;rw[ahO (by omega:(k:Int)>=0),ahY,f,ahO (by omega:(0:Int)<=((8*k:Nat):Int)),ahY];have c:∃b,toB (IntKind.wrap .u8 (wj .i32 (r:Int) ((8*k:Nat):Int)))=some b:=by
   refine⟨UInt8.ofNat (IntKind.wrap .u8 (wj .i32 (r:Int) ((8*k:Nat):Int))).toNat,?_⟩;unfold toB;have:=IntKind.wrap_u8 (wj .i32 (r:Int) ((8*k:Nat):Int));rw[ah2 ⟨by omega,by omega⟩]
  obtain⟨b,c⟩:=c;rw[c,ahI,gK (by omega) (by simp only[ahP,ah9];omega),ahI,show aU .i64 (k:Int) 1=(k:Int)-1 from qr (by omega)];obtain⟨y,q,l,g,h⟩:=t n (acc++[b]) (by omega) (by omega) (by simp;omega);exact⟨y,q,l,g,by rw[h];simp;omega⟩
def agi{N:Nat}(j:FN N)(w:Nat)(F:w<=4)(s:Bs)(E:s.length<=100000000):∀(k n i:Nat)(acc:Bs),s.length-i<=k->k<n->acc.length<=4*i->i<=200000000->acc.length<=4*s.length->OW (eG N n ((w:Int),acc,s,(i:Int))) λl=>l.length<=4*s.length:=by
 unfold FN at j;intro k;induction k with
 |zero=>
  intro n i acc p q o _ b;obtain⟨n,rfl⟩:∃m,n=m+1:=⟨n-1,by omega⟩;show OW (bif decide ((i:Int)<(s.length:Int)) then _ else some acc) _;rw[ahL (by omega)];exact aa b
 |succ k x=>
  intro n i acc p q o C b;obtain⟨n,rfl⟩:∃m,n=m+1:=⟨n-1,by omega⟩;show OW (bif decide ((i:Int)<(s.length:Int)) then(bif decide (0<=(i:Int)) then(jJ N N ((w:Int),(kS s (i:Int)).1,aU .i64 (w:Int) 1,acc,s,(i:Int)+(kS s (i:Int)).2)).bind (λ(v,z,A,g)=>eG N n (v,z,A,g)) else none) else some acc) _;refine az (λc=> ?_) λ_=>aa b;have B:(i:Int)<(s.length:Int):=ail c;obtain⟨r,a,d,t,u⟩:=zg s i;rw[ahO (by omega:(0:Int)<=(i:Int)),ahY,d,qr (by omega)];refine aj (agh N (w:Int) r t s _ w N acc (by omega) (by omega) (by omega)) ?_;rintro y ⟨l,rfl,D⟩;have e:((i:Int)+(a:Int))=((i+a:Nat):Int):=by omega
  dsimp only;rw[e];rcases ah0 200000000 (i+a) with h|f
  ·obtain⟨n,rfl⟩:∃m,n=m+1:=⟨n-1,by omega⟩;show OW (bif decide (((i+a:Nat):Int)<(s.length:Int)) then _ else some l) _;rw[ahL (by omega)];exact aa (show l.length<=4*s.length by omega)
  ·exact x n (i+a) l (by omega) (by omega) (by omega) f (by omega)
def abv{N:Nat}(b:FN N)(t:Int×Bs)(h:t.2.length<10000000):OW (bZ N t) λr=>r.1.length<=4*t.2.length:=by
 have d:=b;unfold FN at d;have a:∀w:Nat,w<=4->OW ((eG N N ((w:Int),[],t.2,0)).bind λl=>some (l,(0:Int))) λr=>r.1.length<=4*t.2.length:=λw g=>
  aj (agi b w g t.2 (by omega) t.2.length N 0 [] (by omega) (by omega) (by simp) (by omega) (by simp)) λl f=>aa f
 have e:OW ((FA t.2).bind λs=>some (s,(0:Int))) λr=>r.1.length<=4*t.2.length:=by
  have:FA t.2=some t.2:=by
   unfold FA cH;rw[ah2 (by omega)]
  rw[this];exact aa (show t.2.length<=_ by omega)
 unfold bZ;refine aj (H6 b t (by omega)) λc _=>az (λ_=>aa (by simp)) λ_=> ?_;refine az (λ_=>e) λ_=>az (λ_=>a 1 (by omega)) λ_=>az (λ_=>a 1 (by omega)) λ_=>az (λ_=>a 1 (by omega)) λ_=>az (λ_=>a 1 (by omega)) λ_=>az (λ_=>a 4 (by omega)) λ_=>az (λ_=>a 2 (by omega)) λ_=>e
def aaz(r:Int):(Lib.encodeRune r).length<=4:=by
 unfold Lib.encodeRune Lib.encodeRuneZ;rw[aiy];split
 ·simp
 ·split
  ·simp
  ·split
   ·simp
   ·split<;>simp
def Mn{α:Type}(f:α->Bs)(h:∀x,(f x).length<=4):∀l:List α,(l.flatMap f).length<=4*l.length
 |[]=>by simp
 |a::r=>by
  have b:=h a;have c:=Mn f h r;simp only[akZ,ahN,ahP];omega
def X3(c:Bs)(wd m:Nat):(uN c wd m).length<=4*m:=by
 unfold uN;have:=Mn (λx:Fin m=>Lib.encodeRune (unitAt c wd x.val)) (λx=>aaz _) (List.finRange m);simpa using this
def X4{α b:Type}{x:Option α}{f:α->b}{Q:b->Prop}(h:OW x λa=>Q (f a)):OW (x.map f) Q:=by
 obtain⟨a,rfl,c⟩:=h;exact⟨_,rfl,c⟩
def aeU{N:Nat}(a:FN N)(i wd:Nat)(k:Int)(c:Bs)(f:c.length<9000000):OW (Cn N i wd k c) λr=>r.1.2.length<=4*c.length:=by
 unfold Cn;refine az (λ_=>az (λ_=> ?_) λ_=>aa (by simp)) λ_=>aa (by simp);have d:=X3 c wd (c.length / wd);have e:c.length / wd<=c.length:=Nat.div_le_self _ _;refine X4 (IE (H6 a (k,uN c wd (c.length / wd)) (show(uN c wd (c.length / wd)).length<_ by omega)) λb _=> ?_);cases b
 ·simp
 ·show(uN c wd (c.length / wd)).length<=_;omega
def abw{N:Nat}(a:FN N)(k:Int)(c:Bs)(d:c.length<9000000):OW (bE N k c) λr=>r.1.2.length<=4*c.length:=by
 rw[vK];unfold VK;rw[show Nat.ble c.length 35184372088831=true from aiH (by omega),ahY];split
 ·refine X4 (IE (H6 a (k,c) (show c.length<_ by omega)) λb _=> ?_);cases b
  ·simp
  ·show c.length<=_;omega
 ·repeat' first|exact aeU a _ _ k c d|exact aa (by simp)|split
end Go.Fw
namespace Go.Fw
open Go
def aaA{N:Nat}(b:FN N)(a:Bs)(j:a.length<9000000):OW (eZ N a) λr=>r.1.2.length<=4*a.length:=by
 unfold eZ syv;refine aj (IH b a (by omega)) ?_;rintro⟨v,e,o⟩ (⟨d,t,c,f,g⟩|⟨c,_⟩)
 ·cases d;dsimp only;refine az (λ_=>aa (by simp)) λ_=>az (λ_=>aa (by simp)) λ_=>az (λ_=>aa (by simp)) λ_=> ?_;have h:=iE t;have i:a.length=(ai t).length:=by rw[f]
  rw[g.body,ahI];exact aj (abw b v.2.1 t.2.2.2 (by omega)) λr k=>aa (by dsimp only;omega)
 ·dsimp only;rw[qE c];exact aa (by simp)
def JB{N:Nat}(b:FN N)(a:Bs)(d:a.length<9000000):OW (dQ N a) λr=>r.1.2.length<=4*a.length:=by
 unfold dQ syv;refine aj (aaA b a d) λr e=> ?_;refine az (λ_=>aa (by simp)) λ_=>az (λ_=>aa (by simp)) λ_=> ?_;refine aj (R:=λ_=>True) ?_ λc _=>az (λ_=>aa (by simp)) λ_=>aa e;unfold dP syv;exact az (λ_=>aa trivial) λ_=>aa trivial
def aaB(c:Nat)(f:c<4)(k:Bool)(num:Int):OW (bP (c:Int) k num) λr=>r.2=0->∃n:Nat,n<31/\num=(n:Int):=by
 unfold bP syv;rw[ahL (by omega:¬(c:Int)<0),ahL (by omega:¬(c:Int)>3),ahQ,ahQ];refine az (λ_=>aa (λh=>by simp at h)) λc1=>az (λ_=>aa (λh=>by simp at h)) λb=> ?_;have d:¬num<0:=ai9 c1;have e:¬num>=31:=ai9 b;obtain⟨n,rfl⟩:∃n:Nat,num=(n:Int):=⟨num.toNat,by omega⟩;have a:=N8 (c:=c) (num:=n) k f (by omega);unfold bP syv at a;rw[ahL (by omega:¬(c:Int)<0),ahL (by omega:¬(c:Int)>3),ahL d,ahL e]at a;simp only[ahQ]at a;exact IF a λ_=>⟨n,by omega,rfl⟩
def AN{N:Nat}(g:FN N)(c:Nat)(i:c<4)(k:Bool)(num:Int)(b:Bs)(m:b.length<1000000000)(f:Int)(d:f=(c:Int)):OW (aD N f k num [b]) λr=>r.1.length<=b.length+6:=by
 subst d;have a:=g;unfold FN at a;by_cases j:∃n:Nat,n<31/\num=(n:Int)
 ·obtain⟨n,l,rfl⟩:=j;exact IF (mR g c n k b _ _ rfl rfl i l (by omega)) (iA (b:=b) (by omega))
 ·unfold aD syv;rw[uz N [b] (by simp;omega) a.2 (by simp;omega),ahI];refine aj (R:=λr=>r.1.length<=b.length+6) ?_ λr e=>aa e;unfold eW syv;refine aj (aaB c i k num) λr e=> ?_;refine az (λ_=>aa (by simp)) λh=> ?_;exact absurd (e (by simpa using h)) j
def R3{N:Nat}(a:FN N)(t:Int×Bs)(h:t.2.length<10000000):OW (ec N t) λr=>r.1.length<=4*t.2.length+6:=by
 unfold ec syv;refine aj (abv a t h) λr c=>az (λ_=>aa (by simp)) λ_=> ?_;exact aj (AN a 0 (by omega) false t.1 r.1 (by omega) 0 rfl) λq b=>aa (by first|omega|(dsimp only;omega))
def T5{N:Nat}(s:FN N)(c:Bs)(C:c.length<9000000):OW (ge N c) λl=>l=[]∨∃a,(∀t∈a,okT t)/\c=au a/\l=a.map ai:=by
 have h:=s;unfold FN at h;unfold ge syv;obtain⟨l,e,o,p,_⟩:=J9 N c (by omega) 0 c.length (by omega) (ahS _) (by omega);rw[show br N c 0 (c.length:Int)=_ from p,ahI];dsimp only;by_cases q:e=0
 ·subst q;obtain⟨a,B,d,rfl⟩:=Kb N (by omega) c 0 c.length (by omega) (ahS _) (by omega) l o p;rw[ajb,aiz]at d;have f:=IG a [] [];rw[aiw,ah6,<-d,ah9]at f;have r:=f.length;have x:=jb a;have u:c.length=(au a).length:=by rw[<-d]
  rw[show((0:Int) !=0)=false from rfl,ahQ];have j:∀(k n i:Nat),(jq 0 a).length-i=k->k<n->i<=(jq 0 a).length->eD N n (c,jq 0 a,((jq 0 a).length:Int),(i:Int),(a.take i).map ai)=some (a.map ai):=by
   intro k;induction k with
   |zero=>
    intro n i w y v;obtain⟨n,rfl⟩:∃m,n=m+1:=⟨n-1,by omega⟩;show(bif decide ((i:Int)<((jq 0 a).length:Int)) then _ else _)=_;rw[ahL (by omega),ahQ,aih (by omega)]
   |succ k A=>
    intro n i w y v;obtain⟨n,rfl⟩:∃m,n=m+1:=⟨n-1,by omega⟩;have b:i<(jq 0 a).length:=by omega
    obtain⟨t,z,g⟩:=f.get (ahK b);show(bif decide ((i:Int)<((jq 0 a).length:Int)) then _ else _)=_;rw[ahO (by omega),ahY,de (ahK b),ahI,g.whole,ahI,gK (by omega) (by simp;omega),ahI,dD (by omega)];have:=A n (i+1) (by omega) (by omega) (by omega);rw[aiQ,z,aiR]at this;exact this
  rw[show eD N N (c,jq 0 a,((jq 0 a).length:Int),0,[])=_ from j _ N 0 rfl (by omega) (by omega)];exact aa (.inr ⟨a,B,d.symm▸rfl,rfl⟩)
 ·rw[qE q];exact aa (.inl rfl)
def NG{N:Nat}(d:FN N)(a:Bs)(k:a.length<9000000)(n:Int):OW (gg N a n) λr=>r.1.length<=a.length:=by
 unfold gg syv;refine aj (IH d a (by omega)) ?_;rintro⟨v,e,o⟩ (⟨f,t,b,g,h⟩|⟨b,_⟩)
 ·cases f;dsimp only;have i:=iE t;have j:a.length=(ai t).length:=by rw[g]
  refine aj (uQ _ _ _ _) λc _=>az (λ_=>aa (by simp)) λ_=> ?_;rw[h.body,ahI];exact aa (by dsimp only;omega)
 ·dsimp only;rw[qE b];exact aa (by simp)
abbrev jn:=Int×Bs×Bs×Bs×List Rdn×(Int×Bs)×Int×Bs
def GB(N B:Nat)(g:jn):Prop:=(g.2.1=[]∨jY g.2.1=true/\(je g.2.1).length<=B)/\g.2.2.1.length<=4*B/\g.2.2.2.1.length<=B/\oO N g.2.2.2.2.1=true/\(qQ g.2.2.2.2.1).length<=B+2/\g.2.2.2.2.2.1.2.length<=4*B/\g.2.2.2.2.2.2.2.length<=4*B
def AO(N:Nat):oO N []=true/\(qQ []).length=2:=⟨rfl,by decide⟩
def acW{N:Nat}(b:FN N)(k:Int)(c:Bs)(z:c.length<9000000):OW (dJ N (k,c)) λr=>r.1.2.2.2.1.length<=c.length/\(r.2=true->GB N c.length r.1):=by
 unfold dJ syv;refine aj (T5 b c z) λl B=> ?_;have a:OW (some (((0:Int),([]:Bs),([]:Bs),([]:Bs),([]:List Rdn),((0:Int),([]:Bs)),(0:Int),([]:Bs)),false):Option (jn×Bool)) (λr=>r.1.2.2.2.1.length<=c.length/\(r.2=true->GB N c.length r.1)):=aa ⟨by simp,λh=>by cases h⟩;refine az (λ_=>a) λc1=> ?_;rcases B with rfl|⟨H,g,f,rfl⟩
 ·cases c1
 match H,g,f,c1 with
 |[],_,_,c1=>cases c1
 |[_],_,_,c1=>cases c1
 |_::_::_::_,_,_,c1=>exact absurd c1 (by simp only[ahX,ahP,bne_eq_false_iff_eq];omega)
 |[t,u],g,f,_=>
  have i:c.length=(ai t).length+(ai u).length:=by rw[f,PB,ahN]
  rw[ahX,ix0,ahI];refine aj (IH b (ai t) (by omega)) ?_;rintro⟨v,e,o⟩ (⟨E,S,j,Q,F⟩|⟨j,_⟩)
  ·cases E;dsimp only;rw[show((0:Int) !=0)=false from rfl,ahQ];refine aj (uQ _ _ _ _) λc _=>az (λ_=>a) λ_=> ?_;obtain⟨p,q,r,I,n,J,K,L,M,b7⟩:=F.bd;rw[ahI];have x:v.2.2.2.2.1=(q:Int):=n;have m:0<=v.2.2.2.2.1/\v.2.2.2.2.1<=((ai t).length:Int):=⟨by omega,by omega⟩;refine aj (BO m.1 m.2 (Int.le_refl _)) λs C=> ?_;have D:s.length<=(ai t).length:=by rw[C,aiF,aig];omega
   refine aj (xA b s (by omega)) λd A=> ?_;rw[show ix (ai t::List.map ai [u]) 1=some (ai u) from rfl,ahI];refine aj (NG b (ai u) (by omega) 0) λw P=> ?_;rw[nu (by omega),ahI];refine az (λ_=>aa ⟨by dsimp only;omega,λh=> ?_⟩) λ_=>aa ⟨by dsimp only;omega,λh=>by cases h⟩;obtain⟨G,R⟩:=AO N;rcases A with⟨O,d2,y⟩|rfl
   ·exact⟨.inr ⟨d2,by rw[y];omega⟩,by simp,by dsimp only;omega,G,by dsimp only;omega,by simp,by simp⟩
   ·cases h
  ·dsimp only;rw[qE j];exact a
def R4{N:Nat}(a:FN N)(k:Int)(c:Bs)(b:c.length<9000000):OW (dX N (k,c)) λr=>r.1.2.2.2.1.length<=c.length/\(r.2=true->GB N c.length r.1):=by
 unfold dX syv;obtain⟨e,f⟩:=AO N;exact aj (abw a 22 c b) λr d=>aa ⟨by simp,λ_=>⟨.inl rfl,d,by simp,e,by dsimp only;omega,by simp,by simp⟩⟩
def T6{N:Nat}(k:Int)(c:Bs)(b:c.length<9000000):OW (dK (k,c)) λr=>r.1.2.2.2.1.length<=c.length/\(r.2=true->GB N c.length r.1):=by
 unfold dK syv;obtain⟨a,d⟩:=AO N;rw[nu (by dsimp only;omega),ahI];exact aa ⟨ahS _,λ_=>⟨.inl rfl,by simp,ahS _,a,by dsimp only;omega,by simp,by simp⟩⟩
def agj{N:Nat}(e:FN N)(k:Int)(c:Bs)(f:c.length<9000000):OW (cS N (k,c)) λr=>r.1.2.2.2.1.length<=c.length/\(r.2=true->GB N c.length r.1):=by
 unfold cS syv;refine aj (acH e c f) λr g=>aa ⟨by simp,λh=> ?_⟩;rcases g with⟨_,b,d⟩|⟨a,_⟩
 ·exact⟨.inl rfl,by simp,by simp,b,by rw[d];omega,by simp,by simp⟩
 ·exact absurd (by simpa using h) a
def agk{N:Nat}(d:FN N)(k:Int)(c:Bs)(g:c.length<9000000):OW (dR N (k,c)) λr=>r.1.2.2.2.1.length<=c.length/\(r.2=true->GB N c.length r.1):=by
 unfold dR syv;obtain⟨f,i⟩:=AO N;refine aj (xA d c (by omega)) λr e=>aa ⟨by simp,λh=> ?_⟩;rcases e with⟨_,a,b⟩|rfl
 ·exact⟨.inr ⟨a,by rw[b];exact ahS _⟩,by simp,by simp,f,by dsimp only;omega,by simp,by simp⟩
 ·cases h
def acX{N:Nat}(b:FN N)(k:Int)(c:Bs)(z:c.length<9000000):OW (em N (k,c)) λr=>r.1.2.2.2.1.length<=c.length/\(r.2=true->GB N c.length r.1):=by
 obtain⟨E,G⟩:=AO N;unfold em syv;refine aj (T5 b c z) λl A=> ?_;have a:∀x∈l,x.length<=c.length:=by
  rcases A with rfl|⟨F,_,j,rfl⟩
  ·simp
  ·intro x f;obtain⟨t,D,rfl⟩:=aiG.1 f;rw[j];exact ko F t D
 refine aj (R:=λy=>y=Sum.inr ()∨∃g i s,y=Sum.inl (g,k,i,s)/\(∀x∈g,x.length<=c.length)/\s.length<=4*c.length) ?_ ?_
 ·refine az (λu=> ?_) λ_=>aa (.inr ⟨_,_,_,rfl,a,by simp⟩);have v:((l.length:Nat):Int)=2:=by simpa using u
  refine aj (xL (by omega) (by omega)) λe o=> ?_;have:=a e o.2;refine aj (NG b e (by omega) 0) λr B=> ?_;refine aj (JB b r.1 (by omega)) λd m=> ?_;refine az (λ_=>aa (.inl rfl)) λ_=>az (λ_=>aa (.inl rfl)) λ_=> ?_;refine aj (BO (by omega) (by omega) (Int.le_refl _)) λs C=>aa (.inr ⟨_,_,_,rfl,λx f=> ?_,ai4 m (by omega)⟩);rw[C]at f;exact a x (ale (List.mem_of_mem_drop f))
 ·rintro y (rfl|⟨g,i,s,rfl,w,j⟩)
  ·exact aa ⟨by simp,λh=>by cases h⟩
  ·dsimp only;refine az (λ_=>aa ⟨by simp,λh=>by cases h⟩) λc1=> ?_;have q:((g.length:Nat):Int)=1:=by simpa using c1
   refine aj (xL (by omega) (by omega)) λe o=> ?_;have:=w e o.2;refine aj (NG b e (by omega) 1) λr B=> ?_;refine aj (JB b r.1 (by omega)) λd m=> ?_;have n:d.1.2.length<=4*c.length:=ai4 m (by omega);have p:GB N c.length (k,[],[],[],[],(i,s),d.1):=⟨.inl rfl,by simp,by simp,E,by dsimp only;omega,j,n⟩;exact az (λ_=>aa ⟨by simp,λ_=>p⟩) λ_=>aa ⟨by simp,λ_=>p⟩
def R5{N:Nat}(a:FN N)(b:Bs)(c:b.length<10000000):SM (gy N b):=by
 unfold gy syv;exact aS (Py (V4 a b c)) λ_=>ag _
def Fr{N:Nat}(a:FN N)(k:Int)(b:Bs)(c:b.length<1000000000):OW (ey N k b) λr=>r.1.length<=b.length+6:=by
 unfold ey syv;exact aj (AN a 2 (by omega) true k b c 2 rfl) λr d=>aa d
def T7{N:Nat}(a:FN N)(g:jn)(h:g.2.2.2.1.length<9000000):SM (fu N g):=by
 unfold fu syv;refine bI _ (aS (R5 a _ (by omega)) λ_=>ag _) (bI _ ?_ (bI _ (bI _ (ag _) (bI _ (ag _) (bI _ (ag _) (ag _)))) (ag _)));exact zf (Fr a _ _ (by omega)) λr b=>bI _ (aS (R5 a _ (by omega)) λ_=>ag _) (ag _)
def OE(k:Int):SM (cK k):=by
 unfold cK syv;refine aS (bI _ (ag _) (aS (bI _ (ag _) (aS (bI _ (ag _) (ag _)) λ_=>ag _)) λ_=>ag _)) λ_=>bI _ (ag _) (ag _)
def zG:jn:=(0,[],[],[],[],(0,[]),0,[])
def agl{N:Nat}(g:FN N)(B:Nat)(c:Bs)(q:c.length<9000000)(o:c.length<=B)(x:Option (jn×Bool))(p:Int)(h:OW x λr=>r.1.2.2.2.1.length<=c.length/\(r.2=true->GB N c.length r.1)):
 OW (x.bind λ(a,b)=>bif (!b) then some (zG,(6:Int),p) else(fu N a).bind λd=>bif (!d) then some (zG,6,p) else some (a,0,0)) λr=>r.2.1=0->GB N B r.1:=by
 refine aj h λr i=> ?_;refine az (λ_=>aa (λh=>by cases h)) λc1=> ?_;refine aj (T7 g r.1 (by omega)) λc _=>az (λ_=>aa (λh=>by cases h)) λ_=>aa λ_=> ?_;obtain⟨e,j,k,f,l,m,n⟩:=i.2 (by simpa using c1);refine⟨e.imp id λh=>⟨h.1,?_⟩,?_,?_,f,?_,?_,?_⟩<;>dsimp only<;>omega
def aaC{N:Nat}(d:FN N)(a:Bs)(y:a.length<9000000):OW (eI N a) λr=>r.2.1=0->GB N a.length r.1:=by
 unfold eI syv;refine aj (IH d a (by omega)) ?_;rintro⟨v,e,o⟩ (⟨p,t,g,q,s⟩|⟨g,_⟩)
 ·cases p;have u:=iE t;have w:a.length=(ai t).length:=by rw[q]
  dsimp only;rw[show((0:Int) !=0)=false from rfl,ahQ,s.body];have f:OW (some (zG,(3:Int),(0:Int)):Option (jn×Int×Int)) λr=>r.2.1=0->GB N a.length r.1:=aa λh=>by cases h
  have b:∀(i:Bool)(x:Option (jn×Bool)),OW x (λr=>r.1.2.2.2.1.length<=t.2.2.2.length/\(r.2=true->GB N t.2.2.2.length r.1))->OW (bif i then some (zG,(3:Int),(0:Int)) else(cK v.2.1).bind λk=>bif (!(v.2.2.1==k)) then some (zG,3,0) else(some t.2.2.2).bind λz=>x.bind λ(j,l)=>bif (!l) then some (zG,(6:Int),v.2.2.2.2.1) else(fu N j).bind λm=>bif (!m) then some (zG,6,v.2.2.2.2.1) else some (j,0,0)) (λr=>r.2.1=0->GB N a.length r.1):=by
   intro i x n;refine az (λ_=>f) λ_=>aj (OE _) λc _=>az (λ_=>f) λ_=> ?_;rw[ahI];exact agl d a.length t.2.2.2 (by omega) (by omega) x _ n
  refine az (λ_=>b _ _ (acW d _ _ (by omega))) λ_=> ?_;refine az (λ_=>b _ _ (R4 d _ _ (by omega))) λ_=> ?_;refine az (λ_=>b _ _ (R4 d _ _ (by omega))) λ_=> ?_;refine az (λ_=>b _ _ (T6 _ _ (by omega))) λ_=> ?_;refine az (λ_=>b _ _ (agj d _ _ (by omega))) λ_=> ?_;refine az (λ_=>b _ _ (acX d _ _ (by omega))) λ_=> ?_;refine az (λ_=>b _ _ (R4 d _ _ (by omega))) λ_=> ?_;refine az (λ_=>b _ _ (T6 _ _ (by omega))) λ_=> ?_;refine az (λ_=>b _ _ (agk d _ _ (by omega))) λ_=> ?_;exact f
 ·dsimp only;rw[qE g];exact aa λh=>absurd h g
end Go.Fw
def alD:=@List.sum_append
namespace Go.Fw
open Go
def R6{σ e:Type}{Q:e->Prop}(F:Nat->Nat->σ->Option e)(L:Nat)(I:Nat->σ->Prop)
 (a:∀n s,I L s->OW (F (n+1) L s) Q)
 (step:∀n i s,i<L->I i s->(∀b,I (i+1) b->OW (F n (i+1) b) Q)->OW (F (n+1) i s) Q):∀n i s,i<=L->L-i<n->I i s->OW (F n i s) Q:=by
 intro n;induction n with
 |zero=>intro i s _ h;omega
 |succ n f=>
  intro i s g j d;by_cases h:i=L
  ·subst h;exact a n s d
  ·exact step n i s (by omega) d λb c=>f (i+1) b (by omega) (by omega) c
def eT.snoc{α c:Type}{R:α->c->Prop}{xs:List α}{d:List c}{a:α}{b:c}(h:eT R xs d)(r:R a b):eT R (xs++[a]) (d++[b]):=by
 induction h with
 |nil=>exact .cons r .nil
 |cons e _ f=>exact .cons e f
def eT.get1{α e:Type}{R:α->e->Prop}{xs:List α}{c:List e}(h:eT R xs c){i:Nat}(d:i<c.length):∃a b,xs[i]?=some a/\c[i]?=some b/\R a b:=by
 obtain⟨a,f,g⟩:=h.get (ahK d);exact⟨a,_,f,ahK d,g⟩
def mB(a:List TLV):List Nat:=a.map λt=>(ai t).length
def AP:∀a:List TLV,(mB a).sum=(au a).length
 |[]=>rfl
 |t::a=>by
  have:=AP a;unfold mB au at*;simp only[ahX,ajd,aif,ahN];omega
def Fs(c:List TLV):∀b∈mB c,2<=b:=by
 intro b a;obtain⟨t,_,rfl⟩:=aiG.1 a;have:=wm t;have:(aV t.2.2.2.length).length≠0:=by
  have:=Il t.2.2.2.length;unfold aV;split
  ·omega
  ·simp
 omega
def OF(a:List TLV)(i:Nat)(t:TLV)(h:a[i]?=some t):mB (a.take (i+1))=mB (a.take i)++[(ai t).length]:=by
 unfold mB;rw[aiQ,h,aiR];rfl
def GL(N B:Nat)(c:List jn):Prop:=∃a:List Nat,eT (GB N) a c/\a.sum<=B/\∀b∈a,2<=b
def IL:∀a:List Nat,(∀b∈a,2<=b)->2*a.length<=a.sum
 |[],_=>by simp
 |b::a,h=>by
  have d:=h b (by simp);have e:=IL a λx c=>h x (by simp[c]);simp only[ahP,ajd];omega
def Ft:∀(bs:List Nat)(i:Nat),(bs.take i).sum<=bs.sum
 |[],i=>by simp
 |b::bs,0=>by simp
 |b::bs,i+1=>by
  have:=Ft bs i;simp only[ajE,ajd];omega
variable{Z:List jn}
def GL.len{N B:Nat}(h:GL N B Z):2*Z.length<=B:=by
 obtain⟨a,b,d,c⟩:=h;have:=IL a c;have:=b.length;omega
def GL.mono{N B C:Nat}(h:GL N B Z)(e:B<=C):GL N C Z:=by
 obtain⟨a,b,d,c⟩:=h;exact⟨a,b,by omega,c⟩
def GL.nil(N B:Nat):GL N B []:=⟨[],.nil,by simp,by simp⟩
def R7{N:Nat}(k:FN N)(a:Bs)(E:a.length<9000000):OW (bL N a) λr=>r.2.1=0->GL N a.length r.1:=by
 have m:=k;unfold FN at m;unfold bL syv;refine aj (tk k a (by omega) 0 16) ?_;rintro⟨l,e,o⟩ (⟨C,b,u,_,_,D,p⟩|⟨u,_⟩)
 ·cases C;have G:(au b).length<a.length:=by rw[D];exact kH
  have c:=p.length;have z:=jb b;dsimp only at p c⊢;rw[show((0:Int) !=0)=false from rfl,ahQ];refine az (λ_=>aa λ_=>GL.nil _ _) λ_=> ?_;have v:=R6 (Q:=λy:(Int×Int)⊕List jn=>∀g,y=.inr g->eT (GB N) (mB b) g) (λn i s=>dZ N n (a,l,(l.length:Int),(i:Int),s)) l.length (λi s=>i<=l.length/\eT (GB N) (mB (b.take i)) s)
   (λn s f=>by
     show OW (bif decide ((l.length:Int)<(l.length:Int)) then _ else some _) _;rw[ahL (by omega)];refine aa λg h=> ?_;cases h;have:=f.2;rwa[aih (by omega)]at this)
   (λn i s q f rec=>by
     have d:=f.2.length;unfold mB at d;rw[aiy,aig]at d;show OW (bif decide ((i:Int)<(l.length:Int)) then _ else some _) _;obtain⟨t,e,w,B,x⟩:=p.get1 q;have F:=ko b t (aik w);rw[ahO (by omega),ahY,de B,ahI,x.whole,ahI];refine aj (aaC k (ai t) (by omega)) λr A=>az (λ_=>aa λg h=>by cases h) λc1=> ?_;rw[gK (by omega) (by simp;omega),ahI,dD (by omega)];refine rec _ ⟨by omega,?_⟩;rw[OF b i t w];exact f.2.snoc (A (by simpa using c1)))
   N 0 [] (by omega) (by omega) ⟨by omega,.nil⟩
  refine aj v ?_;rintro(⟨i,j⟩|g) h
  ·refine aa λh=> ?_;exact GL.nil _ _
  ·exact aa λ_=>⟨mB b,h g rfl,by rw[AP];omega,Fs b⟩
 ·dsimp only;rw[qE u];exact aa λh=>absurd h u
def aaD(g:jn):SM (Ln g):=Go.Proofs.Tryz.alone_sm0 g
def aeV{N:Nat}(j:FN N)(x y:Int×Bs)(B:Nat)(F:x.2.length<=4*B)(G:y.2.length<=4*B)(H:B<=200000)(c:List (Int×Bs))(m:c=[x,y])(L:Int)(I:L=(2:Nat)):OW (dT N N (c,L,0,[])) λr=>∀l,r=.inr l->l.length<=32*B+24:=by
 have k:=j;unfold FN at k;have p:=R6 (Q:=λy:Int⊕Bs=>∀g,y=.inr g->g.length<=32*B+24) (λn i s=>dT N n (c,L,(i:Int),s)) 2 (λi s=>s.length<=i*(16*B+12))
  (λn s z=>by
    show OW (bif decide (((2:Nat):Int)<L) then _ else some (Sum.inr s)) _;rw[ahL (by omega)];refine aa λg h=> ?_;cases h;omega)
  (λn i s D z rec=>by
    show OW (bif decide ((i:Int)<L) then _ else some (Sum.inr s)) _;rw[ahO (by omega),ahY];have J:i*(16*B+12)<=2*(16*B+12):=aiK _ (by omega);have E:(i+1)*(16*B+12)=i*(16*B+12)+(16*B+12):=aj1 _ _;obtain⟨e,A,C⟩:∃e,c[i]?=some e/\e.2.length<=4*B:=by
     subst m;rcases (by omega:i=0∨i=1) with rfl|rfl
     ·exact⟨x,rfl,F⟩
     ·exact⟨y,rfl,G⟩
    have w:∀b:Bs,b.length<=(i+1)*(16*B+12)->OW (dT N n (c,L,aw .i64 (i:Int) 1,b)) λy:Int⊕Bs=>∀g,y=.inr g->g.length<=32*B+24:=λb h=>by
     rw[dD (by omega)];exact rec b h
    rw[de A,ahI];have a:∀b o,o=(i:Int)->b=s->OW ((ec N e).bind λx=>match x with
     |(t,d)=>bif d !=0 then some (Sum.inl d) else(ey N o t).bind λx=>match x with
      |(u,f)=>bif f !=0 then some (Sum.inl f) else(app 1 b u).bind λv=>dT N n (c,L,aw .i64 o 1,v)) λy:Int⊕Bs=>∀g,y=.inr g->g.length<=32*B+24:=by
     rintro _ _ rfl rfl;refine aj (R3 j e (by omega)) λr M=>az (λ_=>aa λg h=>by cases h) λ_=> ?_;refine aj (Fr j i r.1 (by omega)) λq K=>az (λ_=>aa λg h=>by cases h) λ_=> ?_;rw[gK (by omega) (by omega),ahI];refine w _ ?_;rw[ahN];omega
    exact az (λ_=>az (λ_=>w s (by omega)) λ_=>a s i rfl rfl) λ_=>a s i rfl rfl)
  N 0 [] (by omega) (by omega) (by simp)
 exact p
def acY{N:Nat}(a:FN N)(g:jn)(B:Nat)(h:GB N B g)(u:B<=200000):OW (gz N g) λr=>r.1.length<=36*B+40:=by
 have d:=a;unfold FN at d;obtain⟨m,v,w,j,n,o,s⟩:=h;have b:OW (dI N g.2.1) λr=>r.1.length<=B+6:=by
  rcases m with h|⟨k,t⟩
  ·rw[h];refine IF (DG a [] (by simp)) ?_;have:=sB [];cases jY []
   ·simp
   ·exact ai4 this (by simp)
  ·have:=IQ k;refine IF (DG a _ (by omega)) ?_;rw[k];exact ai4 t (by omega)
 unfold gz syv;refine az (λ_=> ?_) λ_=> ?_
 ·refine aj b λr f=>az (λ_=>aa (by simp)) λ_=> ?_;refine aj (AN a 0 (by omega) false 6 r.1 (by omega) 0 rfl) λq z=>az (λ_=>aa (by simp)) λ_=> ?_;refine aj (Fr a 0 _ (by omega)) λp x=> ?_;have e:([q.1,p.1]:List Bs).flatten.length=q.1.length+p.1.length:=by simp
  try dsimp only
  rw[uz N _ (by simp;omega) d.2 (by rw[e];omega),ahI];refine aa ?_;dsimp only;rw[e];omega
 ·refine aj (R:=λy=>∃c,y=(g.1,c,g.1,g.2.1,g.2.2.1,g.2.2.2.1,g.2.2.2.2.1,g.2.2.2.2.2.1.1,g.2.2.2.2.2.1.2,g.2.2.2.2.2.2)) ?_ ?_
  ·refine az (λ_=>aa ⟨_,rfl⟩) λ_=> ?_;refine aj (R:=λy=>∃c,y=(g.1,c,g.1,g.2.1,g.2.2.1,g.2.2.2.1,g.2.2.2.2.1,g.2.2.2.2.2.1.1,g.2.2.2.2.2.1.2,g.2.2.2.2.2.2)) ?_ ?_
   ·exact az (λ_=>aa ⟨_,rfl⟩) λ_=>aa ⟨_,rfl⟩
   ·rintro _ ⟨c,rfl⟩;exact aa ⟨_,rfl⟩
  ·rintro _ ⟨c,rfl⟩;dsimp only;refine az (λ_=> ?_) λ_=> ?_
   ·exact aj (abv a (22,g.2.2.1) (by dsimp only;omega)) λr f=>aa (by dsimp only at f⊢;omega)
   ·refine aj (R:=λy=>∃c,y=(g.1,c,g.1,g.2.1,g.2.2.1,g.2.2.2.1,g.2.2.2.2.1,g.2.2.2.2.2.1.1,g.2.2.2.2.2.1.2,g.2.2.2.2.2.2)) ?_ ?_
    ·exact az (λ_=>aa ⟨_,rfl⟩) λ_=>aa ⟨_,rfl⟩
    ·rintro _ ⟨c,rfl⟩;dsimp only;refine az (λ_=>aa (by dsimp only;omega)) λ_=>az (λ_=> ?_) λ_=>az (λ_=> ?_) λ_=>az (λ_=> ?_) λ_=>aa (by simp)
     ·have A:=acI j;refine aj (IF (Q:=λr=>r.1.length<=B+2) (Mf a _ (by omega)) ?_) λr f=>aa (by first|omega|(dsimp only;omega));rw[j];exact n
     ·refine aj (aeV a (g.2.2.2.2.2.1.1,g.2.2.2.2.2.1.2) g.2.2.2.2.2.2 B o s u _ rfl _ rfl) ?_;rintro(i|l) h
      ·exact aa (by simp)
      ·have:=h l rfl;exact aa (by dsimp only;omega)
     ·exact aj b λr f=>aa (by first|omega|(dsimp only;omega))
def ahv{N:Nat}(a:FN N)(g:jn)(B:Nat)(h:GB N B g)(b:B<=200000):OW (gQ N g) λr=>r.1.length<=36*B+60:=by
 unfold gQ syv;refine aj (aaD g) λc _=>az (λ_=>aa (by simp)) λ_=> ?_;refine aj (T7 a g (by have:=h.2.2.1;omega)) λc _=>az (λ_=>aa (by simp)) λ_=> ?_;refine aj (acY a g B h b) λr e=>az (λ_=>aa (by simp)) λ_=> ?_;refine aj (OE _) λc _=> ?_;refine aj (AN a 2 (by omega) c g.1 r.1 (by omega) 2 rfl) λq d=> ?_;refine aj (aaC a q.1 (by omega)) λp _=>az (λ_=>aa (by simp)) λ_=>az (λ_=>aa (by simp)) λ_=> ?_;exact aa (by dsimp only;omega)
def agm{N:Nat}(e:FN N)(a:List jn)(B:Nat)(h:GL N B a)(E:B<=200000):OW (fy N a) λr=>r.1.length<=66*B+6:=by
 have f:=e;unfold FN at f;have x:=h.len;obtain⟨d,q,D,u⟩:=h;unfold fy syv;have o:=R6 (Q:=λy:Int⊕List Bs=>∀l,y=.inr l->l.length<=a.length/\l.flatten.length<=66*B) (λn i s=>fc N n (a,(a.length:Int),(i:Int),s)) a.length (λi s=>s.length=i/\s.flatten.length<=66*(d.take i).sum)
  (λn s w=>by
    show OW (bif decide ((a.length:Int)<(a.length:Int)) then _ else some _) _;rw[ahL (by omega)];refine aa λg h=> ?_;cases h;have:=Ft d a.length;exact⟨by first|omega|(dsimp only;omega),by first|omega|(dsimp only;omega)⟩)
  (λn i s j w rec=>by
    show OW (bif decide ((i:Int)<(a.length:Int)) then _ else some _) _;obtain⟨b,g,p,C,v⟩:=q.get1 j;have t:=u b (aik p);have m:(d.take (i+1)).sum=(d.take i).sum+b:=by
     rw[aiQ,p,alD];simp
    have A:=Ft d (i+1);rw[ahO (by omega),ahY,de C,ahI];refine aj (ahv e g b v (by omega)) λr F=>az (λ_=>aa λg h=>by cases h) λc1=> ?_;rw[gK (by omega) (by simp;omega),ahI,dD (by omega)];refine rec _ ⟨by simp;omega,?_⟩;rw[akJ,ahN,m];simp only[aif,ai3,ah6];omega)
  N 0 [] (by omega) (by omega) ⟨rfl,by simp⟩
 refine aj o ?_;rintro(i|l) z
 ·exact aa (by simp)
 ·obtain⟨G,H⟩:=z l rfl;refine az (λ_=>aa (by simp)) λ_=> ?_;rw[Mu e l (by omega) (by omega),ahI];have:=iA (c:=0) (k:=true) (num:=16) (b:=l.flatten) (by omega);exact aa (by dsimp only;omega)
def R8{N:Nat}(c:FN N)(a:List jn)(B:Nat)(h:GL N B a)(b:B<=200000):SM (cY N a):=by
 unfold cY syv;exact aj (agm c a B h b) λr _=>ag _
end Go.Fw
namespace Go.Fw
open Go
def js{σ β:Type}{Q:β->Prop}(b:(σ->Option β)->σ->Option β)(L:Nat)(I:Nat->σ->Prop)
 (step:∀(G:σ->Option β) i s,i<=L->I i s->(∀a,i<L->I (i+1) a->OW (G a) Q)->OW (b G s) Q):
 ∀n i s,i<=L->L-i<n->I i s->OW (Nat.rec (motive:=λ_=>σ->Option β) (λ_=>none) (λ_ G=>b G) n s) Q:=by
 intro n;induction n with
 |zero=>intro i s _ h;omega
 |succ n f=>exact λi s e j d=>step _ i s e d λa g c=>f (i+1) a (by omega) (by omega) c
def IN(a:Bs)(l:List cM):Prop:=∀e∈l,0<=e.2.2.2.1/\e.2.2.2.1<=e.2.2.2.2.1/\e.2.2.2.2.1<=e.2.2.2.2.2/\e.2.2.2.2.2<=(a.length:Int)
def EL.ei{a:Bs}{t:TLV}{e:cM}(h:EL a t e):0<=e.2.2.2.1/\e.2.2.2.1<=e.2.2.2.2.1/\e.2.2.2.2.1<=e.2.2.2.2.2/\e.2.2.2.2.2<=(a.length:Int):=by
 obtain⟨p,q,r,b,c,d,f,g,i,_⟩:=h.bd;rw[b,c,d];omega
def eT.mem{α β:Type}{R:α->β->Prop}{xs:List α}{b:List β}(h:eT R xs b):∀y∈b,∃x∈xs,R x y:=by
 induction h with
 |nil=>intro y a;cases a
 |cons r _ e=>
  intro y a;rcases aib.1 a with rfl|a
  ·exact⟨_,by simp,r⟩
  ·obtain⟨x,d,c⟩:=e y a;exact⟨x,by simp[d],c⟩
def eT.inn{a:Bs}{d:List TLV}{l:List cM}(h:eT (EL a) d l):IN a l:=λe c=>by
 obtain⟨t,_,b⟩:=h.mem e c;exact b.ei
def Fu(N:Nat)(a:Bs)(c n:Int):OP (aF N a c n) λr=>r.2.1≠0->r.1=[]:=by
 unfold aF syv;refine zd (HV _) λr _=>gJ (λ_=>lf λ_=>rfl) λ_=> ?_;refine zd (HV _) λc _=>gJ (λ_=>lf λ_=>rfl) λ_=> ?_;refine zd (R:=λr=>r.2.1≠0->r.1=[]) ?_ λr h=>lf h;unfold br syv;refine gJ (λ_=>lf λ_=>rfl) λ_=>gJ (λ_=>lf λ_=>rfl) λ_=>gJ (λ_=>lf λ_=>rfl) λ_=> ?_;refine zd (HV _) ?_;rintro(⟨i,j⟩|⟨i,j,l⟩) _
 ·exact lf λ_=>rfl
 ·exact lf λh=>absurd rfl h
section
variable {β:Type}{Q:β→Prop}
def IM{N:Nat}(q:FN N){a:Bs}{g k:Int}(c n:Nat)(r:g=(c:Int))(s:k=(n:Int))(x:a.length<9000000){f:List cM×Int×Int->Option β}(m:∀e o,e≠0->OW (f ([],e,o)) Q)(h:∀l,IN a l->2*l.length<=a.length->OW (f (l,0,0)) Q):OW ((aF N a g k).bind f) Q:=by
 subst r s;refine aj (VL (tk q a (by omega) c n) (Fu N a _ _)) ?_;rintro⟨l,e,o⟩ ⟨⟨t,b,d,_,_,u,j⟩|⟨d,_⟩,v⟩
 ·cases t;refine h l j.inn ?_;have h:b.length=l.length:=j.length;have p:=AP b;have i:=IL (mB b) (Fs b);have w:(au b).length<a.length:=by rw[u];exact kH
  unfold mB at i;rw[aiy]at i;unfold mB at p;omega
 ·obtain rfl:l=[]:=v d;exact m e o d
def rY{N:Nat}(d:FN N){a:Bs}(g:a.length<9000000){f:List cM×Int×Int->Option β}(b:∀e o,e≠0->OW (f ([],e,o)) Q)(c:∀l,IN a l->2*l.length<=a.length->OW (f (l,0,0)) Q):OW ((aF N a 0 16).bind f) Q:=IM d 0 16 rfl rfl g b c
def Mo{N:Nat}(k:FN N){a:Bs}(n:a.length<9000000){f:cM×Int×Int->Option β}(i:∀v e o,e≠0->OW (f (v,e,o)) Q)(j:∀v:cM,0<=v.2.2.2.1->v.2.2.2.1<=v.2.2.2.2.1->v.2.2.2.2.1<=v.2.2.2.2.2->v.2.2.2.2.2<=(a.length:Int)->OW (f (v,0,0)) Q):OW ((bF N a).bind f) Q:=by
 refine aj (IH k a (by omega)) ?_;rintro⟨v,e,o⟩ (⟨l,t,b,p,m⟩|⟨b,_⟩)
 ·cases l;obtain⟨c,d,g,h⟩:=m.ei;exact j v c d g h
 ·exact i v e o b
def wo{a:Bs}{l:List cM}{i:Int}{f:cM->Option β}(o:IN a l)(j:0<=i)(m:i<(l.length:Int))(k:∀e:cM,0<=e.2.2.2.1->e.2.2.2.1<=e.2.2.2.2.1->e.2.2.2.2.1<=e.2.2.2.2.2->e.2.2.2.2.2<=(a.length:Int)->ix l i=some e->OW (f e) Q):OW ((ix l i).bind f) Q:=by
 obtain⟨e,h,n⟩:=xL j m;obtain⟨b,c,d,g⟩:=o e n.2;rw[h];exact k e b c d g h
def Mp{α:Type}{l:List α}{i:Int}{e:α}{f:α->Option β}(h:ix l i=some e)(k:OW (f e) Q):OW ((ix l i).bind f) Q:=by rw[h];exact k
def qS{α:Type}{a:List α}{i j:Int}{f:List α->Option β}(b:0<=i)(c:i<=j)(d:j<=(a.length:Int))(k:∀s:List α,s.length<=a.length->(s.length:Int)=j-i->OW (f s) Q):OW ((slc a i j).bind f) Q:=by
 refine aj (BO b c d) λs e=> ?_;have:s.length=min j.toNat a.length-i.toNat:=by rw[e,aiF,aig]
 exact k s (by omega) (by omega)
def H7{b:Bs}{a:List cM}{i j:Int}{f:List cM->Option β}(m:IN b a)(g:0<=i)(h:i<=j)(l:j<=(a.length:Int))(k:∀s:List cM,IN b s->s.length<=a.length->(s.length:Int)=j-i->OW (f s) Q):OW ((slc a i j).bind f) Q:=by
 refine aj (BO g h l) λs d=> ?_;have:s.length=min j.toNat a.length-i.toNat:=by rw[d,aiF,aig]
 refine k s (λe c=>m e ?_) (by omega) (by omega);rw[d]at c;exact ale (List.mem_of_mem_drop c)
def NH{e:cM}{c n:Int}{k:Bool}{f:Bool->Option β}(h:∀b,OW (f b) Q):OW ((bz e c k n).bind f) Q:=aj (uQ e c n k) λb _=>h b
def wq{s:Bs}{f:Bs->Option β}(a:s.length<10000000)(k:OW (f s) Q):OW ((fM s).bind f) Q:=by rw[nu a];exact k
def BK{α:Type}{w:Nat}{l:List α}{x:α}{f:List α->Option β}(b:w<=200)(h:l.length<100000000)(k:∀a:List α,a=l++[x]->a.length=l.length+1->OW (f a) Q):OW ((app w l [x]).bind f) Q:=by
 rw[gK b (by simp;omega)];exact k _ rfl (by simp)
def ly{α:Type}{x:α}{f:α->Option β}(h:OW (f x) Q):OW ((some x).bind f) Q:=h
def nr{α γ:Type}{x:Option α}{g:α->Option γ}{f:γ->Option β}(h:OW (x.bind λa=>(g a).bind f) Q):OW ((x.bind g).bind f) Q:=by
 rw[Option.bind_assoc];exact h
def DD{α:Type}{c:Bool}{x y:Option α}{f:α->Option β}(a:OW (bif c then x.bind f else y.bind f) Q):OW ((bif c then x else y).bind f) Q:=by
 cases c<;>exact a
def oQ{e:Int}{x y:Option β}(a:e≠0->OW x Q)(b:e=0->OW y Q):OW (bif (e !=0) then x else y) Q:=az (λh=>a (by simpa using h)) λh=>b (by simpa using h)
def HT{e d:Int}{x y:Option β}(a:e=d->OW x Q)(b:e≠d->OW y Q):OW (bif (e==d) then x else y) Q:=az (λh=>a (by simpa using h)) λh=>b (by simpa using h)
def Pz{e d:Int}{x y:Option β}(a:e≠d->OW x Q)(b:e=d->OW y Q):OW (bif (e !=d) then x else y) Q:=az (λh=>a (by simpa using h)) λh=>b (by simpa using h)
def dj{p:Prop}[Decidable p]{x y:Option β}(a:p->OW x Q)(b:¬p->OW y Q):OW (bif decide p then x else y) Q:=az (λh=>a (ail h)) λh=>b (ai9 h)
def mX{c:Bool}{x y:Option β}(h:OW (bif c then y else x) Q):OW (bif !c then x else y) Q:=by cases c<;>exact h
def k_t{x y:Option β}(h:OW x Q):OW (bif true then x else y) Q:=h
def k_f{x y:Option β}(h:OW y Q):OW (bif false then x else y) Q:=h
def k_c(c:Bool){x y:Option β}(a:OW x Q)(b:OW y Q):OW (bif c then x else y) Q:=az (λ_=>a) λ_=>b
def jd{α:Type}{x:Option α}{f:α->Option β}(h:SM x)(k:∀a,OW (f a) Q):OW (x.bind f) Q:=aj h λa _=>k a
def BQ{α γ:Type}{x:Option (α×γ)}{f:α×γ->Option β}(h:SM x)(k:∀a b,OW (f (a,b)) Q):OW (x.bind f) Q:=aj h λa _=>k a.1 a.2
def VY{α γ d:Type}{x:Option (α×γ×d)}{f:α×γ×d->Option β}(h:SM x)(k:∀a b c,OW (f (a,b,c)) Q):OW (x.bind f) Q:=aj h λa _=>k a.1 a.2.1 a.2.2
def H8{N:Nat}(d:FN N){a:Bs}{f:Bs×Int->Option β}(g:a.length<9000000)(k:∀s e,s.length<=21*(a.length+1)->OW (f (s,e)) Q):OW ((cm N a).bind f) Q:=by
 refine aj (xA d a (by omega)) ?_;rintro⟨s,e⟩ (⟨_,b,c⟩|h)
 ·dsimp only at b c;have:=IQ b;rw[c]at this;exact k s e (by omega)
 ·cases h;exact k _ _ (by simp)
def Mq{N:Nat}(c:FN N){a:Bs}{f:Bs×Int->Option β}(d:a.length<9000000)(k:∀s,s.length<=a.length+6->OW (f (s,0)) Q):OW ((aH N [a]).bind f) Q:=by
 have b:([a]:List Bs).flatten=a:=by simp
 rw[Mu c [a] (by simp) (by rw[b];omega),b,ahI];exact k _ (iA (by omega))
variable{Z:Int}
def aeW{N:Nat}(g:FN N)(c:Nat)(h:c<4){b:Bool}{n:Int}{a:Bs}(d:Z=(c:Int)){f:Bs×Int->Option β}(j:a.length<9000000)(k:∀s e,s.length<=a.length+6->OW (f (s,e)) Q):OW ((aD N Z b n [a]).bind f) Q:=
 aj (AN g c h b n a (by omega) Z d) λr i=>k r.1 r.2 i
def DE{N:Nat}(c:FN N){b:Bool}{n:Int}{a:Bs}{f:Bs×Int->Option β}(d:a.length<9000000)(k:∀s e,s.length<=a.length+6->OW (f (s,e)) Q):OW ((aD N 0 b n [a]).bind f) Q:=aeW c 0 (by omega) rfl d k
def R9{N:Nat}(b:FN N){a:Bs}{f:jn×Int×Int->Option β}(c:a.length<9000000)(k:∀g e o,(e=0->GB N a.length g)->OW (f (g,e,o)) Q):OW ((eI N a).bind f) Q:=aj (aaC b a c) λr d=>k r.1 r.2.1 r.2.2 d
def Mr{N:Nat}(b:FN N){a:Bs}{f:List jn×Int×Int->Option β}(c:a.length<9000000)(k:∀g e o,(e=0->GL N a.length g)->OW (f (g,e,o)) Q):OW ((bL N a).bind f) Q:=aj (R7 b a c) λr d=>k r.1 r.2.1 r.2.2 d
def H9{N:Nat}(b:FN N){a:Bs}{f:Fw.Node×Int×Int->Option β}(c:a.length<9000000)(k:∀t e o,OW (f (t,e,o)) Q):OW ((cz N a).bind f) Q:=aj (V4 b a (by omega)) λr _=>k r.1 r.2.1 r.2.2
end
def IP{P:Prop}(h:P:=by repeat (first|with_reducible exact(zz _)|with_reducible exact aa trivial|with_reducible refine oQ (λ_=> ?_) (λ_=> ?_)|with_reducible refine HT (λ_=> ?_) (λ_=> ?_)|with_reducible refine Pz (λ_=> ?_) (λ_=> ?_)|with_reducible refine dj (λ_=> ?_) (λ_=> ?_)|with_reducible refine mX ?_|with_reducible refine k_t ?_|with_reducible refine k_f ?_|with_reducible refine k_c _ ?_ ?_|(with_reducible refine ly ?_<;>try dsimp only)|with_reducible refine nr ?_|with_reducible refine DD ?_|with_reducible refine NH (λ_=> ?_)|with_reducible refine Mp (by assumption) ?_|with_reducible refine wo (by assumption) (by omega) (by omega) (λ_ _ _ _ _ _=> ?_)|with_reducible refine H7 (by assumption) (by omega) (by omega) (by omega) (λ_ _ _ _=> ?_)|with_reducible refine qS (by omega) (by omega) (by omega) (λ_ _ _=> ?_)|with_reducible refine wq (by omega) ?_|with_reducible refine BK (by omega) (by omega) (λ_ _ _=> ?_)|(with_reducible refine H8 (by assumption) (by omega) (λ_ _ _=> ?_)<;>try dsimp only)|(with_reducible refine rY (by assumption) (by omega) (λ_ _ _=> ?_) (λ_ _ _=> ?_)<;>try dsimp only)|(with_reducible refine Mo (by assumption) (by omega) (λ_ _ _ _=> ?_) (λ_ _ _ _ _=> ?_)<;>try dsimp only)|(with_reducible refine Mq (by assumption) (by omega) (λ_ _=> ?_)<;>try dsimp only)|(with_reducible refine DE (by assumption) (by omega) (λ_ _ _=> ?_)<;>try dsimp only)|(with_reducible refine R9 (by assumption) (by omega) (λ_ _ _ _=> ?_)<;>try dsimp only)|(with_reducible refine Mr (by assumption) (by omega) (λ_ _ _ _=> ?_)<;>try dsimp only)|(with_reducible refine H9 (by assumption) (by omega) (λ_ _ _=> ?_)<;>try dsimp only)|(exfalso;omega)|(exfalso;dsimp only at*;omega)|(dsimp only;first|with_reducible exact(zz _)|with_reducible exact aa trivial|with_reducible refine oQ (λ_=> ?_) (λ_=> ?_)|with_reducible refine HT (λ_=> ?_) (λ_=> ?_)|with_reducible refine Pz (λ_=> ?_) (λ_=> ?_)|with_reducible refine dj (λ_=> ?_) (λ_=> ?_)|with_reducible refine mX ?_|with_reducible refine k_t ?_|with_reducible refine k_f ?_|with_reducible refine k_c _ ?_ ?_|(with_reducible refine ly ?_<;>try dsimp only)|with_reducible refine nr ?_|with_reducible refine DD ?_|with_reducible refine NH (λ_=> ?_)|with_reducible refine Mp (by assumption) ?_|with_reducible refine wo (by assumption) (by omega) (by omega) (λ_ _ _ _ _ _=> ?_)|with_reducible refine H7 (by assumption) (by omega) (by omega) (by omega) (λ_ _ _ _=> ?_)|with_reducible refine qS (by omega) (by omega) (by omega) (λ_ _ _=> ?_)|with_reducible refine wq (by omega) ?_|with_reducible refine BK (by omega) (by omega) (λ_ _ _=> ?_)|(with_reducible refine H8 (by assumption) (by omega) (λ_ _ _=> ?_)<;>try dsimp only)|(with_reducible refine rY (by assumption) (by omega) (λ_ _ _=> ?_) (λ_ _ _=> ?_)<;>try dsimp only)|(with_reducible refine Mo (by assumption) (by omega) (λ_ _ _ _=> ?_) (λ_ _ _ _ _=> ?_)<;>try dsimp only)|(with_reducible refine Mq (by assumption) (by omega) (λ_ _=> ?_)<;>try dsimp only)|(with_reducible refine DE (by assumption) (by omega) (λ_ _ _=> ?_)<;>try dsimp only)|(with_reducible refine R9 (by assumption) (by omega) (λ_ _ _ _=> ?_)<;>try dsimp only)|(with_reducible refine Mr (by assumption) (by omega) (λ_ _ _ _=> ?_)<;>try dsimp only)|(with_reducible refine H9 (by assumption) (by omega) (λ_ _ _=> ?_)<;>try dsimp only)|(exfalso;omega)|(exfalso;dsimp only at*;omega)))):P:=h
def aaE{N:Nat}(b:FN N)(a:Bs)(c:a.length<9000000):SM (gb N a):=by
 unfold gb syv
 (have zz:∀(P:Prop)(h:P:=by exact trivial),P:=λ_ h=>h;exact IP)
def aeX{N:Nat}(b:FN N)(l:List Bs)(B:Nat)(d:B<9000000)(f:l.length<9000000)(h:∀x∈l,x.length<=B):SM (aK N l):=by
 have a:=b;unfold FN at a;unfold aK syv;refine jd ?_ λy=> ?_
 ·unfold aI syv;refine js _ l.length (λi s=>∃j,s=(l,(l.length:Int),j)/\j=(i:Int)) ?_ N 0 _ (by omega) (by omega) ⟨_,rfl,rfl⟩;rintro G i _ e ⟨j,rfl,rfl⟩ rec;dsimp only;refine dj (λ_=> ?_) (λ_=>aa trivial);refine aj (xL (by omega) (by omega)) λx c=> ?_;have:=h x c.2;unfold fj syv;refine jd (aS (aaE b x (by omega)) λ_=>ag _) λ_=> ?_
  (have zz:∀(P:Prop)(h:P:=by exact rec _ (by omega) ⟨_,rfl,dD (by omega)⟩),P:=λ_ h=>h;exact IP)
 ·cases y<;>exact ag _
def aaF{N:Nat}(a:FN N)(l:List Bs)(B:Nat)(b:B<9000000)(c:l.length<9000000)(h:∀x∈l,x.length<=B):SM (gd N l):=by
 unfold gd syv;refine bI _ ?_ (ag _);refine aS (yO (NC a l (by omega) λx d=>by have:=h x d;omega)) λ_=>bI _ ?_ (ag _);unfold aP syv;exact aS (aS (aeX a l B b c h) λ_=>ag _) λ_=>ag _
def aaG{N:Nat}(p:FN N)(s a:Bs)(A:a.length<9000000):SM (cJ N s a):=by
 have q:=p;unfold FN at q;have w:∀(l:List cM)(v:Int×Int),IN a l->2*l.length<=a.length->OW (bA N N (a,l,(l.length:Int),0,[],[],s,v)) λr=>r.2.1.length<=l.length/\∀x∈r.2.1,x.length<=a.length:=by
  rintro l ⟨E,F⟩ B k;unfold bA syv;refine js _ l.length (λi D=>∃j c,D=(a,l,(l.length:Int),j,[],c,s,E,F)/\j=(i:Int)/\c.length<=i/\∀x∈c,x.length<=a.length) ?_ N 0 _ (by omega) (by omega) ⟨_,_,rfl,rfl,by simp,by simp⟩;rintro G i _ H ⟨j,c,rfl,rfl,hc1,hc2⟩ rec;dsimp only;refine dj (λ_=> ?_) (λ_=>aa ⟨by dsimp only;omega,hc2⟩);refine wo B (by omega) (by omega) λe _ _ _ _ _=>qS (by omega) (by omega) (by omega) λx C _=>wq (by omega) (BK (by omega) (by omega) λI t _=> ?_);refine rec _ (by omega) ⟨_,_,rfl,dD (by omega),by omega,?_⟩;rw[t];intro y f;rcases aiv.1 f with f|f
  ·exact hc2 y f
  ·rw[aiN.1 f];exact C
 unfold cJ syv;have d:∀(l:List cM)(v:Int×Int),IN a l->2*l.length<=a.length->OW ((bA N N (a,l,(l.length:Int),0,[],[],s,v)).bind λx=>match x with
  |(_,b,g,u,_)=>bif (u==0) then(gd N b).bind λm=>some ((g,b),m) else some ((g,b),false)) λ_=>True:=by
  intro l v n k;refine aj (w l v n k) λr z=> ?_;refine az (λ_=> ?_) λ_=>aa trivial;exact aS (aaF p _ a.length (by omega) (Nat.lt_of_le_of_lt z.1 (by omega)) z.2) λ_=>ag _
 refine IM p 0 17 rfl rfl A (λe o _=>d [] (e,o) (λ_ h=>by cases h) (by simp)) λl n k=>d l (0,0) n k
def X5{N:Nat}(b:FN N)(a:Bs)(k:a.length<9000000):SM (cX N a):=by
 have d:=b;unfold FN at d;have f:∀a:Bs,a.length<9000000->SM (aR N a):=λa k=>by
  unfold aR syv
  (have zz:∀(P:Prop)(h:P:=by exact BQ (aaG b _ _ (by omega)) λ_ _=>aa trivial),P:=λ_ h=>h;exact IP)
 unfold cX cn aT syv;refine ly (BQ ?_ λ_ _=>aa trivial);refine IM b 0 16 rfl rfl k (λe o h=>oQ (λ_=>aa trivial) λg=>absurd g h) λl m g=> ?_;dsimp only;refine oQ (λ_=>aa trivial) λ_=>jd ?_ λy=> ?_
 ·unfold aJ syv;refine js _ l.length (λi s=>∃j c,s=(a,l,(l.length:Int),j,c)/\j=(i:Int)/\c.length<=i) ?_ N 0 _ (by omega) (by omega) ⟨_,_,rfl,rfl,by simp⟩;rintro G i _ p ⟨j,c,rfl,rfl,n⟩ rec;dsimp only;refine dj (λ_=> ?_) (λ_=>aa trivial);refine wo m (by omega) (by omega) λe _ _ _ _ _=>qS (by omega) (by omega) (by omega) λx q _=>BQ (f x (by omega)) λ_ _=> ?_
  (have zz:∀(P:Prop)(h:P:=by exact rec _ (by omega) ⟨_,_,rfl,dD (by omega),by omega⟩),P:=λ_ h=>h;exact IP)
 ·rcases y with i|⟨x,y⟩
  ·exact ag _
  ·exact bI _ (ag _) (ag _)
def VZ{N:Nat}(g:FN N)(a:Bs)(k:a.length<9000000):SM (kx N a):=by
 have b:=g;unfold FN at b;have d:∀a:Bs,a.length<9000000->SM (eL N a):=λa k=>by
  unfold eL jp syv
  (have zz:∀(P:Prop)(h:P:=by exact trivial),P:=λ_ h=>h;exact IP)
 unfold kx iY fJ syv;refine ly (BQ ?_ λ_ _=>aa trivial);refine IM g 0 16 rfl rfl k (λe o h=>oQ (λ_=>aa trivial) λf=>absurd f h) λl m f=> ?_;dsimp only;refine oQ (λ_=>aa trivial) λ_=>jd ?_ λy=> ?_
 ·unfold eN syv;refine js _ l.length (λi s=>∃j c,s=(a,l,(l.length:Int),j,c)/\j=(i:Int)/\c.length<=i) ?_ N 0 _ (by omega) (by omega) ⟨_,_,rfl,rfl,by simp⟩;rintro G i _ p ⟨j,c,rfl,rfl,n⟩ rec;dsimp only;refine dj (λ_=> ?_) (λ_=>aa trivial);refine wo m (by omega) (by omega) λe _ _ _ _ _=>qS (by omega) (by omega) (by omega) λx q _=>BQ (d x (by omega)) λ_ _=> ?_
  (have zz:∀(P:Prop)(h:P:=by exact rec _ (by omega) ⟨_,_,rfl,dD (by omega),by omega⟩),P:=λ_ h=>h;exact IP)
 ·rcases y with i|⟨x,y⟩
  ·exact ag _
  ·exact bI _ (ag _) (ag _)
end Go.Fw
namespace Go.Fw
def ahD{α β:Type}{Q:β->Prop}{x:Option α}{f:α->Option β}(h:OW (x.bind f) Q):OW x λa=>OW (f a) Q:=by
 cases x with
 |none=>obtain⟨_,h,_⟩:=h;cases h
 |some a=>exact⟨a,rfl,h⟩
def ahE{α:Type}{Q:α->Prop}{c:Bool}{x y:Option α}(h:OW (cond c x y) Q):OW (cond c x y) Q:=h
def afw{p q:Prop}(h:p->q)(k:p):q:=h k
section
variable {β:Type}{Q:β→Prop}
def MC{N:Nat}(u:FN N){a:Bs}{i j:Int}{f:List cM×Int×Int->Option β}(z:0<=i)(A:i<=j)(B:j<=(a.length:Int))(C:a.length<9000000)(v:∀e o,e≠0->OW (f ([],e,o)) Q)(w:∀l o,IN a l->2*l.length<=a.length->OW (f (l,0,o)) Q):OW ((br N a i j).bind f) Q:=by
 unfold FN at u;obtain⟨i,rfl⟩:∃n:Nat,i=(n:Int):=⟨i.toNat,by omega⟩;obtain⟨j,rfl⟩:∃n:Nat,j=(n:Int):=⟨j.toNat,by omega⟩;obtain⟨l,e,o,h,_⟩:=J9 N a (by omega) i j (by omega) (by omega) (by omega);have g:OP (br N a (i:Int) (j:Int)) λr=>r.2.1≠0->r.1=[]:=by
  unfold br;refine gJ (λ_=>lf λ_=>rfl) λ_=>gJ (λ_=>lf λ_=>rfl) λ_=>gJ (λ_=>lf λ_=>rfl) λ_=> ?_;refine zd (HV _) ?_;rintro(⟨i,j⟩|⟨i,j,l⟩) _
  ·exact lf λ_=>rfl
  ·exact lf λh=>absurd rfl h
 have s:=g _ h;rw[h];by_cases d:e=0
 ·subst d;obtain⟨b,q1,p,rfl⟩:=Kb N (by omega) a i j (by omega) (by omega) (by omega) l o h;have c:=IG b (a.take i) (a.drop j);have t:a.take i++au b++a.drop j=a:=by
   rw[<-p];have m:=aiV i (a.take j);rw[List.take_take,alC (by omega)]at m;rw[m,aiV]
  rw[t,aig,alC (by omega)]at c;refine w _ _ c.inn ?_;have x:b.length=(jq i b).length:=c.length;have q:=AP b;have k:=IL (mB b) (Fs b);have y:(au b).length<=a.length:=by rw[<-p,aiF,aig];omega
  unfold mB at k;rw[aiy]at k;unfold mB at q;omega
 ·obtain rfl:l=[]:=s d;exact v e o d
def So{α:Type}{a:List α}{x y j:Int}{f:List α->Option β}(b:0<=x+y)(c:x+y<=j)(d:j<=(a.length:Int))(e:a.length<9000000)(k:∀s:List α,s.length<=a.length->(s.length:Int)=j-(x+y)->OW (f s) Q):OW ((slc a (aw .i64 x y) j).bind f) Q:=by
 rw[fX ⟨by omega,by omega⟩];exact qS b c d k
def Wa{α:Type}{l:List α}{i:Int}{f:α->Option β}(a:0<=i)(b:i<(l.length:Int))(k:∀e,ix l i=some e->OW (f e) Q):OW ((ix l i).bind f) Q:=by
 obtain⟨e,h,c⟩:=xL a b;rw[h];exact k e h
def Wb{N:Nat}(g:FN N){a:Bs}{f:Rdn×Int×Int->Option β}(i:a.length<9000000)(k:∀r e o,(e=0->wR r<=32*a.length)->OW (f (r,e,o)) Q):OW ((dq N a).bind f) Q:=by
 refine aj (XE g a i) ?_;rintro⟨r,e,o⟩ (⟨b,c,d⟩|⟨b,_⟩)
 ·have:=XF c;refine k r e o λ_=> ?_;rw[<-d];exact this
 ·exact k r e o λh=>absurd h b
def Sq{a:Bs}{f:Bool×Int->Option β}(k:∀b e,OW (f (b,e)) Q):OW ((cP a).bind f) Q:=BQ (T4 a) k
def NR{N:Nat}(c:FN N){a:Bs}{f:Int×Int->Option β}(d:a.length<10000000)(k:∀b e,OW (f (b,e)) Q):OW ((be N a 9).bind f) Q:=BQ (R0 c a d) k
def ahF{α:Type}{x:Option α}{v:α}{f:α->Option β}(h:x=some v)(k:OW (f v) Q):OW (x.bind f) Q:=by rw[h];exact k
def agH{N:Nat}(a:FN N){g:List jn}{f:Bool->Option β}(h:GL N 200000 g)(c:∀b,OW (f b) Q):OW ((cY N g).bind f) Q:=jd (R8 a g _ h (ahS _)) c
def ahG{a:Bs}{f:Bool->Option β}(c:∀b,OW (f b) Q):OW ((bS a).bind f) Q:=jd (yO (jV _)) c
end
def aaX{P:Prop}(h:P:=by first|assumption|exact GL.nil _ _|refine GL.mono (by assumption) (by omega)|refine GL.mono (afw (by assumption) (by assumption)) (by omega)):P:=h
def aaY{P:Prop}(h:P:=by repeat' (first|((conv=>arg 1;whnf);first|exact⟨_,rfl,trivial⟩|refine aag rfl ?_|(refine ahE ?_;(conv=>arg 1;arg 1;dsimp only[dC]);first|refine mX ?_|(refine HT (λ_=> ?_) (λ_=> ?_)<;>try (exfalso;omega))|(refine dj (λ_=> ?_) (λ_=> ?_)<;>try (exfalso;omega))|refine k_c _ ?_ ?_)|((try refine VI ?_);(conv=>arg 1;whnf);(try refine NB ?_);(conv=>arg 1;whnf;dsimp only[dC]);refine ahD ?_;first|refine NH (λ_=> ?_)|refine ahF (by assumption) ?_|refine wo (by assumption) (by omega) (by omega) (λ_ _ _ _ _ _=> ?_)|refine H7 (by assumption) (by omega) (by omega) (by omega) (λ_ _ _ _=> ?_)|refine qS (by omega) (by omega) (by omega) (λ_ _ _=> ?_)|refine wq (by omega) ?_|refine BK (by omega) (by omega) (λ_ _ _=> ?_)|refine H8 hNN (by omega) (λ_ _ _=> ?_)|refine rY hNN (by omega) (λ_ _ _=> ?_) (λ_ _ _=> ?_)|refine Mo hNN (by omega) (λ_ _ _ _=> ?_) (λ_ _ _ _ _=> ?_)|refine Mq hNN (by omega) (λ_ _=> ?_)|refine DE hNN (by omega) (λ_ _ _=> ?_)|refine R9 hNN (by omega) (λ_ _ _ _=> ?_)|refine Mr hNN (by omega) (λ_ _ _ _=> ?_)|refine H9 hNN (by omega) (λ_ _ _=> ?_)|refine Wa (by omega) (by omega) (λ_ _=> ?_)|refine So (by omega) (by omega) (by omega) (by omega) (λ_ _ _=> ?_)|refine Wb hNN (by omega) (λ_ _ _ _=> ?_)|refine agH hNN aaX (λ_=> ?_)|refine ahG (λ_=> ?_)|refine MC hNN (by omega) (by omega) (by omega) (by omega) (λ_ _ _=> ?_) (λ_ _ _ _=> ?_)|refine Sq (λ_ _=> ?_)|refine NR hNN (by omega) (λ_ _=> ?_))|refine VI ?_|refine NB ?_)|(exfalso;omega)|exact zz _)):P:=h
end Go.Fw
namespace Go.Fw
def ahr{P:Prop}(h:P:=by first|assumption|exact ai4 (afw (by assumption) (by assumption)) (by omega)):P:=h
end Go.Fw
namespace Go.Proofs.Tryz
open Go Go.Fw
attribute [local irreducible] bF bz slc fM be fF cL bS cP ix app aF aH bL cY cm aD cz eI br dq
set_option maxRecDepth 6000
set_option maxHeartbeats 0
def keyid_sm0(a:Bs)(b:a.length<190000):SM (xI.run a):=by
 refine VJ ?_;exact aaY
end Go.Proofs.Tryz
namespace Go.Fw
open Go
def dH{P:Prop}(h:P:=by repeat (first|with_reducible exact(zz _)|with_reducible exact aa trivial|with_reducible refine oQ (λ_=> ?_) (λ_=> ?_)|with_reducible refine HT (λ_=> ?_) (λ_=> ?_)|with_reducible refine Pz (λ_=> ?_) (λ_=> ?_)|with_reducible refine dj (λ_=> ?_) (λ_=> ?_)|with_reducible refine mX ?_|with_reducible refine k_t ?_|with_reducible refine k_f ?_|with_reducible refine k_c _ ?_ ?_|(with_reducible refine ly ?_<;>try dsimp only)|with_reducible refine nr ?_|with_reducible refine DD ?_|with_reducible refine NH (λ_=> ?_)|with_reducible refine Mp (by assumption) ?_|with_reducible refine wo (by assumption) (by omega) (by omega) (λ_ _ _ _ _ _=> ?_)|with_reducible refine H7 (by assumption) (by omega) (by omega) (by omega) (λ_ _ _ _=> ?_)|with_reducible refine qS (by omega) (by omega) (by omega) (λ_ _ _=> ?_)|with_reducible refine wq (by omega) ?_|with_reducible refine BK (by omega) (by omega) (λ_ _ _=> ?_)|(with_reducible refine H8 (by assumption) (by omega) (λ_ _ _=> ?_)<;>try dsimp only)|(with_reducible refine rY (by assumption) (by omega) (λ_ _ _=> ?_) (λ_ _ _=> ?_)<;>try dsimp only)|(with_reducible refine Mo (by assumption) (by omega) (λ_ _ _ _=> ?_) (λ_ _ _ _ _=> ?_)<;>try dsimp only)|(with_reducible refine Mq (by assumption) (by omega) (λ_ _=> ?_)<;>try dsimp only)|(with_reducible refine DE (by assumption) (by omega) (λ_ _ _=> ?_)<;>try dsimp only)|(with_reducible refine R9 (by assumption) (by omega) (λ_ _ _ _=> ?_)<;>try dsimp only)|(with_reducible refine Mr (by assumption) (by omega) (λ_ _ _ _=> ?_)<;>try dsimp only)|(with_reducible refine H9 (by assumption) (by omega) (λ_ _ _=> ?_)<;>try dsimp only)|(with_reducible refine Wa (by omega) (by omega) (λ_ _=> ?_)<;>try dsimp only)|(with_reducible refine So (by omega) (by omega) (by omega) (by omega) (λ_ _ _=> ?_)<;>try dsimp only)|(with_reducible refine Wb (by assumption) (by omega) (λ_ _ _ _=> ?_)<;>try dsimp only)|(with_reducible refine MC (by assumption) (by omega) (by omega) (by omega) (by omega) (λ_ _ _=> ?_) (λ_ _ _ _=> ?_)<;>try dsimp only)|(with_reducible refine Sq (λ_ _=> ?_)<;>try dsimp only)|(with_reducible refine NR (by assumption) (by omega) (λ_ _=> ?_)<;>try dsimp only)|(exfalso;omega)|(exfalso;dsimp only at*;omega)|(dsimp only;first|with_reducible exact(zz _)|with_reducible exact aa trivial|with_reducible refine oQ (λ_=> ?_) (λ_=> ?_)|with_reducible refine HT (λ_=> ?_) (λ_=> ?_)|with_reducible refine Pz (λ_=> ?_) (λ_=> ?_)|with_reducible refine dj (λ_=> ?_) (λ_=> ?_)|with_reducible refine mX ?_|with_reducible refine k_t ?_|with_reducible refine k_f ?_|with_reducible refine k_c _ ?_ ?_|(with_reducible refine ly ?_<;>try dsimp only)|with_reducible refine nr ?_|with_reducible refine DD ?_|with_reducible refine NH (λ_=> ?_)|with_reducible refine Mp (by assumption) ?_|with_reducible refine wo (by assumption) (by omega) (by omega) (λ_ _ _ _ _ _=> ?_)|with_reducible refine H7 (by assumption) (by omega) (by omega) (by omega) (λ_ _ _ _=> ?_)|with_reducible refine qS (by omega) (by omega) (by omega) (λ_ _ _=> ?_)|with_reducible refine wq (by omega) ?_|with_reducible refine BK (by omega) (by omega) (λ_ _ _=> ?_)|(with_reducible refine H8 (by assumption) (by omega) (λ_ _ _=> ?_)<;>try dsimp only)|(with_reducible refine rY (by assumption) (by omega) (λ_ _ _=> ?_) (λ_ _ _=> ?_)<;>try dsimp only)|(with_reducible refine Mo (by assumption) (by omega) (λ_ _ _ _=> ?_) (λ_ _ _ _ _=> ?_)<;>try dsimp only)|(with_reducible refine Mq (by assumption) (by omega) (λ_ _=> ?_)<;>try dsimp only)|(with_reducible refine DE (by assumption) (by omega) (λ_ _ _=> ?_)<;>try dsimp only)|(with_reducible refine R9 (by assumption) (by omega) (λ_ _ _ _=> ?_)<;>try dsimp only)|(with_reducible refine Mr (by assumption) (by omega) (λ_ _ _ _=> ?_)<;>try dsimp only)|(with_reducible refine H9 (by assumption) (by omega) (λ_ _ _=> ?_)<;>try dsimp only)|(with_reducible refine Wa (by omega) (by omega) (λ_ _=> ?_)<;>try dsimp only)|(with_reducible refine So (by omega) (by omega) (by omega) (by omega) (λ_ _ _=> ?_)<;>try dsimp only)|(with_reducible refine Wb (by assumption) (by omega) (λ_ _ _ _=> ?_)<;>try dsimp only)|(with_reducible refine MC (by assumption) (by omega) (by omega) (by omega) (by omega) (λ_ _ _=> ?_) (λ_ _ _ _=> ?_)<;>try dsimp only)|(with_reducible refine Sq (λ_ _=> ?_)<;>try dsimp only)|(with_reducible refine NR (by assumption) (by omega) (λ_ _=> ?_)<;>try dsimp only)|(exfalso;omega)|(exfalso;dsimp only at*;omega)))):P:=h
def Xv{N:Nat}(n:FN N)(a:Bs)(r:a.length<9000000)(e:cM)(t:0<=e.2.2.2.1)(u:e.2.2.2.1<=e.2.2.2.2.1)(p:e.2.2.2.2.1<=e.2.2.2.2.2)(q:e.2.2.2.2.2<=(a.length:Int)):SM (ku N a e):=by
 have m:=n;unfold FN at m;unfold ku syv;refine MC n (by omega) p q r (λ_ _ _=> ?_) λl o x h=> ?_
 ·(have zz:∀(P:Prop)(h:P:=by exact trivial),P:=λ_ h=>h;exact dH)
 ·dsimp only;refine oQ (λ_=>aa trivial) λ_=> ?_;refine jd ?_ λy=> ?_
  ·unfold jv syv;refine js _ l.length (λi s=>∃j c1 b d f g k c,s=(a,l,(l.length:Int),j,c1,b,d,f,g,k,c)/\j=(i:Int)/\c.length<=i) ?_ N 0 _ (by omega) (by omega) ⟨_,_,_,_,_,_,_,_,rfl,rfl,by simp⟩;rintro G i _ w ⟨j,c1,b,d,f,g,k,c,rfl,rfl,v⟩ rec;dsimp only
   (have zz:∀(P:Prop)(h:P:=by exact rec _ (by omega) ⟨_,_,_,_,_,_,_,_,rfl,dD (by omega),by omega⟩),P:=λ_ h=>h;exact dH)
  ·rcases y with⟨i,j⟩|⟨c1,b,d,f,g,k,c⟩
   ·exact ag _
   ·(have zz:∀(P:Prop)(h:P:=by exact trivial),P:=λ_ h=>h;exact dH)
def VF{N:Nat}(c:FN N)(a:Bs)(f:a.length<9000000):SM (iM N a):=by
 have d:=c;unfold FN at d;unfold iM syv;refine rY c f (λ_ _ _=> ?_) λl p h=> ?_
 ·(have zz:∀(P:Prop)(h:P:=by exact trivial),P:=λ_ h=>h;exact dH)
 ·dsimp only;refine oQ (λ_=>aa trivial) λ_=> ?_;refine jd ?_ λy=> ?_
  ·unfold iW syv;refine js _ l.length (λi s=>∃j g c1 b,s=(a,g,l,(l.length:Int),j,c1,b)/\j=(i:Int)) ?_ N 0 _ (by omega) (by omega) ⟨_,_,_,_,rfl,rfl⟩;rintro G i _ t ⟨j,g,c1,b,rfl,rfl⟩ rec;dsimp only;refine dj (λ_=> ?_) λ_=>aa trivial;refine wo p (by omega) (by omega) λe k m n o _=> ?_;refine NH λ_=>mX (k_c _ ?_ (aa trivial));refine dj (λ_=>aa trivial) λ_=>dj (λ_=>aa trivial) λ_=> ?_;refine VY (Xv c a f e k m n o) λ_ _ _=> ?_
   (have zz:∀(P:Prop)(h:P:=by exact rec _ (by omega) ⟨_,_,_,_,rfl,dD (by omega)⟩),P:=λ_ h=>h;exact dH)
  ·rcases y with⟨i,j⟩|⟨c1,b,q,r⟩
   ·exact ag _
   ·(have zz:∀(P:Prop)(h:P:=by exact trivial),P:=λ_ h=>h;exact dH)
def RO{N:Nat}(a:FN N)(g:List jn)(r:Rdn)(x:Int)(d:GL N 200000 g)(e:wR r<=6500000):SM (gN N (g,r) x):=by
 unfold gN syv;have b:SM (cY N (g,r).1):=R8 a g _ d (ahS _);have c:SM (jR N (g,r).2):=yO (XC a r (by omega))
 repeat (first|exact ag _|refine bI _ ?_ ?_|refine aS b λ_=> ?_|refine aS c λ_=> ?_)
end Go.Fw
namespace Go.Fw
open Go
def PK(N:Nat)(r:List jn×Rdn×Int×List jn×Bool×Bool×Bool×Bool×Bool×Bool):Prop:=GL N 200000 r.1/\wR r.2.1<=6500000/\GL N 200000 r.2.2.2.1
end Go.Fw
namespace Go.Proofs.Tryz
open Go Go.Fw
attribute [local irreducible] bF bz slc fM be fF cL bS cP ix app aF aH bL cY cm aD cz eI br dq
set_option maxRecDepth 6000
set_option maxHeartbeats 0
def VG(s a:Bs)(H:s.length<=6)(D:a.length<190000)(l:List cM)(F:IN a l)(h:2*l.length<=a.length):OW (qe.1.fn (s,a,(-1),l,(l.length:Int),0,[],[],0,[],false,false,false,false,false,false)) λy:(Int×Int)⊕(List jn×Rdn×Int×List jn×Bool×Bool×Bool×Bool×Bool×Bool)=>∀r,y=.inr r->PK NN r:=by
 have C:=hNN;have n:=hNN;unfold FN at n;refine js _ l.length (λi B=>∃(o j:Int)(g:List jn)(r:Rdn)(x:Int)(h:List jn)(c1 c d e f k:Bool),B=(s,a,o,l,(l.length:Int),j,g,r,x,h,c1,c,d,e,f,k)/\j=(i:Int)/\-1<=o/\GL NN 200000 g/\wR r<=6500000/\GL NN 200000 h) ?_ NN 0 _ (by omega) (by omega) ⟨_,_,_,_,_,_,_,_,_,_,_,_,rfl,rfl,by omega,GL.nil _ _,by decide,GL.nil _ _⟩;rintro G i _ E ⟨o,j,g,r,x,h,c1,c,d,e,f,k,rfl,rfl,z,u,A,w⟩ rec;have m:∀v,OW (some (Sum.inl v):Option ((Int×Int)⊕(List jn×Rdn×Int×List jn×Bool×Bool×Bool×Bool×Bool×Bool))) λy=>∀r,y=.inr r->PK NN r:=λv=>aa λr h=>by cases h
 have b:∀(g:List jn)(r:Rdn) x (h:List jn) c1 c d e f k,GL NN 200000 g->wR r<=6500000->GL NN 200000 h->OW (some (Sum.inr (g,r,x,h,c1,c,d,e,f,k)):Option ((Int×Int)⊕(List jn×Rdn×Int×List jn×Bool×Bool×Bool×Bool×Bool×Bool))) λy=>∀r,y=.inr r->PK NN r:=λg r x h _ _ _ _ _ _ p q t=>aa λr h=>by cases h;exact⟨p,q,t⟩
 have zz:∀(P:Prop)(h:P:=by first|exact m _|exact b _ _ _ _ _ _ _ _ _ _ u A w|((conv=>arg 1;dsimp only);exact rec _ (by omega) ⟨_,_,_,_,_,_,_,_,_,_,_,_,rfl,dD (by omega),by first|omega|(dsimp only;omega),aaX,ahr,aaX⟩)),P:=λ_ h=>h;exact aaY
def aae{α a:Type}{f:α->Option a}{x:α}{Q:a->Prop}(h:OW (f x) Q):OW (LX f x) Q:=by rw[Ro];exact h
def kinds_w(s a:Bs)(d:s.length<=6)(b:a.length<190000):OW (oD.run (s,a)) λr=>r.2.2.2.2.2.2.2.2.2.2.1=0->GL NN 200000 r.1/\wR r.2.1<=6500000/\GL NN 200000 r.2.2.2.1:=by
 refine VJ ?_;have zz:∀(P:Prop)(h:P:=by first|((conv=>arg 1;whnf);exact aa λh=>absurd h (by assumption))|((conv=>arg 1;whnf);refine aae ?_;refine aht (VG s a d b _ (by assumption) (by assumption)) ?_;rintro(⟨i,j⟩|⟨n,o,p,r4,e,f,g,k,l,m⟩) c<;>(conv=>arg 1;whnf)<;>first|exact aa λ_=>c _ rfl|exact aa λ_=>⟨GL.nil _ _,by show wR []<=_;decide,GL.nil _ _⟩)),P:=λ_ h=>h;exact aaY
end Go.Proofs.Tryz
namespace Go.Fw
open Go
def kinds_w(d:FN NN)(s a:Bs)(c:s.length<=6)(b:a.length<190000):OW (CW NN s a) λr=>r.2.2.2.2.2.2.2.2.2.2.1=0->GL NN 200000 r.1/\wR r.2.1<=6500000/\GL NN 200000 r.2.2.2.1:=Go.Proofs.Tryz.kinds_w s a c b
def Xw(a:FN NN)(g:List jn)(r:Rdn)(x:Int)(h:List jn)(c:GL NN 200000 g)(e:wR r<=6500000)(d:GL NN 200000 h):SM (lg NN (g,r,x,h)):=by
 unfold lg gO syv;have b:SM (cY NN (g,r,x,h).2.2.2):=R8 a h _ d (ahS _);refine aS (RO a g r x c e) λ_=> ?_
 repeat (first|exact ag _|refine bI _ ?_ ?_|refine aS b λ_=> ?_|refine aS (ag _) λ_=> ?_)
def aaf(b:FN NN)(a:Bs)(h:a.length<190000):SM (lh NN a):=by
 unfold lh syv;refine aj (kinds_w b _ a (by decide) h) ?_;rintro⟨j,k,l,r4,m,n,p,q,r,s,e,o⟩ c;dsimp only at c⊢;refine oQ (λ_=>aa trivial) λi=> ?_;obtain⟨d,f,g⟩:=c i;exact jd (Xw b j k l r4 d f g) λ_=>mX (k_c _ (aa trivial) (aa trivial))
def Xx(b:FN NN)(a:Bs)(k:a.length<190000):SM (gv NN a):=by
 have d:=b;unfold FN at d;unfold gv syv;refine rY b (by omega) (λe o f=> ?_) λl g h=> ?_
 ·dsimp only;rw[qE f];exact aa trivial
 ·dsimp only;refine oQ (λh=>absurd rfl h) λ_=>jd ?_ λy=> ?_
  ·unfold il syv;refine js _ l.length (λi s=>∃j c,s=(a,l,(l.length:Int),j,c)/\j=(i:Int)/\c.length<=i) ?_ NN 0 _ (by omega) (by omega) ⟨_,_,rfl,rfl,by simp⟩;rintro G i _ n ⟨j,c,rfl,rfl,m⟩ rec;dsimp only;refine dj (λ_=> ?_) (λ_=>aa trivial);refine wo g (by omega) (by omega) λe _ _ _ _ _=>qS (by omega) (by omega) (by omega) λx p _=>VY (aaf b x (by omega)) λ_ _ _=> ?_
   (have zz:∀(P:Prop)(h:P:=by exact rec _ (by omega) ⟨_,_,rfl,dD (by omega),by omega⟩),P:=λ_ h=>h;exact dH)
  ·rcases y with⟨i,j⟩|⟨x,y⟩
   ·exact ag _
   ·(have zz:∀(P:Prop)(h:P:=by exact trivial),P:=λ_ h=>h;exact dH)
def VH(b:FN NN)(a:Bs)(h:a.length<190000):SM (fN NN a):=by
 unfold fN syv;refine aj (kinds_w b _ a (by decide) h) ?_;rintro⟨j,k,l,r4,m,n,p,q,r,s,e,o⟩ c;dsimp only at c⊢;refine oQ (λ_=>aa trivial) λi=> ?_;obtain⟨d,f,t⟩:=c i;refine jd ?_ λ_=>mX (k_c _ (aa trivial) (aa trivial));unfold ij gO syv;dsimp only;have g:=RO b j k l d f
 repeat (first|with_reducible exact aa trivial|with_reducible refine DD ?_|with_reducible refine ly ?_|with_reducible refine k_c _ ?_ ?_|with_reducible refine jd g λ_=> ?_|dsimp only)
end Go.Fw
namespace Go.Fw
open Go
def QI(B:Nat)(q:List (Bs×Bs)):Prop:=∀x∈q,x.1.length<=21*(B+1)/\x.2.length<=B
def MI(B:Nat)(q:List (Bs×Bs)):Prop:=∀x∈q,x.1.length<=21*(B+1)/\x.2.length<=21*(B+1)
def PI(B:Nat)(p:List (Bs×List (Bs×Bs))):Prop:=∀x∈p,x.1.length<=21*(B+1)/\QI B x.2/\x.2.length<=B
def QI.nil(B:Nat):QI B []:=λ_ h=>by cases h
variable{Z:Nat}
def QI.snoc{q l:List (Bs×Bs)}{s t:Bs}(h:QI Z q)(e:l=q++[(s,t)])(b:s.length<=21*(Z+1))(c:t.length<=Z):QI Z l:=by
 subst e;intro x a;rcases aiv.1 a with a|a
 ·exact h x a
 ·rw[aiN.1 a];exact⟨b,c⟩
def MI.snoc{q l:List (Bs×Bs)}{s t:Bs}(h:MI Z q)(e:l=q++[(s,t)])(b:s.length<=21*(Z+1))(c:t.length<=21*(Z+1)):MI Z l:=by
 subst e;intro x a;rcases aiv.1 a with a|a
 ·exact h x a
 ·rw[aiN.1 a];exact⟨b,c⟩
def PI.snoc{q l:List (Bs×List (Bs×Bs))}{s:Bs}{t:List (Bs×Bs)}(h:PI Z q)(e:l=q++[(s,t)])(c:s.length<=21*(Z+1))(d:QI Z t)(b:t.length<=Z):PI Z l:=by
 subst e;intro x a;rcases aiv.1 a with a|a
 ·exact h x a
 ·rw[aiN.1 a];exact⟨c,d,b⟩
def aaH{N:Nat}(b:FN N)(a:Bs)(c:a.length<9000000):SM (jS N a):=by
 unfold jS syv
 (have zz:∀(P:Prop)(h:P:=by exact trivial),P:=λ_ h=>h;exact dH)
def NI{N:Nat}(a:FN N)(s:Bs)(b:s.length<10000000):SM (eP N s):=yO (BR a s b)
def aeY{N:Nat}(D:FN N)(B:Nat)(J:B<190000)(x:Bs)(M:x.length<=B)(l:List cM)(L:IN x l)(I:2*l.length<=x.length)(p:List (Bs×List (Bs×Bs)))(e a2:Int)(a3:Bool)(a4 a5 f:Int)(s:Bs)(q:List (Bs×Bs))(g d2:Int)(k:Bool)(m n o r t:Int)(w:Bool)(z A C:Int):
 OW (jw N N (x,l,(l.length:Int),0,p,e,a2,a3,a4,a5,f,s,q,g,d2,k,m,n,o,r,t,w,z,A,C,[],[])) λy=>match y with
  |.inl (b,_,_,_,_,_,_,d,c,_,_,_,_,_,_,_,_,_,_,_,_,u,v,_,_)=>b=p/\d=s/\c=q/\u.length<=21*(B+1)/\v.length<=B
  |.inr (b,_,_,_,_,_,_,d,c,_,_,_,_,_,_,_,_,_,_,_,_,u,v)=>b=p/\d=s/\c=q/\u.length<=21*(B+1)/\v.length<=B:=by
 have a:=D;unfold FN at a;unfold jw syv;refine js _ l.length (λi H=>∃j u v,H=(x,l,(l.length:Int),j,p,e,a2,a3,a4,a5,f,s,q,g,d2,k,m,n,o,r,t,w,z,A,C,u,v)/\j=(i:Int)/\u.length<=21*(B+1)/\v.length<=B) ?_ N 0 _ (by omega) (by omega) ⟨_,_,_,rfl,rfl,by simp,by simp⟩;rintro G i _ K ⟨j,u,v,rfl,rfl,E,F⟩ rec;dsimp only;unfold gV jS syv;refine dj (λ_=> ?_) λ_=>aa ⟨rfl,rfl,rfl,E,F⟩
 (have zz:∀(P:Prop)(h:P:=by exact by first|exact rec _ (by omega) ⟨_,_,_,rfl,dD (by omega),by omega,by omega⟩|exact aa ⟨rfl,rfl,rfl,by omega,by omega⟩),P:=λ_ h=>h;exact dH)
def aeZ{N:Nat}(D:FN N)(B:Nat)(W:B<190000)(x:Bs)(hx:x.length<=B)(l:List cM)(X:IN x l)(h2:2*l.length<=x.length)(p:List (Bs×List (Bs×Bs)))(c a2:Int)(a3:Bool)(a4 a5 d:Int)(s:Bs)(q:List (Bs×Bs))(Y:QI B q)(Z:q.length<=B)(f d2:Int)(g:Bool)(k m n:Int):
 OW (jy N N (x,l,(l.length:Int),0,p,c,a2,a3,a4,a5,d,s,q,f,d2,g,k,m,n)) λy=>match y with
  |.inl (t,_,_,_,_,_,_,w,b,_,_,_,_,_,_,_,_)=>t=p/\w=s/\QI B b/\b.length<=q.length+l.length
  |.inr (t,_,_,_,_,_,_,w,b,_,_,_,_,_,_)=>t=p/\w=s/\QI B b/\b.length<=q.length+l.length:=by
 have E:=D;unfold FN at E;unfold jy syv;refine js _ l.length (λi st=>∃j c a2 a3 a4 a5 d r f d2 g k m n,st=(x,l,(l.length:Int),j,p,c,a2,a3,a4,a5,d,s,r,f,d2,g,k,m,n)/\j=(i:Int)/\QI B r/\r.length<=q.length+i) ?_ N 0 _ (by omega) (by omega) ⟨_,_,_,_,_,_,_,_,_,_,_,_,_,_,rfl,rfl,Y,by omega⟩;rintro G i _ hi ⟨j,c,a2,a3,a4,a5,d,r,f,d2,g,k,m,n,rfl,rfl,a,j3⟩ rec;dsimp only;unfold gV syv;refine dj (λ_=> ?_) λ_=>aa ⟨rfl,rfl,a,by omega⟩;refine wo X (by omega) (by omega) λe _ _ _ _ _=>qS (by omega) (by omega) (by omega) λz hz _=> ?_;refine rY D (by omega) (λe o he=> ?_) λl2 F V=> ?_
 ·dsimp only
  (have zz:∀(P:Prop)(h:P:=by exact by first|exact rec _ (by omega) ⟨_,_,_,_,_,_,_,_,_,_,_,_,_,_,rfl,dD (by omega),QI.snoc a (by assumption) (by simp) (by simp),by omega⟩|exact aa ⟨rfl,rfl,QI.snoc a (by assumption) (by simp) (by simp),by omega⟩),P:=λ_ h=>h;exact dH)
 ·dsimp only;refine oQ (λh=>absurd rfl h) λ_=> ?_;refine dj (λ_=> ?_) λ_=>dj (λ_=> ?_) λ_=> ?_
  ·(have zz:∀(P:Prop)(h:P:=by exact by first|exact rec _ (by omega) ⟨_,_,_,_,_,_,_,_,_,_,_,_,_,_,rfl,dD (by omega),QI.snoc a (by assumption) (by simp) (by simp),by omega⟩|exact aa ⟨rfl,rfl,QI.snoc a (by assumption) (by simp) (by simp),by omega⟩),P:=λ_ h=>h;exact dH)
  ·(have zz:∀(P:Prop)(h:P:=by exact by first|exact rec _ (by omega) ⟨_,_,_,_,_,_,_,_,_,_,_,_,_,_,rfl,dD (by omega),QI.snoc a (by assumption) (by simp) (by simp),by omega⟩|exact aa ⟨rfl,rfl,QI.snoc a (by assumption) (by simp) (by simp),by omega⟩),P:=λ_ h=>h;exact dH)
  ·refine aj (aeY D B W z (by omega) l2 F V p c a2 a3 a4 a5 d s r f d2 g k m n _ _ _ _ _ _) ?_;rintro(⟨t,H,I,J,K,L,M,w,b,O,Q,R,S,T,U,i1,i2,i3,i4,i5,i6,u,v,o1,o2⟩|⟨t,H,I,J,K,L,M,w,b,O,Q,R,S,T,U,i1,i2,i3,i4,i5,i6,u,v⟩) ⟨rfl,rfl,rfl,A,C⟩
   ·dsimp only
    (have zz:∀(P:Prop)(h:P:=by exact by first|exact rec _ (by omega) ⟨_,_,_,_,_,_,_,_,_,_,_,_,_,_,rfl,dD (by omega),QI.snoc a (by assumption) A C,by omega⟩|exact aa ⟨rfl,rfl,QI.snoc a (by assumption) A C,by omega⟩),P:=λ_ h=>h;exact dH)
   ·dsimp only
    (have zz:∀(P:Prop)(h:P:=by exact by first|exact rec _ (by omega) ⟨_,_,_,_,_,_,_,_,_,_,_,_,_,_,rfl,dD (by omega),QI.snoc a (by assumption) A C,by omega⟩|exact aa ⟨rfl,rfl,QI.snoc a (by assumption) A C,by omega⟩),P:=λ_ h=>h;exact dH)
end Go.Fw
namespace Go.Fw
open Go
def ae1{d:Type}{Q:d->Prop}{N:Nat}(i:FN N){a:Bs}(p:a.length<9000000){f:List cM×Int×Int->Option d}(g:∀e o,e≠0->OW (f ([],e,o)) Q)(h:∀l b,eT (EL a) b l->(au b).length<a.length->OW (f (l,0,0)) Q):OW ((aF N a 0 16).bind f) Q:=by
 refine aj (VL (tk i a (by omega) 0 16) (Fu N a _ _)) ?_;rintro⟨l,e,o⟩ ⟨⟨j,b,c,_,_,k,m⟩|⟨c,_⟩,n⟩
 ·cases j;exact h l b m (by rw[k];exact kH)
 ·obtain rfl:l=[]:=n c;exact g e o c
def aaI(a:List TLV)(i:Nat)(t:TLV)(h:a[i]?=some t):(mB (a.take (i+1))).sum=(mB (a.take i)).sum+(ai t).length/\(mB (a.take (i+1))).sum<=(au a).length:=by
 constructor
 ·rw[OF a i t h,alD];simp
 ·have b:mB (a.take (i+1))=(mB a).take (i+1):=by unfold mB;rw[List.map_take]
  rw[b,<-AP a];exact Ft _ _
set_option maxHeartbeats 1000000 in
def ae2{N:Nat}(r:FN N)(B:Nat)(W:B<190000)(x:Bs)(hx:x.length<=B)(l:List cM)(c:List TLV)(D:eT (EL x) c l)(hs:(au c).length<x.length)(p:List (Bs×List (Bs×Bs)))(d a2:Int)(a3:Bool)(a4 a5 f:Int):
 OW (jz N N (x,l,(l.length:Int),0,p,d,a2,a3,a4,a5,f,[],[])) λy=>match y with
  |.inl (m,_,_,_,_,_,_,n,b,_,_)=>m=p/\n.length<=21*(B+1)/\QI B b/\b.length<=B
  |.inr (m,_,_,_,_,_,_,n,b)=>m=p/\n.length<=21*(B+1)/\QI B b/\b.length<=B:=by
 have u:=r;unfold FN at u;have E:c.length=l.length:=D.length;have Y:=jb c;unfold jz syv;refine js _ l.length (λi st=>∃j d a2 a3 a4 a5 f s q,st=(x,l,(l.length:Int),j,p,d,a2,a3,a4,a5,f,s,q)/\j=(i:Int)/\s.length<=21*(B+1)/\QI B q/\q.length<=(mB (c.take i)).sum/\q.length<=B) ?_ N 0 _ (by omega) (by omega) ⟨_,_,_,_,_,_,_,_,_,rfl,rfl,by simp,QI.nil _,by simp,by simp⟩;rintro G i _ hi ⟨j,d,a2,a3,a4,a5,f,s,q,rfl,rfl,A,a,j3,g⟩ rec;dsimp only;unfold gV syv;refine dj (λ_=> ?_) λ_=>aa ⟨rfl,A,a,g⟩;obtain⟨t,e,F,v,X⟩:=D.get1 (i:=i) (by omega);have Z:=ko c t (aik F);obtain⟨k,C⟩:=aaI c i t F;refine Mp (de v) ?_;rw[X.whole];refine ly ?_;generalize ai t=z at Z k⊢;refine HT (λ_=> ?_) λ_=> ?_
 ·(have zz:∀(P:Prop)(h:P:=by exact by first|exact rec _ (by omega) ⟨_,_,_,_,_,_,_,_,_,rfl,dD (by omega),by omega,a,by omega,by omega⟩|exact aa ⟨rfl,by omega,a,by omega⟩),P:=λ_ h=>h;exact dH)
 ·refine rY r (by omega) (λ_ _ _=> ?_) λl2 w V=> ?_
  ·dsimp only
   (have zz:∀(P:Prop)(h:P:=by exact by first|exact rec _ (by omega) ⟨_,_,_,_,_,_,_,_,_,rfl,dD (by omega),by omega,a,by omega,by omega⟩|exact aa ⟨rfl,by omega,a,by omega⟩),P:=λ_ h=>h;exact dH)
  ·dsimp only;refine oQ (λh=>absurd rfl h) λ_=> ?_;refine dj (λ_=> ?_) λ_=>dj (λ_=> ?_) λ_=> ?_
   ·(have zz:∀(P:Prop)(h:P:=by exact by first|exact rec _ (by omega) ⟨_,_,_,_,_,_,_,_,_,rfl,dD (by omega),by omega,a,by omega,by omega⟩|exact aa ⟨rfl,by omega,a,by omega⟩),P:=λ_ h=>h;exact dH)
   ·(have zz:∀(P:Prop)(h:P:=by exact by first|exact rec _ (by omega) ⟨_,_,_,_,_,_,_,_,_,rfl,dD (by omega),by omega,a,by omega,by omega⟩|exact aa ⟨rfl,by omega,a,by omega⟩),P:=λ_ h=>h;exact dH)
   ·refine aj (aeZ r B W z (by omega) l2 w V p d a2 a3 a4 a5 f s q a g _ _ _ _ _ _) ?_;rintro(⟨m,H,I,J,K,L,M,n,b,O,Q,R,S,T,U,o1,o2⟩|⟨m,H,I,J,K,L,M,n,b,O,Q,R,S,T,U⟩) ⟨rfl,rfl,o,hv⟩
    ·dsimp only
     (have zz:∀(P:Prop)(h:P:=by exact by first|exact rec _ (by omega) ⟨_,_,_,_,_,_,_,_,_,rfl,dD (by omega),by omega,o,by omega,by omega⟩|exact aa ⟨rfl,by omega,o,by omega⟩),P:=λ_ h=>h;exact dH)
    ·dsimp only
     (have zz:∀(P:Prop)(h:P:=by exact by first|exact rec _ (by omega) ⟨_,_,_,_,_,_,_,_,_,rfl,dD (by omega),by omega,o,by omega,by omega⟩|exact aa ⟨rfl,by omega,o,by omega⟩),P:=λ_ h=>h;exact dH)
def ae3{N:Nat}(g:FN N)(B:Nat)(v:B<190000)(x:Bs)(K:x.length<=B)(l:List cM)(w:IN x l)(I:2*l.length<=x.length):
 OW (jA N N (x,l,(l.length:Int),0,[])) λy=>match y with
  |.inl (b,_,_)=>PI B b/\b.length<=B
  |.inr b=>PI B b/\b.length<=B:=by
 have k:=g;unfold FN at k;unfold jA syv;refine js _ l.length (λi F=>∃j p,F=(x,l,(l.length:Int),j,p)/\j=(i:Int)/\PI B p/\p.length<=i) ?_ N 0 _ (by omega) (by omega) ⟨_,_,rfl,rfl,(λ_ h=>by cases h),by simp⟩;rintro G i _ J ⟨j,p,rfl,rfl,a,A⟩ rec;dsimp only;unfold gV syv;refine dj (λ_=> ?_) λ_=>aa ⟨a,by omega⟩;refine wo w (by omega) (by omega) λe _ _ _ _ _=>qS (by omega) (by omega) (by omega) λz L _=> ?_;refine ae1 g (by omega) (λ_ _ _=> ?_) λC H m u=> ?_
 ·dsimp only
  (have zz:∀(P:Prop)(h:P:=by exact by first|exact rec _ (by omega) ⟨_,_,rfl,dD (by omega),PI.snoc a (by assumption) (by simp) (QI.nil _) (by simp),by omega⟩|exact aa ⟨PI.snoc a (by assumption) (by simp) (QI.nil _) (by simp),by omega⟩),P:=λ_ h=>h;exact dH)
 ·dsimp only;refine oQ (λh=>absurd rfl h) λ_=> ?_;refine dj (λ_=> ?_) λ_=>dj (λ_=> ?_) λ_=> ?_
  ·(have zz:∀(P:Prop)(h:P:=by exact by first|exact rec _ (by omega) ⟨_,_,rfl,dD (by omega),PI.snoc a (by assumption) (by simp) (QI.nil _) (by simp),by omega⟩|exact aa ⟨PI.snoc a (by assumption) (by simp) (QI.nil _) (by simp),by omega⟩),P:=λ_ h=>h;exact dH)
  ·(have zz:∀(P:Prop)(h:P:=by exact by first|exact rec _ (by omega) ⟨_,_,rfl,dD (by omega),PI.snoc a (by assumption) (by simp) (QI.nil _) (by simp),by omega⟩|exact aa ⟨PI.snoc a (by assumption) (by simp) (QI.nil _) (by simp),by omega⟩),P:=λ_ h=>h;exact dH)
  ·refine aj (ae2 g B v z (by omega) C H m u p _ _ _ _ _ _) ?_;rintro(⟨b,n,o,q,r,s,t,E,D,M,O⟩|⟨b,n,o,q,r,s,t,E,D⟩) ⟨rfl,c,d,f⟩
   ·dsimp only
    (have zz:∀(P:Prop)(h:P:=by exact by first|exact rec _ (by omega) ⟨_,_,rfl,dD (by omega),PI.snoc a (by assumption) c d f,by omega⟩|exact aa ⟨PI.snoc a (by assumption) c d f,by omega⟩),P:=λ_ h=>h;exact dH)
   ·dsimp only
    (have zz:∀(P:Prop)(h:P:=by exact by first|exact rec _ (by omega) ⟨_,_,rfl,dD (by omega),PI.snoc a (by assumption) c d f,by omega⟩|exact aa ⟨PI.snoc a (by assumption) c d f,by omega⟩),P:=λ_ h=>h;exact dH)
def PA{a α:Type}{Q:a->Prop}{l:List α}{i:Int}{f:α->Option a}(b:0<=i)(c:i<(l.length:Int))(k:∀e∈l,OW (f e) Q):OW ((ix l i).bind f) Q:=aj (xL b c) λe d=>k e d.2
def aaJ{N:Nat}(a:FN N)(B:Nat)(g:B<190000)(q:List (Bs×Bs))(d:QI B q)(k:q.length<=B):SM (aY N q):=by
 have b:=a;unfold FN at b;unfold aY bJ syv;refine jd (jd ?_ λy=>by cases y<;>exact aa trivial) λ_=>aa trivial;unfold bw syv;refine js _ q.length (λi f=>∃j,f=(q,(q.length:Int),j)/\j=(i:Int)) ?_ N 0 _ (by omega) (by omega) ⟨_,rfl,rfl⟩;rintro G i _ h ⟨j,rfl,rfl⟩ rec;dsimp only;refine dj (λ_=> ?_) λ_=>aa trivial;refine PA (by omega) (by omega) λe c=> ?_;have:=d e c;unfold kh syv;refine jd (jd (NI a _ (by omega)) λ_=>mX (k_c _ (jd (aaH a _ (by omega)) λ_=>aa trivial) (aa trivial))) λ_=>k_c _ (aa trivial) ?_;exact rec _ (by omega) ⟨_,rfl,dD (by omega)⟩
def NJ{N:Nat}(a:FN N)(B:Nat)(c:B<190000)(p:List (Bs×List (Bs×Bs)))(f:PI B p)(k:p.length<=B):SM (lC N p):=by
 have b:=a;unfold FN at b;unfold lC syv;refine jd ?_ λy=>by cases y<;>exact aa trivial
 unfold kW syv;refine js _ p.length (λi g=>∃j r,g=(p,p,(p.length:Int),j,r)/\j=(i:Int)) ?_ N 0 _ (by omega) (by omega) ⟨_,_,rfl,rfl⟩;rintro G i _ h ⟨j,r,rfl,rfl⟩ rec;dsimp only;refine dj (λ_=> ?_) λ_=>aa trivial;refine PA (by omega) (by omega) λe d=> ?_;have:=f e d;refine jd (NI a _ (by omega)) λ_=>mX (k_c _ ?_ (aa trivial));refine k_c _ (aa trivial) (jd (aaJ a B c _ this.2.1 this.2.2) λ_=>k_c _ (aa trivial) ?_);exact rec _ (by omega) ⟨_,_,rfl,dD (by omega)⟩
def X8{N:Nat}(c:FN N)(a:Bs)(d:a.length<190000):SM (kw N a):=by
 have b:=NJ c a.length d [] (λ_ h=>by cases h) (by simp);unfold kw gV syv;refine rY c (by omega) (λ_ _ _=> ?_) λl j h=> ?_
 ·dsimp only
  (have zz:∀(P:Prop)(h:P:=by exact jd b λ_=>by(have zz:∀(P:Prop)(h:P:=by exact trivial),P:=λ_ h=>h;exact dH)),P:=λ_ h=>h;exact dH)
 ·dsimp only;refine oQ (λh=>absurd rfl h) λ_=>dj (λ_=> ?_) λ_=>dj (λ_=> ?_) λ_=> ?_
  ·(have zz:∀(P:Prop)(h:P:=by exact jd b λ_=>by(have zz:∀(P:Prop)(h:P:=by exact trivial),P:=λ_ h=>h;exact dH)),P:=λ_ h=>h;exact dH)
  ·(have zz:∀(P:Prop)(h:P:=by exact jd b λ_=>by(have zz:∀(P:Prop)(h:P:=by exact trivial),P:=λ_ h=>h;exact dH)),P:=λ_ h=>h;exact dH)
  ·refine aj (ae3 c a.length d a (ahS _) l j h) ?_;rintro(⟨p,e,o⟩|p) ⟨g,i⟩
   ·have f:=NJ c a.length d p g i;dsimp only
    (have zz:∀(P:Prop)(h:P:=by exact jd f λ_=>by(have zz:∀(P:Prop)(h:P:=by exact trivial),P:=λ_ h=>h;exact dH)),P:=λ_ h=>h;exact dH)
   ·have f:=NJ c a.length d p g i;dsimp only
    (have zz:∀(P:Prop)(h:P:=by exact jd f λ_=>by(have zz:∀(P:Prop)(h:P:=by exact trivial),P:=λ_ h=>h;exact dH)),P:=λ_ h=>h;exact dH)
def ae4{N:Nat}(e:FN N)(B:Nat)(n:B<190000)(x:Bs)(r:x.length<=B)(l:List cM)(q:IN x l)(m:2*l.length<=x.length)(p:List (Bs×Bs))(c a2:Int)(a3:Bool)(a4 a5 d:Int):
 OW (fO N N (x,l,(l.length:Int),0,p,c,a2,a3,a4,a5,d,[],[])) λy=>match y with
  |.inl (b,_,_,_,_,_,_,u,v,_,_)=>b=p/\u.length<=21*(B+1)/\v.length<=21*(B+1)
  |.inr (b,_,_,_,_,_,_,u,v)=>b=p/\u.length<=21*(B+1)/\v.length<=21*(B+1):=by
 have a:=e;unfold FN at a;unfold fO syv;refine js _ l.length (λi k=>∃j u v,k=(x,l,(l.length:Int),j,p,c,a2,a3,a4,a5,d,u,v)/\j=(i:Int)/\u.length<=21*(B+1)/\v.length<=21*(B+1)) ?_ N 0 _ (by omega) (by omega) ⟨_,_,_,rfl,rfl,by simp,by simp⟩;rintro G i _ o ⟨j,u,v,rfl,rfl,f,g⟩ rec;dsimp only;unfold gV syv;refine dj (λ_=> ?_) λ_=>aa ⟨rfl,f,g⟩
 (have zz:∀(P:Prop)(h:P:=by exact by first|exact rec _ (by omega) ⟨_,_,_,rfl,dD (by omega),by omega,by omega⟩|exact aa ⟨rfl,by omega,by omega⟩),P:=λ_ h=>h;exact dH)
def ae5{N:Nat}(f:FN N)(B:Nat)(w:B<190000)(x:Bs)(I:x.length<=B)(l:List cM)(A:IN x l)(F:2*l.length<=x.length):
 OW (fP N N (x,l,(l.length:Int),0,[])) λy=>match y with
  |.inl (b,_,_)=>MI B b/\b.length<=B
  |.inr b=>MI B b/\b.length<=B:=by
 have g:=f;unfold FN at g;unfold fP syv;refine js _ l.length (λi E=>∃j p,E=(x,l,(l.length:Int),j,p)/\j=(i:Int)/\MI B p/\p.length<=i) ?_ N 0 _ (by omega) (by omega) ⟨_,_,rfl,rfl,(λ_ h=>by cases h),by simp⟩;rintro G i _ H ⟨j,p,rfl,rfl,a,C⟩ rec;dsimp only;unfold gV syv;refine dj (λ_=> ?_) λ_=>aa ⟨a,by omega⟩;refine wo A (by omega) (by omega) λe _ _ _ _ _=>qS (by omega) (by omega) (by omega) λz J _=> ?_;refine rY f (by omega) (λ_ _ _=> ?_) λD k t=> ?_
 ·dsimp only
  (have zz:∀(P:Prop)(h:P:=by exact by first|exact rec _ (by omega) ⟨_,_,rfl,dD (by omega),MI.snoc a (by assumption) (by simp) (by simp),by omega⟩|exact aa ⟨MI.snoc a (by assumption) (by simp) (by simp),by omega⟩),P:=λ_ h=>h;exact dH)
 ·dsimp only;refine oQ (λh=>absurd rfl h) λ_=> ?_;refine dj (λ_=> ?_) λ_=>dj (λ_=> ?_) λ_=> ?_
  ·(have zz:∀(P:Prop)(h:P:=by exact by first|exact rec _ (by omega) ⟨_,_,rfl,dD (by omega),MI.snoc a (by assumption) (by simp) (by simp),by omega⟩|exact aa ⟨MI.snoc a (by assumption) (by simp) (by simp),by omega⟩),P:=λ_ h=>h;exact dH)
  ·(have zz:∀(P:Prop)(h:P:=by exact by first|exact rec _ (by omega) ⟨_,_,rfl,dD (by omega),MI.snoc a (by assumption) (by simp) (by simp),by omega⟩|exact aa ⟨MI.snoc a (by assumption) (by simp) (by simp),by omega⟩),P:=λ_ h=>h;exact dH)
  ·refine aj (ae4 f B w z (by omega) D k t p _ _ _ _ _ _) ?_;rintro(⟨b,m,n,o,q,r,s,u,v,K,L⟩|⟨b,m,n,o,q,r,s,u,v⟩) ⟨rfl,c,d⟩
   ·dsimp only
    (have zz:∀(P:Prop)(h:P:=by exact by first|exact rec _ (by omega) ⟨_,_,rfl,dD (by omega),MI.snoc a (by assumption) c d,by omega⟩|exact aa ⟨MI.snoc a (by assumption) c d,by omega⟩),P:=λ_ h=>h;exact dH)
   ·dsimp only
    (have zz:∀(P:Prop)(h:P:=by exact by first|exact rec _ (by omega) ⟨_,_,rfl,dD (by omega),MI.snoc a (by assumption) c d,by omega⟩|exact aa ⟨MI.snoc a (by assumption) c d,by omega⟩),P:=λ_ h=>h;exact dH)
def NL{N:Nat}(c:FN N)(B:Nat)(k:B<190000)(p:List (Bs×Bs))(f:MI B p)(m:p.length<=B):SM (gF N p):=by
 have a:=c;unfold FN at a;unfold gF syv;refine dj (λ_=>jd ?_ λy=>by cases y<;>exact aa trivial) λ_=>aa trivial;have b:∀s:Bs,s.length<10000000->SM (gm N s):=λs g=>by
  unfold gm syv;exact jd (NI c s g) λ_=>k_c _ (aa trivial) (aa trivial)
 unfold gI syv;refine js _ p.length (λi h=>∃j,h=(p,(p.length:Int),j)/\j=(i:Int)) ?_ N 0 _ (by omega) (by omega) ⟨_,rfl,rfl⟩;rintro G i _ l ⟨j,rfl,rfl⟩ rec;dsimp only;refine dj (λ_=> ?_) λ_=>aa trivial;refine PA (by omega) (by omega) λe d=> ?_;have:=f e d;refine jd (b _ (by omega)) λ_=>mX (k_c _ (jd (b _ (by omega)) λ_=>mX (k_c _ ?_ (aa trivial))) (aa trivial));exact rec _ (by omega) ⟨_,rfl,dD (by omega)⟩
def V1{N:Nat}(c:FN N)(a:Bs)(d:a.length<190000):SM (fV N a):=by
 have b:=NL c a.length d [] (λ_ h=>by cases h) (by simp);unfold fV gV syv;refine rY c (by omega) (λ_ _ _=> ?_) λl j h=> ?_
 ·dsimp only
  (have zz:∀(P:Prop)(h:P:=by exact jd b λ_=>by(have zz:∀(P:Prop)(h:P:=by exact trivial),P:=λ_ h=>h;exact dH)),P:=λ_ h=>h;exact dH)
 ·dsimp only;refine oQ (λh=>absurd rfl h) λ_=>dj (λ_=> ?_) λ_=>dj (λ_=> ?_) λ_=> ?_
  ·(have zz:∀(P:Prop)(h:P:=by exact jd b λ_=>by(have zz:∀(P:Prop)(h:P:=by exact trivial),P:=λ_ h=>h;exact dH)),P:=λ_ h=>h;exact dH)
  ·(have zz:∀(P:Prop)(h:P:=by exact jd b λ_=>by(have zz:∀(P:Prop)(h:P:=by exact trivial),P:=λ_ h=>h;exact dH)),P:=λ_ h=>h;exact dH)
  ·refine aj (ae5 c a.length d a (ahS _) l j h) ?_;rintro(⟨p,e,o⟩|p) ⟨g,i⟩
   ·have f:=NL c a.length d p g i;dsimp only
    (have zz:∀(P:Prop)(h:P:=by exact jd f λ_=>by(have zz:∀(P:Prop)(h:P:=by exact trivial),P:=λ_ h=>h;exact dH)),P:=λ_ h=>h;exact dH)
   ·have f:=NL c a.length d p g i;dsimp only
    (have zz:∀(P:Prop)(h:P:=by exact jd f λ_=>by(have zz:∀(P:Prop)(h:P:=by exact trivial),P:=λ_ h=>h;exact dH)),P:=λ_ h=>h;exact dH)
end Go.Fw
namespace Go.Fw
open Go
def T8{a α:Type}{Q:a->Prop}{x:Option α}{f:α->Option a}(h:OW (x.bind f) Q):OW (agree (List.replicate 2 x) f) Q:=by
 rw[show List.replicate 2 x=List.replicate (1+1) x from rfl,nI];exact h
def ahw{α:Type}{i:Int}{s:Bs}{c:Bool}{p:Option (α×Int×Int)}{f}(h:SM p)(k:∀l v,SM (f l v)):SM (wy i s c p f):=by
 unfold wy;refine T8 (aj (aS h λa=> ?_) λ_ _=>k_c _ (ag _) (ag _));exact bI _ (k _ _) (ag _)
def agn{i:Int}{s:Bs}{c:Bool}{f:Unit->Int×Int->_}(h:False):SM (wy i s c none f):=h.elim
def ac0(b:Bs)(h:b.length<190000):SM (cw b):=by
 unfold cw syv;exact wq (by omega) (ag _)
def Ms(s:Bs):∀(b:List Bs)(a:List Int),tj s b a∈0::a
 |[],_=>by simp[tj]
 |_::_,[]=>by simp[tj]
 |i::b,n::a=>by
  have:=Ms s b a;unfold tj;split
  ·simp
  ·simp only[aib]at this⊢;exact this.imp id .inr
def X9(s:Bs):BM s∈0::Fk:=by
 unfold BM;split
 ·simp
 ·exact Ms s _ _
set_option maxHeartbeats 8000000 in
set_option maxRecDepth 100000 in
def Ya(a:FN NN)(v:gn)(d:v.1.length<10000000)(e:v.2.2.length<190000):SM (jC NN v):=by
 unfold jC;rw[OB a v d,ahI,xz,ahI];obtain⟨s,c,b⟩:=v;dsimp only at d e⊢;refine mX (k_c _ ?_ (aa trivial));have f:=X9 s;generalize BM s=k at f⊢;refine aj (R:=λt=>t.2.2.1=b/\t.2.2.2.1=k) (by cases k==0<;>exact aa ⟨rfl,rfl⟩) ?_;rintro⟨_,_,_,_,i,g⟩ ⟨rfl,rfl⟩;dsimp only at e f⊢
 repeat first
  |(refine az (λh=>ahw (by first
   |with_reducible exact X5 a _ (by omega)
   |with_reducible exact VZ a _ (by omega)
   |with_reducible exact aax a _ (by omega)
   |with_reducible exact O9 a _ (by omega)
   |with_reducible exact NF a _ (by omega)
   |with_reducible exact acV a _ (by omega)
   |with_reducible exact VV a _ (by omega)
   |with_reducible exact aav a _ (by omega)
   |with_reducible exact VU a _ (by omega)
   |with_reducible exact VH a _ (by omega)
   |with_reducible exact Xx a _ (by omega)
   |with_reducible exact X8 a _ (by omega)
   |with_reducible exact V1 a _ (by omega)
   |with_reducible exact VF a _ (by omega)
   |with_reducible exact aay a _ (by omega)
   |with_reducible exact ST a _ (by omega)
   |with_reducible exact ac0 _ (by omega)
   |with_reducible exact Py (R7 a _ (by omega))
   |exact Go.Proofs.Tryz.keyid_sm0 _ (by omega)) λ_ _=>by first
   |exact ag _
   |exact T8 (ag _)) λh=> ?_)
  |refine agn ?_
 simp_all[Fk]
def ae6(b:FN NN)(l:List gn)(o:l.length<10000000)(h:∀v∈l,v.1.length<10000000/\v.2.2.length<190000):SM (mH NN l):=by
 have a:=b;unfold FN at a;unfold mH syv;refine jd ?_ λy=>by cases y<;>exact aa trivial
 unfold mq syv;refine js _ l.length (λi k=>∃j c,k=(l,(l.length:Int),j,c)/\j=(i:Int)/\c.length<=i) ?_ NN 0 _ (by omega) (by omega) ⟨_,_,rfl,rfl,by simp⟩;rintro G i _ n ⟨j,c,rfl,rfl,m⟩ rec;dsimp only;refine dj (λ_=> ?_) λ_=>aa trivial;refine PA (by omega) (by omega) λe f=> ?_;have:=h e f;refine VY (Ya b e this.1 this.2) λ_ _ _=> ?_;dsimp only;refine oQ (λ_=>aa trivial) λ_=> ?_;refine aj (R:=λd=>d.length=c.length+1) ?_ λd g=>rec _ (by omega) ⟨_,_,rfl,dD (by omega),by omega⟩;unfold app;rw[ah2 (by unfold cH;simp only[ajg];omega)];exact aa (by simp)
end Go.Fw
