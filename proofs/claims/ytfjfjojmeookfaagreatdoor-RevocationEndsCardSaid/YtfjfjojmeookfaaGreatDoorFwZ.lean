/- A framework for proofs about Go programs in this model: part Z. Everything is proved; no condition is added. -/
import Derived.Lib.TrimU
import Derived.Test.YtfjfjojmeookfaaGreatDoorFwY
set_option linter.unusedVariables false
set_option linter.unusedSimpArgs false
set_option linter.defProp false
def ajq:=@of_decide_eq_false
namespace Go.Fw
open Go
abbrev SM{α:Type}(x:Option α):Prop:=OW x λ_=>True
def ag{α:Type}(a:α):SM (some a):=⟨a,rfl,trivial⟩
def yA{α:Type}{x:Option α}{a:α}(h:x=some a):SM x:=⟨a,h,trivial⟩
def yR{α b:Type}{x:Option α}{f:α->Option b}{R:α->Prop}(h:OW x R)(k:∀a,R a->SM (f a)):SM (x.bind f):=ai h k
def aV{α b:Type}{x:Option α}{f:α->Option b}(h:SM x)(k:∀a,SM (f a)):SM (x.bind f):=ai h λa _=>k a
def m7{α:Type}{c:Bool}{x y:Option α}(a:c=true->SM x)(b:c=false->SM y):SM (bif c then x else y):=ax a b
def bI{α:Type}(c:Bool){x y:Option α}(a:SM x)(b:SM y):SM (bif c then x else y):=ax (λ_=>a) λ_=>b
def PN{α:Type}{x:Option α}{Q:α->Prop}(h:OW x Q):SM x:=Ix h λ_ _=>trivial
def rI(e:bU)(c n:Int)(k:Bool):SM (bA e c k n):=yA (WD e c n k)
def Ua(c:Bs):SM (cP c):=by obtain⟨v,e,h⟩:=ZB c;exact yA h
def X4{N:Nat}(a:FN N)(c:Bs)(b:c.length<10000000):SM (gj N c):=yA (T8 a c b)
def ac6{N:Nat}(a:FN N)(c:Bs)(b:c.length<10000000):SM (cp N c):=PN (xg a c b)
def aaF(c:Bs)(a:c.length<10000000):SM (fP c):=yA (m9 a)
def ae5(x:uc)(g:x.1.length<10000000):∃i,fu x=some i/\(i<=8*(x.1.length:Int)):=by
 obtain⟨c,a,b⟩:=vC x (by omega);unfold fu syv;rw[a,ahE];cases c
 ·exact⟨0,rfl,by omega⟩
 ·obtain⟨d,f⟩:=b rfl;have e:kZ .i64 8 (x.1.length:Int)=8*(x.1.length:Int):=by
   show IntKind.i64.wrap _=_;rw[aie _ (by omega)]
  refine⟨aX .i64 (kZ .i64 8 (x.1.length:Int)) x.2,rfl,?_⟩;rw[e,pZ (by omega)];omega
def bat(x:uc)(b:x.1.length<10000000)(i:Nat)(h:i<100000000):SM (fv x (i:Int)):=by
 unfold fv syv;rw[ahK (by omega:(i:Int)>=0),ahS];obtain⟨m,d,f⟩:=ae5 x b;rw[d,ahE];refine m7 (λc=> ?_) λ_=>ag _;have g:(i:Int)<m:=aih c;have e:gy .i64 (i:Int) 8=((i / 8:Nat):Int):=by
  show IntKind.i64.wrap ((i:Int).tdiv 8)=_;rw[aj0 (by omega),aie _ (by omega)];omega
 have a:Int.tmod (i:Int) 8=((i % 8:Nat):Int):=by
  rw[akv (by omega)];omega
 rw[e,cr (ahG (show i / 8<x.1.length by omega)),ahE,a,pZ (by omega),ahK (by omega),ahS];exact ag _
def VZ(N:Nat)(x:uc)(f:x.1.length<10000000)(m:Int)(j:m<=100000):∀(k n i:Nat)(s:Int),(m-(i:Int)).toNat=k->k<n->i<=100000->SM (bo N n (s,m,(i:Int),x.1,x.2)):=by
 intro k;induction k with
 |zero=>
  intro n i s e g d;obtain⟨n,rfl⟩:∃m,n=m+1:=⟨n-1,by omega⟩;show SM (bif decide ((i:Int)<m) then _ else some s);rw[ahH (by omega)];exact ag _
 |succ k h=>
  intro n i s e g d;obtain⟨n,rfl⟩:∃m,n=m+1:=⟨n-1,by omega⟩;show SM (bif decide ((i:Int)<m) then(fv x (i:Int)).bind _ else some s);rw[ahK (by omega),ahS];refine aV (bat x f i (by omega)) λc=> ?_;have b:∀a,SM (bo N n (a,m,aq .i64 (i:Int) 1,x.1,x.2)):=λa=>by
   rw[cC (by omega)];exact h n (i+1) a (by omega) (by omega) (by omega)
  rw[ahK (by omega:(0:Int)<=(i:Int))];cases c
  ·exact b _
  ·exact b _
def Sf{N:Nat}(p:FN N)(c:Bs)(d:c.length<10000000):SM (bh N c 9):=by
 have f:=p;unfold FN at f;unfold bh syv;obtain⟨x,e,a,o⟩:=Zw c (by omega);have g:x.1.length<10000000:=by
  by_cases q:e=0
  ·have:=(o q).1;rw[this]at d;simp[lB]at d;omega
  ·unfold cz syv at a;cases c with
   |nil=>cases a;simp
   |cons b r=>
    rw[Sx,ahH (by simp),ahM,qq,ahE,m9 (by simp at d;omega),ahE,ix0,ahE]at a;obtain⟨w,u,_⟩:=vC (r,IntKind.wrap .i64 (b.toNat:Int)) (by simp at d⊢;omega);rw[u,ahE]at a;cases w
    ·cases a;simp
    ·cases a;simp at d⊢;omega
 rw[show decide ((9:Int)<1)=false from rfl,show decide ((9:Int)>32)=false from rfl,ahM,ahM,a,ahE];dsimp only;obtain⟨i,s,t⟩:=ae5 x g;rw[s,ahE];refine bI _ (ag _) (m7 (λ_=>ag _) λm=> ?_);have n:¬i>9:=ajq m;have j:SM ((bo N N (0,i,0,x)).bind λh=>some (h,(0:Int))):=by
  refine aV ?_ λ_=>ag _;exact VZ N x g i (by omega) (i-((0:Nat):Int)).toNat N 0 0 rfl (by omega) (by omega)
 refine m7 (λk=> ?_) λ_=>j;have l:i>0:=aih k;rw[pZ (by omega),show i-1=(((i-1).toNat:Nat):Int) from by omega];exact aV (bat x g _ (by omega)) λc=>bI _ (ag _) j
variable{Z:Type}
def Dr{N:Nat}(g:FN N)(a:Bs)(h:a.length<10000000)(f:bU×Int×Int->Option Z)(c:∀v e o,e≠0->SM (f (v,e,o)))(d:∀v t,EL a t v->t.2.2.2.length<10000000->SM (f (v,0,0))):SM ((bx N a).bind f):=by
 refine yR (IB g a h) ?_;rintro⟨v,e,o⟩ (⟨i,t,b,j,k⟩|⟨b,_⟩)
 ·cases i;refine d v t k ?_;have:=lu t;have:a.length=(am t).length:=by rw[j]
  omega
 ·exact c v e o b
def qj{e:Int}(h:e≠0):(e !=0)=true:=by simpa using h
def V0{N:Nat}(d:FN N)(a:Bs)(f:a.length<10000000):SM (cI N a):=by
 unfold cI syv;refine Dr d a f _ (λv e o g=> ?_) λv t b h=> ?_
 ·dsimp only;rw[qj g];exact ag _
 ·dsimp only;refine aV (rI _ _ _ _) λc=>bI _ (ag _) ?_;rw[b.body,ahE];exact aV (aaF _ h) λ_=>ag _
def Td{N:Nat}(b:FN N)(a:Bs)(f:a.length<10000000):SM (ey N a):=by
 unfold ey syv;refine Dr b a f _ (λv e o g=> ?_) λv t d h=> ?_
 ·dsimp only;rw[qj g];exact ag _
 ·dsimp only;refine aV (rI _ _ _ _) λc=>bI _ (ag _) ?_;rw[d.body,ahE];exact aV (Sf b _ h) λ_=>bI _ (ag _) (bI _ (ag _) (ag _))
def X5(i:Int)(h:0<=i)(a:i<=10):SM (jX i):=by
 have:i=0∨i=1∨i=2∨i=3∨i=4∨i=5∨i=6∨i=7∨i=8∨i=9∨i=10:=by omega
 rcases this with rfl|rfl|rfl|rfl|rfl|rfl|rfl|rfl|rfl|rfl|rfl<;>exact ag _
def V1{N:Nat}(b:FN N)(a:Bs)(g:a.length<10000000):SM (iI N a):=by
 unfold iI syv;refine Dr b a g _ (λv e o h=> ?_) λv t f i=> ?_
 ·dsimp only;rw[qj h];exact ag _
 ·dsimp only;refine aV (rI _ _ _ _) λc=>bI _ (ag _) ?_;rw[f.body,ahE];refine aV (X4 b _ i) λr=>bI _ (ag _) (m7 (λ_=>ag _) λc1=>m7 (λ_=>ag _) λd=> ?_);exact aV (X5 r.1 (by have:=ajq c1;omega) (by have:=ajq d;omega)) λ_=>bI _ (ag _) (ag _)
def aaG{N:Nat}(b:FN N)(a:Bs)(f:a.length<10000000):SM (fN N a):=by
 unfold fN syv;refine Dr b a f _ (λv e o g=> ?_) λv t d h=> ?_
 ·dsimp only;rw[qj g];exact ag _
 ·dsimp only;refine aV (rI _ _ _ _) λc=>bI _ (ag _) ?_;rw[d.body,ahE];exact aV (PN (X1 b _ h)) λ_=>bI _ (ag _) (ag _)
def aaH{N:Nat}(a:FN N)(c:Bs)(b:c.length<10000000):SM (gJ N c):=by
 unfold gJ syv;exact aV (X4 a c b) λr=>bI _ (bI _ (ag _) (ag _)) (ag _)
def HP{N:Nat}(d:FN N)(a:Bs)(t:TLV)(e:bU)(b:EL a t e)(f:t.2.2.2.length<10000000)(x y:Int):SM (ez N a e.1 e.2.1 e.2.2.1 e.2.2.2.1 e.2.2.2.2.1 e.2.2.2.2.2 x y):=by
 unfold ez syv;refine aV (rI _ _ _ _) λc=>bI _ (ag _) ?_;rw[b.body,ahE];exact aV (aaH d _ f) λ_=>bI _ (ag _) (ag _)
def Pn{N:Nat}(b:FN N)(a:Bs)(d:a.length<10000000):SM (im N a):=by
 unfold im jb syv;refine aV ?_ λ_=>ag _;refine Dr b a d _ (λv e o f=> ?_) λv t c g=> ?_
 ·dsimp only;rw[qj f];exact ag _
 ·dsimp only;exact aV (HP b a t v c g 0 2) λ_=>bI _ (ag _) (ag _)
def ac7(c:Bs):SM (ia c):=by
 unfold ia syv;rw[kX,ahE];refine m7 (λ_=>ag _) λh=> ?_;have a:mN c=true:=by simpa using h
 cases c with
 |nil=>cases a
 |cons x r=>
  rw[ix0];exact bI _ (bI _ (ag _) (bI _ (ag _) (ag _))) (bI _ (ag _) (ag _))
def X6(c:Bs):SM (eN c):=by
 unfold eN syv;rw[kX,ahE];exact bI _ (bI _ (aV (ac7 c) λ_=>ag _) (ag _)) (ag _)
def NQ{N:Nat}(d:FN N)(a:Bs)(f:a.length<10000000):SM (ed N a):=by
 unfold ed eW syv;refine aV ?_ λ_=>ag _;refine Dr d a f _ (λv e o g=> ?_) λv t b h=> ?_
 ·dsimp only;rw[qj g];exact ag _
 ·dsimp only;refine aV ?_ λ_=>bI _ (ag _) (ag _);unfold fA syv;refine aV (rI _ _ _ _) λc=>bI _ (ag _) ?_;rw[show slc a v.2.2.2.2.1 v.2.2.2.2.2=_ from b.body,ahE];unfold eL syv;rw[m9 h,ahE];exact aV (aV (X6 _) λ_=>ag _) λ_=>bI _ (ag _) (ag _)
def KK{N:Nat}(m:FN N)(a:Bs)(n:a.length<10000000)(c num:Nat)(d i:Int)(p:d=(c:Int))(q:i=(num:Int))(f:List bU×Int×Int->Option Z)(j:∀v e o,e≠0->SM (f (v,e,o)))(k:∀l b,gz (EL a) b l->(aA b).length<a.length->a=tlv c true num (aA b)->SM (f (l,0,0))):SM ((aD N a d i).bind f):=by
 subst p q;refine yR (sT m a n c num) ?_;rintro⟨l,e,o⟩ (⟨r,b,g,_,_,h,s⟩|⟨g,_⟩)
 ·cases r;exact k l b s (by rw[h];exact gS) h
 ·exact j l e o g
def gz.bodies{a:Bs}{b:List TLV}{l:List bU}(h:gz (EL a) b l){i:Nat}{e:bU}(f:l[i]?=some e):∃t,EL a t e/\t∈b/\t.2.2.2.length<(aA b).length/\(am t).length<=(aA b).length:=by
 obtain⟨t,c,d⟩:=h.get f;have:=kO b t (aif c);have:=lu t;exact⟨t,d,aif c,by omega,by omega⟩
def V2(a:Bs)(t:TLV)(e:bU)(b:EL a t e)(x y:Int):SM (dX a e.1 e.2.1 e.2.2.1 e.2.2.2.1 e.2.2.2.2.1 e.2.2.2.2.2 x y):=by
 unfold dX syv;refine aV (rI _ _ _ _) λc=>bI _ (ag _) ?_;rw[b.body,ahE];unfold ii syv;exact aV (aV (Ua _) λ_=>bI _ (ag _) (ag _)) λ_=>bI _ (ag _) (ag _)
def aaI{N:Nat}(f:FN N)(a:Bs)(k:a.length<10000000):SM (gY N a):=by
 unfold gY syv;refine KK f a k 0 16 0 16 rfl rfl _ (λv e o m=> ?_) λl p g n _=> ?_
 ·dsimp only;rw[qj m];exact ag _
 ·dsimp only;rw[show((0:Int) !=0)=false from rfl,ahM];refine yR (R:=λy=>(∃c,y=Sum.inl (a,l,c))∨∃i,y=Sum.inr i) ?_ ?_
  ·refine ax (λc=> ?_) λ_=>aa (.inl ⟨_,rfl⟩);refine ai (xp (by omega) (by simpa using c)) λe h=> ?_;obtain⟨t,b,_,_,_⟩:=g.bodies h.1;refine ai (V2 a t e b 0 1) λr _=> ?_;refine ax (λ_=> ?_) λ_=>aa (.inl ⟨_,rfl⟩);exact ai (xp (by omega) (by simpa using c)) λe h=>aa (.inr ⟨_,rfl⟩)
  ·rintro y (⟨c,rfl⟩|⟨i,rfl⟩)
   ·dsimp only;refine yR (R:=λy=>(∃c d e,y=Sum.inl (l,c,d,e))∨∃i,y=Sum.inr i) ?_ ?_
    ·refine ax (λc=> ?_) λ_=>aa (.inl ⟨_,_,_,rfl⟩);have j:((l.length:Nat):Int)>1:=aih c;refine ai (xp (by omega) (by omega)) λe h=> ?_;obtain⟨t,b,_,_,_⟩:=g.bodies h.1;refine ai (HP f a t e b (by omega) 0 2) λr _=> ?_;refine ax (λ_=> ?_) λ_=>aa (.inl ⟨_,_,_,rfl⟩);exact ai (xp (by omega) (by omega)) λe h=>aa (.inr ⟨_,rfl⟩)
    ·rintro y (⟨c,d,e,rfl⟩|⟨i,rfl⟩)
     ·dsimp only;refine m7 (λc=> ?_) λ_=>ag _;have j:((l.length:Nat):Int)>2:=aih c;exact yR (xp (by omega) (by omega)) λe h=>ag _
     ·exact ag _
   ·exact ag _
def X7{N:Nat}(s:FN N)(a:Bs)(z:a.length<10000000)(g:List TLV)(l:List bU)(j:gz (EL a) g l)(A:(aA g).length<a.length):∀(k n i:Nat)(e:Int)(d:Bool)(i9:Int)(b:Bool)(c:Int),l.length-i=k->k<n->i<=l.length->
 OW (iB N n (a,e,l,(l.length:Int),(i:Int),d,i9,b,c)) λ_=>True:=by
 have o:=j.length;have w:=iV g;intro k;induction k with
 |zero=>
  intro n i e d i9 b c v x u;obtain⟨n,rfl⟩:∃m,n=m+1:=⟨n-1,by omega⟩;show OW (bif decide ((i:Int)<(l.length:Int)) then _ else some _) _;rw[ahH (by omega)];exact ag _
 |succ k y=>
  intro n i e d i9 b c v x u;obtain⟨n,rfl⟩:∃m,n=m+1:=⟨n-1,by omega⟩;have f:i<l.length:=by omega
  have p:=ahG f;obtain⟨t,q,_,_,_⟩:=j.bodies p;show OW (bif decide ((i:Int)<(l.length:Int)) then _ else some _) _;have h:∀(e:Int)(d:Bool)(i9:Int)(b:Bool)(c:Int),OW (iB N n (a,e,l,(l.length:Int),aq .i64 (i:Int) 1,d,i9,b,c)) λ_=>True:=λe d i9 b c=>by
   rw[cC (by omega)];exact y n (i+1) e d i9 b c (by omega) (by omega) (by omega)
  rw[ahK (by omega),ahS,cr p,ahE];refine ai (HP s a t _ q (by omega) 2 _) λr _=> ?_;refine ax (λ_=>ag _) λ_=>ax (λ_=>ag _) λ_=>ax (λ_=>ag _) λ_=> ?_;cases (l[i].2.1==0)
  ·exact h _ _ _ _ _
  ·exact h _ _ _ _ _
def ac8{N:Nat}(b:FN N)(a:Bs)(d:a.length<10000000):SM (iS N a):=by
 have c:=b;unfold FN at c;unfold iS syv;refine KK b a d 0 16 0 16 rfl rfl _ (λv e o j=> ?_) λl h f m _=> ?_
 ·dsimp only;rw[qj j];exact ag _
 ·dsimp only;have g:=f.length;have k:=iV h;rw[show((0:Int) !=0)=false from rfl,ahM];refine aV (X7 b a d h l f m l.length N 0 (-1) false 0 false 0 (by omega) (by omega) (by omega)) λy=> ?_;rcases y with i|⟨n,p,q,r,s,t⟩
  ·exact ag _
  ·exact bI _ (ag _) (ag _)
def V3{N:Nat}(p:FN N)(a:Bs)(y:a.length<10000000)(d:List TLV)(l:List bU)(e:gz (EL a) d l)(z:(aA d).length<a.length):∀(k n i:Nat)(acc:List Bs),l.length-i=k->k<n->i<=l.length->acc.length<=i->
 OW (j9 N n (a,l,(l.length:Int),(i:Int),0,0,acc)) λ_=>True:=by
 have f:=e.length;have v:=iV d;intro k;induction k with
 |zero=>
  intro n i acc u w s _;obtain⟨n,rfl⟩:∃m,n=m+1:=⟨n-1,by omega⟩;show OW (bif decide ((i:Int)<(l.length:Int)) then _ else some _) _;rw[ahH (by omega)];exact ag _
 |succ k x=>
  intro n i acc u w s q;obtain⟨n,rfl⟩:∃m,n=m+1:=⟨n-1,by omega⟩;have b:i<l.length:=by omega
  have g:=ahG b;obtain⟨t,o,_,_,_⟩:=e.bodies g;have j:∀acc:List Bs,acc.length<=i+1->OW (j9 N n (a,l,(l.length:Int),aq .i64 (i:Int) 1,0,0,acc)) λ_=>True:=λacc h=>by
   rw[cC (by omega)];exact x n (i+1) acc (by omega) (by omega) (by omega) h
  show OW (bif decide ((i:Int)<(l.length:Int)) then _ else some _) _;rw[ahK (by omega),ahS,cr g,ahE];refine ai (rI _ _ _ _) λc _=>ax (λ_=>ag _) λ_=> ?_;rw[o.body,ahE];refine ai (ac6 p _ (by omega)) λr _=>ax (λ_=>ag _) λ_=> ?_;rw[fY (by omega) (by simp only[ahL,ah1];omega),ahE];exact j _ (by simp;omega)
def aaJ{N:Nat}(b:FN N)(a:Bs)(d:a.length<10000000):SM (kW N a):=by
 have c:=b;unfold FN at c;unfold kW syv;refine KK b a d 0 16 0 16 rfl rfl _ (λv e o k=> ?_) λl h f n _=> ?_
 ·dsimp only;rw[qj k];exact ag _
 ·dsimp only;have g:=f.length;have m:=iV h;rw[show((0:Int) !=0)=false from rfl,ahM];refine aV (V3 b a d h l f n l.length N 0 [] (by omega) (by omega) (by omega) (by simp)) λy=> ?_;rcases y with⟨i,j⟩|⟨p,q,r,s⟩
  ·exact ag _
  ·exact bI _ (ag _) (ag _)
end Go.Fw
namespace Go.Fw
open Go
def VN{α b:Type}{Q:b->Prop}{x:Option α}{f:α->Option b}(h:OW x λa=>OW (f a) Q):OW (x.bind f) Q:=by
 obtain⟨a,rfl,h⟩:=h;exact h
def ahq{α:Type}{Q:α->Prop}{c:Bool}{x y:Option α}(a:c=true->OW x Q)(b:c=false->OW y Q):OW (cond c x y) Q:=by
 cases c;exact b rfl;exact a rfl
def ahr{α b:Type}{Q:b->Prop}{R:α->Prop}{x:Option α}{f:α->Option b}(h:OW x R)(k:∀a,R a->OW (f a) Q):OW x λa=>OW (f a) Q:=by
 obtain⟨a,rfl,h⟩:=h;exact⟨a,rfl,k a h⟩
def aap{α b:Type}{Q:b->Prop}{x:Option α}{a:α}{f:α->Option b}(h:x=some a)(k:OW (f a) Q):OW x λa=>OW (f a) Q:=⟨a,h,k⟩
def VO{b:Bse}{d:AD b}{x:Tup (PV.tcss d.ap)}{Q:Tup d.rp.tcs->Prop}(h:OW (Aj d.c.cxs d.f d.ap d.rp x) Q):OW (d.run x) Q:=by rw[AD.run_eq];exact h
def NJ{α a:Type}{Q:a->Prop}{f:α->Option a}{x:α}(h:OW (f x) Q):OW (EM f x) Q:=by rw[EN];exact h
def hNN:FN NN:=by unfold FN;rw[afR];decide
end Go.Fw
namespace Go.Fw
def ahy{P:Prop}(h:P:=by repeat' ((conv=>arg 1;whnf);first|exact⟨_,rfl,trivial⟩|refine ahq (λ_=> ?_) λ_=> ?_|refine VN (aap rfl ?_)|refine aap rfl ?_|refine VN ?_|refine NJ ?_)):P:=h
end Go.Fw
namespace Go.Proofs.Tryz
open Go Go.Fw
set_option maxRecDepth 100000
set_option maxHeartbeats 4000000
def alone_sm0(g:Int×Bs×Bs×Bs×List (List (Bs×Bs))×(Int×Bs)×Int×Bs):SM (tD.run g):=by
 refine VO ?_;exact ahy
end Go.Proofs.Tryz
namespace Go.Fw
open Go
def yS(s:Bs)(i:Nat):∃r w:Nat,kL s (i:Int)=((r:Int),(w:Int))/\r<=1114111/\1<=w:=by
 refine⟨(Utf8.decode ⟨s.toArray⟩ i).1,(Utf8.decode ⟨s.toArray⟩ i).2,rfl,Lib.rune_le _ _,Lib.width_pos _ _⟩
def aga(r:Nat)(h:r<=1114111):SM (rU (r:Int)):=by
 unfold rU;rw[ahK (by omega:(-2147483648:Int)<=(r:Int)),ahK (by omega:(r:Int)<=2147483647)];exact ag _
def abD(r:Int):SM (Ek r):=yA (H9 r)
def agb(r:Nat)(h:r<=1114111):SM (gW (r:Int)):=by
 have a:=aV (aga r h) λc=>ag c;unfold gW;exact bI _ (bI _ (ag _) (bI _ (bI _ (ag _) (bI _ (bI _ (ag _) a) a)) (bI _ (bI _ (ag _) a) a))) (bI _ (bI _ (ag _) (bI _ (bI _ (ag _) a) a)) (bI _ (bI _ (ag _) a) a))
def X8(r a b:Int):SM (cT r a b):=by
 unfold cT;exact bI _ (ag _) (ag _)
def agc(r a b:Int):SM (fX r a b):=by
 unfold fX;exact aV (X8 r a b) λc=>bI _ (ag _) (bI _ (ag _) (ag _))
def agd(r:Int):SM (gX r):=by
 unfold gX;exact aV (abD r) λc=>bI _ (ag _) (ag _)
def abE(N:Nat)(w:Int)(s:Bs):∀(k n i:Nat),s.length-i<=k->k<n->SM (ku N n (w,s,(i:Int))):=by
 intro k;induction k with
 |zero=>
  intro n i d f;obtain⟨n,rfl⟩:∃m,n=m+1:=⟨n-1,by omega⟩;show SM (bif decide ((i:Int)<(s.length:Int)) then _ else some _);rw[ahH (by omega)];exact ag _
 |succ k g=>
  intro n i d f;obtain⟨n,rfl⟩:∃m,n=m+1:=⟨n-1,by omega⟩;show SM (bif decide ((i:Int)<(s.length:Int)) then(bif decide (0<=(i:Int)) then _ else none) else some _);refine m7 (λc=> ?_) λ_=>ag _;have h:(i:Int)<(s.length:Int):=aih c;obtain⟨r,a,b,j,l⟩:=yS s i;rw[ahK (by omega:(0:Int)<=(i:Int)),ahS,b];refine aV (abD _) λc=>bI _ (ag _) ?_;have e:((i:Int)+(a:Int))=((i+a:Nat):Int):=by omega
  show SM (ku N n (w,s,((i:Int)+(a:Int))));rw[e];exact g n (i+a) (by omega) (by omega)
def age(N:Nat)(w:Int)(s:Bs):∀(k n i:Nat),s.length-i<=k->k<n->SM (lH N n (w,s,(i:Int))):=by
 intro k;induction k with
 |zero=>
  intro n i d f;obtain⟨n,rfl⟩:∃m,n=m+1:=⟨n-1,by omega⟩;show SM (bif decide ((i:Int)<(s.length:Int)) then _ else some _);rw[ahH (by omega)];exact ag _
 |succ k h=>
  intro n i d f;obtain⟨n,rfl⟩:∃m,n=m+1:=⟨n-1,by omega⟩;show SM (bif decide ((i:Int)<(s.length:Int)) then(bif decide (0<=(i:Int)) then _ else none) else some _);refine m7 (λc=> ?_) λ_=>ag _;have j:(i:Int)<(s.length:Int):=aih c;obtain⟨r,a,b,g,l⟩:=yS s i;rw[ahK (by omega:(0:Int)<=(i:Int)),ahS,b];refine aV (agb r g) λc=>bI _ (ag _) ?_;have e:((i:Int)+(a:Int))=((i+a:Nat):Int):=by omega
  show SM (lH N n (w,s,((i:Int)+(a:Int))));rw[e];exact h n (i+a) (by omega) (by omega)
def agf(N:Nat)(w:Int)(s:Bs):∀(k n i:Nat),s.length-i<=k->k<n->SM (lJ N n (w,s,(i:Int))):=by
 intro k;induction k with
 |zero=>
  intro n i d f;obtain⟨n,rfl⟩:∃m,n=m+1:=⟨n-1,by omega⟩;show SM (bif decide ((i:Int)<(s.length:Int)) then _ else some _);rw[ahH (by omega)];exact ag _
 |succ k g=>
  intro n i d f;obtain⟨n,rfl⟩:∃m,n=m+1:=⟨n-1,by omega⟩;show SM (bif decide ((i:Int)<(s.length:Int)) then(bif decide (0<=(i:Int)) then _ else none) else some _);refine m7 (λc=> ?_) λ_=>ag _;have h:(i:Int)<(s.length:Int):=aih c;obtain⟨r,a,b,j,l⟩:=yS s i;rw[ahK (by omega:(0:Int)<=(i:Int)),ahS,b];refine aV (agd _) λc=>bI _ (ag _) ?_;have e:((i:Int)+(a:Int))=((i+a:Nat):Int):=by omega
  show SM (lJ N n (w,s,((i:Int)+(a:Int))));rw[e];exact g n (i+a) (by omega) (by omega)
def agh(N:Nat)(a b:Int)(w:Int)(s:Bs):∀(k n i:Nat),s.length-i<=k->k<n->SM (lI N n (a,b,w,s,(i:Int))):=by
 intro k;induction k with
 |zero=>
  intro n i g h;obtain⟨n,rfl⟩:∃m,n=m+1:=⟨n-1,by omega⟩;show SM (bif decide ((i:Int)<(s.length:Int)) then _ else some _);rw[ahH (by omega)];exact ag _
 |succ k j=>
  intro n i g h;obtain⟨n,rfl⟩:∃m,n=m+1:=⟨n-1,by omega⟩;show SM (bif decide ((i:Int)<(s.length:Int)) then(bif decide (0<=(i:Int)) then _ else none) else some _);refine m7 (λc=> ?_) λ_=>ag _;have l:(i:Int)<(s.length:Int):=aih c;obtain⟨r,d,f,o,p⟩:=yS s i;rw[ahK (by omega:(0:Int)<=(i:Int)),ahS,f];refine aV (agc _ _ _) λc=>bI _ (ag _) ?_;have e:((i:Int)+(d:Int))=((i+d:Nat):Int):=by omega
  show SM (lI N n (a,b,w,s,((i:Int)+(d:Int))));rw[e];exact j n (i+d) (by omega) (by omega)
def abF(N:Nat)(a b:Int)(w:Int)(s:Bs):∀(k n i:Nat),s.length-i<=k->k<n->SM (kw N n (a,b,w,s,(i:Int))):=by
 intro k;induction k with
 |zero=>
  intro n i g h;obtain⟨n,rfl⟩:∃m,n=m+1:=⟨n-1,by omega⟩;show SM (bif decide ((i:Int)<(s.length:Int)) then _ else some _);rw[ahH (by omega)];exact ag _
 |succ k j=>
  intro n i g h;obtain⟨n,rfl⟩:∃m,n=m+1:=⟨n-1,by omega⟩;show SM (bif decide ((i:Int)<(s.length:Int)) then(bif decide (0<=(i:Int)) then _ else none) else some _);refine m7 (λc=> ?_) λ_=>ag _;have l:(i:Int)<(s.length:Int):=aih c;obtain⟨r,d,f,o,p⟩:=yS s i;rw[ahK (by omega:(0:Int)<=(i:Int)),ahS,f];refine aV (X8 _ _ _) λc=>bI _ (ag _) ?_;have e:((i:Int)+(d:Int))=((i+d:Nat):Int):=by omega
  show SM (kw N n (a,b,w,s,((i:Int)+(d:Int))));rw[e];exact j n (i+d) (by omega) (by omega)
def agi(s:Bs)(h:s.length<100000000):SM (jZ s):=by
 unfold jZ cK;rw[show Nat.ble s.length 1099511627776=true from aiE (by omega)];exact ag _
def Ap{x:Option (Bool⊕Unit)}(h:SM x):SM (x.bind λy=>(match y with
 |Sum.inl c=>some c
 |Sum.inr _=>some true)):=aV h λy=>by cases y<;>exact ag _
def HQ{N:Nat}(a:FN N)(t:Int×Bs)(h:t.2.length<100000000):SM (kN N t):=by
 unfold FN at a;unfold kN;have v:=agi t.2 h;refine bI _ (aV v λ_=>bI _ (ag _) (Ap (abE N 0 t.2 t.2.length N 0 (by omega) (by omega)))) (bI _ (aV v λ_=>bI _ (ag _) (Ap (age N 1 t.2 t.2.length N 0 (by omega) (by omega)))) (bI _ (aV v λ_=>bI _ (ag _) (Ap (agh N 32 126 1 t.2 t.2.length N 0 (by omega) (by omega)))) (bI _ (aV v λ_=>bI _ (ag _) (Ap (abF N 0 127 1 t.2 t.2.length N 0 (by omega) (by omega)))) (bI _ (aV v λ_=>bI _ (ag _) (Ap (abF N 32 126 1 t.2 t.2.length N 0 (by omega) (by omega)))) (bI _ (aV v λ_=>bI _ (ag _) (Ap (abE N 4 t.2 t.2.length N 0 (by omega) (by omega)))) (bI _ (aV v λ_=>bI _ (ag _) (Ap (agf N 2 t.2 t.2.length N 0 (by omega) (by omega)))) (ag _)))))))
def agj(N:Nat)(w:Int)(r:Nat)(u:r<=1114111)(s:Bs)(p:Int):∀(k n:Nat)(acc:Bs),k<n->k<=8->acc.length+k<=900000000->OW (jP N n (w,(r:Int),(k:Int)-1,acc,s,p)) λy=>∃l,y=(w,l,s,p)/\l.length=acc.length+k:=by
 intro k;induction k with
 |zero=>
  intro n acc o j i;obtain⟨n,rfl⟩:∃m,n=m+1:=⟨n-1,by omega⟩;exact aa ⟨acc,rfl,rfl⟩
 |succ k t=>
  intro n acc o j i;obtain⟨n,rfl⟩:∃m,n=m+1:=⟨n-1,by omega⟩;have e:((k+1:Nat):Int)-1=(k:Int):=by omega
  have f:kZ .i64 8 (k:Int)=((8*k:Nat):Int):=by
   show IntKind.i64.wrap _=_;rw[aie _ (by omega)];omega
  rw[e];show OW (bif decide ((k:Int)>=0) then(bif decide (0<=kZ .i64 8 (k:Int)) then(toB (IntKind.wrap .u8 (vL .i32 (r:Int) (kZ .i64 8 (k:Int))))).bind (λa=>(app 1 acc [a]).bind λd=>jP N n (w,(r:Int),aX .i64 (k:Int) 1,d,s,p)) else none) else some (w,acc,s,p)) _;rw[ahK (by omega:(k:Int)>=0),ahS,f,ahK (by omega:(0:Int)<=((8*k:Nat):Int)),ahS];have c:∃b,toB (IntKind.wrap .u8 (vL .i32 (r:Int) ((8*k:Nat):Int)))=some b:=by
   refine⟨UInt8.ofNat (IntKind.wrap .u8 (vL .i32 (r:Int) ((8*k:Nat):Int))).toNat,?_⟩;unfold toB;have:=IntKind.wrap_u8 (vL .i32 (r:Int) ((8*k:Nat):Int));rw[ahY ⟨by omega,by omega⟩]
  obtain⟨b,c⟩:=c;rw[c,ahE,fY (by omega) (by simp only[ahL,ah1];omega),ahE,show aX .i64 (k:Int) 1=(k:Int)-1 from pZ (by omega)];obtain⟨y,q,l,g,h⟩:=t n (acc++[b]) (by omega) (by omega) (by simp;omega);exact⟨y,q,l,g,by rw[h];simp;omega⟩
def agk{N:Nat}(j:FN N)(w:Nat)(F:w<=4)(s:Bs)(E:s.length<=100000000):∀(k n i:Nat)(acc:Bs),s.length-i<=k->k<n->acc.length<=4*i->i<=200000000->acc.length<=4*s.length->OW (eO N n ((w:Int),acc,s,(i:Int))) λl=>l.length<=4*s.length:=by
 unfold FN at j;intro k;induction k with
 |zero=>
  intro n i acc p q o _ b;obtain⟨n,rfl⟩:∃m,n=m+1:=⟨n-1,by omega⟩;show OW (bif decide ((i:Int)<(s.length:Int)) then _ else some acc) _;rw[ahH (by omega)];exact aa b
 |succ k x=>
  intro n i acc p q o C b;obtain⟨n,rfl⟩:∃m,n=m+1:=⟨n-1,by omega⟩;show OW (bif decide ((i:Int)<(s.length:Int)) then(bif decide (0<=(i:Int)) then(jP N N ((w:Int),(kL s (i:Int)).1,aX .i64 (w:Int) 1,acc,s,(i:Int)+(kL s (i:Int)).2)).bind (λ(v,z,A,g)=>eO N n (v,z,A,g)) else none) else some acc) _;refine ax (λc=> ?_) λ_=>aa b;have B:(i:Int)<(s.length:Int):=aih c;obtain⟨r,a,d,t,u⟩:=yS s i;rw[ahK (by omega:(0:Int)<=(i:Int)),ahS,d,pZ (by omega)];refine ai (agj N (w:Int) r t s _ w N acc (by omega) (by omega) (by omega)) ?_;rintro y ⟨l,rfl,D⟩;have e:((i:Int)+(a:Int))=((i+a:Nat):Int):=by omega
  dsimp only;rw[e];rcases ahW 200000000 (i+a) with h|f
  ·obtain⟨n,rfl⟩:∃m,n=m+1:=⟨n-1,by omega⟩;show OW (bif decide (((i+a:Nat):Int)<(s.length:Int)) then _ else some l) _;rw[ahH (by omega)];exact aa (show l.length<=4*s.length by omega)
  ·exact x n (i+a) l (by omega) (by omega) (by omega) f (by omega)
def abG{N:Nat}(b:FN N)(t:Int×Bs)(h:t.2.length<10000000):OW (bY N t) λr=>r.1.length<=4*t.2.length:=by
 have d:=b;unfold FN at d;have a:∀w:Nat,w<=4->OW ((eO N N ((w:Int),[],t.2,0)).bind λl=>some (l,(0:Int))) λr=>r.1.length<=4*t.2.length:=λw g=>
  ai (agk b w g t.2 (by omega) t.2.length N 0 [] (by omega) (by omega) (by simp) (by omega) (by simp)) λl f=>aa f
 have e:OW ((Fs t.2).bind λs=>some (s,(0:Int))) λr=>r.1.length<=4*t.2.length:=by
  have:Fs t.2=some t.2:=by
   unfold Fs cK;rw[ahY (by omega)]
  rw[this];exact aa (show t.2.length<=_ by omega)
 unfold bY;refine ai (HQ b t (by omega)) λc _=>ax (λ_=>aa (by simp)) λ_=> ?_;refine ax (λ_=>e) λ_=>ax (λ_=>a 1 (by omega)) λ_=>ax (λ_=>a 1 (by omega)) λ_=>ax (λ_=>a 1 (by omega)) λ_=>ax (λ_=>a 1 (by omega)) λ_=>ax (λ_=>a 4 (by omega)) λ_=>ax (λ_=>a 2 (by omega)) λ_=>e
def aaK(r:Int):(Lib.encodeRune r).length<=4:=by
 unfold Lib.encodeRune Lib.encodeRuneZ;rw[aiq];split
 ·simp
 ·split
  ·simp
  ·split
   ·simp
   ·split<;>simp
def Ms{α:Type}(f:α->Bs)(h:∀x,(f x).length<=4):∀l:List α,(l.flatMap f).length<=4*l.length
 |[]=>by simp
 |a::r=>by
  have b:=h a;have c:=Ms f h r;simp only[akR,ahJ,ahL];omega
def X9(c:Bs)(wd m:Nat):(uq c wd m).length<=4*m:=by
 unfold uq;have:=Ms (λx:Fin m=>Lib.encodeRune (unitAt c wd x.val)) (λx=>aaK _) (List.finRange m);simpa using this
def Ya{α b:Type}{x:Option α}{f:α->b}{Q:b->Prop}(h:OW x λa=>Q (f a)):OW (x.map f) Q:=by
 obtain⟨a,rfl,c⟩:=h;exact⟨_,rfl,c⟩
def ae6{N:Nat}(a:FN N)(i wd:Nat)(k:Int)(c:Bs)(f:c.length<9000000):OW (B5 N i wd k c) λr=>r.1.2.length<=4*c.length:=by
 unfold B5;refine ax (λ_=>ax (λ_=> ?_) λ_=>aa (by simp)) λ_=>aa (by simp);have d:=X9 c wd (c.length / wd);have e:c.length / wd<=c.length:=Nat.div_le_self _ _;refine Ya (Ix (HQ a (k,uq c wd (c.length / wd)) (show(uq c wd (c.length / wd)).length<_ by omega)) λb _=> ?_);cases b
 ·simp
 ·show(uq c wd (c.length / wd)).length<=_;omega
def abH{N:Nat}(a:FN N)(k:Int)(c:Bs)(d:c.length<9000000):OW (bE N k c) λr=>r.1.2.length<=4*c.length:=by
 rw[vf];unfold VP;rw[show Nat.ble c.length 35184372088831=true from aiE (by omega),ahS];split
 ·refine Ya (Ix (HQ a (k,c) (show c.length<_ by omega)) λb _=> ?_);cases b
  ·simp
  ·show c.length<=_;omega
 ·repeat' first|exact ae6 a _ _ k c d|exact aa (by simp)|split
end Go.Fw
namespace Go.Fw
open Go
def aaL{N:Nat}(b:FN N)(a:Bs)(j:a.length<9000000):OW (eJ N a) λr=>r.1.2.length<=4*a.length:=by
 unfold eJ syv;refine ai (IB b a (by omega)) ?_;rintro⟨v,e,o⟩ (⟨d,t,c,f,g⟩|⟨c,_⟩)
 ·cases d;dsimp only;refine ax (λ_=>aa (by simp)) λ_=>ax (λ_=>aa (by simp)) λ_=>ax (λ_=>aa (by simp)) λ_=> ?_;have h:=lu t;have i:a.length=(am t).length:=by rw[f]
  rw[g.body,ahE];exact ai (abH b v.2.1 t.2.2.2 (by omega)) λr k=>aa (by dsimp only;omega)
 ·dsimp only;rw[qj c];exact aa (by simp)
def JA{N:Nat}(b:FN N)(a:Bs)(d:a.length<9000000):OW (dr N a) λr=>r.1.2.length<=4*a.length:=by
 unfold dr syv;refine ai (aaL b a d) λr e=> ?_;refine ax (λ_=>aa (by simp)) λ_=>ax (λ_=>aa (by simp)) λ_=> ?_;refine ai (R:=λ_=>True) ?_ λc _=>ax (λ_=>aa (by simp)) λ_=>aa e;unfold df syv;exact ax (λ_=>aa trivial) λ_=>aa trivial
def aaM(c:Nat)(f:c<4)(k:Bool)(num:Int):OW (bP (c:Int) k num) λr=>r.2=0->∃n:Nat,n<31/\num=(n:Int):=by
 unfold bP syv;rw[ahH (by omega:¬(c:Int)<0),ahH (by omega:¬(c:Int)>3),ahM,ahM];refine ax (λ_=>aa (λh=>by simp at h)) λc1=>ax (λ_=>aa (λh=>by simp at h)) λb=> ?_;have d:¬num<0:=ajq c1;have e:¬num>=31:=ajq b;obtain⟨n,rfl⟩:∃n:Nat,num=(n:Int):=⟨num.toNat,by omega⟩;have a:=Oj (c:=c) (num:=n) k f (by omega);unfold bP syv at a;rw[ahH (by omega:¬(c:Int)<0),ahH (by omega:¬(c:Int)>3),ahH d,ahH e]at a;simp only[ahM]at a;exact Iy a λ_=>⟨n,by omega,rfl⟩
def Aq{N:Nat}(g:FN N)(c:Nat)(i:c<4)(k:Bool)(num:Int)(b:Bs)(m:b.length<1000000000)(f:Int)(d:f=(c:Int)):OW (aI N f k num [b]) λr=>r.1.length<=b.length+6:=by
 subst d;have a:=g;unfold FN at a;by_cases j:∃n:Nat,n<31/\num=(n:Int)
 ·obtain⟨n,l,rfl⟩:=j;exact Iy (qi g c n k b _ _ rfl rfl i l (by omega)) (gr (b:=b) (by omega))
 ·unfold aI syv;rw[ub N [b] (by simp;omega) a.2 (by simp;omega),ahE];refine ai (R:=λr=>r.1.length<=b.length+6) ?_ λr e=>aa e;unfold eM syv;refine ai (aaM c i k num) λr e=> ?_;refine ax (λ_=>aa (by simp)) λh=> ?_;exact absurd (e (by simpa using h)) j
def Sg{N:Nat}(a:FN N)(t:Int×Bs)(h:t.2.length<10000000):OW (ep N t) λr=>r.1.length<=4*t.2.length+6:=by
 unfold ep syv;refine ai (abG a t h) λr c=>ax (λ_=>aa (by simp)) λ_=> ?_;exact ai (Aq a 0 (by omega) false t.1 r.1 (by omega) 0 rfl) λq b=>aa (by first|omega|(dsimp only;omega))
def Ub{N:Nat}(s:FN N)(c:Bs)(C:c.length<9000000):OW (fw N c) λl=>l=[]∨∃a,(∀t∈a,okT t)/\c=aA a/\l=a.map am:=by
 have h:=s;unfold FN at h;unfold fw syv;obtain⟨l,e,o,p,_⟩:=Kc N c (by omega) 0 c.length (by omega) (ahO _) (by omega);rw[show bv N c 0 (c.length:Int)=_ from p,ahE];dsimp only;by_cases q:e=0
 ·subst q;obtain⟨a,B,d,rfl⟩:=Kf N (by omega) c 0 c.length (by omega) (ahO _) (by omega) l o p;rw[ajh,aiv]at d;have f:=Iz a [] [];rw[ait,ah4,<-d,ah1]at f;have r:=f.length;have x:=iV a;have u:c.length=(aA a).length:=by rw[<-d]
  rw[show((0:Int) !=0)=false from rfl,ahM];have j:∀(k n i:Nat),(jA 0 a).length-i=k->k<n->i<=(jA 0 a).length->dV N n (c,jA 0 a,((jA 0 a).length:Int),(i:Int),(a.take i).map am)=some (a.map am):=by
   intro k;induction k with
   |zero=>
    intro n i w y v;obtain⟨n,rfl⟩:∃m,n=m+1:=⟨n-1,by omega⟩;show(bif decide ((i:Int)<((jA 0 a).length:Int)) then _ else _)=_;rw[ahH (by omega),ahM,aib (by omega)]
   |succ k A=>
    intro n i w y v;obtain⟨n,rfl⟩:∃m,n=m+1:=⟨n-1,by omega⟩;have b:i<(jA 0 a).length:=by omega
    obtain⟨t,z,g⟩:=f.get (ahG b);show(bif decide ((i:Int)<((jA 0 a).length:Int)) then _ else _)=_;rw[ahK (by omega),ahS,cr (ahG b),ahE,g.whole,ahE,fY (by omega) (by simp;omega),ahE,cC (by omega)];have:=A n (i+1) (by omega) (by omega) (by omega);rw[aiM,z,aiN]at this;exact this
  rw[show dV N N (c,jA 0 a,((jA 0 a).length:Int),0,[])=_ from j _ N 0 rfl (by omega) (by omega)];exact aa (.inr ⟨a,B,d.symm▸rfl,rfl⟩)
 ·rw[qj q];exact aa (.inl rfl)
def NR{N:Nat}(d:FN N)(a:Bs)(k:a.length<9000000)(n:Int):OW (fx N a n) λr=>r.1.length<=a.length:=by
 unfold fx syv;refine ai (IB d a (by omega)) ?_;rintro⟨v,e,o⟩ (⟨f,t,b,g,h⟩|⟨b,_⟩)
 ·cases f;dsimp only;have i:=lu t;have j:a.length=(am t).length:=by rw[g]
  refine ai (rI _ _ _ _) λc _=>ax (λ_=>aa (by simp)) λ_=> ?_;rw[h.body,ahE];exact aa (by dsimp only;omega)
 ·dsimp only;rw[qj b];exact aa (by simp)
abbrev jw:=Int×Bs×Bs×Bs×List Rdn×(Int×Bs)×Int×Bs
def GB(N B:Nat)(g:jw):Prop:=(g.2.1=[]∨j5 g.2.1=true/\(jx g.2.1).length<=B)/\g.2.2.1.length<=4*B/\g.2.2.2.1.length<=B/\oU N g.2.2.2.2.1=true/\(rG g.2.2.2.2.1).length<=B+2/\g.2.2.2.2.2.1.2.length<=4*B/\g.2.2.2.2.2.2.2.length<=4*B
def Ar(N:Nat):oU N []=true/\(rG []).length=2:=⟨rfl,by decide⟩
def ac9{N:Nat}(b:FN N)(k:Int)(c:Bs)(z:c.length<9000000):OW (dd N (k,c)) λr=>r.1.2.2.2.1.length<=c.length/\(r.2=true->GB N c.length r.1):=by
 unfold dd syv;refine ai (Ub b c z) λl B=> ?_;have a:OW (some (((0:Int),([]:Bs),([]:Bs),([]:Bs),([]:List Rdn),((0:Int),([]:Bs)),(0:Int),([]:Bs)),false):Option (jw×Bool)) (λr=>r.1.2.2.2.1.length<=c.length/\(r.2=true->GB N c.length r.1)):=aa ⟨by simp,λh=>by cases h⟩;refine ax (λ_=>a) λc1=> ?_;rcases B with rfl|⟨H,g,f,rfl⟩
 ·cases c1
 match H,g,f,c1 with
 |[],_,_,c1=>cases c1
 |[_],_,_,c1=>cases c1
 |_::_::_::_,_,_,c1=>exact absurd c1 (by simp only[ahU,ahL,bne_eq_false_iff_eq];omega)
 |[t,u],g,f,_=>
  have i:c.length=(am t).length+(am u).length:=by rw[f,PU,ahJ]
  rw[ahU,ix0,ahE];refine ai (IB b (am t) (by omega)) ?_;rintro⟨v,e,o⟩ (⟨E,S,j,Q,F⟩|⟨j,_⟩)
  ·cases E;dsimp only;rw[show((0:Int) !=0)=false from rfl,ahM];refine ai (rI _ _ _ _) λc _=>ax (λ_=>a) λ_=> ?_;obtain⟨p,q,r,I,n,J,K,L,M,b7⟩:=F.bd;rw[ahE];have x:v.2.2.2.2.1=(q:Int):=n;have m:0<=v.2.2.2.2.1/\v.2.2.2.2.1<=((am t).length:Int):=⟨by omega,by omega⟩;refine ai (E8 m.1 m.2 (Int.le_refl _)) λs C=> ?_;have D:s.length<=(am t).length:=by rw[C,aiC,aid];omega
   refine ai (xg b s (by omega)) λd A=> ?_;rw[show ix (am t::List.map am [u]) 1=some (am u) from rfl,ahE];refine ai (NR b (am u) (by omega) 0) λw P=> ?_;rw[m9 (by omega),ahE];refine ax (λ_=>aa ⟨by dsimp only;omega,λh=> ?_⟩) λ_=>aa ⟨by dsimp only;omega,λh=>by cases h⟩;obtain⟨G,R⟩:=Ar N;rcases A with⟨O,d2,y⟩|rfl
   ·exact⟨.inr ⟨d2,by rw[y];omega⟩,by simp,by dsimp only;omega,G,by dsimp only;omega,by simp,by simp⟩
   ·cases h
  ·dsimp only;rw[qj j];exact a
def Sh{N:Nat}(a:FN N)(k:Int)(c:Bs)(b:c.length<9000000):OW (ec N (k,c)) λr=>r.1.2.2.2.1.length<=c.length/\(r.2=true->GB N c.length r.1):=by
 unfold ec syv;obtain⟨e,f⟩:=Ar N;exact ai (abH a 22 c b) λr d=>aa ⟨by simp,λ_=>⟨.inl rfl,d,by simp,e,by dsimp only;omega,by simp,by simp⟩⟩
def Uc{N:Nat}(k:Int)(c:Bs)(b:c.length<9000000):OW (dI (k,c)) λr=>r.1.2.2.2.1.length<=c.length/\(r.2=true->GB N c.length r.1):=by
 unfold dI syv;obtain⟨a,d⟩:=Ar N;rw[m9 (by dsimp only;omega),ahE];exact aa ⟨ahO _,λ_=>⟨.inl rfl,by simp,ahO _,a,by dsimp only;omega,by simp,by simp⟩⟩
def agl{N:Nat}(e:FN N)(k:Int)(c:Bs)(f:c.length<9000000):OW (cq N (k,c)) λr=>r.1.2.2.2.1.length<=c.length/\(r.2=true->GB N c.length r.1):=by
 unfold cq syv;refine ai (acU e c f) λr g=>aa ⟨by simp,λh=> ?_⟩;rcases g with⟨_,b,d⟩|⟨a,_⟩
 ·exact⟨.inl rfl,by simp,by simp,b,by rw[d];omega,by simp,by simp⟩
 ·exact absurd (by simpa using h) a
def agm{N:Nat}(d:FN N)(k:Int)(c:Bs)(g:c.length<9000000):OW (dW N (k,c)) λr=>r.1.2.2.2.1.length<=c.length/\(r.2=true->GB N c.length r.1):=by
 unfold dW syv;obtain⟨f,i⟩:=Ar N;refine ai (xg d c (by omega)) λr e=>aa ⟨by simp,λh=> ?_⟩;rcases e with⟨_,a,b⟩|rfl
 ·exact⟨.inr ⟨a,by rw[b];exact ahO _⟩,by simp,by simp,f,by dsimp only;omega,by simp,by simp⟩
 ·cases h
def ada{N:Nat}(b:FN N)(k:Int)(c:Bs)(z:c.length<9000000):OW (dJ N (k,c)) λr=>r.1.2.2.2.1.length<=c.length/\(r.2=true->GB N c.length r.1):=by
 obtain⟨E,G⟩:=Ar N;unfold dJ syv;refine ai (Ub b c z) λl A=> ?_;have a:∀x∈l,x.length<=c.length:=by
  rcases A with rfl|⟨F,_,j,rfl⟩
  ·simp
  ·intro x f;obtain⟨t,D,rfl⟩:=aiz.1 f;rw[j];exact kO F t D
 refine ai (R:=λy=>y=Sum.inr ()∨∃g i s,y=Sum.inl (g,k,i,s)/\(∀x∈g,x.length<=c.length)/\s.length<=4*c.length) ?_ ?_
 ·refine ax (λu=> ?_) λ_=>aa (.inr ⟨_,_,_,rfl,a,by simp⟩);have v:((l.length:Nat):Int)=2:=by simpa using u
  refine ai (xp (by omega) (by omega)) λe o=> ?_;have:=a e o.2;refine ai (NR b e (by omega) 0) λr B=> ?_;refine ai (JA b r.1 (by omega)) λd m=> ?_;refine ax (λ_=>aa (.inl rfl)) λ_=>ax (λ_=>aa (.inl rfl)) λ_=> ?_;refine ai (E8 (by omega) (by omega) (Int.le_refl _)) λs C=>aa (.inr ⟨_,_,_,rfl,λx f=> ?_,aiW m (by omega)⟩);rw[C]at f;exact a x (ak7 (List.mem_of_mem_drop f))
 ·rintro y (rfl|⟨g,i,s,rfl,w,j⟩)
  ·exact aa ⟨by simp,λh=>by cases h⟩
  ·dsimp only;refine ax (λ_=>aa ⟨by simp,λh=>by cases h⟩) λc1=> ?_;have q:((g.length:Nat):Int)=1:=by simpa using c1
   refine ai (xp (by omega) (by omega)) λe o=> ?_;have:=w e o.2;refine ai (NR b e (by omega) 1) λr B=> ?_;refine ai (JA b r.1 (by omega)) λd m=> ?_;have n:d.1.2.length<=4*c.length:=aiW m (by omega);have p:GB N c.length (k,[],[],[],[],(i,s),d.1):=⟨.inl rfl,by simp,by simp,E,by dsimp only;omega,j,n⟩;exact ax (λ_=>aa ⟨by simp,λ_=>p⟩) λ_=>aa ⟨by simp,λ_=>p⟩
def Si{N:Nat}(a:FN N)(b:Bs)(c:b.length<10000000):SM (ge N b):=by
 unfold ge syv;exact aV (PN (Wf a b c)) λ_=>ag _
def Ff{N:Nat}(a:FN N)(k:Int)(b:Bs)(c:b.length<1000000000):OW (eE N k b) λr=>r.1.length<=b.length+6:=by
 unfold eE syv;exact ai (Aq a 2 (by omega) true k b c 2 rfl) λr d=>aa d
def Ud{N:Nat}(a:FN N)(g:jw)(h:g.2.2.2.1.length<9000000):SM (fy N g):=by
 unfold fy syv;refine bI _ (aV (Si a _ (by omega)) λ_=>ag _) (bI _ ?_ (bI _ (bI _ (ag _) (bI _ (ag _) (bI _ (ag _) (ag _)))) (ag _)));exact yR (Ff a _ _ (by omega)) λr b=>bI _ (aV (Si a _ (by omega)) λ_=>ag _) (ag _)
def OR(k:Int):SM (cg k):=by
 unfold cg syv;refine aV (bI _ (ag _) (aV (bI _ (ag _) (aV (bI _ (ag _) (ag _)) λ_=>ag _)) λ_=>ag _)) λ_=>bI _ (ag _) (ag _)
def zG:jw:=(0,[],[],[],[],(0,[]),0,[])
def agn{N:Nat}(g:FN N)(B:Nat)(c:Bs)(q:c.length<9000000)(o:c.length<=B)(x:Option (jw×Bool))(p:Int)(h:OW x λr=>r.1.2.2.2.1.length<=c.length/\(r.2=true->GB N c.length r.1)):
 OW (x.bind λ(a,b)=>bif (!b) then some (zG,(6:Int),p) else(fy N a).bind λd=>bif (!d) then some (zG,6,p) else some (a,0,0)) λr=>r.2.1=0->GB N B r.1:=by
 refine ai h λr i=> ?_;refine ax (λ_=>aa (λh=>by cases h)) λc1=> ?_;refine ai (Ud g r.1 (by omega)) λc _=>ax (λ_=>aa (λh=>by cases h)) λ_=>aa λ_=> ?_;obtain⟨e,j,k,f,l,m,n⟩:=i.2 (by simpa using c1);refine⟨e.imp id λh=>⟨h.1,?_⟩,?_,?_,f,?_,?_,?_⟩<;>dsimp only<;>omega
def aaN{N:Nat}(d:FN N)(a:Bs)(y:a.length<9000000):OW (eQ N a) λr=>r.2.1=0->GB N a.length r.1:=by
 unfold eQ syv;refine ai (IB d a (by omega)) ?_;rintro⟨v,e,o⟩ (⟨p,t,g,q,s⟩|⟨g,_⟩)
 ·cases p;have u:=lu t;have w:a.length=(am t).length:=by rw[q]
  dsimp only;rw[show((0:Int) !=0)=false from rfl,ahM,s.body];have f:OW (some (zG,(3:Int),(0:Int)):Option (jw×Int×Int)) λr=>r.2.1=0->GB N a.length r.1:=aa λh=>by cases h
  have b:∀(i:Bool)(x:Option (jw×Bool)),OW x (λr=>r.1.2.2.2.1.length<=t.2.2.2.length/\(r.2=true->GB N t.2.2.2.length r.1))->OW (bif i then some (zG,(3:Int),(0:Int)) else(cg v.2.1).bind λk=>bif (!(v.2.2.1==k)) then some (zG,3,0) else(some t.2.2.2).bind λz=>x.bind λ(j,l)=>bif (!l) then some (zG,(6:Int),v.2.2.2.2.1) else(fy N j).bind λm=>bif (!m) then some (zG,6,v.2.2.2.2.1) else some (j,0,0)) (λr=>r.2.1=0->GB N a.length r.1):=by
   intro i x n;refine ax (λ_=>f) λ_=>ai (OR _) λc _=>ax (λ_=>f) λ_=> ?_;rw[ahE];exact agn d a.length t.2.2.2 (by omega) (by omega) x _ n
  refine ax (λ_=>b _ _ (ac9 d _ _ (by omega))) λ_=> ?_;refine ax (λ_=>b _ _ (Sh d _ _ (by omega))) λ_=> ?_;refine ax (λ_=>b _ _ (Sh d _ _ (by omega))) λ_=> ?_;refine ax (λ_=>b _ _ (Uc _ _ (by omega))) λ_=> ?_;refine ax (λ_=>b _ _ (agl d _ _ (by omega))) λ_=> ?_;refine ax (λ_=>b _ _ (ada d _ _ (by omega))) λ_=> ?_;refine ax (λ_=>b _ _ (Sh d _ _ (by omega))) λ_=> ?_;refine ax (λ_=>b _ _ (Uc _ _ (by omega))) λ_=> ?_;refine ax (λ_=>b _ _ (agm d _ _ (by omega))) λ_=> ?_;exact f
 ·dsimp only;rw[qj g];exact aa λh=>absurd h g
end Go.Fw
def alw:=@List.sum_append
namespace Go.Fw
open Go
def Sj{σ e:Type}{Q:e->Prop}(F:Nat->Nat->σ->Option e)(L:Nat)(I:Nat->σ->Prop)
 (a:∀n s,I L s->OW (F (n+1) L s) Q)
 (step:∀n i s,i<L->I i s->(∀b,I (i+1) b->OW (F n (i+1) b) Q)->OW (F (n+1) i s) Q):∀n i s,i<=L->L-i<n->I i s->OW (F n i s) Q:=by
 intro n;induction n with
 |zero=>intro i s _ h;omega
 |succ n f=>
  intro i s g j d;by_cases h:i=L
  ·subst h;exact a n s d
  ·exact step n i s (by omega) d λb c=>f (i+1) b (by omega) (by omega) c
def gz.snoc{α c:Type}{R:α->c->Prop}{xs:List α}{d:List c}{a:α}{b:c}(h:gz R xs d)(r:R a b):gz R (xs++[a]) (d++[b]):=by
 induction h with
 |nil=>exact .cons r .nil
 |cons e _ f=>exact .cons e f
def gz.get1{α e:Type}{R:α->e->Prop}{xs:List α}{c:List e}(h:gz R xs c){i:Nat}(d:i<c.length):∃a b,xs[i]?=some a/\c[i]?=some b/\R a b:=by
 obtain⟨a,f,g⟩:=h.get (ahG d);exact⟨a,_,f,ahG d,g⟩
def mq(a:List TLV):List Nat:=a.map λt=>(am t).length
def As:∀a:List TLV,(mq a).sum=(aA a).length
 |[]=>rfl
 |t::a=>by
  have:=As a;unfold mq aA at*;simp only[ahU,ai6,List.flatten_cons,ahJ];omega
def Fg(c:List TLV):∀b∈mq c,2<=b:=by
 intro b a;obtain⟨t,_,rfl⟩:=aiz.1 a;have:=vP t;have:(aY t.2.2.2.length).length≠0:=by
  have:=Id t.2.2.2.length;unfold aY;split
  ·omega
  ·simp
 omega
def OS(a:List TLV)(i:Nat)(t:TLV)(h:a[i]?=some t):mq (a.take (i+1))=mq (a.take i)++[(am t).length]:=by
 unfold mq;rw[aiM,h,aiN];rfl
def GL(N B:Nat)(c:List jw):Prop:=∃a:List Nat,gz (GB N) a c/\a.sum<=B/\∀b∈a,2<=b
def IF:∀a:List Nat,(∀b∈a,2<=b)->2*a.length<=a.sum
 |[],_=>by simp
 |b::a,h=>by
  have d:=h b (by simp);have e:=IF a λx c=>h x (by simp[c]);simp only[ahL,ai6];omega
def Fh:∀(bs:List Nat)(i:Nat),(bs.take i).sum<=bs.sum
 |[],i=>by simp
 |b::bs,0=>by simp
 |b::bs,i+1=>by
  have:=Fh bs i;simp only[ajy,ai6];omega
variable{Z:List jw}
def GL.len{N B:Nat}(h:GL N B Z):2*Z.length<=B:=by
 obtain⟨a,b,d,c⟩:=h;have:=IF a c;have:=b.length;omega
def GL.mono{N B C:Nat}(h:GL N B Z)(e:B<=C):GL N C Z:=by
 obtain⟨a,b,d,c⟩:=h;exact⟨a,b,by omega,c⟩
def GL.nil(N B:Nat):GL N B []:=⟨[],.nil,by simp,by simp⟩
def Sk{N:Nat}(k:FN N)(a:Bs)(E:a.length<9000000):OW (bK N a) λr=>r.2.1=0->GL N a.length r.1:=by
 have m:=k;unfold FN at m;unfold bK syv;refine ai (sT k a (by omega) 0 16) ?_;rintro⟨l,e,o⟩ (⟨C,b,u,_,_,D,p⟩|⟨u,_⟩)
 ·cases C;have G:(aA b).length<a.length:=by rw[D];exact gS
  have c:=p.length;have z:=iV b;dsimp only at p c⊢;rw[show((0:Int) !=0)=false from rfl,ahM];refine ax (λ_=>aa λ_=>GL.nil _ _) λ_=> ?_;have v:=Sj (Q:=λy:(Int×Int)⊕List jw=>∀g,y=.inr g->gz (GB N) (mq b) g) (λn i s=>em N n (a,l,(l.length:Int),(i:Int),s)) l.length (λi s=>i<=l.length/\gz (GB N) (mq (b.take i)) s)
   (λn s f=>by
     show OW (bif decide ((l.length:Int)<(l.length:Int)) then _ else some _) _;rw[ahH (by omega)];refine aa λg h=> ?_;cases h;have:=f.2;rwa[aib (by omega)]at this)
   (λn i s q f rec=>by
     have d:=f.2.length;unfold mq at d;rw[aiq,aid]at d;show OW (bif decide ((i:Int)<(l.length:Int)) then _ else some _) _;obtain⟨t,e,w,B,x⟩:=p.get1 q;have F:=kO b t (aif w);rw[ahK (by omega),ahS,cr B,ahE,x.whole,ahE];refine ai (aaN k (am t) (by omega)) λr A=>ax (λ_=>aa λg h=>by cases h) λc1=> ?_;rw[fY (by omega) (by simp;omega),ahE,cC (by omega)];refine rec _ ⟨by omega,?_⟩;rw[OS b i t w];exact f.2.snoc (A (by simpa using c1)))
   N 0 [] (by omega) (by omega) ⟨by omega,.nil⟩
  refine ai v ?_;rintro(⟨i,j⟩|g) h
  ·refine aa λh=> ?_;exact GL.nil _ _
  ·exact aa λ_=>⟨mq b,h g rfl,by rw[As];omega,Fg b⟩
 ·dsimp only;rw[qj u];exact aa λh=>absurd h u
def aaO(g:jw):SM (Lt g):=Go.Proofs.Tryz.alone_sm0 g
def ae7{N:Nat}(j:FN N)(x y:Int×Bs)(B:Nat)(F:x.2.length<=4*B)(G:y.2.length<=4*B)(H:B<=200000)(c:List (Int×Bs))(m:c=[x,y])(L:Int)(I:L=(2:Nat)):OW (dY N N (c,L,0,[])) λr=>∀l,r=.inr l->l.length<=32*B+24:=by
 have k:=j;unfold FN at k;have p:=Sj (Q:=λy:Int⊕Bs=>∀g,y=.inr g->g.length<=32*B+24) (λn i s=>dY N n (c,L,(i:Int),s)) 2 (λi s=>s.length<=i*(16*B+12))
  (λn s z=>by
    show OW (bif decide (((2:Nat):Int)<L) then _ else some (Sum.inr s)) _;rw[ahH (by omega)];refine aa λg h=> ?_;cases h;omega)
  (λn i s D z rec=>by
    show OW (bif decide ((i:Int)<L) then _ else some (Sum.inr s)) _;rw[ahK (by omega),ahS];have J:i*(16*B+12)<=2*(16*B+12):=aiD _ (by omega);have E:(i+1)*(16*B+12)=i*(16*B+12)+(16*B+12):=ajV _ _;obtain⟨e,A,C⟩:∃e,c[i]?=some e/\e.2.length<=4*B:=by
     subst m;rcases (by omega:i=0∨i=1) with rfl|rfl
     ·exact⟨x,rfl,F⟩
     ·exact⟨y,rfl,G⟩
    have w:∀b:Bs,b.length<=(i+1)*(16*B+12)->OW (dY N n (c,L,aq .i64 (i:Int) 1,b)) λy:Int⊕Bs=>∀g,y=.inr g->g.length<=32*B+24:=λb h=>by
     rw[cC (by omega)];exact rec b h
    rw[cr A,ahE];have a:∀b o,o=(i:Int)->b=s->OW ((ep N e).bind λx=>match x with
     |(t,d)=>bif d !=0 then some (Sum.inl d) else(eE N o t).bind λx=>match x with
      |(u,f)=>bif f !=0 then some (Sum.inl f) else(app 1 b u).bind λv=>dY N n (c,L,aq .i64 o 1,v)) λy:Int⊕Bs=>∀g,y=.inr g->g.length<=32*B+24:=by
     rintro _ _ rfl rfl;refine ai (Sg j e (by omega)) λr M=>ax (λ_=>aa λg h=>by cases h) λ_=> ?_;refine ai (Ff j i r.1 (by omega)) λq K=>ax (λ_=>aa λg h=>by cases h) λ_=> ?_;rw[fY (by omega) (by omega),ahE];refine w _ ?_;rw[ahJ];omega
    exact ax (λ_=>ax (λ_=>w s (by omega)) λ_=>a s i rfl rfl) λ_=>a s i rfl rfl)
  N 0 [] (by omega) (by omega) (by simp)
 exact p
def adb{N:Nat}(a:FN N)(g:jw)(B:Nat)(h:GB N B g)(u:B<=200000):OW (gK N g) λr=>r.1.length<=36*B+40:=by
 have d:=a;unfold FN at d;obtain⟨m,v,w,j,n,o,s⟩:=h;have b:OW (dF N g.2.1) λr=>r.1.length<=B+6:=by
  rcases m with h|⟨k,t⟩
  ·rw[h];refine Iy (Dy a [] (by simp)) ?_;have:=sd [];cases j5 []
   ·simp
   ·exact aiW this (by simp)
  ·have:=IP k;refine Iy (Dy a _ (by omega)) ?_;rw[k];exact aiW t (by omega)
 unfold gK syv;refine ax (λ_=> ?_) λ_=> ?_
 ·refine ai b λr f=>ax (λ_=>aa (by simp)) λ_=> ?_;refine ai (Aq a 0 (by omega) false 6 r.1 (by omega) 0 rfl) λq z=>ax (λ_=>aa (by simp)) λ_=> ?_;refine ai (Ff a 0 _ (by omega)) λp x=> ?_;have e:([q.1,p.1]:List Bs).flatten.length=q.1.length+p.1.length:=by simp
  try dsimp only
  rw[ub N _ (by simp;omega) d.2 (by rw[e];omega),ahE];refine aa ?_;dsimp only;rw[e];omega
 ·refine ai (R:=λy=>∃c,y=(g.1,c,g.1,g.2.1,g.2.2.1,g.2.2.2.1,g.2.2.2.2.1,g.2.2.2.2.2.1.1,g.2.2.2.2.2.1.2,g.2.2.2.2.2.2)) ?_ ?_
  ·refine ax (λ_=>aa ⟨_,rfl⟩) λ_=> ?_;refine ai (R:=λy=>∃c,y=(g.1,c,g.1,g.2.1,g.2.2.1,g.2.2.2.1,g.2.2.2.2.1,g.2.2.2.2.2.1.1,g.2.2.2.2.2.1.2,g.2.2.2.2.2.2)) ?_ ?_
   ·exact ax (λ_=>aa ⟨_,rfl⟩) λ_=>aa ⟨_,rfl⟩
   ·rintro _ ⟨c,rfl⟩;exact aa ⟨_,rfl⟩
  ·rintro _ ⟨c,rfl⟩;dsimp only;refine ax (λ_=> ?_) λ_=> ?_
   ·exact ai (abG a (22,g.2.2.1) (by dsimp only;omega)) λr f=>aa (by dsimp only at f⊢;omega)
   ·refine ai (R:=λy=>∃c,y=(g.1,c,g.1,g.2.1,g.2.2.1,g.2.2.2.1,g.2.2.2.2.1,g.2.2.2.2.2.1.1,g.2.2.2.2.2.1.2,g.2.2.2.2.2.2)) ?_ ?_
    ·exact ax (λ_=>aa ⟨_,rfl⟩) λ_=>aa ⟨_,rfl⟩
    ·rintro _ ⟨c,rfl⟩;dsimp only;refine ax (λ_=>aa (by dsimp only;omega)) λ_=>ax (λ_=> ?_) λ_=>ax (λ_=> ?_) λ_=>ax (λ_=> ?_) λ_=>aa (by simp)
     ·have A:=acW j;refine ai (Iy (Q:=λr=>r.1.length<=B+2) (R5 a _ (by omega)) ?_) λr f=>aa (by first|omega|(dsimp only;omega));rw[j];exact n
     ·refine ai (ae7 a (g.2.2.2.2.2.1.1,g.2.2.2.2.2.1.2) g.2.2.2.2.2.2 B o s u _ rfl _ rfl) ?_;rintro(i|l) h
      ·exact aa (by simp)
      ·have:=h l rfl;exact aa (by dsimp only;omega)
     ·exact ai b λr f=>aa (by first|omega|(dsimp only;omega))
def aht{N:Nat}(a:FN N)(g:jw)(B:Nat)(h:GB N B g)(b:B<=200000):OW (gV N g) λr=>r.1.length<=36*B+60:=by
 unfold gV syv;refine ai (aaO g) λc _=>ax (λ_=>aa (by simp)) λ_=> ?_;refine ai (Ud a g (by have:=h.2.2.1;omega)) λc _=>ax (λ_=>aa (by simp)) λ_=> ?_;refine ai (adb a g B h b) λr e=>ax (λ_=>aa (by simp)) λ_=> ?_;refine ai (OR _) λc _=> ?_;refine ai (Aq a 2 (by omega) c g.1 r.1 (by omega) 2 rfl) λq d=> ?_;refine ai (aaN a q.1 (by omega)) λp _=>ax (λ_=>aa (by simp)) λ_=>ax (λ_=>aa (by simp)) λ_=> ?_;exact aa (by dsimp only;omega)
def ago{N:Nat}(e:FN N)(a:List jw)(B:Nat)(h:GL N B a)(E:B<=200000):OW (fB N a) λr=>r.1.length<=66*B+6:=by
 have f:=e;unfold FN at f;have x:=h.len;obtain⟨d,q,D,u⟩:=h;unfold fB syv;have o:=Sj (Q:=λy:Int⊕List Bs=>∀l,y=.inr l->l.length<=a.length/\l.flatten.length<=66*B) (λn i s=>fg N n (a,(a.length:Int),(i:Int),s)) a.length (λi s=>s.length=i/\s.flatten.length<=66*(d.take i).sum)
  (λn s w=>by
    show OW (bif decide ((a.length:Int)<(a.length:Int)) then _ else some _) _;rw[ahH (by omega)];refine aa λg h=> ?_;cases h;have:=Fh d a.length;exact⟨by first|omega|(dsimp only;omega),by first|omega|(dsimp only;omega)⟩)
  (λn i s j w rec=>by
    show OW (bif decide ((i:Int)<(a.length:Int)) then _ else some _) _;obtain⟨b,g,p,C,v⟩:=q.get1 j;have t:=u b (aif p);have m:(d.take (i+1)).sum=(d.take i).sum+b:=by
     rw[aiM,p,alw];simp
    have A:=Fh d (i+1);rw[ahK (by omega),ahS,cr C,ahE];refine ai (aht e g b v (by omega)) λr F=>ax (λ_=>aa λg h=>by cases h) λc1=> ?_;rw[fY (by omega) (by simp;omega),ahE,cC (by omega)];refine rec _ ⟨by simp;omega,?_⟩;rw[akC,ahJ,m];simp only[List.flatten_cons,List.flatten_nil,ah4];omega)
  N 0 [] (by omega) (by omega) ⟨rfl,by simp⟩
 refine ai o ?_;rintro(i|l) z
 ·exact aa (by simp)
 ·obtain⟨G,H⟩:=z l rfl;refine ax (λ_=>aa (by simp)) λ_=> ?_;rw[MG e l (by omega) (by omega),ahE];have:=gr (c:=0) (k:=true) (num:=16) (b:=l.flatten) (by omega);exact aa (by dsimp only;omega)
def Sl{N:Nat}(c:FN N)(a:List jw)(B:Nat)(h:GL N B a)(b:B<=200000):SM (cY N a):=by
 unfold cY syv;exact ai (ago c a B h b) λr _=>ag _
end Go.Fw
namespace Go.Fw
open Go
def gE{σ β:Type}{Q:β->Prop}(b:(σ->Option β)->σ->Option β)(L:Nat)(I:Nat->σ->Prop)
 (step:∀(G:σ->Option β) i s,i<=L->I i s->(∀a,i<L->I (i+1) a->OW (G a) Q)->OW (b G s) Q):
 ∀n i s,i<=L->L-i<n->I i s->OW (Nat.rec (motive:=λ_=>σ->Option β) (λ_=>none) (λ_ G=>b G) n s) Q:=by
 intro n;induction n with
 |zero=>intro i s _ h;omega
 |succ n f=>exact λi s e j d=>step _ i s e d λa g c=>f (i+1) a (by omega) (by omega) c
def IN(a:Bs)(l:List bU):Prop:=∀e∈l,0<=e.2.2.2.1/\e.2.2.2.1<=e.2.2.2.2.1/\e.2.2.2.2.1<=e.2.2.2.2.2/\e.2.2.2.2.2<=(a.length:Int)
def EL.ei{a:Bs}{t:TLV}{e:bU}(h:EL a t e):0<=e.2.2.2.1/\e.2.2.2.1<=e.2.2.2.2.1/\e.2.2.2.2.1<=e.2.2.2.2.2/\e.2.2.2.2.2<=(a.length:Int):=by
 obtain⟨p,q,r,b,c,d,f,g,i,_⟩:=h.bd;rw[b,c,d];omega
def gz.mem{α β:Type}{R:α->β->Prop}{xs:List α}{b:List β}(h:gz R xs b):∀y∈b,∃x∈xs,R x y:=by
 induction h with
 |nil=>intro y a;cases a
 |cons r _ e=>
  intro y a;rcases ah8.1 a with rfl|a
  ·exact⟨_,by simp,r⟩
  ·obtain⟨x,d,c⟩:=e y a;exact⟨x,by simp[d],c⟩
def gz.inn{a:Bs}{d:List TLV}{l:List bU}(h:gz (EL a) d l):IN a l:=λe c=>by
 obtain⟨t,_,b⟩:=h.mem e c;exact b.ei
def Fi(N:Nat)(a:Bs)(c n:Int):OP (aD N a c n) λr=>r.2.1≠0->r.1=[]:=by
 unfold aD syv;refine yP (HE _) λr _=>o9 (λ_=>kS λ_=>rfl) λ_=> ?_;refine yP (HE _) λc _=>o9 (λ_=>kS λ_=>rfl) λ_=> ?_;refine yP (R:=λr=>r.2.1≠0->r.1=[]) ?_ λr h=>kS h;unfold bv syv;refine o9 (λ_=>kS λ_=>rfl) λ_=>o9 (λ_=>kS λ_=>rfl) λ_=>o9 (λ_=>kS λ_=>rfl) λ_=> ?_;refine yP (HE _) ?_;rintro(⟨i,j⟩|⟨i,j,l⟩) _
 ·exact kS λ_=>rfl
 ·exact kS λh=>absurd rfl h
section
variable {β:Type}{Q:β→Prop}
def IG{N:Nat}(q:FN N){a:Bs}{g k:Int}(c n:Nat)(r:g=(c:Int))(s:k=(n:Int))(x:a.length<9000000){f:List bU×Int×Int->Option β}(m:∀e o,e≠0->OW (f ([],e,o)) Q)(h:∀l,IN a l->2*l.length<=a.length->OW (f (l,0,0)) Q):OW ((aD N a g k).bind f) Q:=by
 subst r s;refine ai (VQ (sT q a (by omega) c n) (Fi N a _ _)) ?_;rintro⟨l,e,o⟩ ⟨⟨t,b,d,_,_,u,j⟩|⟨d,_⟩,v⟩
 ·cases t;refine h l j.inn ?_;have h:b.length=l.length:=j.length;have p:=As b;have i:=IF (mq b) (Fg b);have w:(aA b).length<a.length:=by rw[u];exact gS
  unfold mq at i;rw[aiq]at i;unfold mq at p;omega
 ·obtain rfl:l=[]:=v d;exact m e o d
def rJ{N:Nat}(d:FN N){a:Bs}(g:a.length<9000000){f:List bU×Int×Int->Option β}(b:∀e o,e≠0->OW (f ([],e,o)) Q)(c:∀l,IN a l->2*l.length<=a.length->OW (f (l,0,0)) Q):OW ((aD N a 0 16).bind f) Q:=IG d 0 16 rfl rfl g b c
def Mt{N:Nat}(k:FN N){a:Bs}(n:a.length<9000000){f:bU×Int×Int->Option β}(i:∀v e o,e≠0->OW (f (v,e,o)) Q)(j:∀v:bU,0<=v.2.2.2.1->v.2.2.2.1<=v.2.2.2.2.1->v.2.2.2.2.1<=v.2.2.2.2.2->v.2.2.2.2.2<=(a.length:Int)->OW (f (v,0,0)) Q):OW ((bx N a).bind f) Q:=by
 refine ai (IB k a (by omega)) ?_;rintro⟨v,e,o⟩ (⟨l,t,b,p,m⟩|⟨b,_⟩)
 ·cases l;obtain⟨c,d,g,h⟩:=m.ei;exact j v c d g h
 ·exact i v e o b
def vS{a:Bs}{l:List bU}{i:Int}{f:bU->Option β}(o:IN a l)(j:0<=i)(m:i<(l.length:Int))(k:∀e:bU,0<=e.2.2.2.1->e.2.2.2.1<=e.2.2.2.2.1->e.2.2.2.2.1<=e.2.2.2.2.2->e.2.2.2.2.2<=(a.length:Int)->ix l i=some e->OW (f e) Q):OW ((ix l i).bind f) Q:=by
 obtain⟨e,h,n⟩:=xp j m;obtain⟨b,c,d,g⟩:=o e n.2;rw[h];exact k e b c d g h
def Mu{α:Type}{l:List α}{i:Int}{e:α}{f:α->Option β}(h:ix l i=some e)(k:OW (f e) Q):OW ((ix l i).bind f) Q:=by rw[h];exact k
def qx{α:Type}{a:List α}{i j:Int}{f:List α->Option β}(b:0<=i)(c:i<=j)(d:j<=(a.length:Int))(k:∀s:List α,s.length<=a.length->(s.length:Int)=j-i->OW (f s) Q):OW ((slc a i j).bind f) Q:=by
 refine ai (E8 b c d) λs e=> ?_;have:s.length=min j.toNat a.length-i.toNat:=by rw[e,aiC,aid]
 exact k s (by omega) (by omega)
def HT{b:Bs}{a:List bU}{i j:Int}{f:List bU->Option β}(m:IN b a)(g:0<=i)(h:i<=j)(l:j<=(a.length:Int))(k:∀s:List bU,IN b s->s.length<=a.length->(s.length:Int)=j-i->OW (f s) Q):OW ((slc a i j).bind f) Q:=by
 refine ai (E8 g h l) λs d=> ?_;have:s.length=min j.toNat a.length-i.toNat:=by rw[d,aiC,aid]
 refine k s (λe c=>m e ?_) (by omega) (by omega);rw[d]at c;exact ak7 (List.mem_of_mem_drop c)
def NS{e:bU}{c n:Int}{k:Bool}{f:Bool->Option β}(h:∀b,OW (f b) Q):OW ((bA e c k n).bind f) Q:=ai (rI e c n k) λb _=>h b
def vU{s:Bs}{f:Bs->Option β}(a:s.length<10000000)(k:OW (f s) Q):OW ((fP s).bind f) Q:=by rw[m9 a];exact k
def Br{α:Type}{w:Nat}{l:List α}{x:α}{f:List α->Option β}(b:w<=200)(h:l.length<100000000)(k:∀a:List α,a=l++[x]->a.length=l.length+1->OW (f a) Q):OW ((app w l [x]).bind f) Q:=by
 rw[fY b (by simp;omega)];exact k _ rfl (by simp)
def gq{α:Type}{x:α}{f:α->Option β}(h:OW (f x) Q):OW ((some x).bind f) Q:=h
def jQ{α γ:Type}{x:Option α}{g:α->Option γ}{f:γ->Option β}(h:OW (x.bind λa=>(g a).bind f) Q):OW ((x.bind g).bind f) Q:=by
 rw[Option.bind_assoc];exact h
def lM{α:Type}{c:Bool}{x y:Option α}{f:α->Option β}(a:OW (bif c then x.bind f else y.bind f) Q):OW ((bif c then x else y).bind f) Q:=by
 cases c<;>exact a
def oy{e:Int}{x y:Option β}(a:e≠0->OW x Q)(b:e=0->OW y Q):OW (bif (e !=0) then x else y) Q:=ax (λh=>a (by simpa using h)) λh=>b (by simpa using h)
def HB{e d:Int}{x y:Option β}(a:e=d->OW x Q)(b:e≠d->OW y Q):OW (bif (e==d) then x else y) Q:=ax (λh=>a (by simpa using h)) λh=>b (by simpa using h)
def PP{e d:Int}{x y:Option β}(a:e≠d->OW x Q)(b:e=d->OW y Q):OW (bif (e !=d) then x else y) Q:=ax (λh=>a (by simpa using h)) λh=>b (by simpa using h)
def bM{p:Prop}[Decidable p]{x y:Option β}(a:p->OW x Q)(b:¬p->OW y Q):OW (bif decide p then x else y) Q:=ax (λh=>a (aih h)) λh=>b (ajq h)
def jO{c:Bool}{x y:Option β}(h:OW (bif c then y else x) Q):OW (bif !c then x else y) Q:=by cases c<;>exact h
def k_t{x y:Option β}(h:OW x Q):OW (bif true then x else y) Q:=h
def k_f{x y:Option β}(h:OW y Q):OW (bif false then x else y) Q:=h
def k_c(c:Bool){x y:Option β}(a:OW x Q)(b:OW y Q):OW (bif c then x else y) Q:=ax (λ_=>a) λ_=>b
def jl{α:Type}{x:Option α}{f:α->Option β}(h:SM x)(k:∀a,OW (f a) Q):OW (x.bind f) Q:=ai h λa _=>k a
def Bz{α γ:Type}{x:Option (α×γ)}{f:α×γ->Option β}(h:SM x)(k:∀a b,OW (f (a,b)) Q):OW (x.bind f) Q:=ai h λa _=>k a.1 a.2
def V4{α γ d:Type}{x:Option (α×γ×d)}{f:α×γ×d->Option β}(h:SM x)(k:∀a b c,OW (f (a,b,c)) Q):OW (x.bind f) Q:=ai h λa _=>k a.1 a.2.1 a.2.2
def HU{N:Nat}(d:FN N){a:Bs}{f:Bs×Int->Option β}(g:a.length<9000000)(k:∀s e,s.length<=21*(a.length+1)->OW (f (s,e)) Q):OW ((cp N a).bind f) Q:=by
 refine ai (xg d a (by omega)) ?_;rintro⟨s,e⟩ (⟨_,b,c⟩|h)
 ·dsimp only at b c;have:=IP b;rw[c]at this;exact k s e (by omega)
 ·cases h;exact k _ _ (by simp)
def Mv{N:Nat}(c:FN N){a:Bs}{f:Bs×Int->Option β}(d:a.length<9000000)(k:∀s,s.length<=a.length+6->OW (f (s,0)) Q):OW ((aE N [a]).bind f) Q:=by
 have b:([a]:List Bs).flatten=a:=by simp
 rw[MG c [a] (by simp) (by rw[b];omega),b,ahE];exact k _ (gr (by omega))
variable{Z:Int}
def ae8{N:Nat}(g:FN N)(c:Nat)(h:c<4){b:Bool}{n:Int}{a:Bs}(d:Z=(c:Int)){f:Bs×Int->Option β}(j:a.length<9000000)(k:∀s e,s.length<=a.length+6->OW (f (s,e)) Q):OW ((aI N Z b n [a]).bind f) Q:=
 ai (Aq g c h b n a (by omega) Z d) λr i=>k r.1 r.2 i
def Ds{N:Nat}(c:FN N){b:Bool}{n:Int}{a:Bs}{f:Bs×Int->Option β}(d:a.length<9000000)(k:∀s e,s.length<=a.length+6->OW (f (s,e)) Q):OW ((aI N 0 b n [a]).bind f) Q:=ae8 c 0 (by omega) rfl d k
def Sm{N:Nat}(b:FN N){a:Bs}{f:jw×Int×Int->Option β}(c:a.length<9000000)(k:∀g e o,(e=0->GB N a.length g)->OW (f (g,e,o)) Q):OW ((eQ N a).bind f) Q:=ai (aaN b a c) λr d=>k r.1 r.2.1 r.2.2 d
def Mw{N:Nat}(b:FN N){a:Bs}{f:List jw×Int×Int->Option β}(c:a.length<9000000)(k:∀g e o,(e=0->GL N a.length g)->OW (f (g,e,o)) Q):OW ((bK N a).bind f) Q:=ai (Sk b a c) λr d=>k r.1 r.2.1 r.2.2 d
def HV{N:Nat}(b:FN N){a:Bs}{f:Fw.Node×Int×Int->Option β}(c:a.length<9000000)(k:∀t e o,OW (f (t,e,o)) Q):OW ((cD N a).bind f) Q:=ai (Wf b a (by omega)) λr _=>k r.1 r.2.1 r.2.2
end
def IH{P:Prop}(h:P:=by repeat (first|with_reducible exact(zz _)|with_reducible exact aa trivial|with_reducible refine oy (λ_=> ?_) (λ_=> ?_)|with_reducible refine HB (λ_=> ?_) (λ_=> ?_)|with_reducible refine PP (λ_=> ?_) (λ_=> ?_)|with_reducible refine bM (λ_=> ?_) (λ_=> ?_)|with_reducible refine jO ?_|with_reducible refine k_t ?_|with_reducible refine k_f ?_|with_reducible refine k_c _ ?_ ?_|(with_reducible refine gq ?_<;>try dsimp only)|with_reducible refine jQ ?_|with_reducible refine lM ?_|with_reducible refine NS (λ_=> ?_)|with_reducible refine Mu (by assumption) ?_|with_reducible refine vS (by assumption) (by omega) (by omega) (λ_ _ _ _ _ _=> ?_)|with_reducible refine HT (by assumption) (by omega) (by omega) (by omega) (λ_ _ _ _=> ?_)|with_reducible refine qx (by omega) (by omega) (by omega) (λ_ _ _=> ?_)|with_reducible refine vU (by omega) ?_|with_reducible refine Br (by omega) (by omega) (λ_ _ _=> ?_)|(with_reducible refine HU (by assumption) (by omega) (λ_ _ _=> ?_)<;>try dsimp only)|(with_reducible refine rJ (by assumption) (by omega) (λ_ _ _=> ?_) (λ_ _ _=> ?_)<;>try dsimp only)|(with_reducible refine Mt (by assumption) (by omega) (λ_ _ _ _=> ?_) (λ_ _ _ _ _=> ?_)<;>try dsimp only)|(with_reducible refine Mv (by assumption) (by omega) (λ_ _=> ?_)<;>try dsimp only)|(with_reducible refine Ds (by assumption) (by omega) (λ_ _ _=> ?_)<;>try dsimp only)|(with_reducible refine Sm (by assumption) (by omega) (λ_ _ _ _=> ?_)<;>try dsimp only)|(with_reducible refine Mw (by assumption) (by omega) (λ_ _ _ _=> ?_)<;>try dsimp only)|(with_reducible refine HV (by assumption) (by omega) (λ_ _ _=> ?_)<;>try dsimp only)|(exfalso;omega)|(exfalso;dsimp only at*;omega)|(dsimp only;first|with_reducible exact(zz _)|with_reducible exact aa trivial|with_reducible refine oy (λ_=> ?_) (λ_=> ?_)|with_reducible refine HB (λ_=> ?_) (λ_=> ?_)|with_reducible refine PP (λ_=> ?_) (λ_=> ?_)|with_reducible refine bM (λ_=> ?_) (λ_=> ?_)|with_reducible refine jO ?_|with_reducible refine k_t ?_|with_reducible refine k_f ?_|with_reducible refine k_c _ ?_ ?_|(with_reducible refine gq ?_<;>try dsimp only)|with_reducible refine jQ ?_|with_reducible refine lM ?_|with_reducible refine NS (λ_=> ?_)|with_reducible refine Mu (by assumption) ?_|with_reducible refine vS (by assumption) (by omega) (by omega) (λ_ _ _ _ _ _=> ?_)|with_reducible refine HT (by assumption) (by omega) (by omega) (by omega) (λ_ _ _ _=> ?_)|with_reducible refine qx (by omega) (by omega) (by omega) (λ_ _ _=> ?_)|with_reducible refine vU (by omega) ?_|with_reducible refine Br (by omega) (by omega) (λ_ _ _=> ?_)|(with_reducible refine HU (by assumption) (by omega) (λ_ _ _=> ?_)<;>try dsimp only)|(with_reducible refine rJ (by assumption) (by omega) (λ_ _ _=> ?_) (λ_ _ _=> ?_)<;>try dsimp only)|(with_reducible refine Mt (by assumption) (by omega) (λ_ _ _ _=> ?_) (λ_ _ _ _ _=> ?_)<;>try dsimp only)|(with_reducible refine Mv (by assumption) (by omega) (λ_ _=> ?_)<;>try dsimp only)|(with_reducible refine Ds (by assumption) (by omega) (λ_ _ _=> ?_)<;>try dsimp only)|(with_reducible refine Sm (by assumption) (by omega) (λ_ _ _ _=> ?_)<;>try dsimp only)|(with_reducible refine Mw (by assumption) (by omega) (λ_ _ _ _=> ?_)<;>try dsimp only)|(with_reducible refine HV (by assumption) (by omega) (λ_ _ _=> ?_)<;>try dsimp only)|(exfalso;omega)|(exfalso;dsimp only at*;omega)))):P:=h
def aaP{N:Nat}(b:FN N)(a:Bs)(c:a.length<9000000):SM (gi N a):=by
 unfold gi syv
 (have zz:∀(P:Prop)(h:P:=by exact trivial),P:=λ_ h=>h;exact IH)
def ae9{N:Nat}(b:FN N)(l:List Bs)(B:Nat)(d:B<9000000)(f:l.length<9000000)(h:∀x∈l,x.length<=B):SM (aN N l):=by
 have a:=b;unfold FN at a;unfold aN syv;refine jl ?_ λy=> ?_
 ·unfold aJ syv;refine gE _ l.length (λi s=>∃j,s=(l,(l.length:Int),j)/\j=(i:Int)) ?_ N 0 _ (by omega) (by omega) ⟨_,rfl,rfl⟩;rintro G i _ e ⟨j,rfl,rfl⟩ rec;dsimp only;refine bM (λ_=> ?_) (λ_=>aa trivial);refine ai (xp (by omega) (by omega)) λx c=> ?_;have:=h x c.2;unfold ft syv;refine jl (aV (aaP b x (by omega)) λ_=>ag _) λ_=> ?_
  (have zz:∀(P:Prop)(h:P:=by exact rec _ (by omega) ⟨_,rfl,cC (by omega)⟩),P:=λ_ h=>h;exact IH)
 ·cases y<;>exact ag _
def aaQ{N:Nat}(a:FN N)(l:List Bs)(B:Nat)(b:B<9000000)(c:l.length<9000000)(h:∀x∈l,x.length<=B):SM (fI N l):=by
 unfold fI syv;refine bI _ ?_ (ag _);refine aV (yA (NL a l (by omega) λx d=>by have:=h x d;omega)) λ_=>bI _ ?_ (ag _);unfold aK syv;exact aV (aV (ae9 a l B b c h) λ_=>ag _) λ_=>ag _
def aaR{N:Nat}(p:FN N)(s a:Bs)(A:a.length<9000000):SM (cf N s a):=by
 have q:=p;unfold FN at q;have w:∀(l:List bU)(v:Int×Int),IN a l->2*l.length<=a.length->OW (br N N (a,l,(l.length:Int),0,[],[],s,v)) λr=>r.2.1.length<=l.length/\∀x∈r.2.1,x.length<=a.length:=by
  rintro l ⟨E,F⟩ B k;unfold br syv;refine gE _ l.length (λi D=>∃j c,D=(a,l,(l.length:Int),j,[],c,s,E,F)/\j=(i:Int)/\c.length<=i/\∀x∈c,x.length<=a.length) ?_ N 0 _ (by omega) (by omega) ⟨_,_,rfl,rfl,by simp,by simp⟩;rintro G i _ H ⟨j,c,rfl,rfl,hc1,hc2⟩ rec;dsimp only;refine bM (λ_=> ?_) (λ_=>aa ⟨by dsimp only;omega,hc2⟩);refine vS B (by omega) (by omega) λe _ _ _ _ _=>qx (by omega) (by omega) (by omega) λx C _=>vU (by omega) (Br (by omega) (by omega) λI t _=> ?_);refine rec _ (by omega) ⟨_,_,rfl,cC (by omega),by omega,?_⟩;rw[t];intro y f;rcases air.1 f with f|f
  ·exact hc2 y f
  ·rw[aiF.1 f];exact C
 unfold cf syv;have d:∀(l:List bU)(v:Int×Int),IN a l->2*l.length<=a.length->OW ((br N N (a,l,(l.length:Int),0,[],[],s,v)).bind λx=>match x with
  |(_,b,g,u,_)=>bif (u==0) then(fI N b).bind λm=>some ((g,b),m) else some ((g,b),false)) λ_=>True:=by
  intro l v n k;refine ai (w l v n k) λr z=> ?_;refine ax (λ_=> ?_) λ_=>aa trivial;exact aV (aaQ p _ a.length (by omega) (Nat.lt_of_le_of_lt z.1 (by omega)) z.2) λ_=>ag _
 refine IG p 0 17 rfl rfl A (λe o _=>d [] (e,o) (λ_ h=>by cases h) (by simp)) λl n k=>d l (0,0) n k
def Yb{N:Nat}(b:FN N)(a:Bs)(k:a.length<9000000):SM (cX N a):=by
 have d:=b;unfold FN at d;have f:∀a:Bs,a.length<9000000->SM (aO N a):=λa k=>by
  unfold aO syv
  (have zz:∀(P:Prop)(h:P:=by exact Bz (aaR b _ _ (by omega)) λ_ _=>aa trivial),P:=λ_ h=>h;exact IH)
 unfold cX bS aP syv;refine gq (Bz ?_ λ_ _=>aa trivial);refine IG b 0 16 rfl rfl k (λe o h=>oy (λ_=>aa trivial) λg=>absurd g h) λl m g=> ?_;dsimp only;refine oy (λ_=>aa trivial) λ_=>jl ?_ λy=> ?_
 ·unfold aF syv;refine gE _ l.length (λi s=>∃j c,s=(a,l,(l.length:Int),j,c)/\j=(i:Int)/\c.length<=i) ?_ N 0 _ (by omega) (by omega) ⟨_,_,rfl,rfl,by simp⟩;rintro G i _ p ⟨j,c,rfl,rfl,n⟩ rec;dsimp only;refine bM (λ_=> ?_) (λ_=>aa trivial);refine vS m (by omega) (by omega) λe _ _ _ _ _=>qx (by omega) (by omega) (by omega) λx q _=>Bz (f x (by omega)) λ_ _=> ?_
  (have zz:∀(P:Prop)(h:P:=by exact rec _ (by omega) ⟨_,_,rfl,cC (by omega),by omega⟩),P:=λ_ h=>h;exact IH)
 ·rcases y with i|⟨x,y⟩
  ·exact ag _
  ·exact bI _ (ag _) (ag _)
def V5{N:Nat}(g:FN N)(a:Bs)(k:a.length<9000000):SM (js N a):=by
 have b:=g;unfold FN at b;have d:∀a:Bs,a.length<9000000->SM (dP N a):=λa k=>by
  unfold dP ir syv
  (have zz:∀(P:Prop)(h:P:=by exact trivial),P:=λ_ h=>h;exact IH)
 unfold js ib eG syv;refine gq (Bz ?_ λ_ _=>aa trivial);refine IG g 0 16 rfl rfl k (λe o h=>oy (λ_=>aa trivial) λf=>absurd f h) λl m f=> ?_;dsimp only;refine oy (λ_=>aa trivial) λ_=>jl ?_ λy=> ?_
 ·unfold dL syv;refine gE _ l.length (λi s=>∃j c,s=(a,l,(l.length:Int),j,c)/\j=(i:Int)/\c.length<=i) ?_ N 0 _ (by omega) (by omega) ⟨_,_,rfl,rfl,by simp⟩;rintro G i _ p ⟨j,c,rfl,rfl,n⟩ rec;dsimp only;refine bM (λ_=> ?_) (λ_=>aa trivial);refine vS m (by omega) (by omega) λe _ _ _ _ _=>qx (by omega) (by omega) (by omega) λx q _=>Bz (d x (by omega)) λ_ _=> ?_
  (have zz:∀(P:Prop)(h:P:=by exact rec _ (by omega) ⟨_,_,rfl,cC (by omega),by omega⟩),P:=λ_ h=>h;exact IH)
 ·rcases y with i|⟨x,y⟩
  ·exact ag _
  ·exact bI _ (ag _) (ag _)
end Go.Fw
namespace Go.Fw
def ahz{α β:Type}{Q:β->Prop}{x:Option α}{f:α->Option β}(h:OW (x.bind f) Q):OW x λa=>OW (f a) Q:=by
 cases x with
 |none=>obtain⟨_,h,_⟩:=h;cases h
 |some a=>exact⟨a,rfl,h⟩
def ahA{α:Type}{Q:α->Prop}{c:Bool}{x y:Option α}(h:OW (cond c x y) Q):OW (cond c x y) Q:=h
def afy{p q:Prop}(h:p->q)(k:p):q:=h k
section
variable {β:Type}{Q:β→Prop}
def ML{N:Nat}(u:FN N){a:Bs}{i j:Int}{f:List bU×Int×Int->Option β}(z:0<=i)(A:i<=j)(B:j<=(a.length:Int))(C:a.length<9000000)(v:∀e o,e≠0->OW (f ([],e,o)) Q)(w:∀l o,IN a l->2*l.length<=a.length->OW (f (l,0,o)) Q):OW ((bv N a i j).bind f) Q:=by
 unfold FN at u;obtain⟨i,rfl⟩:∃n:Nat,i=(n:Int):=⟨i.toNat,by omega⟩;obtain⟨j,rfl⟩:∃n:Nat,j=(n:Int):=⟨j.toNat,by omega⟩;obtain⟨l,e,o,h,_⟩:=Kc N a (by omega) i j (by omega) (by omega) (by omega);have g:OP (bv N a (i:Int) (j:Int)) λr=>r.2.1≠0->r.1=[]:=by
  unfold bv;refine o9 (λ_=>kS λ_=>rfl) λ_=>o9 (λ_=>kS λ_=>rfl) λ_=>o9 (λ_=>kS λ_=>rfl) λ_=> ?_;refine yP (HE _) ?_;rintro(⟨i,j⟩|⟨i,j,l⟩) _
  ·exact kS λ_=>rfl
  ·exact kS λh=>absurd rfl h
 have s:=g _ h;rw[h];by_cases d:e=0
 ·subst d;obtain⟨b,q1,p,rfl⟩:=Kf N (by omega) a i j (by omega) (by omega) (by omega) l o h;have c:=Iz b (a.take i) (a.drop j);have t:a.take i++aA b++a.drop j=a:=by
   rw[<-p];have m:=aiQ i (a.take j);rw[List.take_take,alv (by omega)]at m;rw[m,aiQ]
  rw[t,aid,alv (by omega)]at c;refine w _ _ c.inn ?_;have x:b.length=(jA i b).length:=c.length;have q:=As b;have k:=IF (mq b) (Fg b);have y:(aA b).length<=a.length:=by rw[<-p,aiC,aid];omega
  unfold mq at k;rw[aiq]at k;unfold mq at q;omega
 ·obtain rfl:l=[]:=s d;exact v e o d
def Sz{α:Type}{a:List α}{x y j:Int}{f:List α->Option β}(b:0<=x+y)(c:x+y<=j)(d:j<=(a.length:Int))(e:a.length<9000000)(k:∀s:List α,s.length<=a.length->(s.length:Int)=j-(x+y)->OW (f s) Q):OW ((slc a (aq .i64 x y) j).bind f) Q:=by
 rw[gb ⟨by omega,by omega⟩];exact qx b c d k
def Wh{α:Type}{l:List α}{i:Int}{f:α->Option β}(a:0<=i)(b:i<(l.length:Int))(k:∀e,ix l i=some e->OW (f e) Q):OW ((ix l i).bind f) Q:=by
 obtain⟨e,h,c⟩:=xp a b;rw[h];exact k e h
def Wi{N:Nat}(g:FN N){a:Bs}{f:Rdn×Int×Int->Option β}(i:a.length<9000000)(k:∀r e o,(e=0->wR r<=32*a.length)->OW (f (r,e,o)) Q):OW ((dq N a).bind f) Q:=by
 refine ai (XL g a i) ?_;rintro⟨r,e,o⟩ (⟨b,c,d⟩|⟨b,_⟩)
 ·have:=XM c;refine k r e o λ_=> ?_;rw[<-d];exact this
 ·exact k r e o λh=>absurd h b
def SA{a:Bs}{f:Bool×Int->Option β}(k:∀b e,OW (f (b,e)) Q):OW ((cP a).bind f) Q:=Bz (Ua a) k
def N2{N:Nat}(c:FN N){a:Bs}{f:Int×Int->Option β}(d:a.length<10000000)(k:∀b e,OW (f (b,e)) Q):OW ((bh N a 9).bind f) Q:=Bz (Sf c a d) k
def ahB{α:Type}{x:Option α}{v:α}{f:α->Option β}(h:x=some v)(k:OW (f v) Q):OW (x.bind f) Q:=by rw[h];exact k
def agC{N:Nat}(a:FN N){g:List jw}{f:Bool->Option β}(h:GL N 200000 g)(c:∀b,OW (f b) Q):OW ((cY N g).bind f) Q:=jl (Sl a g _ h (ahO _)) c
def ahC{a:Bs}{f:Bool->Option β}(c:∀b,OW (f b) Q):OW ((cW a).bind f) Q:=jl (yA (kX _)) c
end
def aba{P:Prop}(h:P:=by first|assumption|exact GL.nil _ _|refine GL.mono (by assumption) (by omega)|refine GL.mono (afy (by assumption) (by assumption)) (by omega)):P:=h
def abb{P:Prop}(h:P:=by repeat' (first|((conv=>arg 1;whnf);first|exact⟨_,rfl,trivial⟩|refine aap rfl ?_|(refine ahA ?_;(conv=>arg 1;arg 1;dsimp only[dw]);first|refine jO ?_|(refine HB (λ_=> ?_) (λ_=> ?_)<;>try (exfalso;omega))|(refine bM (λ_=> ?_) (λ_=> ?_)<;>try (exfalso;omega))|refine k_c _ ?_ ?_)|((try refine VN ?_);(conv=>arg 1;whnf);(try refine NJ ?_);(conv=>arg 1;whnf;dsimp only[dw]);refine ahz ?_;first|refine NS (λ_=> ?_)|refine ahB (by assumption) ?_|refine vS (by assumption) (by omega) (by omega) (λ_ _ _ _ _ _=> ?_)|refine HT (by assumption) (by omega) (by omega) (by omega) (λ_ _ _ _=> ?_)|refine qx (by omega) (by omega) (by omega) (λ_ _ _=> ?_)|refine vU (by omega) ?_|refine Br (by omega) (by omega) (λ_ _ _=> ?_)|refine HU hNN (by omega) (λ_ _ _=> ?_)|refine rJ hNN (by omega) (λ_ _ _=> ?_) (λ_ _ _=> ?_)|refine Mt hNN (by omega) (λ_ _ _ _=> ?_) (λ_ _ _ _ _=> ?_)|refine Mv hNN (by omega) (λ_ _=> ?_)|refine Ds hNN (by omega) (λ_ _ _=> ?_)|refine Sm hNN (by omega) (λ_ _ _ _=> ?_)|refine Mw hNN (by omega) (λ_ _ _ _=> ?_)|refine HV hNN (by omega) (λ_ _ _=> ?_)|refine Wh (by omega) (by omega) (λ_ _=> ?_)|refine Sz (by omega) (by omega) (by omega) (by omega) (λ_ _ _=> ?_)|refine Wi hNN (by omega) (λ_ _ _ _=> ?_)|refine agC hNN aba (λ_=> ?_)|refine ahC (λ_=> ?_)|refine ML hNN (by omega) (by omega) (by omega) (by omega) (λ_ _ _=> ?_) (λ_ _ _ _=> ?_)|refine SA (λ_ _=> ?_)|refine N2 hNN (by omega) (λ_ _=> ?_))|refine VN ?_|refine NJ ?_)|(exfalso;omega)|exact zz _)):P:=h
end Go.Fw
namespace Go.Fw
def ahp{P:Prop}(h:P:=by first|assumption|exact aiW (afy (by assumption) (by assumption)) (by omega)):P:=h
end Go.Fw
namespace Go.Proofs.Tryz
open Go Go.Fw
attribute [local irreducible] bx bA slc fP bh gj cj cW cP ix app aD aE bK cY cp aI cD eQ bv dq
set_option maxRecDepth 6000
set_option maxHeartbeats 0
def keyid_sm0(a:Bs)(b:a.length<190000):SM (xl.run a):=by
 refine VO ?_;exact abb
end Go.Proofs.Tryz
namespace Go.Fw
open Go
def dE{P:Prop}(h:P:=by repeat (first|with_reducible exact(zz _)|with_reducible exact aa trivial|with_reducible refine oy (λ_=> ?_) (λ_=> ?_)|with_reducible refine HB (λ_=> ?_) (λ_=> ?_)|with_reducible refine PP (λ_=> ?_) (λ_=> ?_)|with_reducible refine bM (λ_=> ?_) (λ_=> ?_)|with_reducible refine jO ?_|with_reducible refine k_t ?_|with_reducible refine k_f ?_|with_reducible refine k_c _ ?_ ?_|(with_reducible refine gq ?_<;>try dsimp only)|with_reducible refine jQ ?_|with_reducible refine lM ?_|with_reducible refine NS (λ_=> ?_)|with_reducible refine Mu (by assumption) ?_|with_reducible refine vS (by assumption) (by omega) (by omega) (λ_ _ _ _ _ _=> ?_)|with_reducible refine HT (by assumption) (by omega) (by omega) (by omega) (λ_ _ _ _=> ?_)|with_reducible refine qx (by omega) (by omega) (by omega) (λ_ _ _=> ?_)|with_reducible refine vU (by omega) ?_|with_reducible refine Br (by omega) (by omega) (λ_ _ _=> ?_)|(with_reducible refine HU (by assumption) (by omega) (λ_ _ _=> ?_)<;>try dsimp only)|(with_reducible refine rJ (by assumption) (by omega) (λ_ _ _=> ?_) (λ_ _ _=> ?_)<;>try dsimp only)|(with_reducible refine Mt (by assumption) (by omega) (λ_ _ _ _=> ?_) (λ_ _ _ _ _=> ?_)<;>try dsimp only)|(with_reducible refine Mv (by assumption) (by omega) (λ_ _=> ?_)<;>try dsimp only)|(with_reducible refine Ds (by assumption) (by omega) (λ_ _ _=> ?_)<;>try dsimp only)|(with_reducible refine Sm (by assumption) (by omega) (λ_ _ _ _=> ?_)<;>try dsimp only)|(with_reducible refine Mw (by assumption) (by omega) (λ_ _ _ _=> ?_)<;>try dsimp only)|(with_reducible refine HV (by assumption) (by omega) (λ_ _ _=> ?_)<;>try dsimp only)|(with_reducible refine Wh (by omega) (by omega) (λ_ _=> ?_)<;>try dsimp only)|(with_reducible refine Sz (by omega) (by omega) (by omega) (by omega) (λ_ _ _=> ?_)<;>try dsimp only)|(with_reducible refine Wi (by assumption) (by omega) (λ_ _ _ _=> ?_)<;>try dsimp only)|(with_reducible refine ML (by assumption) (by omega) (by omega) (by omega) (by omega) (λ_ _ _=> ?_) (λ_ _ _ _=> ?_)<;>try dsimp only)|(with_reducible refine SA (λ_ _=> ?_)<;>try dsimp only)|(with_reducible refine N2 (by assumption) (by omega) (λ_ _=> ?_)<;>try dsimp only)|(exfalso;omega)|(exfalso;dsimp only at*;omega)|(dsimp only;first|with_reducible exact(zz _)|with_reducible exact aa trivial|with_reducible refine oy (λ_=> ?_) (λ_=> ?_)|with_reducible refine HB (λ_=> ?_) (λ_=> ?_)|with_reducible refine PP (λ_=> ?_) (λ_=> ?_)|with_reducible refine bM (λ_=> ?_) (λ_=> ?_)|with_reducible refine jO ?_|with_reducible refine k_t ?_|with_reducible refine k_f ?_|with_reducible refine k_c _ ?_ ?_|(with_reducible refine gq ?_<;>try dsimp only)|with_reducible refine jQ ?_|with_reducible refine lM ?_|with_reducible refine NS (λ_=> ?_)|with_reducible refine Mu (by assumption) ?_|with_reducible refine vS (by assumption) (by omega) (by omega) (λ_ _ _ _ _ _=> ?_)|with_reducible refine HT (by assumption) (by omega) (by omega) (by omega) (λ_ _ _ _=> ?_)|with_reducible refine qx (by omega) (by omega) (by omega) (λ_ _ _=> ?_)|with_reducible refine vU (by omega) ?_|with_reducible refine Br (by omega) (by omega) (λ_ _ _=> ?_)|(with_reducible refine HU (by assumption) (by omega) (λ_ _ _=> ?_)<;>try dsimp only)|(with_reducible refine rJ (by assumption) (by omega) (λ_ _ _=> ?_) (λ_ _ _=> ?_)<;>try dsimp only)|(with_reducible refine Mt (by assumption) (by omega) (λ_ _ _ _=> ?_) (λ_ _ _ _ _=> ?_)<;>try dsimp only)|(with_reducible refine Mv (by assumption) (by omega) (λ_ _=> ?_)<;>try dsimp only)|(with_reducible refine Ds (by assumption) (by omega) (λ_ _ _=> ?_)<;>try dsimp only)|(with_reducible refine Sm (by assumption) (by omega) (λ_ _ _ _=> ?_)<;>try dsimp only)|(with_reducible refine Mw (by assumption) (by omega) (λ_ _ _ _=> ?_)<;>try dsimp only)|(with_reducible refine HV (by assumption) (by omega) (λ_ _ _=> ?_)<;>try dsimp only)|(with_reducible refine Wh (by omega) (by omega) (λ_ _=> ?_)<;>try dsimp only)|(with_reducible refine Sz (by omega) (by omega) (by omega) (by omega) (λ_ _ _=> ?_)<;>try dsimp only)|(with_reducible refine Wi (by assumption) (by omega) (λ_ _ _ _=> ?_)<;>try dsimp only)|(with_reducible refine ML (by assumption) (by omega) (by omega) (by omega) (by omega) (λ_ _ _=> ?_) (λ_ _ _ _=> ?_)<;>try dsimp only)|(with_reducible refine SA (λ_ _=> ?_)<;>try dsimp only)|(with_reducible refine N2 (by assumption) (by omega) (λ_ _=> ?_)<;>try dsimp only)|(exfalso;omega)|(exfalso;dsimp only at*;omega)))):P:=h
def XD{N:Nat}(n:FN N)(a:Bs)(r:a.length<9000000)(e:bU)(t:0<=e.2.2.2.1)(u:e.2.2.2.1<=e.2.2.2.2.1)(p:e.2.2.2.2.1<=e.2.2.2.2.2)(q:e.2.2.2.2.2<=(a.length:Int)):SM (jp N a e):=by
 have m:=n;unfold FN at m;unfold jp syv;refine ML n (by omega) p q r (λ_ _ _=> ?_) λl o x h=> ?_
 ·(have zz:∀(P:Prop)(h:P:=by exact trivial),P:=λ_ h=>h;exact dE)
 ·dsimp only;refine oy (λ_=>aa trivial) λ_=> ?_;refine jl ?_ λy=> ?_
  ·unfold iN syv;refine gE _ l.length (λi s=>∃j c1 b d f g k c,s=(a,l,(l.length:Int),j,c1,b,d,f,g,k,c)/\j=(i:Int)/\c.length<=i) ?_ N 0 _ (by omega) (by omega) ⟨_,_,_,_,_,_,_,_,rfl,rfl,by simp⟩;rintro G i _ w ⟨j,c1,b,d,f,g,k,c,rfl,rfl,v⟩ rec;dsimp only
   (have zz:∀(P:Prop)(h:P:=by exact rec _ (by omega) ⟨_,_,_,_,_,_,_,_,rfl,cC (by omega),by omega⟩),P:=λ_ h=>h;exact dE)
  ·rcases y with⟨i,j⟩|⟨c1,b,d,f,g,k,c⟩
   ·exact ag _
   ·(have zz:∀(P:Prop)(h:P:=by exact trivial),P:=λ_ h=>h;exact dE)
def VK{N:Nat}(c:FN N)(a:Bs)(f:a.length<9000000):SM (iY N a):=by
 have d:=c;unfold FN at d;unfold iY syv;refine rJ c f (λ_ _ _=> ?_) λl p h=> ?_
 ·(have zz:∀(P:Prop)(h:P:=by exact trivial),P:=λ_ h=>h;exact dE)
 ·dsimp only;refine oy (λ_=>aa trivial) λ_=> ?_;refine jl ?_ λy=> ?_
  ·unfold jh syv;refine gE _ l.length (λi s=>∃j g c1 b,s=(a,g,l,(l.length:Int),j,c1,b)/\j=(i:Int)) ?_ N 0 _ (by omega) (by omega) ⟨_,_,_,_,rfl,rfl⟩;rintro G i _ t ⟨j,g,c1,b,rfl,rfl⟩ rec;dsimp only;refine bM (λ_=> ?_) λ_=>aa trivial;refine vS p (by omega) (by omega) λe k m n o _=> ?_;refine NS λ_=>jO (k_c _ ?_ (aa trivial));refine bM (λ_=>aa trivial) λ_=>bM (λ_=>aa trivial) λ_=> ?_;refine V4 (XD c a f e k m n o) λ_ _ _=> ?_
   (have zz:∀(P:Prop)(h:P:=by exact rec _ (by omega) ⟨_,_,_,_,rfl,cC (by omega)⟩),P:=λ_ h=>h;exact dE)
  ·rcases y with⟨i,j⟩|⟨c1,b,q,r⟩
   ·exact ag _
   ·(have zz:∀(P:Prop)(h:P:=by exact trivial),P:=λ_ h=>h;exact dE)
def R3{N:Nat}(a:FN N)(g:List jw)(r:Rdn)(x:Int)(d:GL N 200000 g)(e:wR r<=6500000):SM (gu N (g,r) x):=by
 unfold gu syv;have b:SM (cY N (g,r).1):=Sl a g _ d (ahO _);have c:SM (jm N (g,r).2):=yA (XJ a r (by omega))
 repeat (first|exact ag _|refine bI _ ?_ ?_|refine aV b λ_=> ?_|refine aV c λ_=> ?_)
end Go.Fw
namespace Go.Fw
open Go
def PK(N:Nat)(r:List jw×Rdn×Int×List jw×Bool×Bool×Bool×Bool×Bool×Bool):Prop:=GL N 200000 r.1/\wR r.2.1<=6500000/\GL N 200000 r.2.2.2.1
end Go.Fw
namespace Go.Proofs.Tryz
open Go Go.Fw
attribute [local irreducible] bx bA slc fP bh gj cj cW cP ix app aD aE bK cY cp aI cD eQ bv dq
set_option maxRecDepth 6000
set_option maxHeartbeats 0
def VL(s a:Bs)(H:s.length<=6)(D:a.length<190000)(l:List bU)(F:IN a l)(h:2*l.length<=a.length):OW (pN.1.fn (s,a,(-1),l,(l.length:Int),0,[],[],0,[],false,false,false,false,false,false)) λy:(Int×Int)⊕(List jw×Rdn×Int×List jw×Bool×Bool×Bool×Bool×Bool×Bool)=>∀r,y=.inr r->PK NN r:=by
 have C:=hNN;have n:=hNN;unfold FN at n;refine gE _ l.length (λi B=>∃(o j:Int)(g:List jw)(r:Rdn)(x:Int)(h:List jw)(c1 c d e f k:Bool),B=(s,a,o,l,(l.length:Int),j,g,r,x,h,c1,c,d,e,f,k)/\j=(i:Int)/\-1<=o/\GL NN 200000 g/\wR r<=6500000/\GL NN 200000 h) ?_ NN 0 _ (by omega) (by omega) ⟨_,_,_,_,_,_,_,_,_,_,_,_,rfl,rfl,by omega,GL.nil _ _,by decide,GL.nil _ _⟩;rintro G i _ E ⟨o,j,g,r,x,h,c1,c,d,e,f,k,rfl,rfl,z,u,A,w⟩ rec;have m:∀v,OW (some (Sum.inl v):Option ((Int×Int)⊕(List jw×Rdn×Int×List jw×Bool×Bool×Bool×Bool×Bool×Bool))) λy=>∀r,y=.inr r->PK NN r:=λv=>aa λr h=>by cases h
 have b:∀(g:List jw)(r:Rdn) x (h:List jw) c1 c d e f k,GL NN 200000 g->wR r<=6500000->GL NN 200000 h->OW (some (Sum.inr (g,r,x,h,c1,c,d,e,f,k)):Option ((Int×Int)⊕(List jw×Rdn×Int×List jw×Bool×Bool×Bool×Bool×Bool×Bool))) λy=>∀r,y=.inr r->PK NN r:=λg r x h _ _ _ _ _ _ p q t=>aa λr h=>by cases h;exact⟨p,q,t⟩
 have zz:∀(P:Prop)(h:P:=by first|exact m _|exact b _ _ _ _ _ _ _ _ _ _ u A w|((conv=>arg 1;dsimp only);exact rec _ (by omega) ⟨_,_,_,_,_,_,_,_,_,_,_,_,rfl,cC (by omega),by first|omega|(dsimp only;omega),aba,ahp,aba⟩)),P:=λ_ h=>h;exact abb
def aan{α a:Type}{f:α->Option a}{x:α}{Q:a->Prop}(h:OW (f x) Q):OW (L6 f x) Q:=by rw[RA];exact h
def kinds_w(s a:Bs)(d:s.length<=6)(b:a.length<190000):OW (nZ.run (s,a)) λr=>r.2.2.2.2.2.2.2.2.2.2.1=0->GL NN 200000 r.1/\wR r.2.1<=6500000/\GL NN 200000 r.2.2.2.1:=by
 refine VO ?_;have zz:∀(P:Prop)(h:P:=by first|((conv=>arg 1;whnf);exact aa λh=>absurd h (by assumption))|((conv=>arg 1;whnf);refine aan ?_;refine ahr (VL s a d b _ (by assumption) (by assumption)) ?_;rintro(⟨i,j⟩|⟨n,o,p,r4,e,f,g,k,l,m⟩) c<;>(conv=>arg 1;whnf)<;>first|exact aa λ_=>c _ rfl|exact aa λ_=>⟨GL.nil _ _,by show wR []<=_;decide,GL.nil _ _⟩)),P:=λ_ h=>h;exact abb
end Go.Proofs.Tryz
namespace Go.Fw
open Go
def kinds_w(d:FN NN)(s a:Bs)(c:s.length<=6)(b:a.length<190000):OW (CI NN s a) λr=>r.2.2.2.2.2.2.2.2.2.2.1=0->GL NN 200000 r.1/\wR r.2.1<=6500000/\GL NN 200000 r.2.2.2.1:=Go.Proofs.Tryz.kinds_w s a c b
def XE(a:FN NN)(g:List jw)(r:Rdn)(x:Int)(h:List jw)(c:GL NN 200000 g)(e:wR r<=6500000)(d:GL NN 200000 h):SM (kU NN (g,r,x,h)):=by
 unfold kU gv syv;have b:SM (cY NN (g,r,x,h).2.2.2):=Sl a h _ d (ahO _);refine aV (R3 a g r x c e) λ_=> ?_
 repeat (first|exact ag _|refine bI _ ?_ ?_|refine aV b λ_=> ?_|refine aV (ag _) λ_=> ?_)
def aao(b:FN NN)(a:Bs)(h:a.length<190000):SM (kV NN a):=by
 unfold kV syv;refine ai (kinds_w b _ a (by decide) h) ?_;rintro⟨j,k,l,r4,m,n,p,q,r,s,e,o⟩ c;dsimp only at c⊢;refine oy (λ_=>aa trivial) λi=> ?_;obtain⟨d,f,g⟩:=c i;exact jl (XE b j k l r4 d f g) λ_=>jO (k_c _ (aa trivial) (aa trivial))
def XF(b:FN NN)(a:Bs)(k:a.length<190000):SM (gB NN a):=by
 have d:=b;unfold FN at d;unfold gB syv;refine rJ b (by omega) (λe o f=> ?_) λl g h=> ?_
 ·dsimp only;rw[qj f];exact aa trivial
 ·dsimp only;refine oy (λh=>absurd rfl h) λ_=>jl ?_ λy=> ?_
  ·unfold iA syv;refine gE _ l.length (λi s=>∃j c,s=(a,l,(l.length:Int),j,c)/\j=(i:Int)/\c.length<=i) ?_ NN 0 _ (by omega) (by omega) ⟨_,_,rfl,rfl,by simp⟩;rintro G i _ n ⟨j,c,rfl,rfl,m⟩ rec;dsimp only;refine bM (λ_=> ?_) (λ_=>aa trivial);refine vS g (by omega) (by omega) λe _ _ _ _ _=>qx (by omega) (by omega) (by omega) λx p _=>V4 (aao b x (by omega)) λ_ _ _=> ?_
   (have zz:∀(P:Prop)(h:P:=by exact rec _ (by omega) ⟨_,_,rfl,cC (by omega),by omega⟩),P:=λ_ h=>h;exact dE)
  ·rcases y with⟨i,j⟩|⟨x,y⟩
   ·exact ag _
   ·(have zz:∀(P:Prop)(h:P:=by exact trivial),P:=λ_ h=>h;exact dE)
def VM(b:FN NN)(a:Bs)(h:a.length<190000):SM (eX NN a):=by
 unfold eX syv;refine ai (kinds_w b _ a (by decide) h) ?_;rintro⟨j,k,l,r4,m,n,p,q,r,s,e,o⟩ c;dsimp only at c⊢;refine oy (λ_=>aa trivial) λi=> ?_;obtain⟨d,f,t⟩:=c i;refine jl ?_ λ_=>jO (k_c _ (aa trivial) (aa trivial));unfold gM gv syv;dsimp only;have g:=R3 b j k l d f
 repeat (first|with_reducible exact aa trivial|with_reducible refine lM ?_|with_reducible refine gq ?_|with_reducible refine k_c _ ?_ ?_|with_reducible refine jl g λ_=> ?_|dsimp only)
end Go.Fw
namespace Go.Fw
open Go
def QI(B:Nat)(q:List (Bs×Bs)):Prop:=∀x∈q,x.1.length<=21*(B+1)/\x.2.length<=B
def MI(B:Nat)(q:List (Bs×Bs)):Prop:=∀x∈q,x.1.length<=21*(B+1)/\x.2.length<=21*(B+1)
def PI(B:Nat)(p:List (Bs×List (Bs×Bs))):Prop:=∀x∈p,x.1.length<=21*(B+1)/\QI B x.2/\x.2.length<=B
def QI.nil(B:Nat):QI B []:=λ_ h=>by cases h
variable{Z:Nat}
def QI.snoc{q l:List (Bs×Bs)}{s t:Bs}(h:QI Z q)(e:l=q++[(s,t)])(b:s.length<=21*(Z+1))(c:t.length<=Z):QI Z l:=by
 subst e;intro x a;rcases air.1 a with a|a
 ·exact h x a
 ·rw[aiF.1 a];exact⟨b,c⟩
def MI.snoc{q l:List (Bs×Bs)}{s t:Bs}(h:MI Z q)(e:l=q++[(s,t)])(b:s.length<=21*(Z+1))(c:t.length<=21*(Z+1)):MI Z l:=by
 subst e;intro x a;rcases air.1 a with a|a
 ·exact h x a
 ·rw[aiF.1 a];exact⟨b,c⟩
def PI.snoc{q l:List (Bs×List (Bs×Bs))}{s:Bs}{t:List (Bs×Bs)}(h:PI Z q)(e:l=q++[(s,t)])(c:s.length<=21*(Z+1))(d:QI Z t)(b:t.length<=Z):PI Z l:=by
 subst e;intro x a;rcases air.1 a with a|a
 ·exact h x a
 ·rw[aiF.1 a];exact⟨c,d,b⟩
def aaS{N:Nat}(b:FN N)(a:Bs)(c:a.length<9000000):SM (jY N a):=by
 unfold jY syv
 (have zz:∀(P:Prop)(h:P:=by exact trivial),P:=λ_ h=>h;exact dE)
def NT{N:Nat}(a:FN N)(s:Bs)(b:s.length<10000000):SM (eV N s):=yA (BA a s b)
def afa{N:Nat}(D:FN N)(B:Nat)(J:B<190000)(x:Bs)(M:x.length<=B)(l:List bU)(L:IN x l)(I:2*l.length<=x.length)(p:List (Bs×List (Bs×Bs)))(e a2:Int)(a3:Bool)(a4 a5 f:Int)(s:Bs)(q:List (Bs×Bs))(g d2:Int)(k:Bool)(m n o r t:Int)(w:Bool)(z A C:Int):
 OW (iO N N (x,l,(l.length:Int),0,p,e,a2,a3,a4,a5,f,s,q,g,d2,k,m,n,o,r,t,w,z,A,C,[],[])) λy=>match y with
  |.inl (b,_,_,_,_,_,_,d,c,_,_,_,_,_,_,_,_,_,_,_,_,u,v,_,_)=>b=p/\d=s/\c=q/\u.length<=21*(B+1)/\v.length<=B
  |.inr (b,_,_,_,_,_,_,d,c,_,_,_,_,_,_,_,_,_,_,_,_,u,v)=>b=p/\d=s/\c=q/\u.length<=21*(B+1)/\v.length<=B:=by
 have a:=D;unfold FN at a;unfold iO syv;refine gE _ l.length (λi H=>∃j u v,H=(x,l,(l.length:Int),j,p,e,a2,a3,a4,a5,f,s,q,g,d2,k,m,n,o,r,t,w,z,A,C,u,v)/\j=(i:Int)/\u.length<=21*(B+1)/\v.length<=B) ?_ N 0 _ (by omega) (by omega) ⟨_,_,_,rfl,rfl,by simp,by simp⟩;rintro G i _ K ⟨j,u,v,rfl,rfl,E,F⟩ rec;dsimp only;unfold gN jY syv;refine bM (λ_=> ?_) λ_=>aa ⟨rfl,rfl,rfl,E,F⟩
 (have zz:∀(P:Prop)(h:P:=by exact by first|exact rec _ (by omega) ⟨_,_,_,rfl,cC (by omega),by omega,by omega⟩|exact aa ⟨rfl,rfl,rfl,by omega,by omega⟩),P:=λ_ h=>h;exact dE)
def afb{N:Nat}(D:FN N)(B:Nat)(W:B<190000)(x:Bs)(hx:x.length<=B)(l:List bU)(X:IN x l)(h2:2*l.length<=x.length)(p:List (Bs×List (Bs×Bs)))(c a2:Int)(a3:Bool)(a4 a5 d:Int)(s:Bs)(q:List (Bs×Bs))(Y:QI B q)(Z:q.length<=B)(f d2:Int)(g:Bool)(k m n:Int):
 OW (iP N N (x,l,(l.length:Int),0,p,c,a2,a3,a4,a5,d,s,q,f,d2,g,k,m,n)) λy=>match y with
  |.inl (t,_,_,_,_,_,_,w,b,_,_,_,_,_,_,_,_)=>t=p/\w=s/\QI B b/\b.length<=q.length+l.length
  |.inr (t,_,_,_,_,_,_,w,b,_,_,_,_,_,_)=>t=p/\w=s/\QI B b/\b.length<=q.length+l.length:=by
 have E:=D;unfold FN at E;unfold iP syv;refine gE _ l.length (λi st=>∃j c a2 a3 a4 a5 d r f d2 g k m n,st=(x,l,(l.length:Int),j,p,c,a2,a3,a4,a5,d,s,r,f,d2,g,k,m,n)/\j=(i:Int)/\QI B r/\r.length<=q.length+i) ?_ N 0 _ (by omega) (by omega) ⟨_,_,_,_,_,_,_,_,_,_,_,_,_,_,rfl,rfl,Y,by omega⟩;rintro G i _ hi ⟨j,c,a2,a3,a4,a5,d,r,f,d2,g,k,m,n,rfl,rfl,a,f7⟩ rec;dsimp only;unfold gN syv;refine bM (λ_=> ?_) λ_=>aa ⟨rfl,rfl,a,by omega⟩;refine vS X (by omega) (by omega) λe _ _ _ _ _=>qx (by omega) (by omega) (by omega) λz hz _=> ?_;refine rJ D (by omega) (λe o he=> ?_) λl2 F V=> ?_
 ·dsimp only
  (have zz:∀(P:Prop)(h:P:=by exact by first|exact rec _ (by omega) ⟨_,_,_,_,_,_,_,_,_,_,_,_,_,_,rfl,cC (by omega),QI.snoc a (by assumption) (by simp) (by simp),by omega⟩|exact aa ⟨rfl,rfl,QI.snoc a (by assumption) (by simp) (by simp),by omega⟩),P:=λ_ h=>h;exact dE)
 ·dsimp only;refine oy (λh=>absurd rfl h) λ_=> ?_;refine bM (λ_=> ?_) λ_=>bM (λ_=> ?_) λ_=> ?_
  ·(have zz:∀(P:Prop)(h:P:=by exact by first|exact rec _ (by omega) ⟨_,_,_,_,_,_,_,_,_,_,_,_,_,_,rfl,cC (by omega),QI.snoc a (by assumption) (by simp) (by simp),by omega⟩|exact aa ⟨rfl,rfl,QI.snoc a (by assumption) (by simp) (by simp),by omega⟩),P:=λ_ h=>h;exact dE)
  ·(have zz:∀(P:Prop)(h:P:=by exact by first|exact rec _ (by omega) ⟨_,_,_,_,_,_,_,_,_,_,_,_,_,_,rfl,cC (by omega),QI.snoc a (by assumption) (by simp) (by simp),by omega⟩|exact aa ⟨rfl,rfl,QI.snoc a (by assumption) (by simp) (by simp),by omega⟩),P:=λ_ h=>h;exact dE)
  ·refine ai (afa D B W z (by omega) l2 F V p c a2 a3 a4 a5 d s r f d2 g k m n _ _ _ _ _ _) ?_;rintro(⟨t,H,I,J,K,L,M,w,b,O,Q,R,S,T,U,i1,i2,i3,i4,i5,i6,u,v,o1,o2⟩|⟨t,H,I,J,K,L,M,w,b,O,Q,R,S,T,U,i1,i2,i3,i4,i5,i6,u,v⟩) ⟨rfl,rfl,rfl,A,C⟩
   ·dsimp only
    (have zz:∀(P:Prop)(h:P:=by exact by first|exact rec _ (by omega) ⟨_,_,_,_,_,_,_,_,_,_,_,_,_,_,rfl,cC (by omega),QI.snoc a (by assumption) A C,by omega⟩|exact aa ⟨rfl,rfl,QI.snoc a (by assumption) A C,by omega⟩),P:=λ_ h=>h;exact dE)
   ·dsimp only
    (have zz:∀(P:Prop)(h:P:=by exact by first|exact rec _ (by omega) ⟨_,_,_,_,_,_,_,_,_,_,_,_,_,_,rfl,cC (by omega),QI.snoc a (by assumption) A C,by omega⟩|exact aa ⟨rfl,rfl,QI.snoc a (by assumption) A C,by omega⟩),P:=λ_ h=>h;exact dE)
end Go.Fw
namespace Go.Fw
open Go
def afd{d:Type}{Q:d->Prop}{N:Nat}(i:FN N){a:Bs}(p:a.length<9000000){f:List bU×Int×Int->Option d}(g:∀e o,e≠0->OW (f ([],e,o)) Q)(h:∀l b,gz (EL a) b l->(aA b).length<a.length->OW (f (l,0,0)) Q):OW ((aD N a 0 16).bind f) Q:=by
 refine ai (VQ (sT i a (by omega) 0 16) (Fi N a _ _)) ?_;rintro⟨l,e,o⟩ ⟨⟨j,b,c,_,_,k,m⟩|⟨c,_⟩,n⟩
 ·cases j;exact h l b m (by rw[k];exact gS)
 ·obtain rfl:l=[]:=n c;exact g e o c
def aaT(a:List TLV)(i:Nat)(t:TLV)(h:a[i]?=some t):(mq (a.take (i+1))).sum=(mq (a.take i)).sum+(am t).length/\(mq (a.take (i+1))).sum<=(aA a).length:=by
 constructor
 ·rw[OS a i t h,alw];simp
 ·have b:mq (a.take (i+1))=(mq a).take (i+1):=by unfold mq;rw[List.map_take]
  rw[b,<-As a];exact Fh _ _
set_option maxHeartbeats 1000000 in
def afe{N:Nat}(r:FN N)(B:Nat)(W:B<190000)(x:Bs)(hx:x.length<=B)(l:List bU)(c:List TLV)(D:gz (EL x) c l)(hs:(aA c).length<x.length)(p:List (Bs×List (Bs×Bs)))(d a2:Int)(a3:Bool)(a4 a5 f:Int):
 OW (iQ N N (x,l,(l.length:Int),0,p,d,a2,a3,a4,a5,f,[],[])) λy=>match y with
  |.inl (m,_,_,_,_,_,_,n,b,_,_)=>m=p/\n.length<=21*(B+1)/\QI B b/\b.length<=B
  |.inr (m,_,_,_,_,_,_,n,b)=>m=p/\n.length<=21*(B+1)/\QI B b/\b.length<=B:=by
 have u:=r;unfold FN at u;have E:c.length=l.length:=D.length;have Y:=iV c;unfold iQ syv;refine gE _ l.length (λi st=>∃j d a2 a3 a4 a5 f s q,st=(x,l,(l.length:Int),j,p,d,a2,a3,a4,a5,f,s,q)/\j=(i:Int)/\s.length<=21*(B+1)/\QI B q/\q.length<=(mq (c.take i)).sum/\q.length<=B) ?_ N 0 _ (by omega) (by omega) ⟨_,_,_,_,_,_,_,_,_,rfl,rfl,by simp,QI.nil _,by simp,by simp⟩;rintro G i _ hi ⟨j,d,a2,a3,a4,a5,f,s,q,rfl,rfl,A,a,f7,g⟩ rec;dsimp only;unfold gN syv;refine bM (λ_=> ?_) λ_=>aa ⟨rfl,A,a,g⟩;obtain⟨t,e,F,v,X⟩:=D.get1 (i:=i) (by omega);have Z:=kO c t (aif F);obtain⟨k,C⟩:=aaT c i t F;refine Mu (cr v) ?_;rw[X.whole];refine gq ?_;generalize am t=z at Z k⊢;refine HB (λ_=> ?_) λ_=> ?_
 ·(have zz:∀(P:Prop)(h:P:=by exact by first|exact rec _ (by omega) ⟨_,_,_,_,_,_,_,_,_,rfl,cC (by omega),by omega,a,by omega,by omega⟩|exact aa ⟨rfl,by omega,a,by omega⟩),P:=λ_ h=>h;exact dE)
 ·refine rJ r (by omega) (λ_ _ _=> ?_) λl2 w V=> ?_
  ·dsimp only
   (have zz:∀(P:Prop)(h:P:=by exact by first|exact rec _ (by omega) ⟨_,_,_,_,_,_,_,_,_,rfl,cC (by omega),by omega,a,by omega,by omega⟩|exact aa ⟨rfl,by omega,a,by omega⟩),P:=λ_ h=>h;exact dE)
  ·dsimp only;refine oy (λh=>absurd rfl h) λ_=> ?_;refine bM (λ_=> ?_) λ_=>bM (λ_=> ?_) λ_=> ?_
   ·(have zz:∀(P:Prop)(h:P:=by exact by first|exact rec _ (by omega) ⟨_,_,_,_,_,_,_,_,_,rfl,cC (by omega),by omega,a,by omega,by omega⟩|exact aa ⟨rfl,by omega,a,by omega⟩),P:=λ_ h=>h;exact dE)
   ·(have zz:∀(P:Prop)(h:P:=by exact by first|exact rec _ (by omega) ⟨_,_,_,_,_,_,_,_,_,rfl,cC (by omega),by omega,a,by omega,by omega⟩|exact aa ⟨rfl,by omega,a,by omega⟩),P:=λ_ h=>h;exact dE)
   ·refine ai (afb r B W z (by omega) l2 w V p d a2 a3 a4 a5 f s q a g _ _ _ _ _ _) ?_;rintro(⟨m,H,I,J,K,L,M,n,b,O,Q,R,S,T,U,o1,o2⟩|⟨m,H,I,J,K,L,M,n,b,O,Q,R,S,T,U⟩) ⟨rfl,rfl,o,hv⟩
    ·dsimp only
     (have zz:∀(P:Prop)(h:P:=by exact by first|exact rec _ (by omega) ⟨_,_,_,_,_,_,_,_,_,rfl,cC (by omega),by omega,o,by omega,by omega⟩|exact aa ⟨rfl,by omega,o,by omega⟩),P:=λ_ h=>h;exact dE)
    ·dsimp only
     (have zz:∀(P:Prop)(h:P:=by exact by first|exact rec _ (by omega) ⟨_,_,_,_,_,_,_,_,_,rfl,cC (by omega),by omega,o,by omega,by omega⟩|exact aa ⟨rfl,by omega,o,by omega⟩),P:=λ_ h=>h;exact dE)
def aff{N:Nat}(g:FN N)(B:Nat)(v:B<190000)(x:Bs)(K:x.length<=B)(l:List bU)(w:IN x l)(I:2*l.length<=x.length):
 OW (iR N N (x,l,(l.length:Int),0,[])) λy=>match y with
  |.inl (b,_,_)=>PI B b/\b.length<=B
  |.inr b=>PI B b/\b.length<=B:=by
 have k:=g;unfold FN at k;unfold iR syv;refine gE _ l.length (λi F=>∃j p,F=(x,l,(l.length:Int),j,p)/\j=(i:Int)/\PI B p/\p.length<=i) ?_ N 0 _ (by omega) (by omega) ⟨_,_,rfl,rfl,(λ_ h=>by cases h),by simp⟩;rintro G i _ J ⟨j,p,rfl,rfl,a,A⟩ rec;dsimp only;unfold gN syv;refine bM (λ_=> ?_) λ_=>aa ⟨a,by omega⟩;refine vS w (by omega) (by omega) λe _ _ _ _ _=>qx (by omega) (by omega) (by omega) λz L _=> ?_;refine afd g (by omega) (λ_ _ _=> ?_) λC H m u=> ?_
 ·dsimp only
  (have zz:∀(P:Prop)(h:P:=by exact by first|exact rec _ (by omega) ⟨_,_,rfl,cC (by omega),PI.snoc a (by assumption) (by simp) (QI.nil _) (by simp),by omega⟩|exact aa ⟨PI.snoc a (by assumption) (by simp) (QI.nil _) (by simp),by omega⟩),P:=λ_ h=>h;exact dE)
 ·dsimp only;refine oy (λh=>absurd rfl h) λ_=> ?_;refine bM (λ_=> ?_) λ_=>bM (λ_=> ?_) λ_=> ?_
  ·(have zz:∀(P:Prop)(h:P:=by exact by first|exact rec _ (by omega) ⟨_,_,rfl,cC (by omega),PI.snoc a (by assumption) (by simp) (QI.nil _) (by simp),by omega⟩|exact aa ⟨PI.snoc a (by assumption) (by simp) (QI.nil _) (by simp),by omega⟩),P:=λ_ h=>h;exact dE)
  ·(have zz:∀(P:Prop)(h:P:=by exact by first|exact rec _ (by omega) ⟨_,_,rfl,cC (by omega),PI.snoc a (by assumption) (by simp) (QI.nil _) (by simp),by omega⟩|exact aa ⟨PI.snoc a (by assumption) (by simp) (QI.nil _) (by simp),by omega⟩),P:=λ_ h=>h;exact dE)
  ·refine ai (afe g B v z (by omega) C H m u p _ _ _ _ _ _) ?_;rintro(⟨b,n,o,q,r,s,t,E,D,M,O⟩|⟨b,n,o,q,r,s,t,E,D⟩) ⟨rfl,c,d,f⟩
   ·dsimp only
    (have zz:∀(P:Prop)(h:P:=by exact by first|exact rec _ (by omega) ⟨_,_,rfl,cC (by omega),PI.snoc a (by assumption) c d f,by omega⟩|exact aa ⟨PI.snoc a (by assumption) c d f,by omega⟩),P:=λ_ h=>h;exact dE)
   ·dsimp only
    (have zz:∀(P:Prop)(h:P:=by exact by first|exact rec _ (by omega) ⟨_,_,rfl,cC (by omega),PI.snoc a (by assumption) c d f,by omega⟩|exact aa ⟨PI.snoc a (by assumption) c d f,by omega⟩),P:=λ_ h=>h;exact dE)
def PQ{a α:Type}{Q:a->Prop}{l:List α}{i:Int}{f:α->Option a}(b:0<=i)(c:i<(l.length:Int))(k:∀e∈l,OW (f e) Q):OW ((ix l i).bind f) Q:=ai (xp b c) λe d=>k e d.2
def aaU{N:Nat}(a:FN N)(B:Nat)(g:B<190000)(q:List (Bs×Bs))(d:QI B q)(k:q.length<=B):SM (aM N q):=by
 have b:=a;unfold FN at b;unfold aM bg syv;refine jl (jl ?_ λy=>by cases y<;>exact aa trivial) λ_=>aa trivial;unfold aZ syv;refine gE _ q.length (λi f=>∃j,f=(q,(q.length:Int),j)/\j=(i:Int)) ?_ N 0 _ (by omega) (by omega) ⟨_,rfl,rfl⟩;rintro G i _ h ⟨j,rfl,rfl⟩ rec;dsimp only;refine bM (λ_=> ?_) λ_=>aa trivial;refine PQ (by omega) (by omega) λe c=> ?_;have:=d e c;unfold j8 syv;refine jl (jl (NT a _ (by omega)) λ_=>jO (k_c _ (jl (aaS a _ (by omega)) λ_=>aa trivial) (aa trivial))) λ_=>k_c _ (aa trivial) ?_;exact rec _ (by omega) ⟨_,rfl,cC (by omega)⟩
def NU{N:Nat}(a:FN N)(B:Nat)(c:B<190000)(p:List (Bs×List (Bs×Bs)))(f:PI B p)(k:p.length<=B):SM (kh N p):=by
 have b:=a;unfold FN at b;unfold kh syv;refine jl ?_ λy=>by cases y<;>exact aa trivial
 unfold jE syv;refine gE _ p.length (λi g=>∃j r,g=(p,p,(p.length:Int),j,r)/\j=(i:Int)) ?_ N 0 _ (by omega) (by omega) ⟨_,_,rfl,rfl⟩;rintro G i _ h ⟨j,r,rfl,rfl⟩ rec;dsimp only;refine bM (λ_=> ?_) λ_=>aa trivial;refine PQ (by omega) (by omega) λe d=> ?_;have:=f e d;refine jl (NT a _ (by omega)) λ_=>jO (k_c _ ?_ (aa trivial));refine k_c _ (aa trivial) (jl (aaU a B c _ this.2.1 this.2.2) λ_=>k_c _ (aa trivial) ?_);exact rec _ (by omega) ⟨_,_,rfl,cC (by omega)⟩
def Ye{N:Nat}(c:FN N)(a:Bs)(d:a.length<190000):SM (jr N a):=by
 have b:=NU c a.length d [] (λ_ h=>by cases h) (by simp);unfold jr gN syv;refine rJ c (by omega) (λ_ _ _=> ?_) λl j h=> ?_
 ·dsimp only
  (have zz:∀(P:Prop)(h:P:=by exact jl b λ_=>by(have zz:∀(P:Prop)(h:P:=by exact trivial),P:=λ_ h=>h;exact dE)),P:=λ_ h=>h;exact dE)
 ·dsimp only;refine oy (λh=>absurd rfl h) λ_=>bM (λ_=> ?_) λ_=>bM (λ_=> ?_) λ_=> ?_
  ·(have zz:∀(P:Prop)(h:P:=by exact jl b λ_=>by(have zz:∀(P:Prop)(h:P:=by exact trivial),P:=λ_ h=>h;exact dE)),P:=λ_ h=>h;exact dE)
  ·(have zz:∀(P:Prop)(h:P:=by exact jl b λ_=>by(have zz:∀(P:Prop)(h:P:=by exact trivial),P:=λ_ h=>h;exact dE)),P:=λ_ h=>h;exact dE)
  ·refine ai (aff c a.length d a (ahO _) l j h) ?_;rintro(⟨p,e,o⟩|p) ⟨g,i⟩
   ·have f:=NU c a.length d p g i;dsimp only
    (have zz:∀(P:Prop)(h:P:=by exact jl f λ_=>by(have zz:∀(P:Prop)(h:P:=by exact trivial),P:=λ_ h=>h;exact dE)),P:=λ_ h=>h;exact dE)
   ·have f:=NU c a.length d p g i;dsimp only
    (have zz:∀(P:Prop)(h:P:=by exact jl f λ_=>by(have zz:∀(P:Prop)(h:P:=by exact trivial),P:=λ_ h=>h;exact dE)),P:=λ_ h=>h;exact dE)
def afg{N:Nat}(e:FN N)(B:Nat)(n:B<190000)(x:Bs)(r:x.length<=B)(l:List bU)(q:IN x l)(m:2*l.length<=x.length)(p:List (Bs×Bs))(c a2:Int)(a3:Bool)(a4 a5 d:Int):
 OW (fQ N N (x,l,(l.length:Int),0,p,c,a2,a3,a4,a5,d,[],[])) λy=>match y with
  |.inl (b,_,_,_,_,_,_,u,v,_,_)=>b=p/\u.length<=21*(B+1)/\v.length<=21*(B+1)
  |.inr (b,_,_,_,_,_,_,u,v)=>b=p/\u.length<=21*(B+1)/\v.length<=21*(B+1):=by
 have a:=e;unfold FN at a;unfold fQ syv;refine gE _ l.length (λi k=>∃j u v,k=(x,l,(l.length:Int),j,p,c,a2,a3,a4,a5,d,u,v)/\j=(i:Int)/\u.length<=21*(B+1)/\v.length<=21*(B+1)) ?_ N 0 _ (by omega) (by omega) ⟨_,_,_,rfl,rfl,by simp,by simp⟩;rintro G i _ o ⟨j,u,v,rfl,rfl,f,g⟩ rec;dsimp only;unfold gN syv;refine bM (λ_=> ?_) λ_=>aa ⟨rfl,f,g⟩
 (have zz:∀(P:Prop)(h:P:=by exact by first|exact rec _ (by omega) ⟨_,_,_,rfl,cC (by omega),by omega,by omega⟩|exact aa ⟨rfl,by omega,by omega⟩),P:=λ_ h=>h;exact dE)
def afh{N:Nat}(f:FN N)(B:Nat)(w:B<190000)(x:Bs)(I:x.length<=B)(l:List bU)(A:IN x l)(F:2*l.length<=x.length):
 OW (fS N N (x,l,(l.length:Int),0,[])) λy=>match y with
  |.inl (b,_,_)=>MI B b/\b.length<=B
  |.inr b=>MI B b/\b.length<=B:=by
 have g:=f;unfold FN at g;unfold fS syv;refine gE _ l.length (λi E=>∃j p,E=(x,l,(l.length:Int),j,p)/\j=(i:Int)/\MI B p/\p.length<=i) ?_ N 0 _ (by omega) (by omega) ⟨_,_,rfl,rfl,(λ_ h=>by cases h),by simp⟩;rintro G i _ H ⟨j,p,rfl,rfl,a,C⟩ rec;dsimp only;unfold gN syv;refine bM (λ_=> ?_) λ_=>aa ⟨a,by omega⟩;refine vS A (by omega) (by omega) λe _ _ _ _ _=>qx (by omega) (by omega) (by omega) λz J _=> ?_;refine rJ f (by omega) (λ_ _ _=> ?_) λD k t=> ?_
 ·dsimp only
  (have zz:∀(P:Prop)(h:P:=by exact by first|exact rec _ (by omega) ⟨_,_,rfl,cC (by omega),MI.snoc a (by assumption) (by simp) (by simp),by omega⟩|exact aa ⟨MI.snoc a (by assumption) (by simp) (by simp),by omega⟩),P:=λ_ h=>h;exact dE)
 ·dsimp only;refine oy (λh=>absurd rfl h) λ_=> ?_;refine bM (λ_=> ?_) λ_=>bM (λ_=> ?_) λ_=> ?_
  ·(have zz:∀(P:Prop)(h:P:=by exact by first|exact rec _ (by omega) ⟨_,_,rfl,cC (by omega),MI.snoc a (by assumption) (by simp) (by simp),by omega⟩|exact aa ⟨MI.snoc a (by assumption) (by simp) (by simp),by omega⟩),P:=λ_ h=>h;exact dE)
  ·(have zz:∀(P:Prop)(h:P:=by exact by first|exact rec _ (by omega) ⟨_,_,rfl,cC (by omega),MI.snoc a (by assumption) (by simp) (by simp),by omega⟩|exact aa ⟨MI.snoc a (by assumption) (by simp) (by simp),by omega⟩),P:=λ_ h=>h;exact dE)
  ·refine ai (afg f B w z (by omega) D k t p _ _ _ _ _ _) ?_;rintro(⟨b,m,n,o,q,r,s,u,v,K,L⟩|⟨b,m,n,o,q,r,s,u,v⟩) ⟨rfl,c,d⟩
   ·dsimp only
    (have zz:∀(P:Prop)(h:P:=by exact by first|exact rec _ (by omega) ⟨_,_,rfl,cC (by omega),MI.snoc a (by assumption) c d,by omega⟩|exact aa ⟨MI.snoc a (by assumption) c d,by omega⟩),P:=λ_ h=>h;exact dE)
   ·dsimp only
    (have zz:∀(P:Prop)(h:P:=by exact by first|exact rec _ (by omega) ⟨_,_,rfl,cC (by omega),MI.snoc a (by assumption) c d,by omega⟩|exact aa ⟨MI.snoc a (by assumption) c d,by omega⟩),P:=λ_ h=>h;exact dE)
def NV{N:Nat}(c:FN N)(B:Nat)(k:B<190000)(p:List (Bs×Bs))(f:MI B p)(m:p.length<=B):SM (gP N p):=by
 have a:=c;unfold FN at a;unfold gP syv;refine bM (λ_=>jl ?_ λy=>by cases y<;>exact aa trivial) λ_=>aa trivial;have b:∀s:Bs,s.length<10000000->SM (fh N s):=λs g=>by
  unfold fh syv;exact jl (NT c s g) λ_=>k_c _ (aa trivial) (aa trivial)
 unfold gR syv;refine gE _ p.length (λi h=>∃j,h=(p,(p.length:Int),j)/\j=(i:Int)) ?_ N 0 _ (by omega) (by omega) ⟨_,rfl,rfl⟩;rintro G i _ l ⟨j,rfl,rfl⟩ rec;dsimp only;refine bM (λ_=> ?_) λ_=>aa trivial;refine PQ (by omega) (by omega) λe d=> ?_;have:=f e d;refine jl (b _ (by omega)) λ_=>jO (k_c _ (jl (b _ (by omega)) λ_=>jO (k_c _ ?_ (aa trivial))) (aa trivial));exact rec _ (by omega) ⟨_,rfl,cC (by omega)⟩
def V7{N:Nat}(c:FN N)(a:Bs)(d:a.length<190000):SM (f8 N a):=by
 have b:=NV c a.length d [] (λ_ h=>by cases h) (by simp);unfold f8 gN syv;refine rJ c (by omega) (λ_ _ _=> ?_) λl j h=> ?_
 ·dsimp only
  (have zz:∀(P:Prop)(h:P:=by exact jl b λ_=>by(have zz:∀(P:Prop)(h:P:=by exact trivial),P:=λ_ h=>h;exact dE)),P:=λ_ h=>h;exact dE)
 ·dsimp only;refine oy (λh=>absurd rfl h) λ_=>bM (λ_=> ?_) λ_=>bM (λ_=> ?_) λ_=> ?_
  ·(have zz:∀(P:Prop)(h:P:=by exact jl b λ_=>by(have zz:∀(P:Prop)(h:P:=by exact trivial),P:=λ_ h=>h;exact dE)),P:=λ_ h=>h;exact dE)
  ·(have zz:∀(P:Prop)(h:P:=by exact jl b λ_=>by(have zz:∀(P:Prop)(h:P:=by exact trivial),P:=λ_ h=>h;exact dE)),P:=λ_ h=>h;exact dE)
  ·refine ai (afh c a.length d a (ahO _) l j h) ?_;rintro(⟨p,e,o⟩|p) ⟨g,i⟩
   ·have f:=NV c a.length d p g i;dsimp only
    (have zz:∀(P:Prop)(h:P:=by exact jl f λ_=>by(have zz:∀(P:Prop)(h:P:=by exact trivial),P:=λ_ h=>h;exact dE)),P:=λ_ h=>h;exact dE)
   ·have f:=NV c a.length d p g i;dsimp only
    (have zz:∀(P:Prop)(h:P:=by exact jl f λ_=>by(have zz:∀(P:Prop)(h:P:=by exact trivial),P:=λ_ h=>h;exact dE)),P:=λ_ h=>h;exact dE)
end Go.Fw
namespace Go.Fw
open Go
def sY{a α:Type}{Q:a->Prop}{x:Option α}{f:α->Option a}(h:OW (x.bind f) Q):OW (agree (List.replicate 2 x) f) Q:=by
 rw[show List.replicate 2 x=List.replicate (1+1) x from rfl,qe];exact h
def ahu{α:Type}{i:Int}{s:Bs}{c:Bool}{p:Option (α×Int×Int)}{f}(h:SM p)(k:∀l v,SM (f l v)):SM (wy i s c p f):=by
 unfold wy;refine sY (ai (aV h λa=> ?_) λ_ _=>k_c _ (ag _) (ag _));exact bI _ (k _ _) (ag _)
def agp{i:Int}{s:Bs}{c:Bool}{f:Unit->Int×Int->_}(h:False):SM (wy i s c none f):=h.elim
def ade(b:Bs)(h:b.length<190000):SM (bW b):=by
 unfold bW syv;exact vU (by omega) (ag _)
def Mx(s:Bs):∀(b:List Bs)(a:List Int),sS s b a∈0::a
 |[],_=>by simp[sS]
 |_::_,[]=>by simp[sS]
 |i::b,n::a=>by
  have:=Mx s b a;unfold sS;split
  ·simp
  ·simp only[ah8]at this⊢;exact this.imp id .inr
def Yf(s:Bs):Bu s∈0::E7:=by
 unfold Bu;split
 ·simp
 ·exact Mx s _ _
set_option maxHeartbeats 8000000 in
set_option maxRecDepth 100000 in
def Yg(a:FN NN)(v:eS)(d:v.1.length<10000000)(e:v.2.2.length<190000):SM (jH NN v):=by
 unfold jH;rw[ON a v d,ahE,xe,ahE];obtain⟨s,c,b⟩:=v;dsimp only at d e⊢;refine jO (k_c _ ?_ (aa trivial));have f:=Yf s;generalize Bu s=k at f⊢;refine ai (R:=λt=>t.2.2.1=b/\t.2.2.2.1=k) (by cases k==0<;>exact aa ⟨rfl,rfl⟩) ?_;rintro⟨_,_,_,_,i,g⟩ ⟨rfl,rfl⟩;dsimp only at e f⊢
 repeat first
  |(refine ax (λh=>ahu (by first
   |with_reducible exact Yb a _ (by omega)
   |with_reducible exact V5 a _ (by omega)
   |with_reducible exact aaI a _ (by omega)
   |with_reducible exact Pn a _ (by omega)
   |with_reducible exact NQ a _ (by omega)
   |with_reducible exact ac8 a _ (by omega)
   |with_reducible exact V1 a _ (by omega)
   |with_reducible exact aaG a _ (by omega)
   |with_reducible exact V0 a _ (by omega)
   |with_reducible exact VM a _ (by omega)
   |with_reducible exact XF a _ (by omega)
   |with_reducible exact Ye a _ (by omega)
   |with_reducible exact V7 a _ (by omega)
   |with_reducible exact VK a _ (by omega)
   |with_reducible exact aaJ a _ (by omega)
   |with_reducible exact Td a _ (by omega)
   |with_reducible exact ade _ (by omega)
   |with_reducible exact PN (Sk a _ (by omega))
   |exact Go.Proofs.Tryz.keyid_sm0 _ (by omega)) λ_ _=>by first
   |exact ag _
   |exact sY (ag _)) λh=> ?_)
  |refine agp ?_
 simp_all[E7]
def afi(b:FN NN)(l:List eS)(o:l.length<10000000)(h:∀v∈l,v.1.length<10000000/\v.2.2.length<190000):SM (mB NN l):=by
 have a:=b;unfold FN at a;unfold mB syv;refine jl ?_ λy=>by cases y<;>exact aa trivial
 unfold mb syv;refine gE _ l.length (λi k=>∃j c,k=(l,(l.length:Int),j,c)/\j=(i:Int)/\c.length<=i) ?_ NN 0 _ (by omega) (by omega) ⟨_,_,rfl,rfl,by simp⟩;rintro G i _ n ⟨j,c,rfl,rfl,m⟩ rec;dsimp only;refine bM (λ_=> ?_) λ_=>aa trivial;refine PQ (by omega) (by omega) λe f=> ?_;have:=h e f;refine V4 (Yg b e this.1 this.2) λ_ _ _=> ?_;dsimp only;refine oy (λ_=>aa trivial) λ_=> ?_;refine ai (R:=λd=>d.length=c.length+1) ?_ λd g=>rec _ (by omega) ⟨_,_,rfl,cC (by omega),by omega⟩;unfold app;rw[ahY (by unfold cK;simp only[ai9];omega)];exact aa (by simp)
end Go.Fw
namespace Go.Fw
open Go
abbrev Ent:=Bs×kJ×List eS
def XB(l:List eS):Prop:=wL l<10000000/\∀v∈l,v.2.2.length<190000
def XB.nil:XB []:=⟨by decide,λ_ h=>by cases h⟩
noncomputable def HW(N:Nat)(l:List eS):Bool:=(eu N l).getD false
def My{l:List eS}{v:eS}(h:v∈l):v.1.length<wL l/\v.2.2.length<wL l:=by
 have:=R7 h;omega
def NW(d:FN NN)(l:List eS)(h:XB l):eu NN l=some (HW NN l):=by
 have g:=Ml l;have f:=h.1;have b:SM (eu NN l):=by
  unfold eu syv;refine Bz (afi d l (by omega) λv a=>⟨by have:=My a;omega,h.2 v a⟩) λ_ _=> ?_;dsimp only;rw[Mk d l (by omega) λv a=>by have:=My a;omega];exact k_c _ (aa trivial) (k_c _ (aa trivial) (aa trivial))
 obtain⟨c,e,_⟩:=b;unfold HW;rw[e];rfl
def Sn(d:FN NN){l:List eS}(h:XB l)(hd:HW NN l=true):l=[]∨lj l=true:=by
 have a:=NW d l h;have f:=Ml l;have e:=h.1;rw[hd]at a;have b:OP (eu NN l) λc=>c=true->l=[]∨lj l=true:=by
  unfold eu syv;refine yP (HE _) λr _=> ?_;rw[Mk d l (by omega) λv a=>by have:=My a;omega];refine o9 (λc=> ?_) λ_=>o9 (λ_=>kS λh=>.inr h) λ_=>kS λh=>by cases h
  refine kS λ_=>.inl ?_;have:((l.length:Nat):Int)=0:=by simpa using c
  exact List.length_eq_zero_iff.1 (by omega)
 exact b true a rfl
noncomputable def oO(e:Ent):Bs:=am (0,false,2,e.1)++(rH e.2.1++(bif e.2.2.isEmpty then [] else lh e.2.2))
noncomputable def II(e:Ent):List TLV:=(0,false,2,e.1)::kP e.2.1::(bif e.2.2.isEmpty then [] else [Fc e.2.2])
noncomputable def xq(e:Ent):Bs:=tlv 0 true 16 (oO e)
def Yh(e:Ent):aA (II e)=oO e:=by
 unfold II oO;cases e.2.2.isEmpty
 ·simp[aA,rH,lh]
 ·simp[aA,rH]
noncomputable def B8(e:Ent):Bool:=mN e.1&&(decide (e.1.length<=20)&&(me e.2.1&&(e.2.2.isEmpty||lj e.2.2)))
def adf{l:List eS}(h:lj l=true):l.isEmpty=false:=by
 unfold lj at h;cases l with
 |nil=>simp at h
 |cons=>rfl
def rq:ju 0 0=0:=by decide
def agq(d:FN NN)(e:Ent)(h:B8 e=true)(q:wL e.2.2<10000000):ji NN e=some (xq e,0):=by
 unfold B8 at h;simp only[ahF,ai1,aij]at h;obtain⟨l,m,g,a⟩:=h;have r:=OO e.2.2 (by omega);have p:=By e.2.1;have j:=gr (c:=0) (k:=false) (num:=2) (b:=e.1) (by omega);have o:(am (0,false,2,e.1)).length<=e.1.length+6:=j;unfold ji;rw[qi d 0 2 false e.1 0 2 rfl rfl (by omega) (by omega) (by omega),ahE];dsimp only;rw[fY (by omega) (by simp),ahE,Sc d,g,ahE];simp only[ahS];rw[fY (by omega) (by simp),ahE,rq,rq];rcases a with a|a
 ·have:e.2.2=[]:=alp.1 a;rw[this];simp only[ah1];rw[ahH (by omega),ahM,ahE];dsimp only;rw[show((0:Int) !=0)=false from rfl,ahM,Bx d _ (oO e) ?_ (by simp) ?_,ahE]
  ·rfl
  ·unfold oO;rw[a];simp
  ·unfold oO;rw[a];simp only[ahJ,ahS,ah1];omega
 ·have f:=adf a;have n:0<e.2.2.length:=by
   cases i:e.2.2 with
   |nil=>rw[i]at f;cases f
   |cons=>simp
  rw[ahK (by omega),ahS,XP d _ (by omega),a,ahE];simp only[ahS];rw[fY (by omega) (by simp),ahE,ahE,rq];dsimp only;rw[show((0:Int) !=0)=false from rfl,ahM,Bx d _ (oO e) ?_ (by simp) ?_,ahE]
  ·rfl
  ·unfold oO;rw[f];simp
  ·unfold oO;rw[f];simp only[ahJ,ahM];omega
def aaV(d:FN NN)(s:Bs)(b:mN s=true)(f:s.length<=20):gD NN (am (0,false,2,s)) 2=some (s,0,0):=by
 obtain⟨e,c,a⟩:=IA d (0,false,2,s) ⟨by omega,by show 2<31;omega,by show s.length<=_;omega⟩;unfold gD pi syv;rw[c,ahE];dsimp only;rw[show((0:Int) !=0)=false from rfl,ahM,a.yes 0 2 false 0 2 rfl rfl rfl rfl rfl,ahE,aiK,ahM,a.body,ahE];dsimp only;rw[kX,b,ahE,aiK,ahM,ahH (by omega),ahM,m9 (by omega)];rfl
end Go.Fw
