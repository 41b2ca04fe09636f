/- A framework for proofs about Go programs in this model: part Z. Everything is proved; no condition is added. -/
import Derived.IntWalk
import Derived.Laws.Bits64
import Derived.Lib.ParseIntBCases
import Derived.Lib.CountLaws
import Derived.Test.YtfjfjojmeookfaaGreatDoorFwY
set_option linter.unusedVariables false
set_option linter.unusedSimpArgs false
set_option linter.defProp false
namespace Go.Fw
open Go Go.Proofs.Tryz
noncomputable section
set_option maxRecDepth 100000
set_option maxHeartbeats 0
attribute [local irreducible] ix app slc cC toB agree fU fW fT jB dR aK aV aX
def kB(L:List (KL B0)):Ctx B0:=⟨[L5,JD,TR,B6],[],[],L,.nil⟩
def wW:LD:=⟨13,8,0,⟨[(1,.ptr 0 0),(3,hc3),(4,hc3),(5,hc3)],[pt]⟩,[(.exit 2,⟨[(1,.ptr 0 0),(3,hc3),(4,hc3)],[pt]⟩)]⟩
@[local irreducible] def wX(N n:Nat):(Int×Int×Int×Y46)->Option (Int×Int×Y46):=Nat.rec (λ_=>none) (λ_ L x=>syv N (wW.round (kB []).cxs L x)) n
def oP:=gL (kB []) wW (wX NN)
def wY:LD:=⟨13,3,0,⟨[(1,.ptr 0 0),(3,hc3),(4,hc3)],[pt]⟩,[(.ret,⟨[(2,vF)],[.junk]⟩),(.exit 0,⟨[(1,.ptr 0 0),(3,hc3)],[pt]⟩)]⟩
@[local irreducible] def wZ(N n:Nat):(Int×Int×Y46)->Option ((Unit)⊕(Int×Y46)):=Nat.rec (λ_=>none) (λ_ L x=>syv N (wY.round (kB [oP]).cxs L x)) n
def IV:=gL (kB [oP]) wY (wZ NN)
def Ca:AD B0:=⟨13,(kB [oP,IV]),[PT],au⟩
@[irreducible] def ta(N:Nat)(a:Y47):Option Bool:=syv N (Ca.go (a))
def M2:=gA Ca (ta NN)
def JH:AD B0:=⟨6,(c1 [M2,JD]),[Gp],au⟩
@[irreducible] def vy(N:Nat)(a:Y48):Option Bool:=syv N (JH.go (a))
def TS:=gA JH (vy NN)
def Aq:AD B0:=⟨32,(c1 [jA]),[hc1,hc1],au⟩
@[irreducible] def rA(a:Y0)(a2:Y0):Option Bool:=syv NN (Aq.go (a,a2))
def Ar:=gA Aq (u2 rA)
def As:AD B0:=⟨137,(c1 [jA]),[hc1,hc1],au⟩
@[irreducible] def mI(a:Y0)(a2:Y0):Option Bool:=syv NN (As.go (a,a2))
def L6:=gA As (u2 mI)
def Ef(L:List (KL B0)):Ctx B0:=⟨[L6],[],[],L,.nil⟩
def Fi:LD:=⟨107,2,0,⟨[(0,hc2),(1,hc2),(5,hc3)],[]⟩,[(.ret,⟨[(4,vF)],[]⟩),(.exit 0,⟨[(0,hc2),(1,hc2)],[]⟩)]⟩
@[local irreducible] def xD(N n:Nat):(Y11×Y11×Int)->Option ((Unit)⊕(Y11×Y11)):=Nat.rec (λ_=>none) (λ_ L x=>syv N (Fi.round (Ef []).cxs L x)) n
def P8:=gL (Ef []) Fi (xD NN)
def Mh:AD B0:=⟨107,(Ef [P8]),[hc2,hc2],au⟩
@[irreducible] def xY(N:Nat)(a:Y11)(a2:Y11):Option Bool:=syv N (Mh.go (a,a2))
def V3:=gA Mh (u2 (xY NN))
def Cb(L:List (KL B0)):Ctx B0:=⟨[V3],[],[],L,.nil⟩
def DA:LD:=⟨71,2,0,⟨[(0,iQ),(1,iQ),(5,hc3)],[]⟩,[(.ret,⟨[(4,vF)],[]⟩),(.exit 0,⟨[(0,iQ),(1,iQ)],[]⟩)]⟩
@[local irreducible] def vz(N n:Nat):(Y12×Y12×Int)->Option ((Unit)⊕(Y12×Y12)):=Nat.rec (λ_=>none) (λ_ L x=>syv N (DA.round (Cb []).cxs L x)) n
def Oo:=gL (Cb []) DA (vz NN)
def JI:AD B0:=⟨71,(Cb [Oo]),[iQ,iQ],au⟩
@[irreducible] def Cc(N:Nat)(a:Y12)(a2:Y12):Option Bool:=syv N (JI.go (a,a2))
def TT:=gA JI (u2 (Cc NN))
def At:AD B0:=⟨108,(c1 [jA]),[hc8,hc8],au⟩
@[irreducible] def mJ(a:Y14)(a2:Y14):Option Bool:=syv NN (At.go (a,a2))
def L7:=gA At (u2 mJ)
def pY(L:List (KL B0)):Ctx B0:=⟨[L7],[],[],L,.nil⟩
def uc:LD:=⟨73,2,0,⟨[(0,hc9),(1,hc9),(5,hc3)],[]⟩,[(.ret,⟨[(4,vF)],[]⟩),(.exit 0,⟨[(0,hc9),(1,hc9)],[]⟩)]⟩
@[local irreducible] def nt(N n:Nat):(Y43×Y43×Int)->Option ((Unit)⊕(Y43×Y43)):=Nat.rec (λ_=>none) (λ_ L x=>syv N (uc.round (pY []).cxs L x)) n
def Fj:=gL (pY []) uc (nt NN)
def yQ:AD B0:=⟨73,(pY [Fj]),[hc9,hc9],au⟩
@[irreducible] def pZ(N:Nat)(a:Y43)(a2:Y43):Option Bool:=syv N (yQ.go (a,a2))
def yR:=gA yQ (u2 (pZ NN))
def vA(L:List (KL B0)):Ctx B0:=⟨[jA,yR],[],[],L,.nil⟩
def yS:LD:=⟨72,2,0,⟨[(0,sL),(1,sL),(5,hc3)],[]⟩,[(.ret,⟨[(4,vF)],[]⟩),(.exit 0,⟨[(0,sL),(1,sL)],[]⟩)]⟩
@[local irreducible] def qa(N n:Nat):(Y45×Y45×Int)->Option ((Unit)⊕(Y45×Y45)):=Nat.rec (λ_=>none) (λ_ L x=>syv N (yS.round (vA []).cxs L x)) n
def JJ:=gL (vA []) yS (qa NN)
def DB:AD B0:=⟨72,(vA [JJ]),[sL,sL],au⟩
@[irreducible] def vB(N:Nat)(a:Y45)(a2:Y45):Option Bool:=syv N (DB.go (a,a2))
def Oq:=gA DB (u2 (vB NN))
def JK:AD B0:=⟨31,(c1 [Ar,TT,Oq,yR]),[PT,PT],au⟩
@[irreducible] def Cd(N:Nat)(a:Y47)(a2:Y47):Option Bool:=syv N (JK.go (a,a2))
def TU:=gA JK (u2 (Cd NN))
def JL:AD B0:=⟨33,(c1 [jA]),[I5,I5],au⟩
@[irreducible] def Ce(a:Y1)(a2:Y1):Option Bool:=syv NN (JL.go (a,a2))
def TV:=gA JL (u2 Ce)
def Mi:AD B0:=⟨9,(c1 [TU,Ar,TV]),[Gp,Gp],au⟩
@[irreducible] def ii(N:Nat)(a:Y48)(a2:Y48):Option Bool:=syv N (Mi.go (a,a2))
def V4:=gA Mi (u2 (ii NN))
def Fk:AD B0:=⟨10,(c1 []),[hc4,hc3],au⟩
@[irreducible] def ki(a:Y4)(a2:Int):Option Bool:=syv NN (Fk.go (a,a2))
def P9:=gA Fk (u2 ki)
end
end Go.Fw

def aoN:=@BitVec.toNat_ofInt
def ao0:=@Nat.shiftLeft_add_eq_or_of_lt
def apN:=@Nat.shiftLeft_eq
def aql:=@BitVec.toNat_or
namespace Go.Fw
open Go
def Wy{a b:Int}(f: -36028797018963968<=a)(g:a<36028797018963968)(h:0<=b)(i:b<256):bits .or .i64 (Qw .i64 a 8) b=256*a+b:=by
 have c:Qw .i64 a 8=256*a:=by
  show IntKind.i64.wrap (a*2 ^ (8:Nat))=_;rw[Go.IntWalk.i64_in _ omq];omega
 rw[c];show IntKind.i64.wrap (((BitVec.ofInt 64 (256*a))|||(BitVec.ofInt 64 b)).toNat:Int)=_;rw[aql,aoN,aoN];have e:((256*a) % ((2 ^ 64:Nat):Int)).toNat=(a % 72057594037927936).toNat*2 ^ 8:=omq;have d:(b % ((2 ^ 64:Nat):Int)).toNat=b.toNat:=omq;rw[e,d,<-apN,<-ao0 (by omega:b.toNat<2 ^ 8),apN,IntKind.wrap_i64];omega
end Go.Fw
def anU:=@List.dropLast_concat_getLast
namespace Go.Fw
open Go
def bg{i:Nat}(h:i<4611686018427387904):az .i64 (i:Int) 1=((i+1:Nat):Int):=by
 show IntKind.i64.wrap ((i:Int)+1)=_;rw[amU _ omq];omega
def Yf{i:Nat}(a:0<i)(h:i<4611686018427387904):aC .i64 (i:Int) 1=((i-1:Nat):Int):=by
 show IntKind.i64.wrap ((i:Int)-1)=_;rw[amU _ omq];omega
def aM{α:Type}{l:List α}{i:Nat}{x:α}(h:l[i]?=some x):ix l (i:Int)=some x:=by
 unfold ix;rw[amE omq,anr,h]
def KS(x:UInt8):toB (x.toNat:Int)=some x:=by
 unfold toB;have:=x.toNat_lt;rw[amE ⟨omq,omq⟩];simp
def Qf{i n:Nat}(h:i<n):inb (i:Int) n=true:=by
 unfold inb;simp only[amk,amX];omega
def acK(p m q:List UInt8)(x y:UInt8):(((p++(x::m++[y])++q).set p.length y).set (p.length+m.length+1) x)=(p++[y])++m++(x::q):=by
 have a:p++(x::m++[y])++q=p++(x::(m++(y::q))):=by simp
 rw[a,apa _ _ (amt _),ao3,aot,apa _ _ omq];rw[show p.length+m.length+1-p.length=m.length+1 from omq,ao2,apa _ _ (amt _),ao3,aot];simp
def Ub(N n:Nat)(b c:Int)(a:Bs):dt N (n+1) (b,c,a)=bif decide (b<c) then(bif inb c a.length then((ix a c).bind λe=>bif inb b a.length then((ix a b).bind λf=>bif inb b a.length then(bif inb b a.length then((toB (e.toNat:Int)).bind λd=>
 bif inb c (a.set (Int.toNat b) d).length then(bif inb c (a.set (Int.toNat b) d).length then((toB (f.toNat:Int)).bind λg=>dt N n (az .i64 b 1,aC .i64 c 1,(a.set (Int.toNat b) d).set (Int.toNat c) g)) else none) else none) else none) else none) else none) else none) else some a:=rfl
def Wz(N:Nat):∀(k:Nat)(a p q:List UInt8)(n:Nat),a.length<=k->a.length<2*n->(p++a++q).length<4611686018427387904->
 dt N n ((p.length:Int),(((p.length+a.length:Nat):Int)-1),p++a++q)=some (p++a.reverse++q):=by
 intro k;induction k with
 |zero=>
  intro a p q n c g d;obtain⟨n,rfl⟩:∃m,n=m+1:=⟨n-1,omq⟩;have:a=[]:=amY omq;subst this;show(bif decide ((p.length:Int)<((p.length+([]:List UInt8).length:Nat):Int)-1) then _ else _)=_;rw[amm soq];simp
 |succ k t=>
  intro a p q n c g d;obtain⟨n,rfl⟩:∃m,n=m+1:=⟨n-1,omq⟩
  match a,c,g,d with
  |[],_,_,_=>
   show(bif decide ((p.length:Int)<((p.length+([]:List UInt8).length:Nat):Int)-1) then _ else _)=_;rw[amm soq];simp
  |[x],_,_,_=>
   show(bif decide ((p.length:Int)<((p.length+[x].length:Nat):Int)-1) then _ else _)=_;rw[amm siq];simp
  |x::z::r,c,g,d=>
   obtain⟨m,y,s⟩:∃m y,z::r=m++[y]:=⟨(z::r).dropLast,(z::r).getLast siq,(anU siq).symm⟩;rw[s]at c g d⊢;have e:(x::(m++[y])).length=m.length+2:=by simp
   have j:(p++(x::(m++[y]))++q)[p.length+m.length+1]?=some y:=by
    rw[amL,amA omq,show p.length+m.length+1-p.length=m.length+1 from omq,anf,anE,amL,amA (amt _),ao3];rfl
   have l:(p++(x::(m++[y]))++q)[p.length]?=some x:=by
    rw[amL,amA (amt _),ao3];rfl
   have f:(p++(x::(m++[y]))++q).length=p.length+m.length+2+q.length:=by simp;omega
   have i:((p.length+(x::(m++[y])).length:Nat):Int)-1=((p.length+m.length+1:Nat):Int):=by rw[e];omega
   rw[i];have b:dt N (n+1) ((p.length:Int),((p.length+m.length+1:Nat):Int),p++(x::(m++[y]))++q)=dt N n (((p.length+1:Nat):Int),((p.length+m.length:Nat):Int),(p++[y])++m++(x::q)):=by
    rw[Ub,amq (by omega:(p.length:Int)<((p.length+m.length+1:Nat):Int))];simp only[amw,aM j,aM l,amj,KS,anr,anF,f];rw[Qf (by omega:p.length+m.length+1<p.length+m.length+2+q.length),Qf (by omega:p.length<p.length+m.length+2+q.length)];simp only[amw];rw[bg omq,Yf omq omq,show p.length+m.length+1-1=p.length+m.length from omq];rw[show p++(x::(m++[y]))++q=p++(x::m++[y])++q from rfl,acK]
   rw[b];have o:((p++[y])++m++(x::q)).length=p.length+m.length+2+q.length:=by simp;omega
   rw[f]at d;have h:=t m (p++[y]) (x::q) n (by simp at c;omega) (by simp at g;omega) (by rw[o];omega);rw[show((p++[y]).length:Int)=((p.length+1:Nat):Int) from by simp,show(((p++[y]).length+m.length:Nat):Int)-1=((p.length+m.length:Nat):Int) from by simp;omega]at h;rw[h];simp
end Go.Fw
def aoz:=@Nat.pow_succ
def apd:=@List.reverse_cons
def ape:=@Int.fdiv_eq_ediv_of_nonneg
namespace Go.Fw
open Go
def leB:Nat->Nat->List UInt8
 |0,_=>[]
 |f+1,n=>if n=0 then [] else UInt8.ofNat (n % 256)::leB f (n / 256)
def Qg:∀(f n:Nat),(leB f n).length<=f
 |0,_=>amt _
 |f+1,n=>by
  unfold leB;split
  ·simp
  ·simp only[amr];have:=Qg f (n / 256);omega
def mg(n:Nat):toB (IntKind.wrap .u8 (n:Int))=some (UInt8.ofNat (n % 256)):=by
 unfold toB;rw[IntKind.wrap_u8,amE ⟨omq,omq⟩];congr 1
def aeJ(n:Nat):xO .u64 (n:Int) 8=((n / 256:Nat):Int):=by
 show(n:Int).fdiv (2 ^ (8:Nat))=_;rw[ape _ deq];omega
def Rf(N n:Nat)(i2:Int)(a:Bs):kK N (n+1) (i2,a)=bif decide (i2>0) then((toB (IntKind.wrap .u8 i2)).bind λb=>(app 1 a [b]).bind λc=>kK N n (xO .u64 i2 8,c)) else some a:=rfl
def aif(N:Nat):∀(f a n:Nat)(l:List UInt8),a<256 ^ f->f<n->l.length+f<1000->kK N n ((a:Int),l)=some (l++leB f a):=by
 intro f;induction f with
 |zero=>
  intro a n l c e _;obtain⟨n,rfl⟩:∃m,n=m+1:=⟨n-1,omq⟩;have:a=0:=by simpa using c
  subst this;rw[Rf,amm siq];simp[leB]
 |succ f g=>
  intro a n l c e h;obtain⟨n,rfl⟩:∃m,n=m+1:=⟨n-1,omq⟩;rw[Rf];by_cases d:a=0
  ·subst d;rw[amm siq];simp[leB]
  ·rw[amq (by omega:(a:Int)>0),amw,mg,aeJ];simp only[amj];have b:app 1 l [UInt8.ofNat (a % 256)]=some (l++[UInt8.ofNat (a % 256)]):=by
    unfold app bj;rw[amE ⟨by simp only[amr,amI];omega,by simp only[amr,amI];omega⟩]
   rw[b];simp only[amj];rw[g (a / 256) n _ (by rw[aoz]at c;omega) omq soq];simp[leB,d]
def dG(n:Nat):List UInt8:=(leB 8 (n / 256)).reverse++[UInt8.ofNat (n % 256)]
def Wd(N:Nat)(b:20<=N)(n:Nat)(c:n<18446744073709551616):sO N (n:Int)=some (dG n):=by
 unfold sO syv;rw[mg,aeJ];simp only[amj];rw[aif N 8 (n / 256) N _ omq omq siq];simp only[amj];have a:=Qg 8 (n / 256);have h:=Wz N 9 ([UInt8.ofNat (n % 256)]++leB 8 (n / 256)) [] [] N soq soq soq;simp only[anc,amG,amI,ane]at h;have e:aC .i64 ((([UInt8.ofNat (n % 256)]++leB 8 (n / 256)).length:Nat):Int) 1=((([UInt8.ofNat (n % 256)]++leB 8 (n / 256)).length:Nat):Int)-1:=by
  show IntKind.i64.wrap _=_;rw[amU _ soq]
 rw[e];rw[show(0:Int)=((0:Nat):Int) from rfl,h];simp[dG]
def beN(l:List UInt8):Nat:=l.foldl (λn x=>256*n+x.toNat) 0
def lK(a:List UInt8)(x:UInt8):beN (a++[x])=256*beN a+x.toNat:=by
 unfold beN;rw[List.foldl_append];rfl
def aaa:∀(f n:Nat),n<256 ^ f->beN (leB f n).reverse=n
 |0,n,h=>by
  have:n=0:=by simpa using h
  subst this;rfl
 |f+1,n,h=>by
  unfold leB;split
  ·rename_i a;subst a;rfl
  ·rw[apd,lK,aaa f (n / 256) (by rw[aoz]at h;omega)];have:(UInt8.ofNat (n % 256)).toNat=n % 256:=by simp
   rw[this];omega
def afA(n:Nat)(h:n<18446744073709551616):beN (dG n)=n:=by
 unfold dG;rw[lK,aaa 8 (n / 256) omq];have:(UInt8.ofNat (n % 256)).toNat=n % 256:=by simp
 rw[this];omega
def KT(n:Nat):1<=(dG n).length/\(dG n).length<=9:=by
 unfold dG;have:=Qg 8 (n / 256);simp;omega
end Go.Fw
namespace Go.Fw
open Go
def Rg:∀(f k n:Nat),n<256 ^ k->(leB f n).length<=k
 |0,_,_,_=>anp _
 |f+1,k,n,h=>by
  unfold leB;split
  ·exact anp _
  ·rename_i a;cases k with
   |zero=>simp at h;omega
   |succ k=>
    have:=Rg f k (n / 256) (by rw[aoz]at h;omega);simp only[amr];omega
def Ud:∀(f n:Nat),0<n->n<256 ^ f->∃x r,(leB f n).reverse=x::r/\x.toNat≠0
 |0,n,a,h=>by simp at h;omega
 |f+1,n,a,h=>by
  unfold leB;rw[am4 omq,apd];by_cases b:n / 256=0
  ·refine⟨UInt8.ofNat (n % 256),[],?_,?_⟩
   ·rw[b];cases f<;>simp[leB]
   ·have:(UInt8.ofNat (n % 256)).toNat=n % 256:=by simp
    rw[this];omega
  ·obtain⟨x,r,e,c⟩:=Ud f (n / 256) omq (by rw[aoz]at h;omega);exact⟨x,r++[UInt8.ofNat (n % 256)],by rw[e];rfl,c⟩
def acM(n:Nat)(c:0<n)(h:n<18446744073709551616):∃x r,dG n=x::r/\x.toNat≠0:=by
 unfold dG;by_cases a:n / 256=0
 ·refine⟨UInt8.ofNat (n % 256),[],?_,?_⟩
  ·rw[a];simp[leB]
  ·have:(UInt8.ofNat (n % 256)).toNat=n % 256:=by simp
   rw[this];omega
 ·obtain⟨x,r,e,b⟩:=Ud 8 (n / 256) omq omq;exact⟨x,r++[UInt8.ofNat (n % 256)],by rw[e];rfl,b⟩
def Rh(n:Nat)(h:n<256):dG n=[UInt8.ofNat n]:=by
 unfold dG;rw[show n / 256=0 from omq,show n % 256=n from omq];simp[leB]
def Nb(n:Nat)(h:n<4294967296):(dG n).length<=4:=by
 unfold dG;have:=Rg 8 3 (n / 256) omq;simp;omega
def aE(n:Nat):List UInt8:=if n<128 then dG n else UInt8.ofNat (128+(dG n).length)::dG n
def nY(n:Nat)(h:n<4294967296):1<=(aE n).length/\(aE n).length<=5:=by
 have a:=KT n;have b:=Nb n h;unfold aE;split
 ·omega
 ·simp only[amr];omega
def OD(N:Nat)(b:20<=N)(n:Nat)(d:n<=2147483647):mT N (n:Int)=some (aE n,0):=by
 unfold mT syv;rw[amm (by omega:¬(n:Int)<0),amm (by omega:¬(n:Int)>2147483647),Go.IntWalk.u64_in _ omq,Wd N b n omq];simp only[amp,amj];by_cases h:n<128
 ·rw[amq (by omega:(n:Int)<128)];simp[aE,h]
 ·rw[amm (by omega:¬(n:Int)<128)];have c:=Nb n omq;have e:az .i64 128 (((dG n).length:Nat):Int)=((128+(dG n).length:Nat):Int):=by
   show IntKind.i64.wrap _=_;rw[amU _ omq];omega
  rw[e,mg,show(128+(dG n).length) % 256=128+(dG n).length from omq];simp only[amp,amj];have a:app 1 [UInt8.ofNat (128+(dG n).length)] (dG n)=some ([UInt8.ofNat (128+(dG n).length)]++dG n):=by
   unfold app bj;rw[amE ⟨by simp only[amr,amI];omega,by simp only[amr,amI];omega⟩]
  rw[a];simp[aE,h]
def Ri(N n:Nat)(l:Bs)(a c b:Int):ff N (n+1) (l,a,c,b,0,0)=bif decide (b>a) then some (l,a,c,0,0) else((ix l b).bind λd=>ff N n (l,a,bits .or .i64 (Qw .i64 c 8) (IntKind.wrap .i64 (d.toNat:Int)),az .i64 b 1,0,0)):=rfl
def Co(b:UInt8):IntKind.wrap .i64 (b.toNat:Int)=(b.toNat:Int):=by
 have:=b.toNat_lt;rw[amU _ omq]
def JU(N:Nat)(b:UInt8)(m a:List UInt8)(p:m.length<=4):∀(k n i L:Nat),m.length-i=k->i<=m.length->k<n->L<256 ^ i->
 ff N n (b::(m++a),(m.length:Int),(L:Int),((i+1:Nat):Int),0,0)=some (b::(m++a),(m.length:Int),(((m.drop i).foldl (λn x=>256*n+x.toNat) L:Nat):Int),0,0):=by
 intro k;induction k with
 |zero=>
  intro n i L f e g _;obtain⟨n,rfl⟩:∃m,n=m+1:=⟨n-1,omq⟩;rw[Ri,amq (by omega:((i+1:Nat):Int)>(m.length:Int)),an5 omq];rfl
 |succ k h=>
  intro n i L f e g l;obtain⟨n,rfl⟩:∃m,n=m+1:=⟨n-1,omq⟩;have c:i<m.length:=omq;have d:(b::(m++a))[i+1]?=some m[i]:=by
   rw[anE,amu c,aml c]
  rw[Ri,amm (by omega:¬((i+1:Nat):Int)>(m.length:Int)),amp,aM d];simp only[amj];have q:(256:Nat) ^ i<=256 ^ 4:=aoA deq omq;have j:(256:Nat) ^ 4=4294967296:=by decide
  have o:=(m[i]).toNat_lt;rw[Co,Wy omq omq omq omq,bg omq,amP c,aqk];rw[show(256*(L:Int)+((m[i]).toNat:Int))=((256*L+(m[i]).toNat:Nat):Int) from omq];exact h n (i+1) _ omq omq omq (by rw[aoz];omega)
def acN(N:Nat)(t:20<=N)(n:Nat)(u:n<=2147483647)(a:List UInt8):dK N (aE n++a)=some ((n:Int),((aE n).length:Int),0,0):=by
 unfold dK syv;by_cases h:n<128
 ·have e:aE n=[UInt8.ofNat n]:=by simp[aE,h,Rh n omq]
  rw[e];have g:(((([UInt8.ofNat n]++a).length:Nat):Int)==0)=false:=by simp;omega
  have c:ix ([UInt8.ofNat n]++a) 0=some (UInt8.ofNat n):=rfl;have k:(UInt8.ofNat n).toNat=n:=by simp;omega
  rw[g];simp only[amp,c,amj,k];rw[amq (by omega:(n:Int)<128),amw,amU _ omq];rfl
 ·have j:=Nb n omq;have p:=(KT n).1;have e:aE n=UInt8.ofNat (128+(dG n).length)::dG n:=by simp[aE,h]
  obtain⟨x,r,q,s⟩:=acM n omq omq;rw[e,anf];generalize o:UInt8.ofNat (128+(dG n).length)=b;have i:b.toNat=128+(dG n).length:=by rw[<-o];simp;omega
  have g:((((b::(dG n++a)).length:Nat):Int)==0)=false:=by simp;omega
  have c:ix (b::(dG n++a)) 0=some b:=rfl;have d:ix (b::(dG n++a)) 1=some x:=by rw[q];rfl
  have f:aC .i64 (b.toNat:Int) 128=((dG n).length:Int):=by
   show IntKind.i64.wrap _=_;rw[i,amU _ omq];omega
  rw[g];simp only[amp,c,amj,Co];rw[amm (by omega:¬(b.toNat:Int)<128),f];rw[show((((dG n).length:Nat):Int)==0)=false from amO.2 omq,amm (by omega:¬(((dG n).length:Nat):Int)>4),amm (by simp;omega:¬(((b::(dG n++a)).length:Nat):Int)<=(((dG n).length:Nat):Int))];simp only[amp];have l:=JU N b (dG n) a j (dG n).length N 0 0 omq omq omq siq;rw[anb,show(dG n).foldl (λn x=>256*n+x.toNat) 0=n from afA n omq]at l;rw[show ff N N (b::(dG n++a),(((dG n).length:Nat):Int),0,1,0,0)=_ from l];simp only[amj,d];rw[show((x.toNat:Int)==0)=false from amO.2 omq,amm (by omega:¬(n:Int)<128),amm (by omega:¬(n:Int)>2147483647)];have m:az .i64 1 (((dG n).length:Nat):Int)=(((b::dG n).length:Nat):Int):=by
   show IntKind.i64.wrap _=_;rw[amU _ omq];simp;omega
  rw[m];rfl
end Go.Fw
def apu:=@UInt8.toNat_inj
namespace Go.Fw
open Go
def aig:∀(f:Nat)(l:List UInt8),l.length=f->beN l<256 ^ f:=by
 intro f;induction f with
 |zero=>
  intro l h;have:l=[]:=amY h;subst this;decide
 |succ f c=>
  intro l h;obtain⟨m,d,b⟩:∃m d,l=m++[d]:=⟨l.dropLast,l.getLast (by intro a;subst a;simp at h),(anU (by intro a;subst a;simp at h)).symm⟩;subst b;have:=c m (by simpa using h);have e:=d.toNat_lt;rw[lK,aoz];omega
def afB:∀(l:List UInt8)(x:UInt8)(r:List UInt8),l=x::r->x.toNat≠0->0<beN l:=by
 intro l x r h d;subst h;have b:∀(r:List UInt8)(a:Nat),0<a->0<r.foldl (λn x=>256*n+x.toNat) a:=by
  intro r;induction r with
  |nil=>intro a h;exact h
  |cons y r c=>intro a h;exact c _ (by show 0<256*a+y.toNat;omega)
 exact b r _ (by show 0<256*0+x.toNat;omega)
def aih:∀(f:Nat)(l:List UInt8),l.length<=f->(∀x r,l=x::r->x.toNat≠0)->(leB f (beN l)).reverse=l:=by
 intro f;induction f with
 |zero=>
  intro l h _;have:l=[]:=amY omq;subst this;rfl
 |succ f n=>
  intro l h j;cases a:l with
  |nil=>simp[beN,leB]
  |cons x r=>
   have b:=j x r a;have e:=afB l x r a b;rw[<-a];obtain⟨m,d,c⟩:∃m d,l=m++[d]:=⟨l.dropLast,l.getLast (by rw[a];simp),(anU (by rw[a];simp)).symm⟩;have p:=d.toNat_lt;have o:beN l=256*beN m+d.toNat:=by rw[c,lK]
   have g:beN l / 256=beN m:=omq;have i:beN l % 256=d.toNat:=omq;unfold leB;rw[am4 omq,g,i,apd,n m (by rw[c]at h;simp at h;omega) (λy s k=>by
    rw[c,k]at a;simp only[anf,aon]at a;rw[a.1];exact b)]
   rw[c];simp
def aii(l:List UInt8)(e:l.length<=9)(x:UInt8)(r:List UInt8)(a:l=x::r)(b:x.toNat≠0∨r=[]):dG (beN l)=l:=by
 obtain⟨m,d,c⟩:∃m d,l=m++[d]:=⟨l.dropLast,l.getLast (by rw[a];simp),(anU (by rw[a];simp)).symm⟩;have h:=d.toNat_lt;have g:beN l=256*beN m+d.toNat:=by rw[c,lK]
 unfold dG;rw[show beN l / 256=beN m from omq,show beN l % 256=d.toNat from omq,aih 8 m (by rw[c]at e;simp at e;omega) (λy s f=>by
  rw[c,f]at a;simp only[anf,aon]at a;rcases b with b|b
  ·rw[a.1];exact b
  ·rw[b]at a;simp at a),c]
 simp
def acO(N:Nat)(H:20<=N)(a:List UInt8)(I:a.length<4611686018427387904)(L k o:Int)(h:dK N a=some (L,k,0,o)):∃(n:Nat)(i:List UInt8),n<=2147483647/\a=aE n++i/\L=(n:Int)/\k=((aE n).length:Int):=by
 unfold dK lu syv at h;cases a with
 |nil=>cases h
 |cons b r=>
  have C:((((b::r).length:Nat):Int)==0)=false:=amO.2 (by simp only[amr];omega);have p:ix (b::r) 0=some b:=rfl;have J:=b.toNat_lt;rw[C]at h;simp only[amp,p,amj,Co]at h;by_cases v:(b.toNat:Int)<128
  ·rw[amq v]at h;simp only[amw,amn,amJ]at h;obtain⟨rfl,rfl,_,_⟩:=h;have e:aE b.toNat=[b]:=by
    unfold aE;rw[amE omq,Rh _ omq];simp
   exact⟨b.toNat,r,omq,by rw[e];rfl,rfl,by rw[e];rfl⟩
  ·rw[amm v]at h;obtain⟨c,E⟩:∃c:Nat,b.toNat=128+c:=⟨b.toNat-128,omq⟩;have g:aC .i64 (b.toNat:Int) 128=(c:Int):=by
    show IntKind.i64.wrap _=_;rw[E,amU _ omq];omega
   rw[g]at h;simp only[amp,amj]at h;by_cases D:c=0
   ·subst D;cases h
   ·rw[show((c:Int)==0)=false from amO.2 omq]at h;simp only[amp]at h;by_cases w:(c:Int)>4
    ·rw[amq w]at h;cases h
    ·rw[amm w]at h;simp only[amp]at h;by_cases j:(((b::r).length:Nat):Int)<=(c:Int)
     ·rw[amq j]at h;cases h
     ·rw[amm j]at h;simp only[amp]at h;simp only[amr]at j;have t:r=r.take c++r.drop c:=(anD c r).symm;have f:(r.take c).length=c:=by rw[amT];omega
      have A:=JU N b (r.take c) (r.drop c) omq (r.take c).length N 0 0 omq omq omq siq;rw[anb,<-t,f]at A;rw[show ff N N (b::r,(c:Int),0,1,0,0)=_ from A]at h;obtain⟨x,s,B⟩:∃x s,r.take c=x::s:=by
       cases G:r.take c with
       |nil=>rw[G]at f;simp at f;omega
       |cons x s=>exact⟨x,s,rfl⟩
      have d:ix (b::r) 1=some x:=by rw[t,B];rfl
      simp only[amj,d]at h;by_cases l:((x.toNat:Int)==0)=true
      ·rw[l]at h;cases h
      ·rw[show((x.toNat:Int)==0)=false from by simpa using l]at h;have u:x.toNat≠0:=by
        intro F;apply l;rw[F];rfl
       simp only[amp]at h;have m:(r.take c).foldl (λn x=>256*n+x.toNat) 0=beN (r.take c):=rfl;rw[m]at h;by_cases y:((beN (r.take c):Nat):Int)<128
       ·rw[amq y]at h;cases h
       ·rw[amm y]at h;simp only[amp]at h;by_cases z:((beN (r.take c):Nat):Int)>2147483647
        ·rw[amq z]at h;cases h
        ·rw[amm z]at h;simp only[amp,amn,amJ]at h;obtain⟨rfl,rfl,_⟩:=h;have q:=aii (r.take c) omq x s B (.inl u);have e:aE (beN (r.take c))=b::r.take c:=by
          unfold aE;rw[am4 omq,q,f];congr 1;apply apu.1;simp;omega
         refine⟨beN (r.take c),r.drop c,omq,by rw[e,anf,<-t],rfl,?_⟩;rw[e];show IntKind.i64.wrap _=_;rw[amU _ omq];simp only[amr,f];omega
end Go.Fw
namespace Go.Fw
open Go
def idB(c:Nat)(k:Bool)(num:Nat):UInt8:=UInt8.ofNat (64*c+(if k then 32 else 0)+num)
def Rj:∀(c:Fin 4)(k:Bool)(num:Fin 31),eM (c.val:Int) k (num.val:Int)=some (((idB c.val k num.val).toNat:Int),0)/\dH ((idB c.val k num.val).toNat:Int)=some ((c.val:Int),k,(num.val:Int),0):=amZ krq
def JV{c num:Nat}(k:Bool)(a:c<4)(b:num<31):eM (c:Int) k (num:Int)=some (((idB c k num).toNat:Int),0):=(Rj ⟨c,a⟩ k ⟨num,b⟩).1
def Yg{c num:Nat}(k:Bool)(a:c<4)(b:num<31):dH ((idB c k num).toNat:Int)=some ((c:Int),k,(num:Int),0):=(Rj ⟨c,a⟩ k ⟨num,b⟩).2
def We:∀n:Fin 256,(match dH ((UInt8.ofNat n.val).toNat:Int) with
 |some (c,k,num,e)=>decide (e=0->0<=c/\c<4/\0<=num/\num<31/\UInt8.ofNat n.val=idB c.toNat k num.toNat)
 |none=>false)=true:=amZ krq
def OE(b:UInt8):∃c k a e,dH (b.toNat:Int)=some (c,k,a,e)/\(e=0->∃f d:Nat,f<4/\d<31/\c=(f:Int)/\a=(d:Int)/\b=idB f k d):=by
 have h:=We ⟨b.toNat,b.toNat_lt⟩;rw[show UInt8.ofNat (⟨b.toNat,b.toNat_lt⟩:Fin 256).val=b from by simp]at h;cases g:dH (b.toNat:Int) with
 |none=>rw[g]at h;cases h
 |some x=>
  obtain⟨c,k,a,e⟩:=x;rw[g]at h;refine⟨c,k,a,e,rfl,λj=> ?_⟩;obtain⟨l,m,n,o,i⟩:=amZ h j;exact⟨c.toNat,a.toNat,omq,omq,omq,omq,i⟩
def qA(b:UInt8)(r:List UInt8):slc (b::r) 1 ((b::r).length:Int)=some r:=by
 unfold slc;rw[amE ⟨by decide,by simp only[amr];omega,omq⟩,anr,an4];rfl
def bX{a b:Int}(h: -4611686018427387904<=a+b/\a+b<=4611686018427387904):az .i64 a b=a+b:=by
 show IntKind.i64.wrap _=_;rw[amU _ omq]
def qc{a b:Int}(h: -4611686018427387904<=a-b/\a-b<=4611686018427387904):aC .i64 a b=a-b:=by
 show IntKind.i64.wrap _=_;rw[amU _ omq]
def Yh(N:Nat)(f:20<=N){c num n:Nat}(k:Bool)(g:c<4)(i:num<31)(h:n<=2147483647)(a:List UInt8):
 cb N (idB c k num::(aE n++a))=some (((c:Int),(num:Int),k,(n:Int),((1+(aE n).length:Nat):Int)),0,0):=by
 have j:=nY n omq;unfold cb syv;have e:((((idB c k num::(aE n++a)).length:Nat):Int)==0)=false:=amO.2 (by simp only[amr];omega);have b:ix (idB c k num::(aE n++a)) 0=some (idB c k num):=rfl;rw[e,qA];simp only[amp,b,amj,Yg k g i,acN N f n h a];have d:az .i64 1 (((aE n).length:Nat):Int)=((1+(aE n).length:Nat):Int):=by
  rw[bX omq];omega
 rw[d];rfl
def G8(N:Nat)(u:20<=N)(a:List UInt8)(v:a.length<4611686018427387904)(c num L sz o:Int)(k:Bool)(h:cb N a=some ((c,num,k,L,sz),0,o)):
 ∃(f d n:Nat)(e:List UInt8),f<4/\d<31/\n<=2147483647/\a=idB f k d::(aE n++e)/\c=(f:Int)/\num=(d:Int)/\L=(n:Int)/\sz=((1+(aE n).length:Nat):Int):=by
 unfold cb syv at h;cases a with
 |nil=>cases h
 |cons b r=>
  have t:((((b::r).length:Nat):Int)==0)=false:=amO.2 (by simp only[amr];omega);have l:ix (b::r) 0=some b:=rfl;obtain⟨c1,C,s,p,hid,i⟩:=OE b;rw[t,qA]at h;simp only[amp,l,amj,hid]at h;by_cases j:p=0
  ·obtain⟨f,d,w,z,rfl,rfl,rfl⟩:=i j;subst j;rw[show((0:Int) !=0)=false from rfl]at h;simp only[amp]at h;cases m:dK N r with
   |none=>rw[m]at h;cases h
   |some x=>
    obtain⟨A,D,q,E⟩:=x;rw[m]at h;simp only[amj]at h;by_cases g:q=0
    ·subst g;rw[show((0:Int) !=0)=false from rfl]at h;simp only[amp,amn,amJ]at h;obtain⟨⟨rfl,rfl,rfl,rfl,rfl⟩,_⟩:=h;obtain⟨n,e,y,rfl,rfl,rfl⟩:=acO N u r (by simp at v;omega) _ _ _ m;have B:=nY n omq;refine⟨f,d,n,e,w,z,y,rfl,rfl,rfl,rfl,?_⟩;rw[bX omq];omega
    ·rw[show(q !=0)=true from by simpa using g]at h;simp only[amw,amn,amJ]at h;omega
  ·rw[show(p !=0)=true from by simpa using j]at h;simp only[amw,amn,amJ]at h;omega
end Go.Fw
namespace Go.Fw
open Go
def Ue(N n:Nat)(c d:List Bs)(i2 i4 i5:Int):cW N (n+1) (c,i2,d,i4,i5)=bif decide (i5<i4) then((ix d i5).bind λe=>((bif decide (az .i64 i2 (e.length:Int)<0) then none else some (c,az .i64 i2 (e.length:Int),d,i4,i5):Option (List Bs×Int×List Bs×Int×Int))).bind λ(g,f,h,a,b)=>
 cW N n (g,f,h,a,az .i64 b 1)) else some (c,i2):=rfl
def Uf(N n:Nat)(c:List Bs)(b a:Int)(d:Bs):cX N (n+1) (c,b,a,d)=bif decide (a<b) then((ix c a).bind λe=>(app 1 d e).bind λf=>cX N n (c,b,az .i64 a 1,f)) else some d:=rfl
def ajY(N:Nat)(xs:List Bs)(g:xs.length<4611686018427387904):∀(k n i s:Nat),xs.length-i=k->i<=xs.length->k<n->s+(xs.drop i).flatten.length<=1099511627776->
 cW N n (xs,(s:Int),xs,(xs.length:Int),(i:Int))=some (xs,((s+(xs.drop i).flatten.length:Nat):Int)):=by
 intro k;induction k with
 |zero=>
  intro n i s c b d _;obtain⟨n,rfl⟩:∃m,n=m+1:=⟨n-1,omq⟩;rw[Ue,amm (by omega:¬(i:Int)<(xs.length:Int)),an5 omq];rfl
 |succ k f=>
  intro n i s c b d e;obtain⟨n,rfl⟩:∃m,n=m+1:=⟨n-1,omq⟩;have a:i<xs.length:=omq;rw[amP a,List.flatten_cons,amo]at e;rw[Ue,amq (by omega:(i:Int)<(xs.length:Int)),amw,aM (aml a)];simp only[amj];rw[bX omq,show(s:Int)+((xs[i].length:Nat):Int)=((s+xs[i].length:Nat):Int) from omq,amm (by omega:¬((s+xs[i].length:Nat):Int)<0)];simp only[amp,amj];rw[bg omq,f n (i+1) _ omq omq omq omq,amP a,List.flatten_cons,amo,aoy]
def ajZ(N:Nat)(xs:List Bs)(h:xs.length<4611686018427387904):∀(k n i:Nat)(l:Bs),xs.length-i=k->i<=xs.length->k<n->l.length+(xs.drop i).flatten.length<=1099511627776->
 cX N n (xs,(xs.length:Int),(i:Int),l)=some (l++(xs.drop i).flatten):=by
 intro k;induction k with
 |zero=>
  intro n i l d c e _;obtain⟨n,rfl⟩:∃m,n=m+1:=⟨n-1,omq⟩;rw[Uf,amm (by omega:¬(i:Int)<(xs.length:Int)),an5 omq];simp
 |succ k g=>
  intro n i l d c e f;obtain⟨n,rfl⟩:∃m,n=m+1:=⟨n-1,omq⟩;have a:i<xs.length:=omq;rw[amP a,List.flatten_cons,amo]at f;rw[Uf,amq (by omega:(i:Int)<(xs.length:Int)),amw,aM (aml a)];simp only[amj];have b:app 1 l xs[i]=some (l++xs[i]):=by
   unfold app bj;rw[amE ⟨omq,omq⟩]
  rw[b];simp only[amj];rw[bg omq,g n (i+1) _ omq omq omq (by rw[amo];omega),amP a,List.flatten_cons,amL]
def qB(N:Nat)(xs:List Bs)(c:xs.length<N)(e:N<4611686018427387904)(d:xs.flatten.length<=1099511627776):bP N xs=some xs.flatten:=by
 unfold bP syv;have a:=ajY N xs omq xs.length N 0 0 rfl omq c (by simpa using d);rw[anb,ane]at a;rw[show cW N N (xs,0,xs,(xs.length:Int),0)=_ from a];simp only[amj];have f:fW ((xs.flatten.length:Nat):Int)=some []:=by
  unfold fW bj;rw[amq (by omega:(0:Int)<=((xs.flatten.length:Nat):Int)),amq (by omega:((xs.flatten.length:Nat):Int)<=((1099511627776:Nat):Int))];rfl
 rw[f];simp only[amj];have b:=ajZ N xs omq xs.length N 0 [] rfl omq c (by simpa using d);rw[anb,anc]at b;rw[show cX N N (xs,(xs.length:Int),0,[])=_ from b];rfl
def tlv(c:Nat)(k:Bool)(num:Nat)(body:List UInt8):List UInt8:=idB c k num::(aE body.length++body)
def lj(c:Nat)(k:Bool)(num:Nat)(body:List UInt8):(tlv c k num body).length=1+(aE body.length).length+body.length:=by
 unfold tlv;simp;omega
def cco(N:Nat)(xs:List Bs):dw N xs=bP N xs:=by
 unfold dw bP lD cW lF cX syv;rfl
def OF(N:Nat)(b:20<=N)(a:N<4611686018427387904){c num:Nat}(k:Bool)(e:c<4)(f:num<31)(body:List UInt8)(d:body.length<=2147483647):pu N (c:Int) k (num:Int) body=some (tlv c k num body,0):=by
 have g:=nY body.length omq;unfold pu syv;rw[JV k e f];simp only[amj];rw[show((0:Int) !=0)=false from rfl,OD N b body.length d];simp only[amp,amj];rw[show((0:Int) !=0)=false from rfl,KS];simp only[amp,amj];rw[cco,qB N _ soq a soq];simp[tlv]
def Ug(N:Nat)(b:20<=N)(a:N<4611686018427387904){c num:Nat}(k:Bool)(e:c<4)(f:num<31)(xs:List Bs)(g:xs.length<N)(d:xs.flatten.length<=2147483647):cz N (c:Int) k (num:Int) xs=some (tlv c k num xs.flatten,0):=by
 unfold cz syv;rw[qB N xs g a omq];simp only[amj];rw[OF N b a k e f _ d];rfl
def Uh(N:Nat)(b:20<=N)(a:N<4611686018427387904)(xs:List Bs)(e:xs.length<N)(d:xs.flatten.length<=2147483647):eF N xs=some (tlv 0 true 16 xs.flatten,0):=by
 unfold eF syv;rw[show cz N 0 true 16 xs=_ from Ug N b a (c:=0) (num:=16) true omq omq xs e d];rfl
end Go.Fw
def am1:=@List.drop_of_length_le
def aqe:=@List.take_append
namespace Go.Fw
open Go
def Qh{α:Type}(p s q:List α):slc (p++s++q) (p.length:Int) ((p.length+s.length:Nat):Int)=some s:=by
 unfold slc;rw[amE ⟨omq,omq,by simp only[amo];omega⟩,anr,anr,amL,aqe,amR omq,an6,am1 (amt _)];simp
abbrev aJ:=Int×Int×Bool×Int×Int×Int
def jb(c:Nat)(k:Bool)(num:Nat)(body:List UInt8)(off:Nat):aJ:=((c:Int),(num:Int),k,(off:Int),((off+1+(aE body.length).length:Nat):Int),((off+(tlv c k num body).length:Nat):Int))
def Ui(N:Nat)(g:20<=N){c num:Nat}(k:Bool)(i:c<4)(n:num<31)(p body s q:List UInt8)(j:(p++(tlv c k num body++s)++q).length<4611686018427387904)(h:body.length<=2147483647):
 cA N (p++(tlv c k num body++s)++q) (p.length:Int) ((p.length+(tlv c k num body++s).length:Nat):Int)=some (jb c k num body p.length,0,0):=by
 have l:=nY body.length omq;have m:=lj c k num body;simp only[amo]at j;unfold cA syv;rw[amq (by omega:((p.length+(tlv c k num body++s).length:Nat):Int)<=((p.length+(tlv c k num body++s).length:Nat):Int)),amq (by simp only[amo];omega:((p.length+(tlv c k num body++s).length:Nat):Int)<=(((p++(tlv c k num body++s)++q).length:Nat):Int))];simp only[an2,amw,Qh,amj];have b:=Yh N g k i n h (body++s);rw[show idB c k num::(aE body.length++(body++s))=tlv c k num body++s from by simp[tlv]]at b;rw[b];simp only[amj];rw[show((0:Int) !=0)=false from rfl];simp only[amp];have d:aC .i64 (aC .i64 ((p.length+(tlv c k num body++s).length:Nat):Int) (p.length:Int)) ((1+(aE body.length).length:Nat):Int)=((body.length+s.length:Nat):Int):=by
  rw[qc (a:=((p.length+(tlv c k num body++s).length:Nat):Int)) (by simp only[amo];omega),qc (by simp only[amo];omega)];simp only[amo];omega
 rw[d,amm (by omega:¬((body.length+s.length:Nat):Int)<(body.length:Int))];have e:az .i64 (p.length:Int) ((1+(aE body.length).length:Nat):Int)=((p.length+1+(aE body.length).length:Nat):Int):=by
  rw[bX omq];omega
 have f:az .i64 ((p.length+1+(aE body.length).length:Nat):Int) (body.length:Int)=((p.length+(tlv c k num body).length:Nat):Int):=by
  rw[bX omq];omega
 rw[e,f];rfl
def Uj(N:Nat)(a:20<=N){c num:Nat}(k:Bool)(d:c<4)(g:num<31)(body:List UInt8)(b:body.length<=2147483647):cm N (tlv c k num body)=some (jb c k num body 0,0,0):=by
 have e:=nY body.length omq;have f:=lj c k num body;have h:=Ui N a k d g [] body [] [] (by simp only[amo,amI];omega) b;simp only[anc,amG,amI,ane]at h;unfold cm syv;rw[show cA N (tlv c k num body) 0 (((tlv c k num body).length:Nat):Int)=_ from h];simp only[amj];rw[show((0:Int)==0)=true from rfl,amm (by show ¬((0+(tlv c k num body).length:Nat):Int)<_;omega)];rfl
def G9(N:Nat)(B:20<=N)(a:List UInt8)(i j:Nat)(D:i<=j)(I:j<=a.length)(H:a.length<4611686018427387904)(v:aJ)(o:Int)(h:cA N a (i:Int) (j:Int)=some (v,0,o)):
 ∃(c num:Nat)(k:Bool)(body q:List UInt8),c<4/\num<31/\body.length<=2147483647/\a.drop i=tlv c k num body++q/\v=jb c k num body i/\i+(tlv c k num body).length<=j:=by
 unfold cA syv at h;rw[amq (by omega:(j:Int)<=(j:Int)),amq (by omega:(j:Int)<=((a.length:Nat):Int))]at h;have F:slc a (i:Int) (j:Int)=some ((a.take j).drop i):=by
  unfold slc;rw[amE ⟨omq,omq,omq⟩];simp
 simp only[an2,amw,F,amj]at h;cases l:cb N ((a.take j).drop i) with
 |none=>rw[l]at h;cases h
 |some x=>
  obtain⟨⟨c1,u,t,L,M⟩,e,K⟩:=x;rw[l]at h;simp only[amj]at h;by_cases p:e=0
  ·subst p;obtain⟨c,num,n,b,C,G,J,m,rfl,rfl,rfl,rfl⟩:=G8 N B _ (by simp only[anj,amT];omega) _ _ _ _ _ _ l;rw[show((0:Int) !=0)=false from rfl]at h;simp only[amp]at h;have E:=nY n omq;have r:j-i=1+(aE n).length+b.length:=by
    have:=amV List.length m;simp only[anj,amT,amr,amo]at this;omega
   have w:aC .i64 (aC .i64 (j:Int) (i:Int)) ((1+(aE n).length:Nat):Int)=(b.length:Int):=by
    rw[qc (a:=(j:Int)) omq,qc omq];omega
   rw[w]at h;by_cases s:((b.length:Nat):Int)<(n:Int)
   ·rw[amq s]at h;simp only[amw,amn,amJ]at h;omega
   ·rw[amm s]at h;have y:az .i64 (i:Int) ((1+(aE n).length:Nat):Int)=((i+1+(aE n).length:Nat):Int):=by
     rw[bX omq];omega
    have z:az .i64 ((i+1+(aE n).length:Nat):Int) (n:Int)=((i+1+(aE n).length+n:Nat):Int):=by
     rw[bX omq];omega
    rw[y,z]at h;simp only[amp,amn,amJ]at h;have d:(b.take n).length=n:=by rw[amT];omega
    have f:b=b.take n++b.drop n:=(anD n b).symm;have g:=lj c t num (b.take n);rw[d]at g;refine⟨c,num,t,b.take n,b.drop n++a.drop j,C,G,omq,?_,?_,omq⟩
    ·have:a.drop i=(a.take j).drop i++a.drop j:=by
      have A:a=a.take j++a.drop j:=(anD j a).symm
      conv=>lhs;rw[A]
      rw[an6,amT];congr 1;rw[show i-min j a.length=0 from omq,anb]
     rw[this,m];unfold tlv;rw[d];simp only[anf,amL];rw[<-amL (b.take n),<-f]
    ·unfold jb;rw[d];refine h.1.symm.trans ?_;congr 5;rw[g];omega
  ·rw[show(e !=0)=true from by simpa using p]at h;simp only[amw,amn,amJ]at h;omega
end Go.Fw
namespace Go.Fw
open Go
abbrev TLV:=Nat×Bool×Nat×List UInt8
def aj(t:TLV):List UInt8:=tlv t.1 t.2.1 t.2.2.1 t.2.2.2
def okT(t:TLV):Prop:=t.1<4/\t.2.2.1<31/\t.2.2.2.length<=2147483647
def fV:Nat->List TLV->List aJ
 |_,[]=>[]
 |off,t::r=>jb t.1 t.2.1 t.2.2.1 t.2.2.2 off::fV (off+(aj t).length) r
def ax(a:List TLV):List UInt8:=(a.map aj).flatten
def eG(t:TLV)(r:List TLV):ax (t::r)=aj t++ax r:=by simp[ax]
def Ha(t:TLV):2<=(aj t).length:=by
 unfold aj;rw[lj];have:1<=(aE t.2.2.2.length).length:=by
  unfold aE;have:=KT t.2.2.2.length;split
  ·omega
  ·simp only[amr];omega
 omega
def ez:∀(a:List TLV),2*a.length<=(ax a).length
 |[]=>by simp[ax]
 |t::r=>by
  have b:=Ha t;have c:=ez r;rw[eG,amo,amr];omega
def Fu(N n:Nat)(a:Bs)(i2 i3:Int)(b:List aJ):dX N (n+1) (a,i2,i3,0,0,b)=bif decide (i3<i2) then((cA N a i3 i2).bind λ(c,d)=>bif (d.1 !=0) then some (Sum.inl d) else((app 48 b [c]).bind λe=>dX N n (a,i2,c.2.2.2.2.2,0,0,e))) else some (Sum.inr (0,0,b)):=rfl
def WB(l:List aJ)(v:aJ)(h:l.length<10000000):app 48 l [v]=some (l++[v]):=by
 unfold app bj;rw[amE ⟨by simp only[amr,amI];omega,by simp only[amr,amI];omega⟩]
def WC(N:Nat)(e:20<=N):∀(a:List TLV)(p q:List UInt8)(n:Nat)(acc:List aJ),(∀t∈a,okT t)->a.length<n->(p++ax a++q).length<4611686018427387904->acc.length+a.length<10000000->
 dX N n (p++ax a++q,((p.length+(ax a).length:Nat):Int),(p.length:Int),0,0,acc)=some (.inr (0,0,acc++fV p.length a))
 |[],p,q,n,acc,_,c,_,_=>by
  obtain⟨n,rfl⟩:∃m,n=m+1:=⟨n-1,by simp at c;omega⟩;rw[Fu,amm (by simp[ax])];simp[fV]
 |t::r,p,q,n,acc,g,c,d,f=>by
  obtain⟨n,rfl⟩:∃m,n=m+1:=⟨n-1,by simp at c;omega⟩;obtain⟨i,j,k⟩:=g t (am0 ..);have o:=Ha t;rw[Fu,amq (by rw[eG,amo];omega:((p.length:Nat):Int)<((p.length+(ax (t::r)).length:Nat):Int)),amw];have b:=Ui N e t.2.1 i j p t.2.2.2 (ax r) q (by rw[show tlv t.1 t.2.1 t.2.2.1 t.2.2.2++ax r=ax (t::r) from(eG t r).symm];exact d) k;rw[show tlv t.1 t.2.1 t.2.2.1 t.2.2.2++ax r=ax (t::r) from(eG t r).symm]at b;rw[b];simp only[amj];rw[show((0:Int) !=0)=false from rfl,amp,WB _ _ (by simp at f;omega)];simp only[amj];have h:=WC N e r (p++aj t) q n (acc++[jb t.1 t.2.1 t.2.2.1 t.2.2.2 p.length]) (λx l=>g x (amF _ l)) (by simp at c;omega) (by rw[eG]at d;simp at d⊢;omega) (by simp at f⊢;omega);rw[show p++aj t++ax r++q=p++ax (t::r)++q from by rw[eG];simp,show(((p++aj t).length+(ax r).length:Nat):Int)=((p.length+(ax (t::r)).length:Nat):Int) from by rw[eG];simp;omega,amo]at h;rw[show(jb t.1 t.2.1 t.2.2.1 t.2.2.2 p.length).2.2.2.2.2=((p.length+(aj t).length:Nat):Int) from rfl,h,fV];simp
def acP(N:Nat)(b:20<=N)(a:List TLV)(p q:List UInt8)(f:∀t∈a,okT t)(e:a.length<N)(c:(p++ax a++q).length<4611686018427387904)(d:a.length<10000000):
 bT N (p++ax a++q) (p.length:Int) ((p.length+(ax a).length:Nat):Int)=some (fV p.length a,0,0):=by
 unfold bT syv;rw[amm (by omega:¬((p.length:Nat):Int)<0),amm (by omega:¬((p.length:Nat):Int)>((p.length+(ax a).length:Nat):Int)),amm (by simp only[amo];omega:¬((p.length+(ax a).length:Nat):Int)>(((p++ax a++q).length:Nat):Int))];simp only[amp];rw[WC N b a p q N [] f e c (by simpa using d)];simp
def aij(N:Nat)(C:20<=N)(a:List UInt8)(j:Nat)(J:j<=a.length)(D:a.length<4611686018427387904):∀(n i:Nat)(acc:List aJ)(y:(Int×Int)⊕(Int×Int×List aJ)),i<=j->dX N n (a,(j:Int),(i:Int),0,0,acc)=some y->
 (∃e o,y=.inl (e,o)/\e≠0)∨∃l,(∀t∈l,okT t)/\(a.take j).drop i=ax l/\y=.inr (0,0,acc++fV i l):=by
 intro n;induction n with
 |zero=>intro i acc y _ h;cases h
 |succ n L=>
  intro i acc y H h;rw[Fu]at h;by_cases I:i<j
  ·rw[amq (by omega:(i:Int)<(j:Int)),amw]at h;cases A:cA N a (i:Int) (j:Int) with
   |none=>rw[A]at h;cases h
   |some x=>
    obtain⟨v,e,o⟩:=x;rw[A]at h;simp only[amj]at h;by_cases s:e=0
    ·subst s;obtain⟨c,d,k,b,q,F,K,E,B,rfl,w⟩:=G9 N C a i j H J D v o A;rw[show((0:Int) !=0)=false from rfl,amp]at h;cases f:app 48 acc [jb c k d b i] with
     |none=>rw[f]at h;cases h
     |some M=>
      rw[f]at h;simp only[amj]at h;have u:M=acc++[jb c k d b i]:=by
       unfold app at f;split at f
       ·cases f;rfl
       ·cases f
      subst u;have g:(a.take j).drop i=tlv c k d b++(a.take j).drop (i+(tlv c k d b).length):=by
       have m:(a.take j).drop i=(a.drop i).take (j-i):=by rw[apD]
       have p:(a.take j).drop (i+(tlv c k d b).length)=(a.drop (i+(tlv c k d b).length)).take (j-(i+(tlv c k d b).length)):=by rw[apD]
       have r:a.drop (i+(tlv c k d b).length)=q:=by
        rw[<-anZ,B,an6,am1 (amt _)];simp
       rw[m,p,r,B,aqe,amR omq];congr 2;omega
      rcases L (i+(tlv c k d b).length) _ y w h with G|⟨l,m,p,r⟩
      ·exact .inl G
      ·refine .inr ⟨(c,k,d,b)::l,?_,?_,?_⟩
       ·intro t z;rcases amN.1 z with rfl|z
        ·exact⟨F,K,E⟩
        ·exact m t z
       ·rw[g,p,eG];rfl
       ·rw[r,fV];simp[aj]
    ·rw[show(e !=0)=true from by simpa using s,cond_true]at h;cases h;exact .inl ⟨e,o,rfl,s⟩
  ·rw[amm (by omega:¬(i:Int)<(j:Int))]at h;cases h;refine .inr ⟨[],by simp,?_,by simp[fV]⟩;have:i=j:=omq;subst this;rw[am1 (by rw[amT];omega)];rfl
def Nc(N:Nat)(k:20<=N)(a:List UInt8)(i j:Nat)(c:i<=j)(n:j<=a.length)(m:a.length<4611686018427387904)(l:List aJ)(o:Int)(h:bT N a (i:Int) (j:Int)=some (l,0,o)):
 ∃b,(∀t∈b,okT t)/\(a.take j).drop i=ax b/\l=fV i b:=by
 unfold bT syv at h;rw[amm (by omega:¬((i:Nat):Int)<0),amm (by omega:¬((i:Nat):Int)>(j:Int)),amm (by omega:¬((j:Nat):Int)>((a.length:Nat):Int))]at h;simp only[amp]at h;cases d:dX N N (a,(j:Int),(i:Int),0,0,[]) with
 |none=>rw[d]at h;cases h
 |some y=>
  rw[d]at h;rcases aij N k a j n m N i [] y c d with⟨e,q,rfl,p⟩|⟨b,f,g,rfl⟩
  ·simp only[amj,amn,amJ]at h;omega
  ·simp only[amj,amn,amJ]at h;exact⟨b,f,g,by rw[<-h.1];simp⟩
end Go.Fw
def an0:=@Bool.not_false
namespace Go.Fw
open Go
def aab(v:aJ)(c num:Int)(k:Bool):eu v c k num=some (bif (v.1==c) then(bif (v.2.2.1==k) then(v.2.1==num) else false) else false):=by
 obtain⟨a,b,d,e,f,g⟩:=v;unfold eu syv;simp only;cases (a==c)<;>cases (d==k)<;>rfl
def OG(c num b a:Nat)(k d:Bool)(body:List UInt8)(off:Nat):eu (jb c k num body off) (b:Int) d (a:Int)=some (decide (c=b/\k=d/\num=a)):=by
 rw[aab];unfold jb;simp only;congr 1;by_cases f:c=b
 ·subst f;rw[aqd,amw];by_cases e:k=d
  ·subst e;rw[aqd,amw];by_cases g:num=a
   ·subst g;simp
   ·rw[show((num:Int)==(a:Int))=false from amO.2 omq];simp[g]
  ·rw[show(k==d)=false from amO.2 e];simp[e]
 ·rw[show((c:Int)==(b:Int))=false from amO.2 omq];simp[f]
def Qi(N:Nat)(j:20<=N)(a:List UInt8)(l:a.length<4611686018427387904)(v:aJ)(o:Int)(h:cm N a=some (v,0,o)):
 ∃(c num:Nat)(k:Bool)(body:List UInt8),c<4/\num<31/\body.length<=2147483647/\a=tlv c k num body/\v=jb c k num body 0:=by
 unfold cm syv at h;cases f:cA N a 0 ((a.length:Nat):Int) with
 |none=>rw[f]at h;cases h
 |some x=>
  obtain⟨u,e,t⟩:=x;rw[f]at h;simp only[amj]at h;by_cases g:e=0
  ·subst g;obtain⟨c,num,k,body,q,n,s,m,b,rfl,p⟩:=G9 N j a 0 a.length (anp _) (amt _) l u t f;rw[show((0:Int)==0)=true from rfl,amw]at h;rw[anb]at b;have i:a.length=(tlv c k num body).length+q.length:=by rw[b,amo]
   by_cases d:(jb c k num body 0).2.2.2.2.2<((a.length:Nat):Int)
   ·rw[amq d]at h;simp only[amw,amn,amJ]at h;omega
   ·rw[amm d]at h;have r:¬(((0+(tlv c k num body).length:Nat):Int)<((a.length:Nat):Int)):=d;have:q=[]:=amY omq;subst this;simp only[amp,amn,amJ]at h;exact⟨c,num,k,body,n,s,m,by rw[b,amG],h.1.symm⟩
  ·rw[show(e==0)=false from by simpa using g]at h;simp only[amp,amn,amJ]at h;omega
def aac(N:Nat)(b:20<=N){c num:Nat}(h:c<4)(m:num<31)(a:List TLV)(l:∀t∈a,okT t)(k:a.length<N)(j:a.length<10000000)(g:(ax a).length<=2147483647):
 ba N (tlv c true num (ax a)) (c:Int) (num:Int)=some (fV (1+(aE (ax a).length).length) a,0,0):=by
 have i:=nY (ax a).length omq;unfold ba syv;rw[Uj N b true h m (ax a) g];simp only[amj];rw[show((0:Int) !=0)=false from rfl,OG];simp only[amp,amj,and_self,decide_true,am3];have d:=acP N b a (idB c true num::aE (ax a).length) [] l k soq j;rw[amG,show(idB c true num::aE (ax a).length)++ax a=tlv c true num (ax a) from by simp[tlv],show((idB c true num::aE (ax a).length).length)=1+(aE (ax a).length).length from by simp;omega]at d;have e:(jb c true num (ax a) 0).2.2.2.2.1=((1+(aE (ax a).length).length:Nat):Int):=by
  show((0+1+(aE (ax a).length).length:Nat):Int)=_;omega
 have f:(jb c true num (ax a) 0).2.2.2.2.2=((1+(aE (ax a).length).length+(ax a).length:Nat):Int):=by
  show((0+(tlv c true num (ax a)).length:Nat):Int)=_;rw[lj];omega
 rw[e,f,d];rfl
def aad(N:Nat)(p:20<=N){c num:Nat}(a:List UInt8)(q:a.length<4611686018427387904)(l:List aJ)(o:Int)(h:ba N a (c:Int) (num:Int)=some (l,0,o)):
 ∃f,(∀t∈f,okT t)/\(ax f).length<=2147483647/\c<4/\num<31/\a=tlv c true num (ax f)/\l=fV (1+(aE (ax f).length).length) f:=by
 unfold ba syv at h;cases m:cm N a with
 |none=>rw[m]at h;cases h
 |some x=>
  obtain⟨J,e,H⟩:=x;rw[m]at h;simp only[amj]at h;by_cases r:e=0
  ·subst r;obtain⟨c1,d,k,b,D,F,C,i,rfl⟩:=Qi N p a q J H m;have E:=nY b.length omq;rw[show((0:Int) !=0)=false from rfl,amp,OG]at h;simp only[amj]at h;by_cases s:c1=c/\k=true/\d=num
   ·obtain⟨rfl,rfl,rfl⟩:=s;simp only[and_self,decide_true,am3,amp]at h;have j:=lj c1 true d b;have B:a.length=1+(aE b.length).length+b.length:=by rw[i,j]
    have u:(jb c1 true d b 0).2.2.2.2.1=((1+(aE b.length).length:Nat):Int):=by
     show((0+1+(aE b.length).length:Nat):Int)=_;omega
    have v:(jb c1 true d b 0).2.2.2.2.2=((a.length:Nat):Int):=by
     show((0+(tlv c1 true d b).length:Nat):Int)=_;rw[<-i];omega
    rw[u,v]at h;cases n:bT N a ((1+(aE b.length).length:Nat):Int) ((a.length:Nat):Int) with
    |none=>rw[n]at h;cases h
    |some y=>
     obtain⟨G,K,I⟩:=y;rw[n]at h;simp only[amj,amn,amJ]at h;obtain⟨rfl,rfl,rfl⟩:=h;obtain⟨f,w,z,A⟩:=Nc N p a _ a.length omq (amt _) q G I n;have g:b=ax f:=by
      rw[<-z,an4,i];show b=(idB c1 true d::(aE b.length++b)).drop (1+(aE b.length).length);rw[apC,aoT,an6,am1 (amt _)];simp
     subst g;exact⟨f,w,C,D,F,i,A⟩
   ·rw[amm s]at h;simp only[an0,amw,amn,amJ]at h;omega
  ·rw[show(e !=0)=true from by simpa using r]at h;simp only[amw,amn,amJ]at h;omega
end Go.Fw
namespace Go.Fw
open Go
def yT{x:List UInt8}(h:x.length<=1099511627776):cC x=some x:=by
 unfold cC app bj;simp only[amI,ane,aqp,anc];rw[amE ⟨omq,omq⟩]
abbrev qC:=Bs×Int
def xH(x:qC)(e:x.1.length<4611686018427387904):∃c,eZ x=some c/\(c=true->0<=x.2/\x.2<=7):=by
 unfold eZ syv;by_cases d:x.1.length=0
 ·rw[show(((x.1.length:Nat):Int)==0)=true from by rw[d];rfl];exact⟨_,rfl,λh=>by have:=amZ (by simpa using h:decide (x.2=0)=true);omega⟩
 ·rw[show(((x.1.length:Nat):Int)==0)=false from amO.2 omq];simp only[amp];by_cases a:x.2>=0
  ·by_cases b:x.2<=7
   ·rw[amq a,amq b,Yf omq omq,aM (aml (by omega:x.1.length-1<x.1.length))];exact⟨_,rfl,λ_=>⟨omq,b⟩⟩
   ·rw[amq a,amm b];exact⟨false,rfl,λh=>by cases h⟩
  ·rw[amm a];exact⟨false,rfl,λh=>by cases h⟩
def fq(x:qC):List UInt8:=UInt8.ofNat x.2.toNat::x.1
def Uk(N:Nat)(i:20<=N)(a:N<4611686018427387904)(x:qC)(j:x.1.length<=1000000000)(e:eZ x=some true):gT N x=some (fq x,0):=by
 obtain⟨c,b,f⟩:=xH x omq;rw[e]at b;cases b;obtain⟨g,h⟩:=f rfl;unfold gT syv;rw[e];obtain⟨n,d⟩:∃n:Nat,x.2=(n:Int):=⟨x.2.toNat,omq⟩;simp only[amj,am3,amp];rw[d,mg];simp only[amj];rw[qB N _ soq a soq];unfold fq;rw[d,anr,show n % 256=n from omq];simp
def acQ(x:qC)(h:x.1.length<=1000000000)(d:eZ x=some true):dI (fq x)=some (x,0):=by
 obtain⟨c,a,i⟩:=xH x omq;rw[d]at a;cases a;obtain⟨f,g⟩:=i rfl;obtain⟨b,n⟩:=x;simp only at f g h;unfold dI fq syv;rw[show(((((UInt8.ofNat n.toNat::b).length):Nat):Int)==0)=false from amO.2 (by simp only[amr];omega),qA];simp only[amp,amj];rw[yT omq,show ix (UInt8.ofNat n.toNat::b) 0=some (UInt8.ofNat n.toNat) from rfl];simp only[amj];have e:IntKind.wrap .i64 ((UInt8.ofNat n.toNat).toNat:Int)=n:=by
  rw[Co];simp;omega
 rw[e,d];rfl
def Ul(c:List UInt8)(d:c.length<=1000000000):∃x e,dI c=some (x,e)/\(e=0->c=fq x/\eZ x=some true):=by
 unfold dI syv;cases c with
 |nil=>exact⟨([],0),6,rfl,λh=>by cases h⟩
 |cons b r=>
  rw[show((((b::r).length:Nat):Int)==0)=false from amO.2 (by simp only[amr];omega),qA];simp only[amr]at d;simp only[amp,amj];rw[yT omq,show ix (b::r) 0=some b from rfl];simp only[amj,Co];obtain⟨v,a,f⟩:=xH (r,(b.toNat:Int)) (by simp only;omega);rw[a];cases v with
  |false=>exact⟨([],0),6,rfl,λh=>by cases h⟩
  |true=>
   refine⟨(r,(b.toNat:Int)),0,rfl,λ_=>⟨?_,a⟩⟩;unfold fq;simp
end Go.Fw
def apn:=@decide_eq_decide
namespace Go.Fw
open Go
set_option maxRecDepth 100000 in
def WD:∀b:UInt8,(bits .and .u8 (b.toNat:Int) 128==0)=decide (b.toNat<128):=by
 intro b;have h:∀n:Fin 256,(bits .and .u8 (n.val:Int) 128==0)=decide (n.val<128):=by decide
 exact h ⟨b.toNat,b.toNat_lt⟩
def ft:List UInt8->Bool
 |[]=>false
 |[_]=>true
 |a::b::_=> !(a.toNat==0&&decide (b.toNat<128))&& !(a.toNat==255&& !decide (b.toNat<128))
def Hb(n k:Nat):((n:Int)==(k:Int))=(n==k):=by
 show decide ((n:Int)=(k:Int))=decide (n=k);exact apn.2 omq
def gB(v:List UInt8):oW v=some (ft v):=by
 unfold oW syv
 match v with
 |[]=>rfl
 |[a]=>rfl
 |a::b::r=>
  have f:decide ((((a::b::r).length:Nat):Int)<2)=false:=by
   simp only[amr,apB];omega
  rw[f];have i:ix (a::b::r) 1=some b:=rfl;have h:ix (a::b::r) 0=some a:=rfl;have e:((a.toNat:Int)==0)=(a.toNat==0):=Hb _ 0;have c:((a.toNat:Int)==255)=(a.toNat==255):=Hb _ 255;have d:=WD b;have g:(bits .and .u8 (b.toNat:Int) 128 !=0)= !decide (b.toNat<128):=by rw[<-d];rfl
  simp only[i,h,amj,amp,e,c,d,g,ft];cases j:(a.toNat==0)<;>cases k:(a.toNat==255)<;>cases l:decide (b.toNat<128)<;>rfl
def Um{v:List UInt8}(h:ft v=true):v≠[]:=by
 rintro rfl;cases h
end Go.Fw
def aou:=@Go.IntKind.wrap_u64
namespace Go.Fw
open Go
def acT{α:Type}(k:Nat)(a:k<=16)(l r:List α)(h:l.length+r.length<=60000000000):app k l r=some (l++r):=by
 unfold app bj;have:(l.length+r.length)*k<=(l.length+r.length)*16:=Nat.mul_le_mul_left _ a;rw[amE ⟨omq,omq⟩]
def aae(l:List Int):∃c,lX l=some c:=by
 unfold lX syv
 match l with
 |[]=>exact⟨_,rfl⟩
 |[_]=>exact⟨_,rfl⟩
 |a::b::r=>
  rw[amm (by simp only[amr];omega),show ix (a::b::r) 0=some a from rfl,show ix (a::b::r) 1=some b from rfl];simp only[amp,amj];cases decide (a>2)<;>cases decide (a<2)<;>exact⟨_,rfl⟩
def JW(n:Nat)(h:n<18446744073709551616):(Lib.decDigits n).length<=20:=by
 rw[apT];rcases apv n with rfl|a
 ·unfold Lib.nDigits;simp
 ·have:=Lib.numDigits_eq n a h;split at this<;>omega
def Un(n:Nat)(h:n<18446744073709551616):eJ (n:Int)=some (Lib.decDigits n):=by
 have a:Nat.blt n 18446744073709551616=true:=ann h;have b:fU (Int.ofNat n)=some (Lib.decDigits n):=by
  show(bif Nat.blt n 18446744073709551616 then some (Lib.decDigits n) else none)=_;rw[a];rfl
 unfold eJ syv;show(fU (Int.ofNat n)).bind _=_;rw[b];rfl
def aaf(N n:Nat)(s:List Int)(i:Nat)(acc:List Bs):oo N (n+1) (s,(s.length:Int),(i:Int),acc)=bif decide ((i:Int)<(s.length:Int)) then(ix s (i:Int)).bind λe=>(eJ (IntKind.wrap .u64 e)).bind λt=>(app 16 acc [t]).bind λl=>oo N n (s,(s.length:Int),az .i64 (i:Int) 1,l) else some acc:=rfl
def nz(x:Int):List UInt8:=Lib.decDigits (IntKind.wrap .u64 x).toNat
def Yi(N:Nat)(s:List Int)(h:s.length<=2000000000):∀(k n i:Nat),s.length-i=k->k<n->i<=s.length->
 oo N n (s,(s.length:Int),(i:Int),(s.take i).map nz)=some (s.map nz):=by
 intro k;induction k with
 |zero=>
  intro n i d e c;obtain⟨n,rfl⟩:∃m,n=m+1:=⟨n-1,omq⟩;rw[aaf,amm omq,show i=s.length from omq,an4];rfl
 |succ k g=>
  intro n i d e c;obtain⟨n,rfl⟩:∃m,n=m+1:=⟨n-1,omq⟩;have a:i<s.length:=omq;have f:0<=IntKind.wrap .u64 s[i]/\IntKind.wrap .u64 s[i]<18446744073709551616:=by
   rw[aou];omega
  have b:eJ (IntKind.wrap .u64 s[i])=some (nz s[i]):=by
   have:=Un (IntKind.wrap .u64 s[i]).toNat omq;rw[an8 f.1]at this;exact this
  rw[aaf,amq omq,amw,aM (aml a),amj,b,amj,acT 16 omq _ _ soq,amj,bg omq];have:=g n (i+1) omq omq omq;rw[ans,aml a,anu]at this;exact this
def aag(x:Int):(nz x).length<=20:=by
 unfold nz;refine JW _ ?_;rw[aou];omega
def afC(s:List Int):(Lib.joinTail [46] (s.map nz)).length<=21*s.length:=by
 induction s with
 |nil=>simp[Lib.joinTail]
 |cons x r a=>
  have h:=aag x;unfold Lib.joinTail at a⊢;simp only[amz,List.flatten_cons,amo,amr,amI]at a⊢;omega
def acU(N:Nat)(s:List Int)(g:s.length<=2000000000)(d:s.length<N):∃t e,AB N s=some (t,e)/\(lX s=some true->t=Lib.join (s.map nz) [46]/\e=0)/\(lX s=some false->e=8):=by
 unfold AB syv;obtain⟨c,f⟩:=aae s;rw[f,amj];cases c with
 |false=>exact⟨_,_,rfl,(λh=>by cases h),λ_=>rfl⟩
 |true=>
  have a:=Yi N s g s.length N 0 omq d omq;rw[ap2,anG]at a;have k:(Lib.join (s.map nz) [46]).length<=21*s.length:=by
   cases s with
   |nil=>simp[Lib.join_nil]
   |cons x r=>
    have i:=aag x;have j:=afC r;rw[amz,Lib.join_cons,amo,amr];omega
  have b:fT (s.map nz) [46]=some (Lib.join (s.map nz) [46]):=by
   unfold fT Fl;rw[show Nat.ble (s.map nz).length 140737488355328=true from ann (by rw[am7];omega),show Nat.ble (Lib.join (s.map nz) [46]).length 140737488355328=true from ann omq];rfl
  refine⟨Lib.join (s.map nz) [46],0,?_,λ_=>⟨rfl,rfl⟩,λh=>by cases h⟩;simp only[am3,amp];rw[show oo N N (s,(s.length:Int),0,[])=_ from a,amj,b];rfl
end Go.Fw
def aqq:=@Int.le_refl
namespace Go.Fw
open Go
def acL(N:Nat)(A:20<=N)(a:List UInt8)(B:a.length<4611686018427387904):∃L k e o:Int,dK N a=some (L,k,e,o)/\0<=o/\o<=(a.length:Int):=by
 unfold dK lu syv;cases a with
 |nil=>exact⟨0,0,1,0,rfl,omq,by simp⟩
 |cons b r=>
  have t:((((b::r).length:Nat):Int)==0)=false:=amO.2 (by simp only[amr];omega);have i:ix (b::r) 0=some b:=rfl;have C:=b.toNat_lt;have d:(0:Int)<=((b::r).length:Int):=omq;rw[t];simp only[amp,i,amj,Co,syv];by_cases l:(b.toNat:Int)<128
  ·rw[amq l];exact⟨_,_,_,_,rfl,omq,d⟩
  ·rw[amm l];obtain⟨c,w⟩:∃c:Nat,b.toNat=128+c:=⟨b.toNat-128,omq⟩;have g:aC .i64 (b.toNat:Int) 128=(c:Int):=by
    show IntKind.i64.wrap _=_;rw[w,amU _ omq];omega
   rw[g];simp only[amp];by_cases u:c=0
   ·subst u;exact⟨0,0,4,0,rfl,omq,d⟩
   ·rw[show((c:Int)==0)=false from amO.2 omq];simp only[amp];by_cases m:(c:Int)>4
    ·rw[amq m];exact⟨0,0,4,0,rfl,omq,d⟩
    ·rw[amm m];simp only[amp];by_cases h:(((b::r).length:Nat):Int)<=(c:Int)
     ·rw[amq h];exact⟨0,0,1,_,rfl,d,aqq _⟩
     ·rw[amm h];simp only[amp];simp only[amr]at h;have q:r=r.take c++r.drop c:=(anD c r).symm;have j:(r.take c).length=c:=by rw[amT];omega
      have p:=JU N b (r.take c) (r.drop c) omq (r.take c).length N 0 0 omq omq omq siq;rw[anb,<-q,j]at p;rw[show ff N N (b::r,(c:Int),0,1,0,0)=_ from p];obtain⟨x,s,z⟩:∃x s,r.take c=x::s:=by
       cases y:r.take c with
       |nil=>rw[y]at j;simp at j;omega
       |cons x s=>exact⟨x,s,rfl⟩
      have f:ix (b::r) 1=some x:=by rw[q,z];rfl
      simp only[amj,f];generalize (r.take c).foldl (λn x=>256*n+x.toNat) 0=v;cases ((x.toNat:Int)==0)
      ·simp only[amp];cases decide ((v:Int)<128)
       ·simp only[amp];cases decide ((v:Int)>2147483647)
        ·exact⟨_,_,_,_,rfl,omq,d⟩
        ·exact⟨0,0,4,0,rfl,omq,d⟩
       ·exact⟨0,0,4,0,rfl,omq,d⟩
      ·exact⟨0,0,4,0,rfl,omq,d⟩
def OC(N:Nat)(l:20<=N)(a:List UInt8)(c:a.length<4611686018427387904):∃h e o,cb N a=some (h,e,o)/\(0:Int)<=o/\o<=(a.length:Int):=by
 unfold cb syv;cases a with
 |nil=>exact⟨_,_,_,rfl,omq,by simp⟩
 |cons b r=>
  have j:((((b::r).length:Nat):Int)==0)=false:=amO.2 (by simp only[amr];omega);have d:ix (b::r) 0=some b:=rfl;have f:(0:Int)<=((b::r).length:Int):=omq;obtain⟨c1,q,g,i,hid,_⟩:=OE b;obtain⟨L,k,e,o,m,n,p⟩:=acL N l r (by simp at c;omega);rw[j,qA];simp only[amp,d,amj,hid,m];cases (i !=0)
  ·simp only[amp];cases (e !=0)
   ·exact⟨_,_,_,rfl,omq,f⟩
   ·refine⟨_,_,_,rfl,?_,?_⟩
    ·simp only[amr]at c;rw[bX omq];omega
    ·simp only[amr]at c⊢;rw[bX omq];omega
  ·exact⟨_,_,_,rfl,omq,f⟩
def Uc(N:Nat)(d:20<=N)(a:List UInt8)(i j:Nat)(g:i<=j)(n:j<=a.length)(m:a.length<2305843009213693952):∃v e o,cA N a (i:Int) (j:Int)=some (v,e,o)/\(0:Int)<=o/\o<=(j:Int):=by
 unfold cA syv;rw[amq (by omega:(j:Int)<=(j:Int)),amq (by omega:(j:Int)<=((a.length:Nat):Int))];have k:slc a (i:Int) (j:Int)=some ((a.take j).drop i):=by
  unfold slc;rw[amE ⟨omq,omq,omq⟩];simp
 have b:((a.take j).drop i).length=j-i:=by simp only[anj,amT];omega
 simp only[an2,amw,k,amj];obtain⟨h,e,o,f,l,c⟩:=OC N d ((a.take j).drop i) omq;rw[f];simp only[amj];rw[b]at c;cases (e !=0)
 ·simp only[amp];cases decide (aC .i64 (aC .i64 (j:Int) (i:Int)) h.2.2.2.2<h.2.2.2.1)
  ·exact⟨_,_,_,rfl,omq,omq⟩
  ·exact⟨_,_,_,rfl,omq,omq⟩
 ·refine⟨_,_,_,rfl,?_,?_⟩
  ·rw[bX omq];omega
  ·rw[bX omq];omega
def aie(N:Nat)(p:20<=N)(a:List UInt8)(j:Nat)(t:j<=a.length)(G:a.length<10000000):∀(k n i:Nat)(acc:List aJ),j-i<=k->k<n->i<=j->2*acc.length<=i->
 ∃y,dX N n (a,(j:Int),(i:Int),0,0,acc)=some y/\∀e o,y=.inl (e,o)->(0:Int)<=o/\o<=(a.length:Int):=by
 intro k;induction k with
 |zero=>
  intro n i acc z A f _;obtain⟨n,rfl⟩:∃m,n=m+1:=⟨n-1,omq⟩;rw[Fu,amm (by omega:¬(i:Int)<(j:Int))];exact⟨_,rfl,λe o h=>by cases h⟩
 |succ k D=>
  intro n i acc z A f r;obtain⟨n,rfl⟩:∃m,n=m+1:=⟨n-1,omq⟩;rw[Fu];by_cases x:i<j
  ·rw[amq (by omega:(i:Int)<(j:Int)),amw];obtain⟨v,e,o,u,w,F⟩:=Uc N p a i j f t omq;rw[u];simp only[amj];by_cases s:e=0
   ·subst s;obtain⟨c,d,l,b,q,I,K,H,J,rfl,g⟩:=G9 N p a i j f t omq v o u;have B:=Ha (c,l,d,b);have C:2<=(tlv c l d b).length:=B;rw[show((0:Int) !=0)=false from rfl,amp,WB _ _ omq];simp only[amj];exact D n (i+(tlv c l d b).length) _ omq omq g soq
   ·rw[show(e !=0)=true from by simpa using s,cond_true];exact⟨_,rfl,λE L h=>by cases h;exact⟨w,omq⟩⟩
  ·rw[amm (by omega:¬(i:Int)<(j:Int))];exact⟨_,rfl,λe o h=>by cases h⟩
def Na(N:Nat)(a:List UInt8)(g:a.length+20<=N)(i j:Nat)(b:i<=j)(d:j<=a.length)(c:a.length<10000000):∃l e o,bT N a (i:Int) (j:Int)=some (l,e,o)/\(0:Int)<=o/\o<=(a.length:Int):=by
 unfold bT syv;rw[amm (by omega:¬((i:Nat):Int)<0),amm (by omega:¬((i:Nat):Int)>(j:Int)),amm (by omega:¬((j:Nat):Int)>((a.length:Nat):Int))];simp only[amp];obtain⟨y,f,h⟩:=aie N omq a j d c j N i [] omq omq b siq;rw[f];cases y with
 |inl p=>
  obtain⟨e,o⟩:=p;exact⟨[],e,o,rfl,h e o rfl⟩
 |inr p=>
  obtain⟨_,_,l⟩:=p;exact⟨l,0,0,rfl,omq,omq⟩
def WA(N:Nat)(f:20<=N)(a:List UInt8)(m:a.length<2305843009213693952):∃v e o,cm N a=some (v,e,o)/\(e=0∨(0:Int)<=o/\o<=(a.length:Int)):=by
 unfold cm syv;obtain⟨v,e,o,i,j,l⟩:=Uc N f a 0 a.length (anp _) (amt _) m;rw[show cA N a 0 ((a.length:Nat):Int)=_ from i];simp only[amj];by_cases g:e=0
 ·subst g;obtain⟨c,d,k,b,q,r,t,p,s,rfl,n⟩:=G9 N f a 0 a.length (anp _) (amt _) omq v o i;rw[show((0:Int)==0)=true from rfl,amw];by_cases h:(jb c k d b 0).2.2.2.2.2<((a.length:Nat):Int)
  ·rw[amq h];refine⟨_,_,_,rfl,.inr ⟨?_,omq⟩⟩;show(0:Int)<=((0+(tlv c k d b).length:Nat):Int);omega
  ·rw[amm h];exact⟨_,_,_,rfl,.inl rfl⟩
 ·rw[show(e==0)=false from by simpa using g];exact⟨_,_,_,rfl,.inr ⟨j,l⟩⟩
end Go.Fw
namespace Go.Fw
open Go
def Mn(N:Nat)(a:Bs)(T:a.length<10000000)(R:Bs->Int->Int->Int->Option (Fw.Spot×(Int×Int)))(d:Nat)(hd:d<=100)
 (J:∀i j:Nat,i<=j->j<=a.length->∃v e o,R a (i:Int) (j:Int) (d:Int)=some (v,e,o)/\(0:Int)<=o/\o<=(a.length:Int)/\(e=0->∃s:Nat,v.stop=(s:Int)/\i<s/\s<=j))
 (b:Nat)(M:b<=a.length)(r t u:Int)(w:Bool):∀(k n c:Nat)(f:List Fw.Spot)(g:List Fw.Node),b-c=k->k<n->c<=b->f.length<=c->g.length<=c->
 ∃y,ep N R n (a,((d+1:Nat):Int),(c:Int),0,0,0,0,false,[],0,0,g,f,r,(b:Int),t,u,w)=some y/\
  ((∃e o:Int,y=.inl (0,0,0,0,false,e,o)/\e≠0/\0<=o/\o<=(a.length:Int))∨∃l S,y=.inr (0,0,0,0,false,[],0,0,l,S,r,(b:Int),t,u,w)):=by
 intro k;induction k using Nat.strongRecOn with
 |_ k Q=>
  intro n c f g U V W F G;obtain⟨n,rfl⟩:∃m,n=m+1:=⟨n-1,omq⟩;rcases amB c b with L|K
  ·have h:decide ((c:Int)<(b:Int))=true:=amq omq;have p:aC .i64 ((d+1:Nat):Int) 1=(d:Int):=by
    show IntKind.i64.wrap _=_;rw[amU _ omq];omega
   obtain⟨v,e,o,D,E,H,I⟩:=J c b omq M;have q:=Q;unfold ep at q⊢;simp only[h,amw,p,D,amj];by_cases x:e=0
   ·obtain⟨s,A,O,P⟩:=I x;rw[show(e !=0)=false from by rw[x];rfl];simp only[amp];have B:∀z:Fw.Spot,app 112 f [z]=some (f++[z]):=λz=>by
     unfold app bj;rw[amE ⟨by simp only[amr,amI];omega,by simp only[amr,amI];omega⟩]
    have C:∀z:Fw.Node,app 72 g [z]=some (g++[z]):=λz=>by
     unfold app bj;rw[amE ⟨by simp only[amr,amI];omega,by simp only[amr,amI];omega⟩]
    rw[B,amj,C,amj,A];exact q (b-s) omq n s _ _ rfl omq omq soq soq
   ·rw[show(e !=0)=true from by simpa using x];exact⟨_,rfl,.inl ⟨e,o,rfl,x,E,H⟩⟩
  ·have h:decide ((c:Int)<(b:Int))=false:=amm omq;refine⟨_,?_,.inr ⟨g,f,rfl⟩⟩;unfold ep;simp only[h,amp]
def Rk(N n:Nat)(e:Bs)(a2 a3 a4:Int):cR N (n+1) e a2 a3 a4=(
 bif (a4==0) then(
 (iI 5 a2).bind λ(b,H)=>
 some (Fw.Spot.mk b.at' b.stop (Fw.Node.mk b.nd.cls b.nd.num b.nd.cons b.nd.body b.nd.kids) b.kids,H))
 else
 bif (decide (a3<=a3)&&decide (a3<=e.length)) then(
 (slc e a2 a3).bind λG=>
 (cb N G).bind λ(a,w)=>
 bif (w.1 !=0) then(
 (iI w.1 (az .i64 a2 w.2)).bind λ(c,I)=>
 some (Fw.Spot.mk c.at' c.stop (Fw.Node.mk c.nd.cls c.nd.num c.nd.cons c.nd.body c.nd.kids) c.kids,I))
 else
 bif decide (aC .i64 a3 (az .i64 a2 a.2.2.2.2)<a.2.2.2.1) then(
 (iI 1 a3).bind λ(d,J)=>
 some (Fw.Spot.mk d.at' d.stop (Fw.Node.mk d.nd.cls d.nd.num d.nd.cons d.nd.body d.nd.kids) d.kids,J))
 else
 bif (!a.2.2.1) then(
 (slc e (az .i64 a2 a.2.2.2.2) (az .i64 (az .i64 a2 a.2.2.2.2) a.2.2.2.1)).bind λv=>
 (cC v).bind λs=>
 some (Fw.Spot.mk a2 (az .i64 (az .i64 a2 a.2.2.2.2) a.2.2.2.1) (Fw.Node.mk a.1 a.2.1 a.2.2.1 s []) [],0,0))
 else
 (ep N (cR N n) N (e,a4,az .i64 a2 a.2.2.2.2,0,0,0,0,false,[],0,0,[],[],a2,az .i64 (az .i64 a2 a.2.2.2.2) a.2.2.2.1,a.1,a.2.1,a.2.2.1)).bind λx=>(match x with
 |Sum.inl (h,i,j,k,f,l,m)=>some (Fw.Spot.mk h i (Fw.Node.mk j k f [] []) [],l,m)
 |Sum.inr ((z,A,B,C,y,F,D,E,t,u,o,p,q,r,g))=>some (Fw.Spot.mk o p (Fw.Node.mk q r g [] t) u,0,0)))
 else
 none):=rfl
def Nd(N:Nat)(a:Bs)(hN:a.length+20<=N)(K:a.length<10000000):∀(d n:Nat),d<n->d<=100->∀i j:Nat,i<=j->j<=a.length->
 ∃v e o,cR N n a (i:Int) (j:Int) (d:Int)=some (v,e,o)/\(0:Int)<=o/\o<=(a.length:Int)/\(e=0->∃s:Nat,v.stop=(s:Int)/\i<s/\s<=j):=by
 intro d;induction d with
 |zero=>
  intro n P _ i j g C;obtain⟨n,rfl⟩:∃m,n=m+1:=⟨n-1,omq⟩;exact⟨_,5,(i:Int),rfl,omq,omq,λh=>by cases h⟩
 |succ d S=>
  intro n P hd i j g C;obtain⟨n,rfl⟩:∃m,n=m+1:=⟨n-1,omq⟩;have J:=S n omq omq;have u:=Mn N a K (cR N n) d omq J;have I:((((d+1:Nat)):Int)==0)=false:=amO.2 omq;have O:(decide ((j:Int)<=(j:Int))&&decide ((j:Int)<=(a.length:Int)))=true:=by simp;omega
  have r:∀p q:Nat,p<=q->q<=a.length->slc a (p:Int) (q:Int)=some ((a.take q).drop p):=λp q Y Z=>by
   unfold slc;rw[amE ⟨omq,omq,omq⟩];simp
  have b:((a.take j).drop i).length=j-i:=by rw[anj,amT];omega
  obtain⟨h,e,o,B,Q,w⟩:=OC N omq ((a.take j).drop i) omq;rw[b]at w;rw[Rk,I,amp,O,amw,r i j g C,amj,B,amj];by_cases t:e=0
  ·subst t;obtain⟨c,z,k,L,U⟩:=h;obtain⟨A,f,m,E,q1,q2,q3,T,rfl,rfl,rfl,rfl⟩:=G8 N omq _ omq c z L U o k B;have D:=amV List.length T;rw[b]at D;simp only[amr,amo]at D;have V:az .i64 (i:Int) ((1+(aE m).length:Nat):Int)=((i+(1+(aE m).length):Nat):Int):=by rw[bX omq];omega
   have W:aC .i64 (j:Int) ((i+(1+(aE m).length):Nat):Int)=((j-(i+(1+(aE m).length)):Nat):Int):=by
    show IntKind.i64.wrap _=_;rw[amU _ omq];omega
   simp only[aqa,amp,V,W];by_cases hm:j-(i+(1+(aE m).length))<m
   ·rw[amq omq];exact⟨_,1,(j:Int),rfl,omq,omq,λh=>by cases h⟩
   ·rw[amm omq];have X:az .i64 ((i+(1+(aE m).length):Nat):Int) (m:Int)=((i+(1+(aE m).length)+m:Nat):Int):=by rw[bX omq];omega
    simp only[amp,X];cases k
    ·simp only[an0,amw];rw[r _ _ omq omq,amj,yT (by rw[anj,amT];omega),amj];exact⟨_,0,0,rfl,omq,omq,λ_=>⟨i+(1+(aE m).length)+m,rfl,omq,omq⟩⟩
    ·simp only[am3,amp];obtain⟨y,R,M⟩:=u (i+(1+(aE m).length)+m) omq (i:Int) (A:Int) (f:Int) true _ N (i+(1+(aE m).length)) [] [] rfl omq omq siq siq;have x:ep N (cR N n) N (a,((d+1:Nat):Int),((i+(1+(aE m).length):Nat):Int),0,0,0,0,false,[],0,0,[],[],(i:Int),((i+(1+(aE m).length)+m:Nat):Int),(A:Int),(f:Int),true)=some y:=R;rw[x,amj];rcases M with⟨e,o,rfl,F,G,H⟩|⟨l,l',rfl⟩
     ·exact⟨_,e,o,rfl,G,H,λh=>absurd h F⟩
     ·exact⟨_,0,0,rfl,omq,omq,λ_=>⟨i+(1+(aE m).length)+m,rfl,omq,omq⟩⟩
  ·dsimp only;rw[show(e !=0)=true from by simpa using t];refine⟨_,e,az .i64 (i:Int) o,rfl,?_,?_,λh=>absurd h t⟩
   ·rw[bX omq];omega
   ·rw[bX omq];omega
def Yj(N:Nat)(a:Bs)(h:a.length+20<=N)(i:a.length<10000000):∃v e o,fx N a=some (v,e,o)/\(0:Int)<=o/\o<=(a.length:Int):=by
 unfold fx uC syv;obtain⟨v,e,o,f,c,d,g⟩:=Nd N a h i 16 N omq omq 0 a.length omq (amt _);rw[show cR N N a 0 (a.length:Int) 16=_ from f,amj];dsimp only;by_cases b:e=0
 ·obtain⟨s,k,_,l⟩:=g b;rw[show(e==0)=true from by simpa using b,k];simp only[amw];by_cases j:s<a.length
  ·rw[amq (by omega:(s:Int)<(a.length:Int))];exact⟨_,_,_,rfl,by show(0:Int)<=(s:Int);omega,by show(s:Int)<=_;omega⟩
  ·rw[amm (by omega:¬(s:Int)<(a.length:Int))];exact⟨_,_,_,rfl,c,d⟩
 ·rw[show(e==0)=false from by simpa using b];exact⟨_,_,_,rfl,c,d⟩
end Go.Fw


namespace Go.Fw
open Go
def Uo(a:Bs):∃c e,dY a=some (c,e):=by
 unfold dY syv
 match a with
 |[]=>exact⟨_,_,rfl⟩
 |x::y::r=>
  rw[show((((x::y::r).length:Nat):Int) !=1)=true from by simp only[aqh,ne_eq,amr];omega];exact⟨_,_,rfl⟩
 |[x]=>
  rw[show((((([x]:Bs)).length:Nat):Int) !=1)=false from rfl];simp only[amp,show ix [x] 0=some x from rfl,amj];cases ((x.toNat:Int) !=0)<;>cases ((x.toNat:Int) !=255)<;>exact⟨_,_,rfl⟩
end Go.Fw

namespace Go.Fw
open Go
def JX(a:List UInt8):∀(k:Nat)(s:List UInt8),(Lib.splitK a 0 k s).length<=k+1/\∀x∈Lib.splitK a 0 k s,x.length<=s.length
 |0,s=>by
  unfold Lib.splitK;exact⟨by simp,λx b=>by simp at b;subst b;exact amt _⟩
 |k+1,s=>by
  unfold Lib.splitK;split
  ·exact⟨by simp,λx b=>by simp at b;subst b;exact amt _⟩
  ·obtain⟨d,c⟩:=JX a k (s.drop ((Lib.index s a).toNat+a.length));refine⟨by simp only[amr];omega,λx b=> ?_⟩;rcases amN.1 b with rfl|b
   ·rw[amT];omega
   ·have:=c x b;rw[anj]at this;omega
def Rl(s:List UInt8)(c:s.length<=1000000000):∃l,dR s [46]=some l/\l.length<=s.length+2/\∀x∈l,x.length<=s.length:=by
 refine⟨Lib.split s [46],?_,?_,(JX [46] _ s).2⟩
 ·unfold dR;rw[show Nat.blt s.length 4294967281=true from ann omq];rfl
 ·have a:=(JX [46] (Lib.count s [46]) s).1;have b:=Lib.count_le s [46];show(Lib.splitK [46] 0 (Lib.count s [46]) s).length<=_;omega
def aik(s:List UInt8)(b:s.length<=1000000000):(∃n:Nat,jB s=some (.inl (n:Int))/\n<=4294967295/\Lib.parseUintB 32 s=.ok n)∨∃z,jB s=some (.inr z):=by
 have a:Nat.ble s.length AH=true:=ann (by unfold AH;omega);unfold jB;rw[a,amw];cases h:Lib.parseUintB 32 s with
 |ok u=>
  have:=Lib.parseUintB_le h;exact .inl ⟨u,rfl,by simpa using this,rfl⟩
 |range=>exact .inr ⟨_,rfl⟩
 |_=>exact .inr ⟨_,rfl⟩
end Go.Fw
namespace Go.Fw
open Go
def OW{α:Type}(x:Option α)(Q:α->Prop):Prop:=∃a,x=some a/\Q a
def aa{α:Type}{Q:α->Prop}{a:α}(h:Q a):OW (some a) Q:=⟨a,rfl,h⟩
def ag{α b:Type}{Q:b->Prop}{R:α->Prop}{x:Option α}{f:α->Option b}(h:OW x R)(k:∀a,R a->OW (f a) Q):OW (x.bind f) Q:=by
 obtain⟨a,rfl,c⟩:=h;exact k a c
def aq{α:Type}{Q:α->Prop}{c:Bool}{x y:Option α}(a:c=true->OW x Q)(b:c=false->OW y Q):OW (bif c then x else y) Q:=by
 cases c
 ·exact b rfl
 ·exact a rfl
def xR{α:Type}{Q R:α->Prop}{x:Option α}(h:OW x Q)(k:∀a,Q a->R a):OW x R:=by
 obtain⟨a,rfl,b⟩:=h;exact⟨a,rfl,k a b⟩
def Lk{α:Type}{Q:α->Prop}{x:Option α}{a:α}(h:x=some a)(k:Q a):OW x Q:=⟨a,h,k⟩
def OP{α:Type}(x:Option α)(Q:α->Prop):Prop:=∀a,x=some a->Q a
def ay{α:Type}{Q:α->Prop}{a:α}(h:Q a):OP (some a) Q:=λ_ e=>by cases e;exact h
def FO{α:Type}{Q:α->Prop}:OP none Q:=λ_ e=>by cases e
def aB{α c:Type}{Q:c->Prop}{R:α->Prop}{x:Option α}{f:α->Option c}(h:OP x R)(k:∀a,R a->OP (f a) Q):OP (x.bind f) Q:=by
 intro b e;cases x with
 |none=>cases e
 |some a=>exact k a (h a rfl) b e
def cU{α:Type}(x:Option α):OP x λ_=>True:=λ_ _=>trivial
def aF{α:Type}{Q:α->Prop}{c:Bool}{x y:Option α}(a:c=true->OP x Q)(b:c=false->OP y Q):OP (bif c then x else y) Q:=by
 cases c
 ·exact b rfl
 ·exact a rfl
def AT{α:Type}{Q R:α->Prop}{x:Option α}(h:OW x Q)(k:OP x R):OW x λa=>Q a/\R a:=by
 obtain⟨a,b,c⟩:=h;exact⟨a,b,c,k a b⟩
def Xg{σ b:Type}(F:Nat->σ->Option b)(I:σ->Prop)(m:σ->Nat)(Q:b->Prop)
 (step:∀n s,I s->(∀a,I a->m a<m s->OW (F n a) Q)->OW (F (n+1) s) Q):∀n s,I s->m s<n->OW (F n s) Q:=by
 intro n;induction n with
 |zero=>intro s _ h;omega
 |succ n e=>exact λs d g=>step n s d λa c f=>e a c omq
inductive cH{α β:Type}(R:α->β->Prop):List α->List β->Prop where
 |nil:cH R [] []
 |cons {a b xs ys}:R a b->cH R xs ys->cH R (a::xs) (b::ys)
def cH.length{α b:Type}{R:α->b->Prop}{xs:List α}{a:List b}(h:cH R xs a):xs.length=a.length:=by
 induction h with
 |nil=>rfl
 |cons _ _ c=>simp[c]
def cH.get{α c:Type}{R:α->c->Prop}{xs:List α}{d:List c}(h:cH R xs d):∀{i:Nat}{b:c},d[i]?=some b->∃a,xs[i]?=some a/\R a b:=by
 induction h with
 |nil=>intro i b h;simp at h
 |cons e _ f=>
  intro i b h;cases i with
  |zero=>simp at h;subst h;exact⟨_,rfl,e⟩
  |succ i=>simp at h⊢;exact f h
def EL(a:Bs)(t:TLV)(e:aJ):Prop:=∃p q:Bs,a=p++aj t++q/\e=jb t.1 t.2.1 t.2.2.1 t.2.2.2 p.length
def tm(t:TLV):(aj t).length=1+(aE t.2.2.2.length).length+t.2.2.2.length:=lj _ _ _ _
def EL.bd{a:Bs}{t:TLV}{e:aJ}(h:EL a t e):∃p q r:Nat,e.2.2.2.1=(p:Int)/\e.2.2.2.2.1=(q:Int)/\e.2.2.2.2.2=(r:Int)/\p<=q/\q<=r/\r<=a.length/\p+(aj t).length=r:=by
 obtain⟨p,q,rfl,rfl⟩:=h;refine⟨p.length,p.length+1+(aE t.2.2.2.length).length,p.length+(aj t).length,rfl,rfl,rfl,omq,?_,?_,rfl⟩
 ·have:=tm t;omega
 ·simp only[amo];omega
def EL.whole{a:Bs}{t:TLV}{e:aJ}(h:EL a t e):slc a e.2.2.2.1 e.2.2.2.2.2=some (aj t):=by
 obtain⟨p,q,rfl,rfl⟩:=h;exact Qh p (aj t) q
def EL.body{a:Bs}{t:TLV}{e:aJ}(h:EL a t e):slc a e.2.2.2.2.1 e.2.2.2.2.2=some t.2.2.2:=by
 obtain⟨p,q,rfl,rfl⟩:=h;have h:=Qh (p++(idB t.1 t.2.1 t.2.2.1::aE t.2.2.2.length)) t.2.2.2 q;have c:p++(idB t.1 t.2.1 t.2.2.1::aE t.2.2.2.length)++t.2.2.2++q=p++aj t++q:=by simp[aj,tlv]
 have b:(p++(idB t.1 t.2.1 t.2.2.1::aE t.2.2.2.length)).length=p.length+1+(aE t.2.2.2.length).length:=by simp;omega
 have d:(p++(idB t.1 t.2.1 t.2.2.1::aE t.2.2.2.length)).length+t.2.2.2.length=p.length+(aj t).length:=by rw[b,tm];omega
 rw[c,d,b]at h;exact h
def EL.is{a:Bs}{t:TLV}{e:aJ}(h:EL a t e)(c num:Nat)(k:Bool):eu e (c:Int) k (num:Int)=some (decide (t.1=c/\t.2.1=k/\t.2.2.1=num)):=by
 obtain⟨p,q,rfl,rfl⟩:=h;exact OG _ _ _ _ _ _ _ _
def Ll:∀(a:List TLV)(p q:Bs),cH (EL (p++ax a++q)) a (fV p.length a)
 |[],_,_=>.nil
 |t::r,p,q=>by
  refine .cons ⟨p,ax r++q,by rw[eG];simp,rfl⟩ ?_;have h:=Ll r (p++aj t) q;rw[show p++aj t++ax r++q=p++ax (t::r)++q from by rw[eG];simp,amo]at h;exact h
def FN(N:Nat):Prop:=1000000000<=N/\N<4611686018427387904
def adL{a:List TLV}(h:(ax a).length<10000000):a.length<10000000:=by
 have:=ez a;omega
def Xh{N:Nat}(b:FN N){c num:Nat}(e:c<4)(i:num<31)(a:List TLV)(g:∀t∈a,okT t)(d:(ax a).length<10000000):
 ∃l,ba N (tlv c true num (ax a)) (c:Int) (num:Int)=some (l,0,0)/\cH (EL (tlv c true num (ax a))) a l:=by
 have f:=adL d;refine⟨_,aac N (by unfold FN at b;omega) e i a g (by unfold FN at b;omega) f omq,?_⟩;have h:=Ll a (idB c true num::aE (ax a).length) [];rw[amG,show(idB c true num::aE (ax a).length)++ax a=tlv c true num (ax a) from by simp[tlv],show((idB c true num::aE (ax a).length).length)=1+(aE (ax a).length).length from by simp;omega]at h;exact h
def jt{N:Nat}(B:FN N)(a:Bs)(x:a.length<10000000)(c num:Nat):OW (ba N a (c:Int) (num:Int)) λr=>
 (r.2=(0,0)/\∃g,(∀t∈g,okT t)/\c<4/\num<31/\a=tlv c true num (ax g)/\cH (EL a) g r.1)∨r.2.1≠0/\0<=r.2.2/\r.2.2<=(a.length:Int):=by
 unfold FN at B;have q:∃l e o,ba N a (c:Int) (num:Int)=some (l,e,o)/\(e=0/\o=0∨(0:Int)<=o/\o<=(a.length:Int)):=by
  unfold ba syv;obtain⟨v,e,o,i,s⟩:=WA N omq a omq;rw[i,amj];dsimp only;by_cases f:e=0
  ·subst f;obtain⟨c1,d,k,b,q1,G,q3,y,rfl⟩:=Qi N omq a omq v o i;rw[show((0:Int) !=0)=false from rfl,amp,OG,amj];cases (!decide (c1=c/\k=true/\d=num))
   ·have p:=lj c1 k d b;have C:a.length=1+(aE b.length).length+b.length:=by rw[y,p]
    have z:(jb c1 k d b 0).2.2.2.2.1=((1+(aE b.length).length:Nat):Int):=by
     show((0+1+(aE b.length).length:Nat):Int)=_;omega
    have A:(jb c1 k d b 0).2.2.2.2.2=((a.length:Nat):Int):=by
     show((0+(tlv c1 k d b).length:Nat):Int)=_;rw[<-y];omega
    rw[amp,z,A];obtain⟨l,e,o,j,m⟩:=Na N a omq (1+(aE b.length).length) a.length omq (amt _) x;rw[j];exact⟨_,_,_,rfl,.inr m⟩
   ·exact⟨_,_,_,rfl,.inr ⟨omq,omq⟩⟩
  ·rw[show(e !=0)=true from by simpa using f];exact⟨_,_,_,rfl,.inr (s.resolve_left f)⟩
 obtain⟨l,e,o,h,E⟩:=q;refine⟨_,h,?_⟩;by_cases f:e=0
 ·subst f;obtain⟨g,i,s,j,m,n,rfl⟩:=aad N omq a omq l o h;have D:(ax g).length<10000000:=by
   rw[n,lj]at x;omega
  obtain⟨F,u,w⟩:=Xh (N:=N) ⟨omq,omq⟩ j m g i D;rw[<-n]at u w;rw[u]at h;simp only[amn,amJ,true_and]at h;obtain⟨rfl,rfl⟩:=h;exact .inl ⟨rfl,g,i,j,m,n,w⟩
 ·refine .inr ⟨f,?_⟩;rcases E with h|h
  ·exact absurd h.1 f
  ·exact h
def Lm{N:Nat}(b:FN N)(t:TLV)(a:okT t):∃e,cm N (aj t)=some (e,0,0)/\EL (aj t) t e:=by
 unfold FN at b;refine⟨_,Uj N omq t.2.1 a.1 a.2.1 t.2.2.2 a.2.2,[],[],by simp,rfl⟩
def wj{N:Nat}(m:FN N)(a:Bs)(q:a.length<10000000):OW (cm N a) λr=>
 (r.2=(0,0)/\∃t,okT t/\a=aj t/\EL a t r.1)∨r.2.1≠0/\0<=r.2.2/\r.2.2<=(a.length:Int):=by
 unfold FN at m;obtain⟨v,e,o,d,l⟩:=WA N omq a omq;refine⟨_,d,?_⟩;by_cases g:e=0
 ·subst g;obtain⟨c1,c,k,b,q1,i,q3,n,rfl⟩:=Qi N omq a omq v o d;obtain⟨p,h,f⟩:=Lm (N:=N) ⟨omq,omq⟩ (c1,k,c,b) ⟨q1,i,q3⟩;have j:a=aj (c1,k,c,b):=n;rw[<-j]at h f;rw[h]at d;simp only[amn,amJ,true_and]at d;obtain⟨d,rfl⟩:=d;rw[d]at f;exact .inl ⟨rfl,_,⟨q1,i,q3⟩,j,f⟩
 ·exact .inr ⟨g,l.resolve_left g⟩
def xS{α:Type}{l:List α}{i:Int}(b:0<=i)(h:i<(l.length:Int)):OW (ix l i) λx=>l[i.toNat]?=some x/\x∈l:=by
 have a:i.toNat<l.length:=omq;refine⟨l[i.toNat],?_,aml a,am8 a⟩;have:=aM (aml a);rwa[show((i.toNat:Nat):Int)=i from omq]at this
def HH{α:Type}{l:List α}{i j:Int}(a:0<=i)(h:i<=j)(b:j<=(l.length:Int)):OW (slc l i j) λx=>x=(l.take j.toNat).drop i.toNat:=by
 refine⟨_,?_,rfl⟩;unfold slc;rw[amE ⟨omq,omq,omq⟩]
def akv{α:Type}{k:Nat}(a:k<=200){l r:List α}(h:l.length+r.length<=1000000000):OW (app k l r) λx=>x=l++r:=by
 refine⟨_,?_,rfl⟩;unfold app bj;have:(l.length+r.length)*k<=(l.length+r.length)*200:=Nat.mul_le_mul_left _ a;rw[amE ⟨omq,omq⟩]
def cQ{α:Type}{k:Nat}(b:k<=200){l r:List α}(h:l.length+r.length<=1000000000):app k l r=some (l++r):=by
 obtain⟨x,a,rfl⟩:=akv b h;exact a
end Go.Fw
def aqi:=@Go.Lib.join_one
namespace Go.Fw
open Go
def Vm(c:UInt8):∀(x:List UInt8),c ∉ x->Lib.index x [c]= -1
 |[],_=>rfl
 |b::l,h=>by
  have a:(c==b)=false:=amO.2 λe=>h (by simp[e]);unfold Lib.index;rw[Vm c l λe=>h (amF _ e)];simp[List.isPrefixOf,a]
def NB(c:UInt8)(t:List UInt8):∀(x:List UInt8),c ∉ x->Lib.index (x++c::t) [c]=(x.length:Int)
 |[],_=>by simp[Lib.index,List.isPrefixOf]
 |b::l,h=>by
  have a:(c==b)=false:=amO.2 λe=>h (by simp[e]);have d:=NB c t l λe=>h (amF _ e);rw[anf];unfold Lib.index;rw[d];have:((l.length:Int)== -1)=false:=amO.2 omq;simp[List.isPrefixOf,a,this]
def Mt(c:UInt8):∀(s:List UInt8),Lib.index s [c]≠-1->s=s.take (Lib.index s [c]).toNat++c::s.drop ((Lib.index s [c]).toNat+1)
 |[],h=>by exact absurd rfl h
 |b::l,h=>by
  unfold Lib.index at h⊢;by_cases e:c=b
  ·subst e;simp[List.isPrefixOf]
  ·have d:(c==b)=false:=amO.2 e;simp only[List.isPrefixOf,d,aqr,ang,ani]at h⊢;by_cases a:Lib.index l [c]= -1
   ·rw[a]at h;exact absurd rfl h
   ·have f:(Lib.index l [c]== -1)=false:=amO.2 a;have g:=Lib.index_ge l [c];simp only[f,ang,ani];rw[show(Lib.index l [c]+1).toNat=(Lib.index l [c]).toNat+1 from omq];simp only[aol,aoT,anf];rw[<-Mt c l a]
def qJ(x y:List UInt8)(r:List (List UInt8)):Lib.join (x::y::r) [46]=x++46::Lib.join (y::r) [46]:=by
 rw[Lib.join_cons,Lib.join_cons];simp[Lib.joinTail]
def abi(k:Nat)(s:List UInt8):∃y r,Lib.splitK [46] 0 k s=y::r:=by
 cases k with
 |zero=>exact⟨_,_,rfl⟩
 |succ k=>
  unfold Lib.splitK;split
  ·exact⟨_,_,rfl⟩
  ·exact⟨_,_,rfl⟩
def Mu:∀(k:Nat)(s:List UInt8),Lib.join (Lib.splitK [46] 0 k s) [46]=s
 |0,s=>aqi s _
 |k+1,s=>by
  unfold Lib.splitK;split
  ·exact aqi s _
  ·rename_i h;have b:Lib.index s [46]≠-1:=λe=>h (by rw[e];rfl);obtain⟨y,r,c⟩:=abi k (s.drop ((Lib.index s [46]).toNat+[(46:UInt8)].length));have a:=Mu k (s.drop ((Lib.index s [46]).toNat+[(46:UInt8)].length));rw[c]at a⊢;rw[qJ,a];exact(Mt 46 s b).symm
def Zl(s:List UInt8):Lib.join (Lib.split s [46]) [46]=s:=Mu _ s
def Pg:∀(r:List (List UInt8))(x:List UInt8),(∀y∈x::r,(46:UInt8) ∉ y)->Lib.count (Lib.join (x::r) [46]) [46]=r.length
 |[],x,h=>by
  rw[aqi];exact Lib.count_miss (Vm 46 x (h x siq))
 |y::r,x,h=>by
  have a:=NB 46 (Lib.join (y::r) [46]) x (h x siq);rw[qJ,Lib.count_hit siq a,show x.length+[(46:UInt8)].length=x.length+1 from rfl,<-anZ,an6,am1 (amt _)];simp only[ao3,anb,anc,aoT,amr];rw[Pg r y λz b=>h z (amF _ b)];omega
def Mv:∀(r:List (List UInt8))(x:List UInt8),(∀y∈x::r,(46:UInt8) ∉ y)->Lib.splitK [46] 0 r.length (Lib.join (x::r) [46])=x::r
 |[],x,h=>by rw[aqi];rfl
 |y::r,x,h=>by
  have a:=NB 46 (Lib.join (y::r) [46]) x (h x siq);rw[amr,qJ];unfold Lib.splitK;rw[a,am4 (by simp only[anR];omega)];simp only[aoQ,anr,amr,amI,ane];rw[aqe,amR (amt _),<-anZ,an6,am1 (amt _)];simp only[ao3,ap2,amG,anb,anc,aoT];rw[Mv r y λz b=>h z (amF _ b)]
def Zm(xs:List (List UInt8))(a:xs≠[])(h:∀y∈xs,(46:UInt8) ∉ y):Lib.split (Lib.join xs [46]) [46]=xs:=by
 cases xs with
 |nil=>exact absurd rfl a
 |cons x r=>
  unfold Lib.split;rw[Pg r x h];exact Mv r x h
def abj(n:Nat):∀b∈Lib.decDigits n,48<=b.toNat/\b.toNat<=57:=by
 induction n using Nat.strongRecOn with
 |ind n c=>
  intro b a;rw[Lib.decDigits]at a;split at a
  ·simp only[anl]at a;subst a;rw[anS];omega
  ·simp only[am6,anl]at a;rcases a with a|rfl
   ·exact c (n / 10) omq b a
   ·rw[anS];omega
def abk(n:Nat):(46:UInt8) ∉ Lib.decDigits n:=λh=>by
 have:=(abj n _ h).1;simp at this
def abl(n:Nat):Lib.decDigits n≠[]:=by
 rw[Lib.decDigits];split<;>simp
def Xm(M:Nat)(d:UInt8):∀(l:List UInt8)(acc v:Nat),Lib.parseUintM M acc l=.ok v->Lib.parseUintM M acc (l++[d])=Lib.parseUintM M v [d]
 |[],acc,v,h=>by cases h;rfl
 |c::r,acc,v,h=>by
  rw[anf];unfold Lib.parseUintM at h⊢;split at h<;>try (cases h;done)
  rename_i a;rw[amE a];split at h<;>try (cases h;done)
  rename_i b;rw[am4 b];split at h<;>try (cases h;done)
  rename_i e;rw[am4 e];exact Xm M d r _ v h
def agv(M:Nat)(b:M<=4294967295)(n:Nat):n<=M->Lib.parseUintM M 0 (Lib.decDigits n)=.ok n:=by
 induction n using Nat.strongRecOn with
 |ind n a=>
  intro c;rw[Lib.decDigits];split
  ·rename_i h;have e:(UInt8.ofNat (48+n)).toNat=48+n:=by rw[anS];omega
   unfold Lib.parseUintM;rw[amE (by rw[e];omega),am4 omq,am4 (by rw[e];omega)];unfold Lib.parseUintM;rw[e];congr 1;omega
  ·rename_i h;have e:(UInt8.ofNat (48+n % 10)).toNat=48+n % 10:=by rw[anS];omega
   rw[Xm M _ _ 0 _ (a (n / 10) omq omq)];unfold Lib.parseUintM;rw[amE (by rw[e];omega),am4 omq,am4 (by rw[e];omega)];unfold Lib.parseUintM;rw[e];congr 1;omega
def Ph(n:Nat)(a:n<=4294967295):jB (Lib.decDigits n)=some (.inl (n:Int)):=by
 have b:=JW n omq;unfold jB;rw[show Nat.ble (Lib.decDigits n).length AH=true from ann (by unfold AH;omega),amw];unfold Lib.parseUintB;rw[am4 (abl n),agv _ deq n (by simpa using a)];rfl
end Go.Fw
def aox:=@Go.IntKind.wrap_u32
namespace Go.Fw
open Go
def wn:List Nat->Bool
 |[]=>false
 |a::t=>match t with
  |[]=>false
  |b::_=>decide (a<=2/\(a<2->b<40)/\(¬a<2->b<=4294967215))
def jZ(s:Bs)(L:List Nat):Prop:=wn L=true/\(∀x∈L,x<=4294967295)/\s=Lib.join (L.map Lib.decDigits) [46]
def bc(L:List Nat):List Int:=L.map λ(n:Nat)=>(n:Int)
def agH{a b:Nat}(d:a<=4294967295)(e:b<=4294967295)(h:Lib.decDigits a=Lib.decDigits b):a=b:=by
 have c:=Ph a d;rw[h,Ph b e]at c;simp only[amn,Sum.inl.injEq]at c;omega
def NG:∀{L M:List Nat},(∀x∈L,x<=4294967295)->(∀x∈M,x<=4294967295)->L.map Lib.decDigits=M.map Lib.decDigits->L=M
 |[],[],_,_,_=>rfl
 |[],_::_,_,_,h=>by simp at h
 |_::_,[],_,_,h=>by simp at h
 |a::L,b::M,d,e,h=>by
  simp only[amz,aon]at h;rw[agH (d a siq) (e b siq) h.1,NG (λx c=>d x (by simp[c])) (λx c=>e x (by simp[c])) h.2]
def Zz(L:List Nat):∀y∈L.map Lib.decDigits,(46:UInt8) ∉ y:=by
 intro y a;obtain⟨n,_,rfl⟩:=anh.1 a;exact abk n
def aby{L:List Nat}(h:wn L=true):L.map Lib.decDigits≠[]:=by
 cases L with
 |nil=>cases h
 |cons a r=>simp
def jZ.split{s:Bs}{L:List Nat}(h:jZ s L):Lib.split s [46]=L.map Lib.decDigits:=by
 rw[h.2.2];exact Zm _ (aby h.1) (Zz L)
def jZ.uniq{s:Bs}{L M:List Nat}(h:jZ s L)(k:jZ s M):L=M:=NG h.2.1 k.2.1 (h.split.symm.trans k.split)
def RQ(L:List Nat):lX (bc L)=some (wn L):=by
 unfold lX syv
 match L with
 |[]=>rfl
 |[_]=>rfl
 |a::b::r=>
  have c:ix (bc (a::b::r)) 0=some (a:Int):=rfl;have d:ix (bc (a::b::r)) 1=some (b:Int):=rfl;have e:decide (((bc (a::b::r)).length:Int)<2)=false:=amm (by simp only[bc,am7,amr];omega);rw[c,d,e];simp only[amp,amj];show _=some (decide (a<=2/\(a<2->b<40)/\(¬a<2->b<=4294967215)));by_cases h:a<=2
  ·rw[amm (by omega:¬(a:Int)>2),amp];by_cases f:a<2
   ·rw[amq (by omega:(a:Int)<2),amw];exact amV some (apn.2 omq)
   ·rw[amm (by omega:¬(a:Int)<2),amp];exact amV some (apn.2 omq)
  ·rw[amq (by omega:(a:Int)>2),amw,amm omq]
def ai7(N:Nat)(l:List Bs)(A:l.length<=100000000)(p:∀x∈l,x.length<=100000000):∀(n:Nat)(s:List Bs×Int×Int×List Int),(∃L:List Nat,(∀x∈L,x<=4294967295)/\L.length<=l.length/\l.take L.length=L.map Lib.decDigits/\s=(l,(l.length:Int),(L.length:Int),bc L))->
 l.length-s.2.2.1.toNat<n->OW (Ib N n s) λy=>(∃L:List Nat,(∀x∈L,x<=4294967295)/\l=L.map Lib.decDigits/\y=.inr (bc L))∨(y=.inl 11/\¬∃L:List Nat,(∀x∈L,x<=4294967295)/\l=L.map Lib.decDigits):=by
 refine Xg _ _ (λ(s:List Bs×Int×Int×List Int)=>l.length-s.2.2.1.toNat) _ ?_;rintro n _ ⟨L,q,w,r,rfl⟩ v;show OW (bif decide ((L.length:Int)<(l.length:Int)) then _ else _) _;by_cases a:L.length<l.length
 ·rw[amq (by omega:(L.length:Int)<(l.length:Int)),amw,aM (aml a),amj];have g:=am8 a;have o:l.take (L.length+1)=L.map Lib.decDigits++[l[L.length]]:=by
   rw[ans,aml a,r];rfl
  have d:(∀m≤4294967295,l[L.length]≠Lib.decDigits m)->OW (some (Sum.inl 11):Option (Int⊕List Int)) λy=>(∃L:List Nat,(∀x∈L,x<=4294967295)/\l=L.map Lib.decDigits/\y=.inr (bc L))∨(y=.inl 11/\¬∃L:List Nat,(∀x∈L,x<=4294967295)/\l=L.map Lib.decDigits):=by
   refine λu=>aa (.inr ⟨rfl,?_⟩);rintro⟨M,t,f⟩;have k:L.length<M.length:=by rw[f,am7]at a;exact a
   refine u M[L.length] (t _ (am8 k)) ?_;simp only[f,List.getElem_map]
  rcases aik l[L.length] (by have:=p _ g;omega) with⟨m,c,B,_⟩|⟨z,c⟩
  ·rw[c,amj];dsimp only;rw[Un m omq,amj];by_cases i:Lib.decDigits m=l[L.length]
   ·rw[show(!(Lib.decDigits m==l[L.length]))=false from by rw[i];simp,amp,show IntKind.wrap .u32 (m:Int)=(m:Int) from by rw[aox];omega,cQ omq (by simp only[bc,am7,amr,amI];omega),amj,bg omq];refine v _ ⟨L++[m],?_,by simp;omega,?_,?_⟩ ?_
    ·intro x p;rcases am6.1 p with h|h
     ·exact q x h
     ·simp at h;omega
    ·rw[amo,anN,o,<-i];simp
    ·simp[bc]
    ·show l.length-(((L.length+1:Nat):Int)).toNat<l.length-((L.length:Int)).toNat;omega
   ·rw[show(!(Lib.decDigits m==l[L.length]))=true from by simpa using i,cond_true];refine d λj b e=>i ?_;rw[e,Ph j b]at c;simp only[amn,Sum.inl.injEq]at c;rw[e,show m=j from omq]
  ·rw[c,amj];refine d λj b e=> ?_;rw[e,Ph j b]at c;simp at c
 ·rw[amm (by omega:¬(L.length:Int)<(l.length:Int)),amp];refine aa (.inl ⟨L,q,?_,rfl⟩);rw[<-r,amR omq]
def abz{N:Nat}(j:FN N)(s:Bs)(f:s.length<10000000):OW (Gt N s) λr=>(∃L,jZ s L/\r=(bc L,0))∨(r=([],11)/\¬∃L,jZ s L):=by
 unfold FN at j;unfold Gt syv;obtain⟨l,b,n,i⟩:=Rl s omq;have c:l=Lib.split s [46]:=by
  unfold dR at b;rw[show Nat.blt s.length 4294967281=true from ann omq]at b;exact(anm b).symm
 rw[b,amj];refine ag (ai7 N l omq (λx m=>by have:=i x m;omega) N (l,(l.length:Int),0,[]) ⟨[],by simp,by simp,by simp,rfl⟩ (by show l.length-0<N;omega)) ?_;rintro y (⟨L,g,h,rfl⟩|⟨rfl,k⟩)
 ·dsimp only;rw[RQ,amj];have f:s=Lib.join (L.map Lib.decDigits) [46]:=by rw[<-h,c,Zl]
  cases d:wn L
  ·refine aa (.inr ⟨rfl,?_⟩);rintro⟨M,a⟩;have e:L=M:=NG g a.2.1 (by rw[<-a.split,<-h,c]);rw[e,a.1]at d;cases d
  ·exact aa (.inl ⟨L,⟨d,g,f⟩,rfl⟩)
 ·refine aa (.inr ⟨rfl,?_⟩);rintro⟨M,a⟩;exact k ⟨M,a.2.1,by rw[c,a.split]⟩
noncomputable def ofP(p:Prop):Bool:= @decide p (Classical.propDecidable p)
def un{p:Prop}:ofP p=true↔p:= @decide_eq_true_iff p (Classical.propDecidable p)
noncomputable def gG(s:Bs):Bool:=ofP (∃L,jZ s L)
def lT{s:Bs}:gG s=true↔∃L,jZ s L:=un
def DW{N:Nat}(c:FN N)(s:Bs)(d:s.length<10000000):xX N s=some (gG s):=by
 unfold xX syv;obtain⟨r,h,a⟩:=abz c s d;rw[h,amj];rcases a with⟨L,b,rfl⟩|⟨rfl,a⟩
 ·rw[lT.2 ⟨L,b⟩];rfl
 ·have:gG s=false:=by
   cases h:gG s with
   |false=>rfl
   |true=>exact absurd (lT.1 h) a
  rw[this];rfl
end Go.Fw
namespace Go.Fw
open Go
def b7:Nat->Nat->List UInt8
 |0,_=>[]
 |f+1,n=>if n=0 then [] else UInt8.ofNat (n % 128+128)::b7 f (n / 128)
def Pq:∀(f n:Nat),(b7 f n).length<=f
 |0,_=>amt _
 |f+1,n=>by
  unfold b7;split
  ·simp
  ·simp only[amr];have:=Pq f (n / 128);omega
def Xy:∀(f n:Nat),n<128 ^ f->b7 (f+1) n=b7 f n
 |0,n,h=>by
  have:n=0:=by simpa using h
  subst this;rfl
 |f+1,n,h=>by
  unfold b7;split
  ·rfl
  ·rw[Xy f (n / 128) (by rw[aoz]at h;omega)]
def hi7(n:Nat):List UInt8:=(b7 5 n).reverse
def dd(n:Nat):List UInt8:=hi7 (n / 128)++[UInt8.ofNat (n % 128)]
def NJ(n d:Nat)(hd:d<128)(b:n<268435456)(a:n*128+d≠0):hi7 (n*128+d)=hi7 n++[UInt8.ofNat (d+128)]:=by
 unfold hi7;rw[show b7 5 (n*128+d)=UInt8.ofNat ((n*128+d) % 128+128)::b7 4 ((n*128+d) / 128) from by rw[b7,am4 a],apd,show(n*128+d) / 128=n from omq,show(n*128+d) % 128=d from omq,Xy 4 n omq]
def CP:hi7 0=[]:=rfl
def HY(n:Nat):bits .and .u32 (n:Int) 127=((n % 128:Nat):Int):=by
 show IntKind.u32.wrap (((BitVec.ofInt 32 (n:Int))&&& (BitVec.ofInt 32 127)).toNat:Int)=_;rw[BitVec.toNat_and,aoN,show(BitVec.ofInt 32 127).toNat=2 ^ 7-1 from rfl,Nat.and_two_pow_sub_one_eq_mod,aox];omega
def abJ(n:Nat)(h:n<128):bits .or .u32 (n:Int) 128=((n+128:Nat):Int):=by
 show IntKind.u32.wrap (((BitVec.ofInt 32 (n:Int))|||(BitVec.ofInt 32 128)).toNat:Int)=_;rw[aql,aoN,show(BitVec.ofInt 32 128).toNat=1<<<7 from rfl,show((n:Int) % ((2 ^ 32:Nat):Int)).toNat=n from omq,Nat.or_comm,<-ao0 (by omega:n<2 ^ 7),aox];omega
def ZF(n:Nat):xO .u32 (n:Int) 7=((n / 128:Nat):Int):=by
 show(n:Int).fdiv (2 ^ (7:Nat))=_;rw[ape _ deq];omega
def abK(N:Nat)(l:Bs):∀(f a n:Nat)(acc:List UInt8),a<128 ^ f->f<n->acc.length+f<1000->lw N n ((a:Int),l,acc)=some (l,acc++b7 f a):=by
 intro f;induction f with
 |zero=>
  intro a n acc b d _;obtain⟨n,rfl⟩:∃m,n=m+1:=⟨n-1,omq⟩;have:a=0:=by simpa using b
  subst this;show some (l,acc)=_;simp[b7]
 |succ f e=>
  intro a n acc b d g;obtain⟨n,rfl⟩:∃m,n=m+1:=⟨n-1,omq⟩;show(bif decide ((a:Int)>0) then _ else _)=_;by_cases c:a=0
  ·subst c;simp[b7]
  ·rw[amq (by omega:(a:Int)>0),amw,HY,abJ _ omq,mg,amj,cQ omq soq,amj,ZF];refine(e (a / 128) n _ (by rw[aoz]at b;omega) omq soq).trans ?_;simp[b7,c,show(a % 128+128) % 256=a % 128+128 from omq]
def ajj(N:Nat)(l:Bs):∀(f a n:Nat)(acc:List UInt8),a<128 ^ f->f<n->acc.length+f<1000->ly N n ((a:Int),l,acc)=some (l,acc++b7 f a):=by
 have e:ly N=lw N:=by unfold ly lw syv;rfl
 rw[e];exact abK N l
def ael(i:Int)(n:Nat):(decide (i>=0)&&decide ((n:Int)>i))=inb i n:=rfl
def abL(N:Nat)(l:Bs):∀(n:Nat)(i j:Int)(m:Bs),lx N n (i,j,l,m)=(dt N n (i,j,m)).map λr=>(l,r):=by
 intro n;induction n with
 |zero=>intro i j m;rfl
 |succ n d=>
  intro i j m;rw[Ub];show(bif decide (i<j) then _ else _)=_;dsimp only;simp only[ael];cases decide (i<j)
  ·rfl
  ·rw[amw,amw];cases inb j m.length
   ·rfl
   ·rw[amw,amw];cases ix m j with
    |none=>rfl
    |some b=>
    rw[amj,amj];cases inb i m.length
    ·rfl
    ·rw[amw,amw];cases ix m i with
     |none=>rfl
     |some a=>
     rw[amj,amj];simp only[amw];cases toB (b.toNat:Int) with
     |none=>rfl
     |some c=>
     rw[amj,amj];cases inb j (m.set (Int.toNat i) c).length
     ·rfl
     ·simp only[amw];cases toB (a.toNat:Int) with
      |none=>rfl
      |some e=>
      rw[amj,amj];exact d _ _ _
def Xz(N:Nat)(a:FN N)(m:Bs)(b:m.length<=100):dt N N (0,aC .i64 (m.length:Int) 1,m)=some m.reverse:=by
 unfold FN at a;have h:=Wz N 101 m [] [] N omq omq soq;simp only[anc,amG,amI,ane]at h;rw[qc omq,show(0:Int)=((0:Nat):Int) from rfl];exact h
def ajk(N:Nat)(l:Bs):∀(n:Nat)(i j:Int)(m:Bs),lB N n (i,j,l,m)=(dt N n (i,j,m)).map λr=>(l,r):=by
 have e:lB N=lx N:=by unfold lB lx syv;rfl
 rw[e];exact abL N l
def NL(n:Nat):(dd n).length<=6:=by
 unfold dd hi7;have:=Pq 5 (n / 128);simp;omega
def agS(N:Nat)(h:FN N)(acc:Bs)(n:Nat)(l:n<=4294967295)(k:Bs->Option Bs)(j:acc.length<=900000000):
 ((toB (IntKind.wrap .u8 (bits .and .u32 (n:Int) 127))).bind λb=>(ly N N (xO .u32 (n:Int) 7,acc,[b])).bind λ(d,a)=>(lB N N (0,aC .i64 (a.length:Int) 1,d,a)).bind λ(e,f)=>(app 1 e f).bind λg=>k g)=k (acc++dd n):=by
 have c:=h;unfold FN at c;have i:=Pq 5 (n / 128);rw[HY,mg,amj,ZF,ajj N acc 5 (n / 128) N _ omq omq siq,amj];dsimp only;rw[ajk,Xz N h _ soq,anT,amj];dsimp only;rw[cQ omq soq,amj];congr 2;simp[dd,hi7,show n % 128 % 256=n % 128 from omq]
def abM(N:Nat)(h:FN N){α:Type}(n:Nat)(j:n<=4294967295)(k:Bs->Option α):
 ((toB (IntKind.wrap .u8 (bits .and .u32 (n:Int) 127))).bind λb=>(lw N N (xO .u32 (n:Int) 7,[],[b])).bind λ(d,a)=>(lx N N (0,aC .i64 (a.length:Int) 1,d,a)).bind λ(e,f)=>(app 1 e f).bind λg=>k g)=k (dd n):=by
 have c:=h;unfold FN at c;have i:=Pq 5 (n / 128);rw[HY,mg,amj,ZF,abK N [] 5 (n / 128) N _ omq omq siq,amj];dsimp only;rw[abL,Xz N h _ soq,anT,amj];dsimp only;rw[cQ omq soq,amj];congr 1;simp[dd,hi7,show n % 128 % 256=n % 128 from omq]
def Eu:List Nat->Bs
 |a::b::r=>dd (40*a+b)++(r.map dd).flatten
 |_=>[]
def ajl(N:Nat)(d:FN N)(s:List Nat)(r:s.length<=100000000)(l:∀x∈s,x<=4294967295):∀(k n i:Nat)(acc:Bs),s.length-i=k->k<n->i<=s.length->acc.length<=6*(i+1)->
 uE N n (bc s,((bc s).length:Int),(i:Int),acc)=some (acc++((s.drop i).map dd).flatten):=by
 have f:(bc s).length=s.length:=by simp[bc]
 intro k;induction k with
 |zero=>
  intro n i acc h j g e;obtain⟨n,rfl⟩:∃m,n=m+1:=⟨n-1,omq⟩;show(bif decide ((i:Int)<((bc s).length:Int)) then _ else _)=_;rw[amm omq,amp,am1 omq];simp
 |succ k p=>
  intro n i acc h j g e;obtain⟨n,rfl⟩:∃m,n=m+1:=⟨n-1,omq⟩;have a:i<s.length:=omq;have o:ix (bc s) (i:Int)=some (s[i]:Int):=by
   refine aM ?_;simp[bc,a]
  have b:=l s[i] (am8 a);show(bif decide ((i:Int)<((bc s).length:Int)) then _ else _)=_;rw[amq omq,amw,o,amj,agS N d acc _ b _ omq,bg omq];have q:=NL s[i];have c:=p n (i+1) (acc++dd s[i]) omq omq omq soq;refine c.trans ?_;rw[amP a,amz,List.flatten_cons,<-amL]
def agT{N:Nat}(d:FN N)(s:Bs)(C:s.length<10000000):(∀L,jZ s L->ko N s=some (Eu L,0))/\(gG s=false->ko N s=some ([],8)):=by
 have k:=d;unfold FN at k;obtain⟨r,h,c⟩:=abz d s C;refine⟨λL i=> ?_,λo=> ?_⟩
 ·rcases c with⟨M,j,rfl⟩|⟨_,c⟩
  ·have e:=i.uniq j;subst e;obtain⟨f,g,n⟩:=i
   match L,f,g,n,h with
   |a::b::t,f,g,n,h=>
   have E:a<=2/\(a<2->b<40)/\(¬a<2->b<=4294967215):=amZ f;have p:t.length<=s.length:=by
    have A:(a::b::t).length<=s.length+2:=by
     obtain⟨l,q1,q,_⟩:=Rl s omq;have B:l=Lib.split s [46]:=by
      unfold dR at q1;rw[show Nat.blt s.length 4294967281=true from ann omq]at q1;exact(anm q1).symm
     have w:=(show jZ s (a::b::t) from⟨f,g,n⟩).split;rw[B,w,am7]at q;exact q
    simp only[amr]at A;omega
   unfold ko syv;rw[h,amj];dsimp only;have u:ix (bc (a::b::t)) 0=some (a:Int):=rfl;have v:ix (bc (a::b::t)) 1=some (b:Int):=rfl;have y:az .u32 (iK .u32 40 (a:Int)) (b:Int)=((40*a+b:Nat):Int):=by
    show IntKind.u32.wrap (IntKind.u32.wrap (40*(a:Int))+(b:Int))=_;rw[aox,aox];omega
   rw[show((0:Int) !=0)=false from rfl,amp,u,v,amj,amj,y,abM N d _ omq];have m:slc (bc (a::b::t)) 2 ((bc (a::b::t)).length:Int)=some (bc t):=by
    unfold slc;rw[amE ⟨omq,by simp only[bc,am7,amr];omega,omq⟩,anr,amR (amt _)];rfl
   rw[m,amj];have F:=NL (40*a+b);have z:=ajl N d t omq (λx D=>g x (by simp[D])) t.length N 0 (dd (40*a+b)) omq omq omq omq;rw[show uE N N (bc t,((bc t).length:Int),0,dd (40*a+b))=_ from z,amj];rfl
  ·exact absurd ⟨L,i⟩ c
 ·rcases c with⟨M,j,rfl⟩|⟨rfl,c⟩
  ·rw[lT.2 ⟨M,j⟩]at o;cases o
  ·unfold ko syv;rw[h,amj];rfl
end Go.Fw
def aoU:=@List.flatten_append
namespace Go.Fw
open Go
set_option maxRecDepth 100000 in
def aju:∀b:UInt8,IntKind.wrap .u64 (bits .and .u8 (b.toNat:Int) 127)=((b.toNat % 128:Nat):Int):=by
 intro b;have h:∀n:Fin 256,IntKind.wrap .u64 (bits .and .u8 (n.val:Int) 127)=((n.val % 128:Nat):Int):=by decide
 exact h ⟨b.toNat,b.toNat_lt⟩
def ahb(v d:Nat)(b:v<=4294967295)(hd:d<128):bits .or .u64 (Qw .u64 (v:Int) 7) (d:Int)=((v*128+d:Nat):Int):=by
 have a:Qw .u64 (v:Int) 7=((v*128:Nat):Int):=by
  show IntKind.u64.wrap ((v:Int)*2 ^ (7:Nat))=_;rw[aou];omega
 rw[a];show IntKind.u64.wrap (((BitVec.ofInt 64 ((v*128:Nat):Int))|||(BitVec.ofInt 64 (d:Int))).toNat:Int)=_;rw[aql,aoN,aoN,show(((v*128:Nat):Int) % ((2 ^ 64:Nat):Int)).toNat=v*2 ^ 7 from omq,show((d:Int) % ((2 ^ 64:Nat):Int)).toNat=d from omq,<-apN,<-ao0 (by omega:d<2 ^ 7),apN,aou];omega
def FX(N n:Nat)(c:Bool)(v:Nat)(a:Bs)(i:Nat)(acc:List Int)(b:UInt8)(o:a[i]?=some b)(u:v<=4294967295)(y:i<1000000000)(w:acc.length<=100000000):
 bM N (n+1) (c,(v:Int),a,(a.length:Int),(i:Int),acc)=if (c=false/\b.toNat=128)∨v*128+b.toNat % 128>4294967295 then some (.inl ([],6)) else if b.toNat<128 then bM N n (false,0,a,(a.length:Int),((i+1:Nat):Int),acc++[((v*128+b.toNat % 128:Nat):Int)]) else bM N n (true,((v*128+b.toNat % 128:Nat):Int),a,(a.length:Int),((i+1:Nat):Int),acc):=by
 have t:i<a.length:=by
  rcases amB i a.length with h|h
  ·exact h
  ·rw[amC omq]at o;cases o
 have r:decide ((i:Int)<(a.length:Int))=true:=amq omq;have l:∀x:Int,app 8 acc [x]=some (acc++[x]):=λx=>cQ omq soq;have g:az .i64 (i:Int) 1=((i+1:Nat):Int):=bg omq;have s:=WD b;have p:=ahb v (b.toNat % 128) u omq;have k:(((b.toNat:Nat):Int)==128)=decide (b.toNat=128):=by
  show((b.toNat:Int)==((128:Nat):Int))=_;rw[Hb];rfl
 unfold bM syv;simp only[r,amw,aM o,amj,aju,p,l,g,k,bne,s];generalize (@Nat.rec (λ_=>Bool×Int×Bs×Int×Int×List Int->Option (Bs×Int⊕Bool×List Int)) _ _ n)=R;generalize ((i+1:Nat):Int)=j at g⊢;generalize z:v*128+b.toNat % 128=m;by_cases q:m>4294967295
 ·rw[amq (by omega:(m:Int)>4294967295),amE (.inr q)];cases c
  ·by_cases d:b.toNat=128
   ·simp[d]
   ·simp[d]
  ·simp
 ·rw[amm (by omega:¬(m:Int)>4294967295)];by_cases f:b.toNat<128
  ·have d:¬b.toNat=128:=omq;rw[am4 omq,amE f];cases c<;>simp[d,f,g]
  ·by_cases d:c=false/\b.toNat=128
   ·rw[amE (.inl d)];obtain⟨rfl,d⟩:=d;simp[d]
   ·rw[am4 (λh=>h.elim d q),am4 f];cases c
    ·have:¬b.toNat=128:=λe=>d ⟨rfl,e⟩;simp[this,f,g]
    ·simp[f,g]
def abT(N n:Nat)(c:Bool)(v:Int)(a:Bs)(acc:List Int):bM N (n+1) (c,v,a,(a.length:Int),(a.length:Int),acc)=some (.inr (c,acc)):=by
 show(bif decide ((a.length:Int)<(a.length:Int)) then _ else _)=_;rw[amm omq];rfl
def H3{a r:Bs}{i:Nat}{b:UInt8}(h:a.drop i=b::r):a[i]?=some b/\a.drop (i+1)=r:=by
 have c:(a.drop i)[0]?=some b:=by rw[h];rfl
 rw[apw,aoQ]at c;refine⟨c,?_⟩;rw[<-anZ,h];rfl
def akY(N:Nat)(a:Bs)(q:a.length<1000000000):∀(k n:Nat),n<=k->0<n->n<33554432->∀(f i:Nat)(acc:List Int)(r:Bs),a.drop i=hi7 n++r->acc.length<=100000000->
 bM N (f+(hi7 n).length) (false,0,a,(a.length:Int),(i:Int),acc)=bM N f (true,(n:Int),a,(a.length:Int),((i+(hi7 n).length:Nat):Int),acc):=by
 intro k;induction k with
 |zero=>intro n v w;omega
 |succ k t=>
  intro n y u z f i acc r c l;have x:i<=a.length:=by
   rcases amB a.length i with h|h
   ·rw[am1 omq]at c;have b:=NJ (n / 128) (n % 128) omq omq omq;rw[show n / 128*128+n % 128=n from omq]at b;rw[b]at c;have:=amV List.length c;simp at this
   ·exact h
  have b:=NJ (n / 128) (n % 128) omq omq omq;rw[show n / 128*128+n % 128=n from omq]at b;have o:(UInt8.ofNat (n % 128+128)).toNat=n % 128+128:=by rw[anS];omega
  by_cases d:n / 128=0
  ·rw[d,CP,anc]at b;rw[b]at c⊢;obtain⟨j,p⟩:=H3 c;rw[show(0:Int)=((0:Nat):Int) from rfl,anN,FX N f false 0 a i acc _ j omq omq l,o,am4 omq,am4 omq];rw[show 0*128+(n % 128+128) % 128=n from omq]
  ·have e:a.drop i=hi7 (n / 128)++(UInt8.ofNat (n % 128+128)::r):=by rw[c,b];simp
   have g:=t (n / 128) omq omq omq (f+1) i acc _ e l;have m:a.drop (i+(hi7 (n / 128)).length)=UInt8.ofNat (n % 128+128)::r:=by
    rw[<-anZ,e,an6,am1 (amt _)];simp
   obtain⟨j,p⟩:=H3 m;have s:=ai j;rw[b,amo,anN,show f+((hi7 (n / 128)).length+1)=f+1+(hi7 (n / 128)).length from omq,g,FX N f true (n / 128) a _ acc _ j omq omq l,o,am4 soq,am4 omq];rw[show n / 128*128+(n % 128+128) % 128=n from omq,aoy]
def ajv(N:Nat)(a:Bs)(e:a.length<1000000000)(m:Nat)(n:m<=4294967295)(f i:Nat)(acc:List Int)(r:Bs)(hd:a.drop i=dd m++r)(c:acc.length<=100000000):
 bM N (f+(dd m).length) (false,0,a,(a.length:Int),(i:Int),acc)=bM N f (false,0,a,(a.length:Int),((i+(dd m).length:Nat):Int),acc++[(m:Int)]):=by
 have k:(UInt8.ofNat (m % 128)).toNat=m % 128:=by rw[anS];omega
 unfold dd at hd⊢;rw[amL,apb]at hd;by_cases h:m / 128=0
 ·rw[h,CP,anc]at hd⊢;obtain⟨b,l⟩:=H3 hd;have j:=ai b;rw[show(0:Int)=((0:Nat):Int) from rfl,anN,FX N f false 0 a i acc _ b omq omq c,k,am4 omq,amE omq];rw[show 0*128+m % 128 % 128=m from omq];rfl
 ·have g:=akY N a e (m / 128) (m / 128) (amt _) omq omq (f+1) i acc _ hd c;have d:a.drop (i+(hi7 (m / 128)).length)=UInt8.ofNat (m % 128)::r:=by
   rw[<-anZ,hd,an6,am1 (amt _)];simp
  obtain⟨b,l⟩:=H3 d;have j:=ai b;rw[amo,anN,show f+((hi7 (m / 128)).length+1)=f+1+(hi7 (m / 128)).length from omq,g,FX N f true (m / 128) a _ acc _ b omq omq c,k,am4 soq,amE omq];rw[show m / 128*128+m % 128 % 128=m from omq,aoy]
def NP(n:Nat):1<=(dd n).length:=by unfold dd;simp
def NQ:∀(L:List Nat),L.length<=((L.map dd).flatten).length
 |[]=>by simp
 |a::r=>by
  have:=NQ r;have:=NP a;simp only[amz,List.flatten_cons,amo,amr];omega
def abU(N:Nat)(a:Bs)(d:a.length<100000000):∀(L:List Nat)(f i:Nat)(acc:List Int),(∀x∈L,x<=4294967295)->a.drop i=(L.map dd).flatten->i<=a.length->acc.length<=i->
 bM N (f+1+((L.map dd).flatten).length) (false,0,a,(a.length:Int),(i:Int),acc)=some (.inr (false,acc++bc L))
 |[],f,i,acc,_,b,j,_=>by
  have:i=a.length:=by
   have:=amV List.length b;simp at this;omega
  subst this;show bM N (f+1) _=_;rw[abT];simp[bc]
 |x::L,f,i,acc,h,b,j,m=>by
  rw[amz,List.flatten_cons]at b;have g:=ajv N a omq x (h x siq) (f+1+((L.map dd).flatten).length) i acc _ b omq;have c:a.drop (i+(dd x).length)=(L.map dd).flatten:=by
   rw[<-anZ,b,an6,am1 (amt _)];simp
  have e:i+(dd x).length<=a.length:=by
   have:=amV List.length b;rw[anj,amo]at this;have:=NP x;omega
  have n:=NP x;have l:=abU N a d L f (i+(dd x).length) (acc++[(x:Int)]) (λy k=>h y (by simp[k])) c e soq;rw[amz,List.flatten_cons,amo,show f+1+((dd x).length+((L.map dd).flatten).length)=f+1+((L.map dd).flatten).length+(dd x).length from omq,g,l];simp[bc]
def al8(N:Nat)(a:Bs)(z:a.length<100000000):∀(n:Nat)(s:Bool×Int×Bs×Int×Int×List Int),
 (∃(c:Bool)(v i:Nat)(L:List Nat),i<=a.length/\L.length<=i/\(∀x∈L,x<=4294967295)/\v<=4294967295/\a.take i=(L.map dd).flatten++hi7 v/\(c=false->v=0)/\(c=true->0<v)/\s=(c,(v:Int),a,(a.length:Int),(i:Int),bc L))->
 a.length-s.2.2.2.2.1.toNat<n->OW (bM N n s) λy=>y=.inl ([],6)∨∃c L,y=.inr (c,bc L)/\(c=false->a=(L.map dd).flatten/\∀x∈L,x<=4294967295)/\L.length<=a.length:=by
 refine Xg _ _ (λ(s:Bool×Int×Bs×Int×Int×List Int)=>a.length-s.2.2.2.2.1.toNat) _ ?_;rintro n _ ⟨c,v,i,L,B,p,f,q,d,r,t,rfl⟩ o;by_cases g:i<a.length
 ·have m:a[i]?=some a[i]:=aml g;have b:a.take (i+1)=a.take i++[a[i]]:=by rw[ans,m];rfl
  rw[FX N n c v a i _ _ m q omq (by simp[bc];omega)];split
  ·exact aa (.inl rfl)
  ·rename_i j;have u:=a[i].toNat_lt;split
   ·rename_i k;refine o _ ⟨false,0,i+1,L++[v*128+a[i].toNat % 128],omq,by simp;omega,?_,omq,?_,λ_=>rfl,(λh=>by cases h),?_⟩ ?_
    ·intro x A;rcases am6.1 A with h|h
     ·exact f x h
     ·simp at h;omega
    ·rw[b,d,CP,amG,anu,aoU,amL];congr 1;simp only[amz,anG,List.flatten_cons,List.flatten_nil,amG,dd];rw[show(v*128+a[i].toNat % 128) / 128=v from omq,show(v*128+a[i].toNat % 128) % 128=a[i].toNat from omq];simp
    ·simp[bc]
    ·show a.length-(((i+1:Nat):Int)).toNat<a.length-((i:Int)).toNat;omega
   ·rename_i k;have l:v*128+a[i].toNat % 128≠0:=by
     cases c with
     |false=>
      have:a[i].toNat≠128:=λe=>j (.inl ⟨rfl,e⟩);omega
     |true=>have:=t rfl;omega
    refine o _ ⟨true,v*128+a[i].toNat % 128,i+1,L,omq,omq,f,omq,?_,(λh=>by cases h),λ_=>omq,rfl⟩ ?_
    ·rw[b,d,NJ v _ omq omq l,amL];congr 2;rw[show a[i].toNat % 128+128=a[i].toNat from omq];simp
    ·show a.length-(((i+1:Nat):Int)).toNat<a.length-((i:Int)).toNat;omega
 ·have:i=a.length:=omq;subst this;rw[abT];refine aa (.inr ⟨c,L,rfl,λw=>⟨?_,f⟩,p⟩);rw[r w,CP,amG,an4]at d;exact d
end Go.Fw
def aoO:=@Int.tdiv_eq_ediv_of_nonneg
namespace Go.Fw
open Go
def ajJ(N:Nat)(s:List Nat)(o:s.length<=100000000)(g:∀x∈s,x<=4294967295):∀(k n i:Nat)(acc:List Int),s.length-i=k->k<n->i<=s.length->acc.length<=i+2->
 uL N n (bc s,((bc s).length:Int),(i:Int),acc)=some (acc++bc (s.drop i)):=by
 have c:(bc s).length=s.length:=by simp[bc]
 intro k;induction k with
 |zero=>
  intro n i acc e f d b;obtain⟨n,rfl⟩:∃m,n=m+1:=⟨n-1,omq⟩;show(bif decide ((i:Int)<((bc s).length:Int)) then _ else _)=_;rw[amm omq,amp,am1 omq];simp[bc]
 |succ k j=>
  intro n i acc e f d b;obtain⟨n,rfl⟩:∃m,n=m+1:=⟨n-1,omq⟩;have a:i<s.length:=omq;have h:ix (bc s) (i:Int)=some (s[i]:Int):=by
   refine aM ?_;simp[bc,a]
  have l:=g s[i] (am8 a);show(bif decide ((i:Int)<((bc s).length:Int)) then _ else _)=_;rw[amq omq,amw,h,amj,show IntKind.wrap .u32 (s[i]:Int)=(s[i]:Int) from by rw[aox];omega,cQ omq soq,amj,bg omq];refine(j n (i+1) _ omq omq omq soq).trans ?_;rw[amP a,amL];rfl
def aew(N:Nat)(b:FN N)(L:List Nat)(g:L.length<=100000000)(c:wn L=true)(d:∀x∈L,x<=4294967295):AB N (bc L)=some (Lib.join (L.map Lib.decDigits) [46],0):=by
 unfold FN at b;obtain⟨t,e,h,a,_⟩:=acU N (bc L) (by simp[bc];omega) (by simp[bc];omega);obtain⟨rfl,rfl⟩:=a (by rw[RQ,c]);rw[h];congr 3;unfold bc;rw[List.map_map];refine List.map_congr_left λx f=> ?_;have:=d x f;show Lib.decDigits (IntKind.wrap .u64 (x:Int)).toNat=_;rw[show IntKind.wrap .u64 (x:Int)=(x:Int) from by rw[aou];omega,anr]
def wt:List Nat->List Nat
 |[]=>[]
 |q::r=>min (q / 40) 2::(q-40*min (q / 40) 2)::r
def RW(q:Nat)(r:List Nat)(b:∀x∈q::r,x<=4294967295):wn (wt (q::r))=true/\(∀x∈wt (q::r),x<=4294967295)/\Eu (wt (q::r))=((q::r).map dd).flatten:=by
 have c:=b q siq;refine⟨amq omq,?_,?_⟩
 ·intro x a;simp only[wt,amN]at a;rcases a with rfl|rfl|a
  ·omega
  ·omega
  ·exact b x (by simp[a])
 ·show dd (40*min (q / 40) 2+(q-40*min (q / 40) 2))++_=_;rw[show 40*min (q / 40) 2+(q-40*min (q / 40) 2)=q from omq];rfl
def ZK(a b:Nat)(r:List Nat)(h:wn (a::b::r)=true):wt ((40*a+b)::r)=a::b::r:=by
 have c:a<=2/\(a<2->b<40)/\(¬a<2->b<=4294967215):=amZ h;show min ((40*a+b) / 40) 2::(40*a+b-40*min ((40*a+b) / 40) 2)::r=_;have e:min ((40*a+b) / 40) 2=a:=omq;rw[e,show 40*a+b-40*a=b from omq]
def VO{N:Nat}(i:FN N)(a:Bs)(M:List Nat)(d:M.length<=10000000)(l:M≠[])(f:∀x∈M,x<=4294967295)(c:Bool)(h:bM N N (false,0,a,(a.length:Int),0,[])=some (.inr (false,bc M))):dj N a=some (Lib.join ((wt M).map Lib.decDigits) [46],0):=by
 have b:=i;unfold FN at b;cases M with
 |nil=>exact absurd rfl l
 |cons q r=>
  obtain⟨o,p,u⟩:=RW q r f;have t:=f q siq;unfold dj syv;rw[h,amj];dsimp only;have j:ix (bc (q::r)) 0=some (q:Int):=rfl;have s:(bc (q::r)).length=r.length+1:=by simp[bc]
  have e:slc (bc (q::r)) 1 ((bc (q::r)).length:Int)=some (bc r):=by
   unfold slc;rw[amE ⟨omq,omq,omq⟩,anr,amR (amt _)];rfl
  have m:rD (vY .u64 (q:Int) 40) 2=((min (q / 40) 2:Nat):Int):=by
   have:vY .u64 (q:Int) 40=((q / 40:Nat):Int):=by
    show IntKind.u64.wrap ((q:Int).tdiv 40)=_;rw[aoO omq,aou];omega
   rw[this];rw[Ld];split<;>omega
  have g:IntKind.wrap .u32 ((min (q / 40) 2:Nat):Int)=((min (q / 40) 2:Nat):Int):=by rw[aox];omega
  have n:IntKind.wrap .u32 (aC .u64 (q:Int) (iK .u64 40 ((min (q / 40) 2:Nat):Int)))=((q-40*min (q / 40) 2:Nat):Int):=by
   show IntKind.wrap .u32 (IntKind.u64.wrap ((q:Int)-IntKind.u64.wrap (40*((min (q / 40) 2:Nat):Int))))=_;rw[aou,aou,aox];omega
  rw[amp,show(((bc (q::r)).length:Int)==0)=false from amO.2 omq,amp,show decide (((bc (q::r)).length:Int)>0)=true from amq omq,amw,j,amj,amw,amj,e,amj,m,g,n];have k:=ajJ N r (by simp at d;omega) (λx g=>f x (by simp[g])) r.length N 0 [((min (q / 40) 2:Nat):Int),((q-40*min (q / 40) 2:Nat):Int)] omq (by simp at d;omega) omq siq;rw[show uL N N (bc r,((bc r).length:Int),0,_)=_ from k,amj,show [((min (q / 40) 2:Nat):Int),((q-40*min (q / 40) 2:Nat):Int)]++bc (r.drop 0)=bc (wt (q::r)) from rfl,aew N i _ (by simp[wt]at d⊢;omega) o p];rfl
def abX{N:Nat}(l:FN N){s:Bs}{L:List Nat}(h:jZ s L)(f:(Eu L).length<10000000):dj N (Eu L)=some (s,0):=by
 have d:=l;unfold FN at d;obtain⟨c,i,j⟩:=h
 match L,c,i,j,f with
 |a::b::r,c,i,j,f=>
  have n:a<=2/\(a<2->b<40)/\(¬a<2->b<=4294967215):=amZ c;have m:∀x∈(40*a+b)::r,x<=4294967295:=by
   intro x g;rcases amN.1 g with rfl|g
   ·omega
   ·exact i x (by simp[g])
  have e:Eu (a::b::r)=(((40*a+b)::r).map dd).flatten:=rfl;have o:=NQ ((40*a+b)::r);rw[e]at f⊢;have k:=abU N _ omq ((40*a+b)::r) (N-1-((((40*a+b)::r).map dd).flatten).length) 0 [] m (anb ..) omq siq;rw[show N-1-((((40*a+b)::r).map dd).flatten).length+1+((((40*a+b)::r).map dd).flatten).length=N from omq,anc]at k;rw[VO l _ _ omq siq m false k,ZK a b r c,j]
def abY{N:Nat}(e:FN N)(a:Bs)(m:a.length<10000000):OW (dj N a) λr=>(r.2=0/\∃L,jZ r.1 L/\a=Eu L)∨r=([],6):=by
 have b:=e;unfold FN at b;obtain⟨y,h,i⟩:=al8 N a omq N (false,0,a,(a.length:Int),0,[]) ⟨false,0,0,[],omq,by simp,by simp,omq,by simp[CP],λ_=>rfl,(λh=>by cases h),rfl⟩ (by show a.length-0<N;omega);rcases i with rfl|⟨c,M,rfl,g,n⟩
 ·unfold dj syv;rw[h,amj];exact aa (.inr rfl)
 ·cases c with
  |true=>
   unfold dj syv;rw[h,amj];exact aa (.inr rfl)
  |false=>
   obtain⟨f,d⟩:=g rfl;cases M with
   |nil=>
    unfold dj syv;rw[h,amj];exact aa (.inr rfl)
   |cons q r=>
    obtain⟨j,k,l⟩:=RW q r d;exact Lk (VO e a (q::r) omq siq d false h) (.inl ⟨rfl,wt (q::r),⟨j,k,rfl⟩,by rw[l];exact f⟩)
def aex{s:Bs}{L:List Nat}(h:jZ s L):L.length<=(Eu L).length+1:=by
 obtain⟨d,e,f⟩:=h
 match L,d with
 |a::b::r,_=>
  have c:=NQ ((40*a+b)::r);simp only[amr]at c⊢;show _<=((((40*a+b)::r).map dd).flatten).length+1;omega
end Go.Fw
