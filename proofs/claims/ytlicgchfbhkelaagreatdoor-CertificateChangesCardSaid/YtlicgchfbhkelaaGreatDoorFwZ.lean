/- A framework for proofs about Go programs in this model: part Z. Everything is proved; no condition is added. -/
import Derived.IntWalk
import Derived.Laws.Bits64
import Derived.Lib.ParseIntBCases
import Derived.Lib.CountLaws
import Derived.Test.YtlicgchfbhkelaaGreatDoorFwY
set_option linter.unusedVariables false
set_option linter.unusedSimpArgs false
set_option linter.defProp false
namespace Go.Fw
open Go Go.Proofs.Tryz
noncomputable section
set_option maxRecDepth 100000
set_option maxHeartbeats 0
attribute [local irreducible] ix app slc cw toB agree fF fH fE ju dD aI aP aQ
def CC:AD B0:=⟨13,(c1 [A9,Sv,Ng,LS]),[OA],au⟩
@[irreducible] def uG(N:Nat)(a:Y10):Option Bool:=syv N (CC.go (a))
def Nh:=gA CC (uG NN)
def IL:AD B0:=⟨6,(c1 [Nh,A9]),[Ia],au⟩
@[irreducible] def uH(N:Nat)(a:Y11):Option Bool:=syv N (IL.go (a))
def Sw:=gA IL (uH NN)
def zj:AD B0:=⟨32,(c1 [jt]),[hc1,hc1],au⟩
@[irreducible] def qS(a:Y0)(a2:Y0):Option Bool:=syv NN (zj.go (a,a2))
def qT:=gA zj (u2 qS)
def zk:AD B0:=⟨132,(c1 [jt]),[hc1,hc1],au⟩
@[irreducible] def mr(a:Y0)(a2:Y0):Option Bool:=syv NN (zk.go (a,a2))
def KW:=gA zk (u2 mr)
def Dl(L:List (KL B0)):Ctx B0:=⟨[KW],[],[],L,.nil⟩
def El:LD:=⟨105,2,0,⟨[(0,hc2),(1,hc2),(5,hc4)],[]⟩,[(.ret,⟨[(4,vF)],[]⟩),(.exit 0,⟨[(0,hc2),(1,hc2)],[]⟩)]⟩
@[local irreducible] def wM(N n:Nat):(Y1×Y1×Int)->Option ((Unit)⊕(Y1×Y1)):=Nat.rec (λ_=>none) (λ_ L x=>syv N (El.round (Dl []).cxs L x)) n
def OR:=gL (Dl []) El (wM NN)
def K9:AD B0:=⟨105,(Dl [OR]),[hc2,hc2],au⟩
@[irreducible] def xj(N:Nat)(a:Y1)(a2:Y1):Option Bool:=syv N (K9.go (a,a2))
def UR:=gA K9 (u2 (xj NN))
def Bd(L:List (KL B0)):Ctx B0:=⟨[UR],[],[],L,.nil⟩
def CD:LD:=⟨72,2,0,⟨[(0,fq),(1,fq),(5,hc4)],[]⟩,[(.ret,⟨[(4,vF)],[]⟩),(.exit 0,⟨[(0,fq),(1,fq)],[]⟩)]⟩
@[local irreducible] def uI(N n:Nat):(Y2×Y2×Int)->Option ((Unit)⊕(Y2×Y2)):=Nat.rec (λ_=>none) (λ_ L x=>syv N (CD.round (Bd []).cxs L x)) n
def Ni:=gL (Bd []) CD (uI NN)
def IM:AD B0:=⟨72,(Bd [Ni]),[fq,fq],au⟩
@[irreducible] def Be(N:Nat)(a:Y2)(a2:Y2):Option Bool:=syv N (IM.go (a,a2))
def Sx:=gA IM (u2 (Be NN))
def IP:AD B0:=⟨33,(c1 [jt]),[C8,C8],au⟩
@[irreducible] def Bf(a:Y6)(a2:Y6):Option Bool:=syv NN (IP.go (a,a2))
def Bg:=gA IP (u2 Bf)
def La:AD B0:=⟨73,(c1 [qT,Bg]),[Oy,Oy],au⟩
@[irreducible] def Dm(a:Y7)(a2:Y7):Option Bool:=syv NN (La.go (a,a2))
def US:=gA La (u2 Dm)
def zl:AD B0:=⟨106,(c1 [jt]),[hc3,hc3],au⟩
@[irreducible] def mt(a:Y8)(a2:Y8):Option Bool:=syv NN (zl.go (a,a2))
def KY:=gA zl (u2 mt)
def pC(L:List (KL B0)):Ctx B0:=⟨[KY],[],[],L,.nil⟩
def tf:LD:=⟨74,2,0,⟨[(0,lQ),(1,lQ),(5,hc4)],[]⟩,[(.ret,⟨[(4,vF)],[]⟩),(.exit 0,⟨[(0,lQ),(1,lQ)],[]⟩)]⟩
@[local irreducible] def mW(N n:Nat):(Y9×Y9×Int)->Option ((Unit)⊕(Y9×Y9)):=Nat.rec (λ_=>none) (λ_ L x=>syv N (tf.round (pC []).cxs L x)) n
def Em:=gL (pC []) tf (mW NN)
def xT:AD B0:=⟨74,(pC [Em]),[lQ,lQ],au⟩
@[irreducible] def pD(N:Nat)(a:Y9)(a2:Y9):Option Bool:=syv N (xT.go (a,a2))
def IQ:=gA xT (u2 (pD NN))
def Lb:AD B0:=⟨31,(c1 [jt,qT,Sx,US,Bg,IQ]),[OA,OA],au⟩
@[irreducible] def Dn(N:Nat)(a:Y10)(a2:Y10):Option Bool:=syv N (Lb.go (a,a2))
def UT:=gA Lb (u2 (Dn NN))
def wi:AD B0:=⟨9,(c1 [UT,qT,Bg]),[Ia,Ia],au⟩
@[irreducible] def cz(N:Nat)(a:Y11)(a2:Y11):Option Bool:=syv N (wi.go (a,a2))
def HY:=gA wi (u2 (cz NN))
def En:AD B0:=⟨10,(c1 []),[hc5,hc4],au⟩
@[irreducible] def jX(a:Y3)(a2:Int):Option Bool:=syv NN (En.go (a,a2))
def OS:=gA En (u2 jX)
end
end Go.Fw

def anv:=@BitVec.toNat_ofInt
def anH:=@Nat.shiftLeft_add_eq_or_of_lt
def aou:=@Nat.shiftLeft_eq
def ao2:=@BitVec.toNat_or
namespace Go.Fw
open Go
def Vm{a b:Int}(f: -36028797018963968<=a)(g:a<36028797018963968)(h:0<=b)(i:b<256):bits .or .i64 (Pf .i64 a 8) b=256*a+b:=by
 have c:Pf .i64 a 8=256*a:=by
  show IntKind.i64.wrap (a*2 ^ (8:Nat))=_;rw[Go.IntWalk.i64_in _ omq];omega
 rw[c];show IntKind.i64.wrap (((BitVec.ofInt 64 (256*a))|||(BitVec.ofInt 64 b)).toNat:Int)=_;rw[ao2,anv,anv];have e:((256*a) % ((2 ^ 64:Nat):Int)).toNat=(a % 72057594037927936).toNat*2 ^ 8:=omq;have d:(b % ((2 ^ 64:Nat):Int)).toNat=b.toNat:=omq;rw[e,d,<-aou,<-anH (by omega:b.toNat<2 ^ 8),aou,IntKind.wrap_i64];omega
end Go.Fw
def amB:=@List.dropLast_concat_getLast
namespace Go.Fw
open Go
def bu{i:Nat}(h:i<4611686018427387904):ay .i64 (i:Int) 1=((i+1:Nat):Int):=by
 show IntKind.i64.wrap ((i:Int)+1)=_;rw[alA _ omq];omega
def WV{i:Nat}(a:0<i)(h:i<4611686018427387904):aC .i64 (i:Int) 1=((i-1:Nat):Int):=by
 show IntKind.i64.wrap ((i:Int)-1)=_;rw[alA _ omq];omega
def bc{α:Type}{l:List α}{i:Nat}{x:α}(h:l[i]?=some x):ix l (i:Int)=some x:=by
 unfold ix;rw[ali omq,al5,h]
def JP(x:UInt8):toB (x.toNat:Int)=some x:=by
 unfold toB;have:=x.toNat_lt;rw[ali ⟨omq,omq⟩];simp
def OZ{i n:Nat}(h:i<n):inb (i:Int) n=true:=by
 unfold inb;simp only[akY,alL];omega
def abG(p m q:List UInt8)(x y:UInt8):(((p++(x::m++[y])++q).set p.length y).set (p.length+m.length+1) x)=(p++[y])++m++(x::q):=by
 have a:p++(x::m++[y])++q=p++(x::(m++(y::q))):=by simp
 rw[a,anR _ _ (ak7 _),anK,am7,anR _ _ omq];rw[show p.length+m.length+1-p.length=m.length+1 from omq,anJ,anR _ _ (ak7 _),anK,am7];simp
def SR(N n:Nat)(b c:Int)(a:Bs):cT N (n+1) (b,c,a)=bif decide (b<c) then(bif inb c a.length then((ix a c).bind λe=>bif inb b a.length then((ix a b).bind λf=>bif inb b a.length then(bif inb b a.length then((toB (e.toNat:Int)).bind λd=>
 bif inb c (a.set (Int.toNat b) d).length then(bif inb c (a.set (Int.toNat b) d).length then((toB (f.toNat:Int)).bind λg=>cT N n (ay .i64 b 1,aC .i64 c 1,(a.set (Int.toNat b) d).set (Int.toNat c) g)) else none) else none) else none) else none) else none) else none) else some a:=rfl
def Vn(N:Nat):∀(k:Nat)(a p q:List UInt8)(n:Nat),a.length<=k->a.length<2*n->(p++a++q).length<4611686018427387904->
 cT N n ((p.length:Int),(((p.length+a.length:Nat):Int)-1),p++a++q)=some (p++a.reverse++q):=by
 intro k;induction k with
 |zero=>
  intro a p q n c g d;obtain⟨n,rfl⟩:∃m,n=m+1:=⟨n-1,omq⟩;have:a=[]:=alF omq;subst this;show(bif decide ((p.length:Int)<((p.length+([]:List UInt8).length:Nat):Int)-1) then _ else _)=_;rw[ak0 soq];simp
 |succ k t=>
  intro a p q n c g d;obtain⟨n,rfl⟩:∃m,n=m+1:=⟨n-1,omq⟩
  match a,c,g,d with
  |[],_,_,_=>
   show(bif decide ((p.length:Int)<((p.length+([]:List UInt8).length:Nat):Int)-1) then _ else _)=_;rw[ak0 soq];simp
  |[x],_,_,_=>
   show(bif decide ((p.length:Int)<((p.length+[x].length:Nat):Int)-1) then _ else _)=_;rw[ak0 siq];simp
  |x::z::r,c,g,d=>
   obtain⟨m,y,s⟩:∃m y,z::r=m++[y]:=⟨(z::r).dropLast,(z::r).getLast siq,(amB siq).symm⟩;rw[s]at c g d⊢;have e:(x::(m++[y])).length=m.length+2:=by simp
   have j:(p++(x::(m++[y]))++q)[p.length+m.length+1]?=some y:=by
    rw[alp,ale omq,show p.length+m.length+1-p.length=m.length+1 from omq,alT,aml,alp,ale (ak7 _),anK];rfl
   have l:(p++(x::(m++[y]))++q)[p.length]?=some x:=by
    rw[alp,ale (ak7 _),anK];rfl
   have f:(p++(x::(m++[y]))++q).length=p.length+m.length+2+q.length:=by simp;omega
   have i:((p.length+(x::(m++[y])).length:Nat):Int)-1=((p.length+m.length+1:Nat):Int):=by rw[e];omega
   rw[i];have b:cT N (n+1) ((p.length:Int),((p.length+m.length+1:Nat):Int),p++(x::(m++[y]))++q)=cT N n (((p.length+1:Nat):Int),((p.length+m.length:Nat):Int),(p++[y])++m++(x::q)):=by
    rw[SR,ak3 (by omega:(p.length:Int)<((p.length+m.length+1:Nat):Int))];simp only[ala,bc j,bc l,akX,JP,al5,ams,f];rw[OZ (by omega:p.length+m.length+1<p.length+m.length+2+q.length),OZ (by omega:p.length<p.length+m.length+2+q.length)];simp only[ala];rw[bu omq,WV omq omq,show p.length+m.length+1-1=p.length+m.length from omq];rw[show p++(x::(m++[y]))++q=p++(x::m++[y])++q from rfl,abG]
   rw[b];have o:((p++[y])++m++(x::q)).length=p.length+m.length+2+q.length:=by simp;omega
   rw[f]at d;have h:=t m (p++[y]) (x::q) n (by simp at c;omega) (by simp at g;omega) (by rw[o];omega);rw[show((p++[y]).length:Int)=((p.length+1:Nat):Int) from by simp,show(((p++[y]).length+m.length:Nat):Int)-1=((p.length+m.length:Nat):Int) from by simp;omega]at h;rw[h];simp
end Go.Fw
def ane:=@Nat.pow_succ
def anU:=@List.reverse_cons
def anV:=@Int.fdiv_eq_ediv_of_nonneg
namespace Go.Fw
open Go
def leB:Nat->Nat->List UInt8
 |0,_=>[]
 |f+1,n=>if n=0 then [] else UInt8.ofNat (n % 256)::leB f (n / 256)
def O0:∀(f n:Nat),(leB f n).length<=f
 |0,_=>ak7 _
 |f+1,n=>by
  unfold leB;split
  ·simp
  ·simp only[ak4];have:=O0 f (n / 256);omega
def lW(n:Nat):toB (IntKind.wrap .u8 (n:Int))=some (UInt8.ofNat (n % 256)):=by
 unfold toB;rw[IntKind.wrap_u8,ali ⟨omq,omq⟩];congr 1
def adD(n:Nat):wY .u64 (n:Int) 8=((n / 256:Nat):Int):=by
 show(n:Int).fdiv (2 ^ (8:Nat))=_;rw[anV _ deq];omega
def P4(N n:Nat)(i2:Int)(a:Bs):kD N (n+1) (i2,a)=bif decide (i2>0) then((toB (IntKind.wrap .u8 i2)).bind λb=>(app 1 a [b]).bind λc=>kD N n (wY .u64 i2 8,c)) else some a:=rfl
def ag5(N:Nat):∀(f a n:Nat)(l:List UInt8),a<256 ^ f->f<n->l.length+f<1000->kD N n ((a:Int),l)=some (l++leB f a):=by
 intro f;induction f with
 |zero=>
  intro a n l c e _;obtain⟨n,rfl⟩:∃m,n=m+1:=⟨n-1,omq⟩;have:a=0:=by simpa using c
  subst this;rw[P4,ak0 siq];simp[leB]
 |succ f g=>
  intro a n l c e h;obtain⟨n,rfl⟩:∃m,n=m+1:=⟨n-1,omq⟩;rw[P4];by_cases d:a=0
  ·subst d;rw[ak0 siq];simp[leB]
  ·rw[ak3 (by omega:(a:Int)>0),ala,lW,adD];simp only[akX];have b:app 1 l [UInt8.ofNat (a % 256)]=some (l++[UInt8.ofNat (a % 256)]):=by
    unfold app ba;rw[ali ⟨by simp only[ak4,alq];omega,by simp only[ak4,alq];omega⟩]
   rw[b];simp only[akX];rw[g (a / 256) n _ (by rw[ane]at c;omega) omq soq];simp[leB,d]
def dj(n:Nat):List UInt8:=(leB 8 (n / 256)).reverse++[UInt8.ofNat (n % 256)]
def U2(N:Nat)(b:20<=N)(n:Nat)(c:n<18446744073709551616):rV N (n:Int)=some (dj n):=by
 unfold rV syv;rw[lW,adD];simp only[akX];rw[ag5 N 8 (n / 256) N _ omq omq siq];simp only[akX];have a:=O0 8 (n / 256);have h:=Vn N 9 ([UInt8.ofNat (n % 256)]++leB 8 (n / 256)) [] [] N soq soq soq;simp only[alN,alm,alq,alS]at h;have e:aC .i64 ((([UInt8.ofNat (n % 256)]++leB 8 (n / 256)).length:Nat):Int) 1=((([UInt8.ofNat (n % 256)]++leB 8 (n / 256)).length:Nat):Int)-1:=by
  show IntKind.i64.wrap _=_;rw[alA _ soq]
 rw[e];rw[show(0:Int)=((0:Nat):Int) from rfl,h];simp[dj]
def beN(l:List UInt8):Nat:=l.foldl (λn x=>256*n+x.toNat) 0
def lE(a:List UInt8)(x:UInt8):beN (a++[x])=256*beN a+x.toNat:=by
 unfold beN;rw[List.foldl_append];rfl
def YP:∀(f n:Nat),n<256 ^ f->beN (leB f n).reverse=n
 |0,n,h=>by
  have:n=0:=by simpa using h
  subst this;rfl
 |f+1,n,h=>by
  unfold leB;split
  ·rename_i a;subst a;rfl
  ·rw[anU,lE,YP f (n / 256) (by rw[ane]at h;omega)];have:(UInt8.ofNat (n % 256)).toNat=n % 256:=by simp
   rw[this];omega
def aeC(n:Nat)(h:n<18446744073709551616):beN (dj n)=n:=by
 unfold dj;rw[lE,YP 8 (n / 256) omq];have:(UInt8.ofNat (n % 256)).toNat=n % 256:=by simp
 rw[this];omega
def JQ(n:Nat):1<=(dj n).length/\(dj n).length<=9:=by
 unfold dj;have:=O0 8 (n / 256);simp;omega
end Go.Fw
namespace Go.Fw
open Go
def P5:∀(f k n:Nat),n<256 ^ k->(leB f n).length<=k
 |0,_,_,_=>al2 _
 |f+1,k,n,h=>by
  unfold leB;split
  ·exact al2 _
  ·rename_i a;cases k with
   |zero=>simp at h;omega
   |succ k=>
    have:=P5 f k (n / 256) (by rw[ane]at h;omega);simp only[ak4];omega
def ST:∀(f n:Nat),0<n->n<256 ^ f->∃x r,(leB f n).reverse=x::r/\x.toNat≠0
 |0,n,a,h=>by simp at h;omega
 |f+1,n,a,h=>by
  unfold leB;rw[alJ omq,anU];by_cases b:n / 256=0
  ·refine⟨UInt8.ofNat (n % 256),[],?_,?_⟩
   ·rw[b];cases f<;>simp[leB]
   ·have:(UInt8.ofNat (n % 256)).toNat=n % 256:=by simp
    rw[this];omega
  ·obtain⟨x,r,e,c⟩:=ST f (n / 256) omq (by rw[ane]at h;omega);exact⟨x,r++[UInt8.ofNat (n % 256)],by rw[e];rfl,c⟩
def abI(n:Nat)(c:0<n)(h:n<18446744073709551616):∃x r,dj n=x::r/\x.toNat≠0:=by
 unfold dj;by_cases a:n / 256=0
 ·refine⟨UInt8.ofNat (n % 256),[],?_,?_⟩
  ·rw[a];simp[leB]
  ·have:(UInt8.ofNat (n % 256)).toNat=n % 256:=by simp
   rw[this];omega
 ·obtain⟨x,r,e,b⟩:=ST 8 (n / 256) omq omq;exact⟨x,r++[UInt8.ofNat (n % 256)],by rw[e];rfl,b⟩
def P6(n:Nat)(h:n<256):dj n=[UInt8.ofNat n]:=by
 unfold dj;rw[show n / 256=0 from omq,show n % 256=n from omq];simp[leB]
def L5(n:Nat)(h:n<4294967296):(dj n).length<=4:=by
 unfold dj;have:=P5 8 3 (n / 256) omq;simp;omega
def aF(n:Nat):List UInt8:=if n<128 then dj n else UInt8.ofNat (128+(dj n).length)::dj n
def nI(n:Nat)(h:n<4294967296):1<=(aF n).length/\(aF n).length<=5:=by
 have a:=JQ n;have b:=L5 n h;unfold aF;split
 ·omega
 ·simp only[ak4];omega
def Nu(N:Nat)(b:20<=N)(n:Nat)(d:n<=2147483647):mF N (n:Int)=some (aF n,0):=by
 unfold mF syv;rw[ak0 (by omega:¬(n:Int)<0),ak0 (by omega:¬(n:Int)>2147483647),Go.IntWalk.u64_in _ omq,U2 N b n omq];simp only[ak5,akX];by_cases h:n<128
 ·rw[ak3 (by omega:(n:Int)<128)];simp[aF,h]
 ·rw[ak0 (by omega:¬(n:Int)<128)];have c:=L5 n omq;have e:ay .i64 128 (((dj n).length:Nat):Int)=((128+(dj n).length:Nat):Int):=by
   show IntKind.i64.wrap _=_;rw[alA _ omq];omega
  rw[e,lW,show(128+(dj n).length) % 256=128+(dj n).length from omq];simp only[ak5,akX];have a:app 1 [UInt8.ofNat (128+(dj n).length)] (dj n)=some ([UInt8.ofNat (128+(dj n).length)]++dj n):=by
   unfold app ba;rw[ali ⟨by simp only[ak4,alq];omega,by simp only[ak4,alq];omega⟩]
  rw[a];simp[aF,h]
def P7(N n:Nat)(l:Bs)(a c b:Int):eL N (n+1) (l,a,c,b,0,0)=bif decide (b>a) then some (l,a,c,0,0) else((ix l b).bind λd=>eL N n (l,a,bits .or .i64 (Pf .i64 c 8) (IntKind.wrap .i64 (d.toNat:Int)),ay .i64 b 1,0,0)):=rfl
def Bp(b:UInt8):IntKind.wrap .i64 (b.toNat:Int)=(b.toNat:Int):=by
 have:=b.toNat_lt;rw[alA _ omq]
def IZ(N:Nat)(b:UInt8)(m a:List UInt8)(p:m.length<=4):∀(k n i L:Nat),m.length-i=k->i<=m.length->k<n->L<256 ^ i->
 eL N n (b::(m++a),(m.length:Int),(L:Int),((i+1:Nat):Int),0,0)=some (b::(m++a),(m.length:Int),(((m.drop i).foldl (λn x=>256*n+x.toNat) L:Nat):Int),0,0):=by
 intro k;induction k with
 |zero=>
  intro n i L f e g _;obtain⟨n,rfl⟩:∃m,n=m+1:=⟨n-1,omq⟩;rw[P7,ak3 (by omega:((i+1:Nat):Int)>(m.length:Int)),anr omq];rfl
 |succ k h=>
  intro n i L f e g l;obtain⟨n,rfl⟩:∃m,n=m+1:=⟨n-1,omq⟩;have c:i<m.length:=omq;have d:(b::(m++a))[i+1]?=some m[i]:=by
   rw[aml,ak8 c,akZ c]
  rw[P7,ak0 (by omega:¬((i+1:Nat):Int)>(m.length:Int)),ak5,bc d];simp only[akX];have q:(256:Nat) ^ i<=256 ^ 4:=anf deq omq;have j:(256:Nat) ^ 4=4294967296:=by decide
  have o:=(m[i]).toNat_lt;rw[Bp,Vm omq omq omq omq,bu omq,aly c,ao1];rw[show(256*(L:Int)+((m[i]).toNat:Int))=((256*L+(m[i]).toNat:Nat):Int) from omq];exact h n (i+1) _ omq omq omq (by rw[ane];omega)
def abJ(N:Nat)(t:20<=N)(n:Nat)(u:n<=2147483647)(a:List UInt8):dA N (aF n++a)=some ((n:Int),((aF n).length:Int),0,0):=by
 unfold dA syv;by_cases h:n<128
 ·have e:aF n=[UInt8.ofNat n]:=by simp[aF,h,P6 n omq]
  rw[e];have g:(((([UInt8.ofNat n]++a).length:Nat):Int)==0)=false:=by simp;omega
  have c:ix ([UInt8.ofNat n]++a) 0=some (UInt8.ofNat n):=rfl;have k:(UInt8.ofNat n).toNat=n:=by simp;omega
  rw[g];simp only[ak5,c,akX,k];rw[ak3 (by omega:(n:Int)<128),ala,alA _ omq];rfl
 ·have j:=L5 n omq;have p:=(JQ n).1;have e:aF n=UInt8.ofNat (128+(dj n).length)::dj n:=by simp[aF,h]
  obtain⟨x,r,q,s⟩:=abI n omq omq;rw[e,alT];generalize o:UInt8.ofNat (128+(dj n).length)=b;have i:b.toNat=128+(dj n).length:=by rw[<-o];simp;omega
  have g:((((b::(dj n++a)).length:Nat):Int)==0)=false:=by simp;omega
  have c:ix (b::(dj n++a)) 0=some b:=rfl;have d:ix (b::(dj n++a)) 1=some x:=by rw[q];rfl
  have f:aC .i64 (b.toNat:Int) 128=((dj n).length:Int):=by
   show IntKind.i64.wrap _=_;rw[i,alA _ omq];omega
  rw[g];simp only[ak5,c,akX,Bp];rw[ak0 (by omega:¬(b.toNat:Int)<128),f];rw[show((((dj n).length:Nat):Int)==0)=false from alu.2 omq,ak0 (by omega:¬(((dj n).length:Nat):Int)>4),ak0 (by simp;omega:¬(((b::(dj n++a)).length:Nat):Int)<=(((dj n).length:Nat):Int))];simp only[ak5];have l:=IZ N b (dj n) a j (dj n).length N 0 0 omq omq omq siq;rw[alR,show(dj n).foldl (λn x=>256*n+x.toNat) 0=n from aeC n omq]at l;rw[show eL N N (b::(dj n++a),(((dj n).length:Nat):Int),0,1,0,0)=_ from l];simp only[akX,d];rw[show((x.toNat:Int)==0)=false from alu.2 omq,ak0 (by omega:¬(n:Int)<128),ak0 (by omega:¬(n:Int)>2147483647)];have m:ay .i64 1 (((dj n).length:Nat):Int)=(((b::dj n).length:Nat):Int):=by
   show IntKind.i64.wrap _=_;rw[alA _ omq];simp;omega
  rw[m];rfl
end Go.Fw
def aoa:=@UInt8.toNat_inj
namespace Go.Fw
open Go
def ag6:∀(f:Nat)(l:List UInt8),l.length=f->beN l<256 ^ f:=by
 intro f;induction f with
 |zero=>
  intro l h;have:l=[]:=alF h;subst this;decide
 |succ f c=>
  intro l h;obtain⟨m,d,b⟩:∃m d,l=m++[d]:=⟨l.dropLast,l.getLast (by intro a;subst a;simp at h),(amB (by intro a;subst a;simp at h)).symm⟩;subst b;have:=c m (by simpa using h);have e:=d.toNat_lt;rw[lE,ane];omega
def aeD:∀(l:List UInt8)(x:UInt8)(r:List UInt8),l=x::r->x.toNat≠0->0<beN l:=by
 intro l x r h d;subst h;have b:∀(r:List UInt8)(a:Nat),0<a->0<r.foldl (λn x=>256*n+x.toNat) a:=by
  intro r;induction r with
  |nil=>intro a h;exact h
  |cons y r c=>intro a h;exact c _ (by show 0<256*a+y.toNat;omega)
 exact b r _ (by show 0<256*0+x.toNat;omega)
def ag7:∀(f:Nat)(l:List UInt8),l.length<=f->(∀x r,l=x::r->x.toNat≠0)->(leB f (beN l)).reverse=l:=by
 intro f;induction f with
 |zero=>
  intro l h _;have:l=[]:=alF omq;subst this;rfl
 |succ f n=>
  intro l h j;cases a:l with
  |nil=>simp[beN,leB]
  |cons x r=>
   have b:=j x r a;have e:=aeD l x r a b;rw[<-a];obtain⟨m,d,c⟩:∃m d,l=m++[d]:=⟨l.dropLast,l.getLast (by rw[a];simp),(amB (by rw[a];simp)).symm⟩;have p:=d.toNat_lt;have o:beN l=256*beN m+d.toNat:=by rw[c,lE]
   have g:beN l / 256=beN m:=omq;have i:beN l % 256=d.toNat:=omq;unfold leB;rw[alJ omq,g,i,anU,n m (by rw[c]at h;simp at h;omega) (λy s k=>by
    rw[c,k]at a;simp only[alT,am2]at a;rw[a.1];exact b)]
   rw[c];simp
def ag8(l:List UInt8)(e:l.length<=9)(x:UInt8)(r:List UInt8)(a:l=x::r)(b:x.toNat≠0∨r=[]):dj (beN l)=l:=by
 obtain⟨m,d,c⟩:∃m d,l=m++[d]:=⟨l.dropLast,l.getLast (by rw[a];simp),(amB (by rw[a];simp)).symm⟩;have h:=d.toNat_lt;have g:beN l=256*beN m+d.toNat:=by rw[c,lE]
 unfold dj;rw[show beN l / 256=beN m from omq,show beN l % 256=d.toNat from omq,ag7 8 m (by rw[c]at e;simp at e;omega) (λy s f=>by
  rw[c,f]at a;simp only[alT,am2]at a;rcases b with b|b
  ·rw[a.1];exact b
  ·rw[b]at a;simp at a),c]
 simp
def abK(N:Nat)(H:20<=N)(a:List UInt8)(I:a.length<4611686018427387904)(L k o:Int)(h:dA N a=some (L,k,0,o)):∃(n:Nat)(i:List UInt8),n<=2147483647/\a=aF n++i/\L=(n:Int)/\k=((aF n).length:Int):=by
 unfold dA lh syv at h;cases a with
 |nil=>cases h
 |cons b r=>
  have C:((((b::r).length:Nat):Int)==0)=false:=alu.2 (by simp only[ak4];omega);have p:ix (b::r) 0=some b:=rfl;have J:=b.toNat_lt;rw[C]at h;simp only[ak5,p,akX,Bp]at h;by_cases v:(b.toNat:Int)<128
  ·rw[ak3 v]at h;simp only[ala,ak1,aln]at h;obtain⟨rfl,rfl,_,_⟩:=h;have e:aF b.toNat=[b]:=by
    unfold aF;rw[ali omq,P6 _ omq];simp
   exact⟨b.toNat,r,omq,by rw[e];rfl,rfl,by rw[e];rfl⟩
  ·rw[ak0 v]at h;obtain⟨c,E⟩:∃c:Nat,b.toNat=128+c:=⟨b.toNat-128,omq⟩;have g:aC .i64 (b.toNat:Int) 128=(c:Int):=by
    show IntKind.i64.wrap _=_;rw[E,alA _ omq];omega
   rw[g]at h;simp only[ak5,akX]at h;by_cases D:c=0
   ·subst D;cases h
   ·rw[show((c:Int)==0)=false from alu.2 omq]at h;simp only[ak5]at h;by_cases w:(c:Int)>4
    ·rw[ak3 w]at h;cases h
    ·rw[ak0 w]at h;simp only[ak5]at h;by_cases j:(((b::r).length:Nat):Int)<=(c:Int)
     ·rw[ak3 j]at h;cases h
     ·rw[ak0 j]at h;simp only[ak5]at h;simp only[ak4]at j;have t:r=r.take c++r.drop c:=(amk c r).symm;have f:(r.take c).length=c:=by rw[alB];omega
      have A:=IZ N b (r.take c) (r.drop c) omq (r.take c).length N 0 0 omq omq omq siq;rw[alR,<-t,f]at A;rw[show eL N N (b::r,(c:Int),0,1,0,0)=_ from A]at h;obtain⟨x,s,B⟩:∃x s,r.take c=x::s:=by
       cases G:r.take c with
       |nil=>rw[G]at f;simp at f;omega
       |cons x s=>exact⟨x,s,rfl⟩
      have d:ix (b::r) 1=some x:=by rw[t,B];rfl
      simp only[akX,d]at h;by_cases l:((x.toNat:Int)==0)=true
      ·rw[l]at h;cases h
      ·rw[show((x.toNat:Int)==0)=false from by simpa using l]at h;have u:x.toNat≠0:=by
        intro F;apply l;rw[F];rfl
       simp only[ak5]at h;have m:(r.take c).foldl (λn x=>256*n+x.toNat) 0=beN (r.take c):=rfl;rw[m]at h;by_cases y:((beN (r.take c):Nat):Int)<128
       ·rw[ak3 y]at h;cases h
       ·rw[ak0 y]at h;simp only[ak5]at h;by_cases z:((beN (r.take c):Nat):Int)>2147483647
        ·rw[ak3 z]at h;cases h
        ·rw[ak0 z]at h;simp only[ak5,ak1,aln]at h;obtain⟨rfl,rfl,_⟩:=h;have q:=ag8 (r.take c) omq x s B (.inl u);have e:aF (beN (r.take c))=b::r.take c:=by
          unfold aF;rw[alJ omq,q,f];congr 1;apply aoa.1;simp;omega
         refine⟨beN (r.take c),r.drop c,omq,by rw[e,alT,<-t],rfl,?_⟩;rw[e];show IntKind.i64.wrap _=_;rw[alA _ omq];simp only[ak4,f];omega
end Go.Fw
namespace Go.Fw
open Go
def idB(c:Nat)(k:Bool)(num:Nat):UInt8:=UInt8.ofNat (64*c+(if k then 32 else 0)+num)
def P8:∀(c:Fin 4)(k:Bool)(num:Fin 31),dY (c.val:Int) k (num.val:Int)=some (((idB c.val k num.val).toNat:Int),0)/\dq ((idB c.val k num.val).toNat:Int)=some ((c.val:Int),k,(num.val:Int),0):=alC krq
def I0{c num:Nat}(k:Bool)(a:c<4)(b:num<31):dY (c:Int) k (num:Int)=some (((idB c k num).toNat:Int),0):=(P8 ⟨c,a⟩ k ⟨num,b⟩).1
def WW{c num:Nat}(k:Bool)(a:c<4)(b:num<31):dq ((idB c k num).toNat:Int)=some ((c:Int),k,(num:Int),0):=(P8 ⟨c,a⟩ k ⟨num,b⟩).2
def U3:∀n:Fin 256,(match dq ((UInt8.ofNat n.val).toNat:Int) with
 |some (c,k,num,e)=>decide (e=0->0<=c/\c<4/\0<=num/\num<31/\UInt8.ofNat n.val=idB c.toNat k num.toNat)
 |none=>false)=true:=alC krq
def Nv(b:UInt8):∃c k a e,dq (b.toNat:Int)=some (c,k,a,e)/\(e=0->∃f d:Nat,f<4/\d<31/\c=(f:Int)/\a=(d:Int)/\b=idB f k d):=by
 have h:=U3 ⟨b.toNat,b.toNat_lt⟩;rw[show UInt8.ofNat (⟨b.toNat,b.toNat_lt⟩:Fin 256).val=b from by simp]at h;cases g:dq (b.toNat:Int) with
 |none=>rw[g]at h;cases h
 |some x=>
  obtain⟨c,k,a,e⟩:=x;rw[g]at h;refine⟨c,k,a,e,rfl,λj=> ?_⟩;obtain⟨l,m,n,o,i⟩:=alC h j;exact⟨c.toNat,a.toNat,omq,omq,omq,omq,i⟩
def qd(b:UInt8)(r:List UInt8):slc (b::r) 1 ((b::r).length:Int)=some r:=by
 unfold slc;rw[ali ⟨by decide,by simp only[ak4];omega,omq⟩,al5,amC];rfl
def bO{a b:Int}(h: -4611686018427387904<=a+b/\a+b<=4611686018427387904):ay .i64 a b=a+b:=by
 show IntKind.i64.wrap _=_;rw[alA _ omq]
def pF{a b:Int}(h: -4611686018427387904<=a-b/\a-b<=4611686018427387904):aC .i64 a b=a-b:=by
 show IntKind.i64.wrap _=_;rw[alA _ omq]
def WX(N:Nat)(f:20<=N){c num n:Nat}(k:Bool)(g:c<4)(i:num<31)(h:n<=2147483647)(a:List UInt8):
 bU N (idB c k num::(aF n++a))=some (((c:Int),(num:Int),k,(n:Int),((1+(aF n).length:Nat):Int)),0,0):=by
 have j:=nI n omq;unfold bU syv;have e:((((idB c k num::(aF n++a)).length:Nat):Int)==0)=false:=alu.2 (by simp only[ak4];omega);have b:ix (idB c k num::(aF n++a)) 0=some (idB c k num):=rfl;rw[e,qd];simp only[ak5,b,akX,WW k g i,abJ N f n h a];have d:ay .i64 1 (((aF n).length:Nat):Int)=((1+(aF n).length:Nat):Int):=by
  rw[bO omq];omega
 rw[d];rfl
def F4(N:Nat)(u:20<=N)(a:List UInt8)(v:a.length<4611686018427387904)(c num L sz o:Int)(k:Bool)(h:bU N a=some ((c,num,k,L,sz),0,o)):
 ∃(f d n:Nat)(e:List UInt8),f<4/\d<31/\n<=2147483647/\a=idB f k d::(aF n++e)/\c=(f:Int)/\num=(d:Int)/\L=(n:Int)/\sz=((1+(aF n).length:Nat):Int):=by
 unfold bU syv at h;cases a with
 |nil=>cases h
 |cons b r=>
  have t:((((b::r).length:Nat):Int)==0)=false:=alu.2 (by simp only[ak4];omega);have l:ix (b::r) 0=some b:=rfl;obtain⟨c1,C,s,p,hid,i⟩:=Nv b;rw[t,qd]at h;simp only[ak5,l,akX,hid]at h;by_cases j:p=0
  ·obtain⟨f,d,w,z,rfl,rfl,rfl⟩:=i j;subst j;rw[show((0:Int) !=0)=false from rfl]at h;simp only[ak5]at h;cases m:dA N r with
   |none=>rw[m]at h;cases h
   |some x=>
    obtain⟨A,D,q,E⟩:=x;rw[m]at h;simp only[akX]at h;by_cases g:q=0
    ·subst g;rw[show((0:Int) !=0)=false from rfl]at h;simp only[ak5,ak1,aln]at h;obtain⟨⟨rfl,rfl,rfl,rfl,rfl⟩,_⟩:=h;obtain⟨n,e,y,rfl,rfl,rfl⟩:=abK N u r (by simp at v;omega) _ _ _ m;have B:=nI n omq;refine⟨f,d,n,e,w,z,y,rfl,rfl,rfl,rfl,?_⟩;rw[bO omq];omega
    ·rw[show(q !=0)=true from by simpa using g]at h;simp only[ala,ak1,aln]at h;omega
  ·rw[show(p !=0)=true from by simpa using j]at h;simp only[ala,ak1,aln]at h;omega
end Go.Fw
def alx:=@List.flatten_cons
namespace Go.Fw
open Go
def SU(N n:Nat)(c d:List Bs)(i2 i4 i5:Int):cM N (n+1) (c,i2,d,i4,i5)=bif decide (i5<i4) then((ix d i5).bind λe=>((bif decide (ay .i64 i2 (e.length:Int)<0) then none else some (c,ay .i64 i2 (e.length:Int),d,i4,i5):Option (List Bs×Int×List Bs×Int×Int))).bind λ(g,f,h,a,b)=>
 cM N n (g,f,h,a,ay .i64 b 1)) else some (c,i2):=rfl
def SW(N n:Nat)(c:List Bs)(b a:Int)(d:Bs):cN N (n+1) (c,b,a,d)=bif decide (a<b) then((ix c a).bind λe=>(app 1 d e).bind λf=>cN N n (c,b,ay .i64 a 1,f)) else some d:=rfl
def aiK(N:Nat)(xs:List Bs)(g:xs.length<4611686018427387904):∀(k n i s:Nat),xs.length-i=k->i<=xs.length->k<n->s+(xs.drop i).flatten.length<=1099511627776->
 cM N n (xs,(s:Int),xs,(xs.length:Int),(i:Int))=some (xs,((s+(xs.drop i).flatten.length:Nat):Int)):=by
 intro k;induction k with
 |zero=>
  intro n i s c b d _;obtain⟨n,rfl⟩:∃m,n=m+1:=⟨n-1,omq⟩;rw[SU,ak0 (by omega:¬(i:Int)<(xs.length:Int)),anr omq];rfl
 |succ k f=>
  intro n i s c b d e;obtain⟨n,rfl⟩:∃m,n=m+1:=⟨n-1,omq⟩;have a:i<xs.length:=omq;rw[aly a,alx,ak2]at e;rw[SU,ak3 (by omega:(i:Int)<(xs.length:Int)),ala,bc (akZ a)];simp only[akX];rw[bO omq,show(s:Int)+((xs[i].length:Nat):Int)=((s+xs[i].length:Nat):Int) from omq,ak0 (by omega:¬((s+xs[i].length:Nat):Int)<0)];simp only[ak5,akX];rw[bu omq,f n (i+1) _ omq omq omq omq,aly a,alx,ak2,anc]
def aiL(N:Nat)(xs:List Bs)(h:xs.length<4611686018427387904):∀(k n i:Nat)(l:Bs),xs.length-i=k->i<=xs.length->k<n->l.length+(xs.drop i).flatten.length<=1099511627776->
 cN N n (xs,(xs.length:Int),(i:Int),l)=some (l++(xs.drop i).flatten):=by
 intro k;induction k with
 |zero=>
  intro n i l d c e _;obtain⟨n,rfl⟩:∃m,n=m+1:=⟨n-1,omq⟩;rw[SW,ak0 (by omega:¬(i:Int)<(xs.length:Int)),anr omq];simp
 |succ k g=>
  intro n i l d c e f;obtain⟨n,rfl⟩:∃m,n=m+1:=⟨n-1,omq⟩;have a:i<xs.length:=omq;rw[aly a,alx,ak2]at f;rw[SW,ak3 (by omega:(i:Int)<(xs.length:Int)),ala,bc (akZ a)];simp only[akX];have b:app 1 l xs[i]=some (l++xs[i]):=by
   unfold app ba;rw[ali ⟨omq,omq⟩]
  rw[b];simp only[akX];rw[bu omq,g n (i+1) _ omq omq omq (by rw[ak2];omega),aly a,alx,alp]
def qe(N:Nat)(xs:List Bs)(c:xs.length<N)(e:N<4611686018427387904)(d:xs.flatten.length<=1099511627776):bI N xs=some xs.flatten:=by
 unfold bI syv;have a:=aiK N xs omq xs.length N 0 0 rfl omq c (by simpa using d);rw[alR,alS]at a;rw[show cM N N (xs,0,xs,(xs.length:Int),0)=_ from a];simp only[akX];have f:fH ((xs.flatten.length:Nat):Int)=some []:=by
  unfold fH ba;rw[ak3 (by omega:(0:Int)<=((xs.flatten.length:Nat):Int)),ak3 (by omega:((xs.flatten.length:Nat):Int)<=((1099511627776:Nat):Int))];rfl
 rw[f];simp only[akX];have b:=aiL N xs omq xs.length N 0 [] rfl omq c (by simpa using d);rw[alR,alN]at b;rw[show cN N N (xs,(xs.length:Int),0,[])=_ from b];rfl
def tlv(c:Nat)(k:Bool)(num:Nat)(body:List UInt8):List UInt8:=idB c k num::(aF body.length++body)
def kY(c:Nat)(k:Bool)(num:Nat)(body:List UInt8):(tlv c k num body).length=1+(aF body.length).length+body.length:=by
 unfold tlv;simp;omega
def cco(N:Nat)(xs:List Bs):cW N xs=bI N xs:=by
 unfold cW bI lu cM lx cN syv;rfl
def Nw(N:Nat)(b:20<=N)(a:N<4611686018427387904){c num:Nat}(k:Bool)(e:c<4)(f:num<31)(body:List UInt8)(d:body.length<=2147483647):oU N (c:Int) k (num:Int) body=some (tlv c k num body,0):=by
 have g:=nI body.length omq;unfold oU syv;rw[I0 k e f];simp only[akX];rw[show((0:Int) !=0)=false from rfl,Nu N b body.length d];simp only[ak5,akX];rw[show((0:Int) !=0)=false from rfl,JP];simp only[ak5,akX];rw[cco,qe N _ soq a soq];simp[tlv]
def SX(N:Nat)(b:20<=N)(a:N<4611686018427387904){c num:Nat}(k:Bool)(e:c<4)(f:num<31)(xs:List Bs)(g:xs.length<N)(d:xs.flatten.length<=2147483647):cr N (c:Int) k (num:Int) xs=some (tlv c k num xs.flatten,0):=by
 unfold cr syv;rw[qe N xs g a omq];simp only[akX];rw[Nw N b a k e f _ d];rfl
def SY(N:Nat)(b:20<=N)(a:N<4611686018427387904)(xs:List Bs)(e:xs.length<N)(d:xs.flatten.length<=2147483647):dr N xs=some (tlv 0 true 16 xs.flatten,0):=by
 unfold dr syv;rw[show cr N 0 true 16 xs=_ from SX N b a (c:=0) (num:=16) true omq omq xs e d];rfl
end Go.Fw
def alH:=@List.drop_of_length_le
def aoX:=@List.take_append
namespace Go.Fw
open Go
def O1{α:Type}(p s q:List α):slc (p++s++q) (p.length:Int) ((p.length+s.length:Nat):Int)=some s:=by
 unfold slc;rw[ali ⟨omq,omq,by simp only[ak2];omega⟩,al5,al5,alp,aoX,alw omq,amL,alH (ak7 _)];simp
abbrev aV:=Int×Int×Bool×Int×Int×Int
def iF(c:Nat)(k:Bool)(num:Nat)(body:List UInt8)(off:Nat):aV:=((c:Int),(num:Int),k,(off:Int),((off+1+(aF body.length).length:Nat):Int),((off+(tlv c k num body).length:Nat):Int))
def SZ(N:Nat)(g:20<=N){c num:Nat}(k:Bool)(i:c<4)(n:num<31)(p body s q:List UInt8)(j:(p++(tlv c k num body++s)++q).length<4611686018427387904)(h:body.length<=2147483647):
 cu N (p++(tlv c k num body++s)++q) (p.length:Int) ((p.length+(tlv c k num body++s).length:Nat):Int)=some (iF c k num body p.length,0,0):=by
 have l:=nI body.length omq;have m:=kY c k num body;simp only[ak2]at j;unfold cu syv;rw[ak3 (by omega:((p.length+(tlv c k num body++s).length:Nat):Int)<=((p.length+(tlv c k num body++s).length:Nat):Int)),ak3 (by simp only[ak2];omega:((p.length+(tlv c k num body++s).length:Nat):Int)<=(((p++(tlv c k num body++s)++q).length:Nat):Int))];simp only[amJ,ala,O1,akX];have b:=WX N g k i n h (body++s);rw[show idB c k num::(aF body.length++(body++s))=tlv c k num body++s from by simp[tlv]]at b;rw[b];simp only[akX];rw[show((0:Int) !=0)=false from rfl];simp only[ak5];have d:aC .i64 (aC .i64 ((p.length+(tlv c k num body++s).length:Nat):Int) (p.length:Int)) ((1+(aF body.length).length:Nat):Int)=((body.length+s.length:Nat):Int):=by
  rw[pF (a:=((p.length+(tlv c k num body++s).length:Nat):Int)) (by simp only[ak2];omega),pF (by simp only[ak2];omega)];simp only[ak2];omega
 rw[d,ak0 (by omega:¬((body.length+s.length:Nat):Int)<(body.length:Int))];have e:ay .i64 (p.length:Int) ((1+(aF body.length).length:Nat):Int)=((p.length+1+(aF body.length).length:Nat):Int):=by
  rw[bO omq];omega
 have f:ay .i64 ((p.length+1+(aF body.length).length:Nat):Int) (body.length:Int)=((p.length+(tlv c k num body).length:Nat):Int):=by
  rw[bO omq];omega
 rw[e,f];rfl
def Ta(N:Nat)(a:20<=N){c num:Nat}(k:Bool)(d:c<4)(g:num<31)(body:List UInt8)(b:body.length<=2147483647):bM N (tlv c k num body)=some (iF c k num body 0,0,0):=by
 have e:=nI body.length omq;have f:=kY c k num body;have h:=SZ N a k d g [] body [] [] (by simp only[ak2,alq];omega) b;simp only[alN,alm,alq,alS]at h;unfold bM syv;rw[show cu N (tlv c k num body) 0 (((tlv c k num body).length:Nat):Int)=_ from h];simp only[akX];rw[show((0:Int)==0)=true from rfl,ak0 (by show ¬((0+(tlv c k num body).length:Nat):Int)<_;omega)];rfl
def F5(N:Nat)(B:20<=N)(a:List UInt8)(i j:Nat)(D:i<=j)(I:j<=a.length)(H:a.length<4611686018427387904)(v:aV)(o:Int)(h:cu N a (i:Int) (j:Int)=some (v,0,o)):
 ∃(c num:Nat)(k:Bool)(body q:List UInt8),c<4/\num<31/\body.length<=2147483647/\a.drop i=tlv c k num body++q/\v=iF c k num body i/\i+(tlv c k num body).length<=j:=by
 unfold cu syv at h;rw[ak3 (by omega:(j:Int)<=(j:Int)),ak3 (by omega:(j:Int)<=((a.length:Nat):Int))]at h;have F:slc a (i:Int) (j:Int)=some ((a.take j).drop i):=by
  unfold slc;rw[ali ⟨omq,omq,omq⟩];simp
 simp only[amJ,ala,F,akX]at h;cases l:bU N ((a.take j).drop i) with
 |none=>rw[l]at h;cases h
 |some x=>
  obtain⟨⟨c1,u,t,L,M⟩,e,K⟩:=x;rw[l]at h;simp only[akX]at h;by_cases p:e=0
  ·subst p;obtain⟨c,num,n,b,C,G,J,m,rfl,rfl,rfl,rfl⟩:=F4 N B _ (by simp only[al0,alB];omega) _ _ _ _ _ _ l;rw[show((0:Int) !=0)=false from rfl]at h;simp only[ak5]at h;have E:=nI n omq;have r:j-i=1+(aF n).length+b.length:=by
    have:=alD List.length m;simp only[al0,alB,ak4,ak2]at this;omega
   have w:aC .i64 (aC .i64 (j:Int) (i:Int)) ((1+(aF n).length:Nat):Int)=(b.length:Int):=by
    rw[pF (a:=(j:Int)) omq,pF omq];omega
   rw[w]at h;by_cases s:((b.length:Nat):Int)<(n:Int)
   ·rw[ak3 s]at h;simp only[ala,ak1,aln]at h;omega
   ·rw[ak0 s]at h;have y:ay .i64 (i:Int) ((1+(aF n).length:Nat):Int)=((i+1+(aF n).length:Nat):Int):=by
     rw[bO omq];omega
    have z:ay .i64 ((i+1+(aF n).length:Nat):Int) (n:Int)=((i+1+(aF n).length+n:Nat):Int):=by
     rw[bO omq];omega
    rw[y,z]at h;simp only[ak5,ak1,aln]at h;have d:(b.take n).length=n:=by rw[alB];omega
    have f:b=b.take n++b.drop n:=(amk n b).symm;have g:=kY c t num (b.take n);rw[d]at g;refine⟨c,num,t,b.take n,b.drop n++a.drop j,C,G,omq,?_,?_,omq⟩
    ·have:a.drop i=(a.take j).drop i++a.drop j:=by
      have A:a=a.take j++a.drop j:=(amk j a).symm
      conv=>lhs;rw[A]
      rw[amL,alB];congr 1;rw[show i-min j a.length=0 from omq,alR]
     rw[this,m];unfold tlv;rw[d];simp only[alT,alp];rw[<-alp (b.take n),<-f]
    ·unfold iF;rw[d];refine h.1.symm.trans ?_;congr 5;rw[g];omega
  ·rw[show(e !=0)=true from by simpa using p]at h;simp only[ala,ak1,aln]at h;omega
end Go.Fw
namespace Go.Fw
open Go
abbrev TLV:=Nat×Bool×Nat×List UInt8
def ag(t:TLV):List UInt8:=tlv t.1 t.2.1 t.2.2.1 t.2.2.2
def okT(t:TLV):Prop:=t.1<4/\t.2.2.1<31/\t.2.2.2.length<=2147483647
def fG:Nat->List TLV->List aV
 |_,[]=>[]
 |off,t::r=>iF t.1 t.2.1 t.2.2.1 t.2.2.2 off::fG (off+(ag t).length) r
def ak(a:List TLV):List UInt8:=(a.map ag).flatten
def dt(t:TLV)(r:List TLV):ak (t::r)=ag t++ak r:=by simp[ak]
def F6(t:TLV):2<=(ag t).length:=by
 unfold ag;rw[kY];have:1<=(aF t.2.2.2.length).length:=by
  unfold aF;have:=JQ t.2.2.2.length;split
  ·omega
  ·simp only[ak4];omega
 omega
def eN:∀(a:List TLV),2*a.length<=(ak a).length
 |[]=>by simp[ak]
 |t::r=>by
  have b:=F6 t;have c:=eN r;rw[dt,ak2,ak4];omega
def Ex(N n:Nat)(a:Bs)(i2 i3:Int)(b:List aV):dG N (n+1) (a,i2,i3,0,0,b)=bif decide (i3<i2) then((cu N a i3 i2).bind λ(c,d)=>bif (d.1 !=0) then some (Sum.inl d) else((app 48 b [c]).bind λe=>dG N n (a,i2,c.2.2.2.2.2,0,0,e))) else some (Sum.inr (0,0,b)):=rfl
def Vp(l:List aV)(v:aV)(h:l.length<10000000):app 48 l [v]=some (l++[v]):=by
 unfold app ba;rw[ali ⟨by simp only[ak4,alq];omega,by simp only[ak4,alq];omega⟩]
def Vq(N:Nat)(e:20<=N):∀(a:List TLV)(p q:List UInt8)(n:Nat)(acc:List aV),(∀t∈a,okT t)->a.length<n->(p++ak a++q).length<4611686018427387904->acc.length+a.length<10000000->
 dG N n (p++ak a++q,((p.length+(ak a).length:Nat):Int),(p.length:Int),0,0,acc)=some (.inr (0,0,acc++fG p.length a))
 |[],p,q,n,acc,_,c,_,_=>by
  obtain⟨n,rfl⟩:∃m,n=m+1:=⟨n-1,by simp at c;omega⟩;rw[Ex,ak0 (by simp[ak])];simp[fG]
 |t::r,p,q,n,acc,g,c,d,f=>by
  obtain⟨n,rfl⟩:∃m,n=m+1:=⟨n-1,by simp at c;omega⟩;obtain⟨i,j,k⟩:=g t (alG ..);have o:=F6 t;rw[Ex,ak3 (by rw[dt,ak2];omega:((p.length:Nat):Int)<((p.length+(ak (t::r)).length:Nat):Int)),ala];have b:=SZ N e t.2.1 i j p t.2.2.2 (ak r) q (by rw[show tlv t.1 t.2.1 t.2.2.1 t.2.2.2++ak r=ak (t::r) from(dt t r).symm];exact d) k;rw[show tlv t.1 t.2.1 t.2.2.1 t.2.2.2++ak r=ak (t::r) from(dt t r).symm]at b;rw[b];simp only[akX];rw[show((0:Int) !=0)=false from rfl,ak5,Vp _ _ (by simp at f;omega)];simp only[akX];have h:=Vq N e r (p++ag t) q n (acc++[iF t.1 t.2.1 t.2.2.1 t.2.2.2 p.length]) (λx l=>g x (alj _ l)) (by simp at c;omega) (by rw[dt]at d;simp at d⊢;omega) (by simp at f⊢;omega);rw[show p++ag t++ak r++q=p++ak (t::r)++q from by rw[dt];simp,show(((p++ag t).length+(ak r).length:Nat):Int)=((p.length+(ak (t::r)).length:Nat):Int) from by rw[dt];simp;omega,ak2]at h;rw[show(iF t.1 t.2.1 t.2.2.1 t.2.2.2 p.length).2.2.2.2.2=((p.length+(ag t).length:Nat):Int) from rfl,h,fG];simp
def abL(N:Nat)(b:20<=N)(a:List TLV)(p q:List UInt8)(f:∀t∈a,okT t)(e:a.length<N)(c:(p++ak a++q).length<4611686018427387904)(d:a.length<10000000):
 bK N (p++ak a++q) (p.length:Int) ((p.length+(ak a).length:Nat):Int)=some (fG p.length a,0,0):=by
 unfold bK syv;rw[ak0 (by omega:¬((p.length:Nat):Int)<0),ak0 (by omega:¬((p.length:Nat):Int)>((p.length+(ak a).length:Nat):Int)),ak0 (by simp only[ak2];omega:¬((p.length+(ak a).length:Nat):Int)>(((p++ak a++q).length:Nat):Int))];simp only[ak5];rw[Vq N b a p q N [] f e c (by simpa using d)];simp
def ag9(N:Nat)(C:20<=N)(a:List UInt8)(j:Nat)(J:j<=a.length)(D:a.length<4611686018427387904):∀(n i:Nat)(acc:List aV)(y:(Int×Int)⊕(Int×Int×List aV)),i<=j->dG N n (a,(j:Int),(i:Int),0,0,acc)=some y->
 (∃e o,y=.inl (e,o)/\e≠0)∨∃l,(∀t∈l,okT t)/\(a.take j).drop i=ak l/\y=.inr (0,0,acc++fG i l):=by
 intro n;induction n with
 |zero=>intro i acc y _ h;cases h
 |succ n L=>
  intro i acc y H h;rw[Ex]at h;by_cases I:i<j
  ·rw[ak3 (by omega:(i:Int)<(j:Int)),ala]at h;cases A:cu N a (i:Int) (j:Int) with
   |none=>rw[A]at h;cases h
   |some x=>
    obtain⟨v,e,o⟩:=x;rw[A]at h;simp only[akX]at h;by_cases s:e=0
    ·subst s;obtain⟨c,d,k,b,q,F,K,E,B,rfl,w⟩:=F5 N C a i j H J D v o A;rw[show((0:Int) !=0)=false from rfl,ak5]at h;cases f:app 48 acc [iF c k d b i] with
     |none=>rw[f]at h;cases h
     |some M=>
      rw[f]at h;simp only[akX]at h;have u:M=acc++[iF c k d b i]:=by
       unfold app at f;split at f
       ·cases f;rfl
       ·cases f
      subst u;have g:(a.take j).drop i=tlv c k d b++(a.take j).drop (i+(tlv c k d b).length):=by
       have m:(a.take j).drop i=(a.drop i).take (j-i):=by rw[aoj]
       have p:(a.take j).drop (i+(tlv c k d b).length)=(a.drop (i+(tlv c k d b).length)).take (j-(i+(tlv c k d b).length)):=by rw[aoj]
       have r:a.drop (i+(tlv c k d b).length)=q:=by
        rw[<-amG,B,amL,alH (ak7 _)];simp
       rw[m,p,r,B,aoX,alw omq];congr 2;omega
      rcases L (i+(tlv c k d b).length) _ y w h with G|⟨l,m,p,r⟩
      ·exact .inl G
      ·refine .inr ⟨(c,k,d,b)::l,?_,?_,?_⟩
       ·intro t z;rcases alr.1 z with rfl|z
        ·exact⟨F,K,E⟩
        ·exact m t z
       ·rw[g,p,dt];rfl
       ·rw[r,fG];simp[ag]
    ·rw[show(e !=0)=true from by simpa using s,cond_true]at h;cases h;exact .inl ⟨e,o,rfl,s⟩
  ·rw[ak0 (by omega:¬(i:Int)<(j:Int))]at h;cases h;refine .inr ⟨[],by simp,?_,by simp[fG]⟩;have:i=j:=omq;subst this;rw[alH (by rw[alB];omega)];rfl
def L6(N:Nat)(k:20<=N)(a:List UInt8)(i j:Nat)(c:i<=j)(n:j<=a.length)(m:a.length<4611686018427387904)(l:List aV)(o:Int)(h:bK N a (i:Int) (j:Int)=some (l,0,o)):
 ∃b,(∀t∈b,okT t)/\(a.take j).drop i=ak b/\l=fG i b:=by
 unfold bK syv at h;rw[ak0 (by omega:¬((i:Nat):Int)<0),ak0 (by omega:¬((i:Nat):Int)>(j:Int)),ak0 (by omega:¬((j:Nat):Int)>((a.length:Nat):Int))]at h;simp only[ak5]at h;cases d:dG N N (a,(j:Int),(i:Int),0,0,[]) with
 |none=>rw[d]at h;cases h
 |some y=>
  rw[d]at h;rcases ag9 N k a j n m N i [] y c d with⟨e,q,rfl,p⟩|⟨b,f,g,rfl⟩
  ·simp only[akX,ak1,aln]at h;omega
  ·simp only[akX,ak1,aln]at h;exact⟨b,f,g,by rw[<-h.1];simp⟩
end Go.Fw
def amR:=@Bool.not_false
namespace Go.Fw
open Go
def YQ(v:aV)(c num:Int)(k:Bool):eu v c k num=some (bif (v.1==c) then(bif (v.2.2.1==k) then(v.2.1==num) else false) else false):=by
 obtain⟨a,b,d,e,f,g⟩:=v;unfold eu syv;simp only;cases (a==c)<;>cases (d==k)<;>rfl
def Nx(c num b a:Nat)(k d:Bool)(body:List UInt8)(off:Nat):eu (iF c k num body off) (b:Int) d (a:Int)=some (decide (c=b/\k=d/\num=a)):=by
 rw[YQ];unfold iF;simp only;congr 1;by_cases f:c=b
 ·subst f;rw[aoW,ala];by_cases e:k=d
  ·subst e;rw[aoW,ala];by_cases g:num=a
   ·subst g;simp
   ·rw[show((num:Int)==(a:Int))=false from alu.2 omq];simp[g]
  ·rw[show(k==d)=false from alu.2 e];simp[e]
 ·rw[show((c:Int)==(b:Int))=false from alu.2 omq];simp[f]
def O2(N:Nat)(j:20<=N)(a:List UInt8)(l:a.length<4611686018427387904)(v:aV)(o:Int)(h:bM N a=some (v,0,o)):
 ∃(c num:Nat)(k:Bool)(body:List UInt8),c<4/\num<31/\body.length<=2147483647/\a=tlv c k num body/\v=iF c k num body 0:=by
 unfold bM syv at h;cases f:cu N a 0 ((a.length:Nat):Int) with
 |none=>rw[f]at h;cases h
 |some x=>
  obtain⟨u,e,t⟩:=x;rw[f]at h;simp only[akX]at h;by_cases g:e=0
  ·subst g;obtain⟨c,num,k,body,q,n,s,m,b,rfl,p⟩:=F5 N j a 0 a.length (al2 _) (ak7 _) l u t f;rw[show((0:Int)==0)=true from rfl,ala]at h;rw[alR]at b;have i:a.length=(tlv c k num body).length+q.length:=by rw[b,ak2]
   by_cases d:(iF c k num body 0).2.2.2.2.2<((a.length:Nat):Int)
   ·rw[ak3 d]at h;simp only[ala,ak1,aln]at h;omega
   ·rw[ak0 d]at h;have r:¬(((0+(tlv c k num body).length:Nat):Int)<((a.length:Nat):Int)):=d;have:q=[]:=alF omq;subst this;simp only[ak5,ak1,aln]at h;exact⟨c,num,k,body,n,s,m,by rw[b,alm],h.1.symm⟩
  ·rw[show(e==0)=false from by simpa using g]at h;simp only[ak5,ak1,aln]at h;omega
def YR(N:Nat)(b:20<=N){c num:Nat}(h:c<4)(m:num<31)(a:List TLV)(l:∀t∈a,okT t)(k:a.length<N)(j:a.length<10000000)(g:(ak a).length<=2147483647):
 aW N (tlv c true num (ak a)) (c:Int) (num:Int)=some (fG (1+(aF (ak a).length).length) a,0,0):=by
 have i:=nI (ak a).length omq;unfold aW syv;rw[Ta N b true h m (ak a) g];simp only[akX];rw[show((0:Int) !=0)=false from rfl,Nx];simp only[ak5,akX,and_self,decide_true,al7];have d:=abL N b a (idB c true num::aF (ak a).length) [] l k soq j;rw[alm,show(idB c true num::aF (ak a).length)++ak a=tlv c true num (ak a) from by simp[tlv],show((idB c true num::aF (ak a).length).length)=1+(aF (ak a).length).length from by simp;omega]at d;have e:(iF c true num (ak a) 0).2.2.2.2.1=((1+(aF (ak a).length).length:Nat):Int):=by
  show((0+1+(aF (ak a).length).length:Nat):Int)=_;omega
 have f:(iF c true num (ak a) 0).2.2.2.2.2=((1+(aF (ak a).length).length+(ak a).length:Nat):Int):=by
  show((0+(tlv c true num (ak a)).length:Nat):Int)=_;rw[kY];omega
 rw[e,f,d];rfl
def YS(N:Nat)(p:20<=N){c num:Nat}(a:List UInt8)(q:a.length<4611686018427387904)(l:List aV)(o:Int)(h:aW N a (c:Int) (num:Int)=some (l,0,o)):
 ∃f,(∀t∈f,okT t)/\(ak f).length<=2147483647/\c<4/\num<31/\a=tlv c true num (ak f)/\l=fG (1+(aF (ak f).length).length) f:=by
 unfold aW syv at h;cases m:bM N a with
 |none=>rw[m]at h;cases h
 |some x=>
  obtain⟨J,e,H⟩:=x;rw[m]at h;simp only[akX]at h;by_cases r:e=0
  ·subst r;obtain⟨c1,d,k,b,D,F,C,i,rfl⟩:=O2 N p a q J H m;have E:=nI b.length omq;rw[show((0:Int) !=0)=false from rfl,ak5,Nx]at h;simp only[akX]at h;by_cases s:c1=c/\k=true/\d=num
   ·obtain⟨rfl,rfl,rfl⟩:=s;simp only[and_self,decide_true,al7,ak5]at h;have j:=kY c1 true d b;have B:a.length=1+(aF b.length).length+b.length:=by rw[i,j]
    have u:(iF c1 true d b 0).2.2.2.2.1=((1+(aF b.length).length:Nat):Int):=by
     show((0+1+(aF b.length).length:Nat):Int)=_;omega
    have v:(iF c1 true d b 0).2.2.2.2.2=((a.length:Nat):Int):=by
     show((0+(tlv c1 true d b).length:Nat):Int)=_;rw[<-i];omega
    rw[u,v]at h;cases n:bK N a ((1+(aF b.length).length:Nat):Int) ((a.length:Nat):Int) with
    |none=>rw[n]at h;cases h
    |some y=>
     obtain⟨G,K,I⟩:=y;rw[n]at h;simp only[akX,ak1,aln]at h;obtain⟨rfl,rfl,rfl⟩:=h;obtain⟨f,w,z,A⟩:=L6 N p a _ a.length omq (ak7 _) q G I n;have g:b=ak f:=by
      rw[<-z,amC,i];show b=(idB c1 true d::(aF b.length++b)).drop (1+(aF b.length).length);rw[aoi,anB,amL,alH (ak7 _)];simp
     subst g;exact⟨f,w,C,D,F,i,A⟩
   ·rw[ak0 s]at h;simp only[amR,ala,ak1,aln]at h;omega
  ·rw[show(e !=0)=true from by simpa using r]at h;simp only[ala,ak1,aln]at h;omega
end Go.Fw
namespace Go.Fw
open Go
def xU{x:List UInt8}(h:x.length<=1099511627776):cw x=some x:=by
 unfold cw app ba;simp only[alq,alS,ao5,alN];rw[ali ⟨omq,omq⟩]
abbrev gR:=Bs×Int
def wQ(x:gR)(e:x.1.length<4611686018427387904):∃c,eI x=some c/\(c=true->0<=x.2/\x.2<=7):=by
 unfold eI syv;by_cases d:x.1.length=0
 ·rw[show(((x.1.length:Nat):Int)==0)=true from by rw[d];rfl];exact⟨_,rfl,λh=>by have:=alC (by simpa using h:decide (x.2=0)=true);omega⟩
 ·rw[show(((x.1.length:Nat):Int)==0)=false from alu.2 omq];simp only[ak5];by_cases a:x.2>=0
  ·by_cases b:x.2<=7
   ·rw[ak3 a,ak3 b,WV omq omq,bc (akZ (by omega:x.1.length-1<x.1.length))];exact⟨_,rfl,λ_=>⟨omq,b⟩⟩
   ·rw[ak3 a,ak0 b];exact⟨false,rfl,λh=>by cases h⟩
  ·rw[ak0 a];exact⟨false,rfl,λh=>by cases h⟩
def cn(x:gR):List UInt8:=UInt8.ofNat x.2.toNat::x.1
def abM(N:Nat)(i:20<=N)(a:N<4611686018427387904)(x:gR)(j:x.1.length<=1000000000)(e:eI x=some true):eW N x=some (cn x,0):=by
 obtain⟨c,b,f⟩:=wQ x omq;rw[e]at b;cases b;obtain⟨g,h⟩:=f rfl;unfold eW syv;rw[e];obtain⟨n,d⟩:∃n:Nat,x.2=(n:Int):=⟨x.2.toNat,omq⟩;simp only[akX,al7,ak5];rw[d,lW];simp only[akX];rw[qe N _ soq a soq];unfold cn;rw[d,al5,show n % 256=n from omq];simp
def F7(x:gR)(h:x.1.length<=1000000000)(d:eI x=some true):bA (cn x)=some (x,0):=by
 obtain⟨c,a,i⟩:=wQ x omq;rw[d]at a;cases a;obtain⟨f,g⟩:=i rfl;obtain⟨b,n⟩:=x;simp only at f g h;unfold bA cn syv;rw[show(((((UInt8.ofNat n.toNat::b).length):Nat):Int)==0)=false from alu.2 (by simp only[ak4];omega),qd];simp only[ak5,akX];rw[xU omq,show ix (UInt8.ofNat n.toNat::b) 0=some (UInt8.ofNat n.toNat) from rfl];simp only[akX];have e:IntKind.wrap .i64 ((UInt8.ofNat n.toNat).toNat:Int)=n:=by
  rw[Bp];simp;omega
 rw[e,d];rfl
def Tb(c:List UInt8)(d:c.length<=1000000000):∃x e,bA c=some (x,e)/\(e=0->c=cn x/\eI x=some true):=by
 unfold bA syv;cases c with
 |nil=>exact⟨([],0),6,rfl,λh=>by cases h⟩
 |cons b r=>
  rw[show((((b::r).length:Nat):Int)==0)=false from alu.2 (by simp only[ak4];omega),qd];simp only[ak4]at d;simp only[ak5,akX];rw[xU omq,show ix (b::r) 0=some b from rfl];simp only[akX,Bp];obtain⟨v,a,f⟩:=wQ (r,(b.toNat:Int)) (by simp only;omega);rw[a];cases v with
  |false=>exact⟨([],0),6,rfl,λh=>by cases h⟩
  |true=>
   refine⟨(r,(b.toNat:Int)),0,rfl,λ_=>⟨?_,a⟩⟩;unfold cn;simp
end Go.Fw
def aov:=@decide_eq_decide
namespace Go.Fw
open Go
set_option maxRecDepth 100000 in
def Vr:∀b:UInt8,(bits .and .u8 (b.toNat:Int) 128==0)=decide (b.toNat<128):=by
 intro b;have h:∀n:Fin 256,(bits .and .u8 (n.val:Int) 128==0)=decide (n.val<128):=by decide
 exact h ⟨b.toNat,b.toNat_lt⟩
def ii:List UInt8->Bool
 |[]=>false
 |[_]=>true
 |a::b::_=> !(a.toNat==0&&decide (b.toNat<128))&& !(a.toNat==255&& !decide (b.toNat<128))
def F8(n k:Nat):((n:Int)==(k:Int))=(n==k):=by
 show decide ((n:Int)=(k:Int))=decide (n=k);exact aov.2 omq
def gp(v:List UInt8):oG v=some (ii v):=by
 unfold oG syv
 match v with
 |[]=>rfl
 |[a]=>rfl
 |a::b::r=>
  have f:decide ((((a::b::r).length:Nat):Int)<2)=false:=by
   simp only[ak4,aoh];omega
  rw[f];have i:ix (a::b::r) 1=some b:=rfl;have h:ix (a::b::r) 0=some a:=rfl;have e:((a.toNat:Int)==0)=(a.toNat==0):=F8 _ 0;have c:((a.toNat:Int)==255)=(a.toNat==255):=F8 _ 255;have d:=Vr b;have g:(bits .and .u8 (b.toNat:Int) 128 !=0)= !decide (b.toNat<128):=by rw[<-d];rfl
  simp only[i,h,akX,ak5,e,c,d,g,ii];cases j:(a.toNat==0)<;>cases k:(a.toNat==255)<;>cases l:decide (b.toNat<128)<;>rfl
def Tc{v:List UInt8}(h:ii v=true):v≠[]:=by
 rintro rfl;cases h
end Go.Fw
def am8:=@Go.IntKind.wrap_u64
namespace Go.Fw
open Go
def abP{α:Type}(k:Nat)(a:k<=16)(l r:List α)(h:l.length+r.length<=60000000000):app k l r=some (l++r):=by
 unfold app ba;have:(l.length+r.length)*k<=(l.length+r.length)*16:=Nat.mul_le_mul_left _ a;rw[ali ⟨omq,omq⟩]
def YT(l:List Int):∃c,lR l=some c:=by
 unfold lR syv
 match l with
 |[]=>exact⟨_,rfl⟩
 |[_]=>exact⟨_,rfl⟩
 |a::b::r=>
  rw[ak0 (by simp only[ak4];omega),show ix (a::b::r) 0=some a from rfl,show ix (a::b::r) 1=some b from rfl];simp only[ak5,akX];cases decide (a>2)<;>cases decide (a<2)<;>exact⟨_,rfl⟩
def I1(n:Nat)(h:n<18446744073709551616):(Lib.decDigits n).length<=20:=by
 rw[aoB];rcases aob n with rfl|a
 ·unfold Lib.nDigits;simp
 ·have:=Lib.numDigits_eq n a h;split at this<;>omega
def Td(n:Nat)(h:n<18446744073709551616):dV (n:Int)=some (Lib.decDigits n):=by
 have a:Nat.blt n 18446744073709551616=true:=alY h;have b:fF (Int.ofNat n)=some (Lib.decDigits n):=by
  show(bif Nat.blt n 18446744073709551616 then some (Lib.decDigits n) else none)=_;rw[a];rfl
 unfold dV syv;show(fF (Int.ofNat n)).bind _=_;rw[b];rfl
def YU(N n:Nat)(s:List Int)(i:Nat)(acc:List Bs):nO N (n+1) (s,(s.length:Int),(i:Int),acc)=bif decide ((i:Int)<(s.length:Int)) then(ix s (i:Int)).bind λe=>(dV (IntKind.wrap .u64 e)).bind λt=>(app 16 acc [t]).bind λl=>nO N n (s,(s.length:Int),ay .i64 (i:Int) 1,l) else some acc:=rfl
def nc(x:Int):List UInt8:=Lib.decDigits (IntKind.wrap .u64 x).toNat
def WY(N:Nat)(s:List Int)(h:s.length<=2000000000):∀(k n i:Nat),s.length-i=k->k<n->i<=s.length->
 nO N n (s,(s.length:Int),(i:Int),(s.take i).map nc)=some (s.map nc):=by
 intro k;induction k with
 |zero=>
  intro n i d e c;obtain⟨n,rfl⟩:∃m,n=m+1:=⟨n-1,omq⟩;rw[YU,ak0 omq,show i=s.length from omq,amC];rfl
 |succ k g=>
  intro n i d e c;obtain⟨n,rfl⟩:∃m,n=m+1:=⟨n-1,omq⟩;have a:i<s.length:=omq;have f:0<=IntKind.wrap .u64 s[i]/\IntKind.wrap .u64 s[i]<18446744073709551616:=by
   rw[am8];omega
  have b:dV (IntKind.wrap .u64 s[i])=some (nc s[i]):=by
   have:=Td (IntKind.wrap .u64 s[i]).toNat omq;rw[amN f.1]at this;exact this
  rw[YU,ak3 omq,ala,bc (akZ a),akX,b,akX,abP 16 omq _ _ soq,akX,bu omq];have:=g n (i+1) omq omq omq;rw[al8,akZ a,al9]at this;exact this
def YV(x:Int):(nc x).length<=20:=by
 unfold nc;refine I1 _ ?_;rw[am8];omega
def aeE(s:List Int):(Lib.joinTail [46] (s.map nc)).length<=21*s.length:=by
 induction s with
 |nil=>simp[Lib.joinTail]
 |cons x r a=>
  have h:=YV x;unfold Lib.joinTail at a⊢;simp only[alc,alx,ak2,ak4,alq]at a⊢;omega
def abQ(N:Nat)(s:List Int)(g:s.length<=2000000000)(d:s.length<N):∃t e,zu N s=some (t,e)/\(lR s=some true->t=Lib.join (s.map nc) [46]/\e=0)/\(lR s=some false->e=8):=by
 unfold zu syv;obtain⟨c,f⟩:=YT s;rw[f,akX];cases c with
 |false=>exact⟨_,_,rfl,(λh=>by cases h),λ_=>rfl⟩
 |true=>
  have a:=WY N s g s.length N 0 omq d omq;rw[aoK,amj]at a;have k:(Lib.join (s.map nc) [46]).length<=21*s.length:=by
   cases s with
   |nil=>simp[Lib.join_nil]
   |cons x r=>
    have i:=YV x;have j:=aeE r;rw[alc,Lib.join_cons,ak2,ak4];omega
  have b:fE (s.map nc) [46]=some (Lib.join (s.map nc) [46]):=by
   unfold fE Eo;rw[show Nat.ble (s.map nc).length 140737488355328=true from alY (by rw[alQ];omega),show Nat.ble (Lib.join (s.map nc) [46]).length 140737488355328=true from alY omq];rfl
  refine⟨Lib.join (s.map nc) [46],0,?_,λ_=>⟨rfl,rfl⟩,λh=>by cases h⟩;simp only[al7,ak5];rw[show nO N N (s,(s.length:Int),0,[])=_ from a,akX,b];rfl
end Go.Fw
def aoT:=@Int.le_refl
namespace Go.Fw
open Go
def abH(N:Nat)(A:20<=N)(a:List UInt8)(B:a.length<4611686018427387904):∃L k e o:Int,dA N a=some (L,k,e,o)/\0<=o/\o<=(a.length:Int):=by
 unfold dA lh syv;cases a with
 |nil=>exact⟨0,0,1,0,rfl,omq,by simp⟩
 |cons b r=>
  have t:((((b::r).length:Nat):Int)==0)=false:=alu.2 (by simp only[ak4];omega);have i:ix (b::r) 0=some b:=rfl;have C:=b.toNat_lt;have d:(0:Int)<=((b::r).length:Int):=omq;rw[t];simp only[ak5,i,akX,Bp,syv];by_cases l:(b.toNat:Int)<128
  ·rw[ak3 l];exact⟨_,_,_,_,rfl,omq,d⟩
  ·rw[ak0 l];obtain⟨c,w⟩:∃c:Nat,b.toNat=128+c:=⟨b.toNat-128,omq⟩;have g:aC .i64 (b.toNat:Int) 128=(c:Int):=by
    show IntKind.i64.wrap _=_;rw[w,alA _ omq];omega
   rw[g];simp only[ak5];by_cases u:c=0
   ·subst u;exact⟨0,0,4,0,rfl,omq,d⟩
   ·rw[show((c:Int)==0)=false from alu.2 omq];simp only[ak5];by_cases m:(c:Int)>4
    ·rw[ak3 m];exact⟨0,0,4,0,rfl,omq,d⟩
    ·rw[ak0 m];simp only[ak5];by_cases h:(((b::r).length:Nat):Int)<=(c:Int)
     ·rw[ak3 h];exact⟨0,0,1,_,rfl,d,aoT _⟩
     ·rw[ak0 h];simp only[ak5];simp only[ak4]at h;have q:r=r.take c++r.drop c:=(amk c r).symm;have j:(r.take c).length=c:=by rw[alB];omega
      have p:=IZ N b (r.take c) (r.drop c) omq (r.take c).length N 0 0 omq omq omq siq;rw[alR,<-q,j]at p;rw[show eL N N (b::r,(c:Int),0,1,0,0)=_ from p];obtain⟨x,s,z⟩:∃x s,r.take c=x::s:=by
       cases y:r.take c with
       |nil=>rw[y]at j;simp at j;omega
       |cons x s=>exact⟨x,s,rfl⟩
      have f:ix (b::r) 1=some x:=by rw[q,z];rfl
      simp only[akX,f];generalize (r.take c).foldl (λn x=>256*n+x.toNat) 0=v;cases ((x.toNat:Int)==0)
      ·simp only[ak5];cases decide ((v:Int)<128)
       ·simp only[ak5];cases decide ((v:Int)>2147483647)
        ·exact⟨_,_,_,_,rfl,omq,d⟩
        ·exact⟨0,0,4,0,rfl,omq,d⟩
       ·exact⟨0,0,4,0,rfl,omq,d⟩
      ·exact⟨0,0,4,0,rfl,omq,d⟩
def Nt(N:Nat)(l:20<=N)(a:List UInt8)(c:a.length<4611686018427387904):∃h e o,bU N a=some (h,e,o)/\(0:Int)<=o/\o<=(a.length:Int):=by
 unfold bU syv;cases a with
 |nil=>exact⟨_,_,_,rfl,omq,by simp⟩
 |cons b r=>
  have j:((((b::r).length:Nat):Int)==0)=false:=alu.2 (by simp only[ak4];omega);have d:ix (b::r) 0=some b:=rfl;have f:(0:Int)<=((b::r).length:Int):=omq;obtain⟨c1,q,g,i,hid,_⟩:=Nv b;obtain⟨L,k,e,o,m,n,p⟩:=abH N l r (by simp at c;omega);rw[j,qd];simp only[ak5,d,akX,hid,m];cases (i !=0)
  ·simp only[ak5];cases (e !=0)
   ·exact⟨_,_,_,rfl,omq,f⟩
   ·refine⟨_,_,_,rfl,?_,?_⟩
    ·simp only[ak4]at c;rw[bO omq];omega
    ·simp only[ak4]at c⊢;rw[bO omq];omega
  ·exact⟨_,_,_,rfl,omq,f⟩
def SS(N:Nat)(d:20<=N)(a:List UInt8)(i j:Nat)(g:i<=j)(n:j<=a.length)(m:a.length<2305843009213693952):∃v e o,cu N a (i:Int) (j:Int)=some (v,e,o)/\(0:Int)<=o/\o<=(j:Int):=by
 unfold cu syv;rw[ak3 (by omega:(j:Int)<=(j:Int)),ak3 (by omega:(j:Int)<=((a.length:Nat):Int))];have k:slc a (i:Int) (j:Int)=some ((a.take j).drop i):=by
  unfold slc;rw[ali ⟨omq,omq,omq⟩];simp
 have b:((a.take j).drop i).length=j-i:=by simp only[al0,alB];omega
 simp only[amJ,ala,k,akX];obtain⟨h,e,o,f,l,c⟩:=Nt N d ((a.take j).drop i) omq;rw[f];simp only[akX];rw[b]at c;cases (e !=0)
 ·simp only[ak5];cases decide (aC .i64 (aC .i64 (j:Int) (i:Int)) h.2.2.2.2<h.2.2.2.1)
  ·exact⟨_,_,_,rfl,omq,omq⟩
  ·exact⟨_,_,_,rfl,omq,omq⟩
 ·refine⟨_,_,_,rfl,?_,?_⟩
  ·rw[bO omq];omega
  ·rw[bO omq];omega
def ag4(N:Nat)(p:20<=N)(a:List UInt8)(j:Nat)(t:j<=a.length)(G:a.length<10000000):∀(k n i:Nat)(acc:List aV),j-i<=k->k<n->i<=j->2*acc.length<=i->
 ∃y,dG N n (a,(j:Int),(i:Int),0,0,acc)=some y/\∀e o,y=.inl (e,o)->(0:Int)<=o/\o<=(a.length:Int):=by
 intro k;induction k with
 |zero=>
  intro n i acc z A f _;obtain⟨n,rfl⟩:∃m,n=m+1:=⟨n-1,omq⟩;rw[Ex,ak0 (by omega:¬(i:Int)<(j:Int))];exact⟨_,rfl,λe o h=>by cases h⟩
 |succ k D=>
  intro n i acc z A f r;obtain⟨n,rfl⟩:∃m,n=m+1:=⟨n-1,omq⟩;rw[Ex];by_cases x:i<j
  ·rw[ak3 (by omega:(i:Int)<(j:Int)),ala];obtain⟨v,e,o,u,w,F⟩:=SS N p a i j f t omq;rw[u];simp only[akX];by_cases s:e=0
   ·subst s;obtain⟨c,d,l,b,q,I,K,H,J,rfl,g⟩:=F5 N p a i j f t omq v o u;have B:=F6 (c,l,d,b);have C:2<=(tlv c l d b).length:=B;rw[show((0:Int) !=0)=false from rfl,ak5,Vp _ _ omq];simp only[akX];exact D n (i+(tlv c l d b).length) _ omq omq g soq
   ·rw[show(e !=0)=true from by simpa using s,cond_true];exact⟨_,rfl,λE L h=>by cases h;exact⟨w,omq⟩⟩
  ·rw[ak0 (by omega:¬(i:Int)<(j:Int))];exact⟨_,rfl,λe o h=>by cases h⟩
def L0(N:Nat)(a:List UInt8)(g:a.length+20<=N)(i j:Nat)(b:i<=j)(d:j<=a.length)(c:a.length<10000000):∃l e o,bK N a (i:Int) (j:Int)=some (l,e,o)/\(0:Int)<=o/\o<=(a.length:Int):=by
 unfold bK syv;rw[ak0 (by omega:¬((i:Nat):Int)<0),ak0 (by omega:¬((i:Nat):Int)>(j:Int)),ak0 (by omega:¬((j:Nat):Int)>((a.length:Nat):Int))];simp only[ak5];obtain⟨y,f,h⟩:=ag4 N omq a j d c j N i [] omq omq b siq;rw[f];cases y with
 |inl p=>
  obtain⟨e,o⟩:=p;exact⟨[],e,o,rfl,h e o rfl⟩
 |inr p=>
  obtain⟨_,_,l⟩:=p;exact⟨l,0,0,rfl,omq,omq⟩
def Vo(N:Nat)(f:20<=N)(a:List UInt8)(m:a.length<2305843009213693952):∃v e o,bM N a=some (v,e,o)/\(e=0∨(0:Int)<=o/\o<=(a.length:Int)):=by
 unfold bM syv;obtain⟨v,e,o,i,j,l⟩:=SS N f a 0 a.length (al2 _) (ak7 _) m;rw[show cu N a 0 ((a.length:Nat):Int)=_ from i];simp only[akX];by_cases g:e=0
 ·subst g;obtain⟨c,d,k,b,q,r,t,p,s,rfl,n⟩:=F5 N f a 0 a.length (al2 _) (ak7 _) omq v o i;rw[show((0:Int)==0)=true from rfl,ala];by_cases h:(iF c k d b 0).2.2.2.2.2<((a.length:Nat):Int)
  ·rw[ak3 h];refine⟨_,_,_,rfl,.inr ⟨?_,omq⟩⟩;show(0:Int)<=((0+(tlv c k d b).length:Nat):Int);omega
  ·rw[ak0 h];exact⟨_,_,_,rfl,.inl rfl⟩
 ·rw[show(e==0)=false from by simpa using g];exact⟨_,_,_,rfl,.inr ⟨j,l⟩⟩
end Go.Fw
namespace Go.Fw
open Go
def Lh(N:Nat)(a:Bs)(T:a.length<10000000)(R:Bs->Int->Int->Int->Option (Fw.Spot×(Int×Int)))(d:Nat)(hd:d<=100)
 (J:∀i j:Nat,i<=j->j<=a.length->∃v e o,R a (i:Int) (j:Int) (d:Int)=some (v,e,o)/\(0:Int)<=o/\o<=(a.length:Int)/\(e=0->∃s:Nat,v.stop=(s:Int)/\i<s/\s<=j))
 (b:Nat)(M:b<=a.length)(r t u:Int)(w:Bool):∀(k n c:Nat)(f:List Fw.Spot)(g:List Fw.Node),b-c=k->k<n->c<=b->f.length<=c->g.length<=c->
 ∃y,dO N R n (a,((d+1:Nat):Int),(c:Int),0,0,0,0,false,[],0,0,g,f,r,(b:Int),t,u,w)=some y/\
  ((∃e o:Int,y=.inl (0,0,0,0,false,e,o)/\e≠0/\0<=o/\o<=(a.length:Int))∨∃l S,y=.inr (0,0,0,0,false,[],0,0,l,S,r,(b:Int),t,u,w)):=by
 intro k;induction k using Nat.strongRecOn with
 |_ k Q=>
  intro n c f g U V W F G;obtain⟨n,rfl⟩:∃m,n=m+1:=⟨n-1,omq⟩;rcases alf c b with L|K
  ·have h:decide ((c:Int)<(b:Int))=true:=ak3 omq;have p:aC .i64 ((d+1:Nat):Int) 1=(d:Int):=by
    show IntKind.i64.wrap _=_;rw[alA _ omq];omega
   obtain⟨v,e,o,D,E,H,I⟩:=J c b omq M;have q:=Q;unfold dO at q⊢;simp only[h,ala,p,D,akX];by_cases x:e=0
   ·obtain⟨s,A,O,P⟩:=I x;rw[show(e !=0)=false from by rw[x];rfl];simp only[ak5];have B:∀z:Fw.Spot,app 112 f [z]=some (f++[z]):=λz=>by
     unfold app ba;rw[ali ⟨by simp only[ak4,alq];omega,by simp only[ak4,alq];omega⟩]
    have C:∀z:Fw.Node,app 72 g [z]=some (g++[z]):=λz=>by
     unfold app ba;rw[ali ⟨by simp only[ak4,alq];omega,by simp only[ak4,alq];omega⟩]
    rw[B,akX,C,akX,A];exact q (b-s) omq n s _ _ rfl omq omq soq soq
   ·rw[show(e !=0)=true from by simpa using x];exact⟨_,rfl,.inl ⟨e,o,rfl,x,E,H⟩⟩
  ·have h:decide ((c:Int)<(b:Int))=false:=ak0 omq;refine⟨_,?_,.inr ⟨g,f,rfl⟩⟩;unfold dO;simp only[h,ak5]
def P9(N n:Nat)(e:Bs)(a2 a3 a4:Int):cZ N (n+1) e a2 a3 a4=(
 bif (a4==0) then(
 (gj 5 a2).bind λ(b,H)=>
 some (Fw.Spot.mk b.at' b.stop (Fw.Node.mk b.nd.cls b.nd.num b.nd.cons b.nd.body b.nd.kids) b.kids,H))
 else
 bif (decide (a3<=a3)&&decide (a3<=e.length)) then(
 (slc e a2 a3).bind λG=>
 (bU N G).bind λ(a,w)=>
 bif (w.1 !=0) then(
 (gj w.1 (ay .i64 a2 w.2)).bind λ(c,I)=>
 some (Fw.Spot.mk c.at' c.stop (Fw.Node.mk c.nd.cls c.nd.num c.nd.cons c.nd.body c.nd.kids) c.kids,I))
 else
 bif decide (aC .i64 a3 (ay .i64 a2 a.2.2.2.2)<a.2.2.2.1) then(
 (gj 1 a3).bind λ(d,J)=>
 some (Fw.Spot.mk d.at' d.stop (Fw.Node.mk d.nd.cls d.nd.num d.nd.cons d.nd.body d.nd.kids) d.kids,J))
 else
 bif (!a.2.2.1) then(
 (slc e (ay .i64 a2 a.2.2.2.2) (ay .i64 (ay .i64 a2 a.2.2.2.2) a.2.2.2.1)).bind λv=>
 (cw v).bind λs=>
 some (Fw.Spot.mk a2 (ay .i64 (ay .i64 a2 a.2.2.2.2) a.2.2.2.1) (Fw.Node.mk a.1 a.2.1 a.2.2.1 s []) [],0,0))
 else
 (dO N (cZ N n) N (e,a4,ay .i64 a2 a.2.2.2.2,0,0,0,0,false,[],0,0,[],[],a2,ay .i64 (ay .i64 a2 a.2.2.2.2) a.2.2.2.1,a.1,a.2.1,a.2.2.1)).bind λx=>(match x with
 |Sum.inl (h,i,j,k,f,l,m)=>some (Fw.Spot.mk h i (Fw.Node.mk j k f [] []) [],l,m)
 |Sum.inr ((z,A,B,C,y,F,D,E,t,u,o,p,q,r,g))=>some (Fw.Spot.mk o p (Fw.Node.mk q r g [] t) u,0,0)))
 else
 none):=rfl
def L7(N:Nat)(a:Bs)(hN:a.length+20<=N)(K:a.length<10000000):∀(d n:Nat),d<n->d<=100->∀i j:Nat,i<=j->j<=a.length->
 ∃v e o,cZ N n a (i:Int) (j:Int) (d:Int)=some (v,e,o)/\(0:Int)<=o/\o<=(a.length:Int)/\(e=0->∃s:Nat,v.stop=(s:Int)/\i<s/\s<=j):=by
 intro d;induction d with
 |zero=>
  intro n P _ i j g C;obtain⟨n,rfl⟩:∃m,n=m+1:=⟨n-1,omq⟩;exact⟨_,5,(i:Int),rfl,omq,omq,λh=>by cases h⟩
 |succ d S=>
  intro n P hd i j g C;obtain⟨n,rfl⟩:∃m,n=m+1:=⟨n-1,omq⟩;have J:=S n omq omq;have u:=Lh N a K (cZ N n) d omq J;have I:((((d+1:Nat)):Int)==0)=false:=alu.2 omq;have O:(decide ((j:Int)<=(j:Int))&&decide ((j:Int)<=(a.length:Int)))=true:=by simp;omega
  have r:∀p q:Nat,p<=q->q<=a.length->slc a (p:Int) (q:Int)=some ((a.take q).drop p):=λp q Y Z=>by
   unfold slc;rw[ali ⟨omq,omq,omq⟩];simp
  have b:((a.take j).drop i).length=j-i:=by rw[al0,alB];omega
  obtain⟨h,e,o,B,Q,w⟩:=Nt N omq ((a.take j).drop i) omq;rw[b]at w;rw[P9,I,ak5,O,ala,r i j g C,akX,B,akX];by_cases t:e=0
  ·subst t;obtain⟨c,z,k,L,U⟩:=h;obtain⟨A,f,m,E,q1,q2,q3,T,rfl,rfl,rfl,rfl⟩:=F4 N omq _ omq c z L U o k B;have D:=alD List.length T;rw[b]at D;simp only[ak4,ak2]at D;have V:ay .i64 (i:Int) ((1+(aF m).length:Nat):Int)=((i+(1+(aF m).length):Nat):Int):=by rw[bO omq];omega
   have W:aC .i64 (j:Int) ((i+(1+(aF m).length):Nat):Int)=((j-(i+(1+(aF m).length)):Nat):Int):=by
    show IntKind.i64.wrap _=_;rw[alA _ omq];omega
   simp only[aoS,ak5,V,W];by_cases hm:j-(i+(1+(aF m).length))<m
   ·rw[ak3 omq];exact⟨_,1,(j:Int),rfl,omq,omq,λh=>by cases h⟩
   ·rw[ak0 omq];have X:ay .i64 ((i+(1+(aF m).length):Nat):Int) (m:Int)=((i+(1+(aF m).length)+m:Nat):Int):=by rw[bO omq];omega
    simp only[ak5,X];cases k
    ·simp only[amR,ala];rw[r _ _ omq omq,akX,xU (by rw[al0,alB];omega),akX];exact⟨_,0,0,rfl,omq,omq,λ_=>⟨i+(1+(aF m).length)+m,rfl,omq,omq⟩⟩
    ·simp only[al7,ak5];obtain⟨y,R,M⟩:=u (i+(1+(aF m).length)+m) omq (i:Int) (A:Int) (f:Int) true _ N (i+(1+(aF m).length)) [] [] rfl omq omq siq siq;have x:dO N (cZ N n) N (a,((d+1:Nat):Int),((i+(1+(aF m).length):Nat):Int),0,0,0,0,false,[],0,0,[],[],(i:Int),((i+(1+(aF m).length)+m:Nat):Int),(A:Int),(f:Int),true)=some y:=R;rw[x,akX];rcases M with⟨e,o,rfl,F,G,H⟩|⟨l,l',rfl⟩
     ·exact⟨_,e,o,rfl,G,H,λh=>absurd h F⟩
     ·exact⟨_,0,0,rfl,omq,omq,λ_=>⟨i+(1+(aF m).length)+m,rfl,omq,omq⟩⟩
  ·dsimp only;rw[show(e !=0)=true from by simpa using t];refine⟨_,e,ay .i64 (i:Int) o,rfl,?_,?_,λh=>absurd h t⟩
   ·rw[bO omq];omega
   ·rw[bO omq];omega
def WZ(N:Nat)(a:Bs)(h:a.length+20<=N)(i:a.length<10000000):∃v e o,eU N a=some (v,e,o)/\(0:Int)<=o/\o<=(a.length:Int):=by
 unfold eU tO syv;obtain⟨v,e,o,f,c,d,g⟩:=L7 N a h i 16 N omq omq 0 a.length omq (ak7 _);rw[show cZ N N a 0 (a.length:Int) 16=_ from f,akX];dsimp only;by_cases b:e=0
 ·obtain⟨s,k,_,l⟩:=g b;rw[show(e==0)=true from by simpa using b,k];simp only[ala];by_cases j:s<a.length
  ·rw[ak3 (by omega:(s:Int)<(a.length:Int))];exact⟨_,_,_,rfl,by show(0:Int)<=(s:Int);omega,by show(s:Int)<=_;omega⟩
  ·rw[ak0 (by omega:¬(s:Int)<(a.length:Int))];exact⟨_,_,_,rfl,c,d⟩
 ·rw[show(e==0)=false from by simpa using b];exact⟨_,_,_,rfl,c,d⟩
end Go.Fw


namespace Go.Fw
open Go
def Te(a:Bs):∃c e,dH a=some (c,e):=by
 unfold dH syv
 match a with
 |[]=>exact⟨_,_,rfl⟩
 |x::y::r=>
  rw[show((((x::y::r).length:Nat):Int) !=1)=true from by simp only[aoZ,ne_eq,ak4];omega];exact⟨_,_,rfl⟩
 |[x]=>
  rw[show((((([x]:Bs)).length:Nat):Int) !=1)=false from rfl];simp only[ak5,show ix [x] 0=some x from rfl,akX];cases ((x.toNat:Int) !=0)<;>cases ((x.toNat:Int) !=255)<;>exact⟨_,_,rfl⟩
end Go.Fw

namespace Go.Fw
open Go
def I2(a:List UInt8):∀(k:Nat)(s:List UInt8),(Lib.splitK a 0 k s).length<=k+1/\∀x∈Lib.splitK a 0 k s,x.length<=s.length
 |0,s=>by
  unfold Lib.splitK;exact⟨by simp,λx b=>by simp at b;subst b;exact ak7 _⟩
 |k+1,s=>by
  unfold Lib.splitK;split
  ·exact⟨by simp,λx b=>by simp at b;subst b;exact ak7 _⟩
  ·obtain⟨d,c⟩:=I2 a k (s.drop ((Lib.index s a).toNat+a.length));refine⟨by simp only[ak4];omega,λx b=> ?_⟩;rcases alr.1 b with rfl|b
   ·rw[alB];omega
   ·have:=c x b;rw[al0]at this;omega
def Qa(s:List UInt8)(c:s.length<=1000000000):∃l,dD s [46]=some l/\l.length<=s.length+2/\∀x∈l,x.length<=s.length:=by
 refine⟨Lib.split s [46],?_,?_,(I2 [46] _ s).2⟩
 ·unfold dD;rw[show Nat.blt s.length 4294967281=true from alY omq];rfl
 ·have a:=(I2 [46] (Lib.count s [46]) s).1;have b:=Lib.count_le s [46];show(Lib.splitK [46] 0 (Lib.count s [46]) s).length<=_;omega
def aha(s:List UInt8)(b:s.length<=1000000000):(∃n:Nat,ju s=some (.inl (n:Int))/\n<=4294967295/\Lib.parseUintB 32 s=.ok n)∨∃z,ju s=some (.inr z):=by
 have a:Nat.ble s.length zy=true:=alY (by unfold zy;omega);unfold ju;rw[a,ala];cases h:Lib.parseUintB 32 s with
 |ok u=>
  have:=Lib.parseUintB_le h;exact .inl ⟨u,rfl,by simpa using this,rfl⟩
 |range=>exact .inr ⟨_,rfl⟩
 |_=>exact .inr ⟨_,rfl⟩
end Go.Fw
namespace Go.Fw
open Go
def OW{α:Type}(x:Option α)(Q:α->Prop):Prop:=∃a,x=some a/\Q a
def aa{α:Type}{Q:α->Prop}{a:α}(h:Q a):OW (some a) Q:=⟨a,rfl,h⟩
def ah{α b:Type}{Q:b->Prop}{R:α->Prop}{x:Option α}{f:α->Option b}(h:OW x R)(k:∀a,R a->OW (f a) Q):OW (x.bind f) Q:=by
 obtain⟨a,rfl,c⟩:=h;exact k a c
def aw{α:Type}{Q:α->Prop}{c:Bool}{x y:Option α}(a:c=true->OW x Q)(b:c=false->OW y Q):OW (bif c then x else y) Q:=by
 cases c
 ·exact b rfl
 ·exact a rfl
def tq{α:Type}{Q R:α->Prop}{x:Option α}(h:OW x Q)(k:∀a,Q a->R a):OW x R:=by
 obtain⟨a,rfl,b⟩:=h;exact⟨a,rfl,k a b⟩
def Kc{α:Type}{Q:α->Prop}{x:Option α}{a:α}(h:x=some a)(k:Q a):OW x Q:=⟨a,h,k⟩
def OP{α:Type}(x:Option α)(Q:α->Prop):Prop:=∀a,x=some a->Q a
def aA{α:Type}{Q:α->Prop}{a:α}(h:Q a):OP (some a) Q:=λ_ e=>by cases e;exact h
def ET{α:Type}{Q:α->Prop}:OP none Q:=λ_ e=>by cases e
def aU{α c:Type}{Q:c->Prop}{R:α->Prop}{x:Option α}{f:α->Option c}(h:OP x R)(k:∀a,R a->OP (f a) Q):OP (x.bind f) Q:=by
 intro b e;cases x with
 |none=>cases e
 |some a=>exact k a (h a rfl) b e
def bX{α:Type}(x:Option α):OP x λ_=>True:=λ_ _=>trivial
def aD{α:Type}{Q:α->Prop}{c:Bool}{x y:Option α}(a:c=true->OP x Q)(b:c=false->OP y Q):OP (bif c then x else y) Q:=by
 cases c
 ·exact b rfl
 ·exact a rfl
def CW{α:Type}{Q R:α->Prop}{x:Option α}(h:OW x Q)(k:OP x R):OW x λa=>Q a/\R a:=by
 obtain⟨a,b,c⟩:=h;exact⟨a,b,c,k a b⟩
def VW{σ b:Type}(F:Nat->σ->Option b)(I:σ->Prop)(m:σ->Nat)(Q:b->Prop)
 (step:∀n s,I s->(∀a,I a->m a<m s->OW (F n a) Q)->OW (F (n+1) s) Q):∀n s,I s->m s<n->OW (F n s) Q:=by
 intro n;induction n with
 |zero=>intro s _ h;omega
 |succ n e=>exact λs d g=>step n s d λa c f=>e a c omq
inductive br{α β:Type}(R:α->β->Prop):List α->List β->Prop where
 |nil:br R [] []
 |cons {a b xs ys}:R a b->br R xs ys->br R (a::xs) (b::ys)
def br.length{α b:Type}{R:α->b->Prop}{xs:List α}{a:List b}(h:br R xs a):xs.length=a.length:=by
 induction h with
 |nil=>rfl
 |cons _ _ c=>simp[c]
def br.get{α c:Type}{R:α->c->Prop}{xs:List α}{d:List c}(h:br R xs d):∀{i:Nat}{b:c},d[i]?=some b->∃a,xs[i]?=some a/\R a b:=by
 induction h with
 |nil=>intro i b h;simp at h
 |cons e _ f=>
  intro i b h;cases i with
  |zero=>simp at h;subst h;exact⟨_,rfl,e⟩
  |succ i=>simp at h⊢;exact f h
def EL(a:Bs)(t:TLV)(e:aV):Prop:=∃p q:Bs,a=p++ag t++q/\e=iF t.1 t.2.1 t.2.2.1 t.2.2.2 p.length
def sr(t:TLV):(ag t).length=1+(aF t.2.2.2.length).length+t.2.2.2.length:=kY _ _ _ _
def EL.bd{a:Bs}{t:TLV}{e:aV}(h:EL a t e):∃p q r:Nat,e.2.2.2.1=(p:Int)/\e.2.2.2.2.1=(q:Int)/\e.2.2.2.2.2=(r:Int)/\p<=q/\q<=r/\r<=a.length/\p+(ag t).length=r:=by
 obtain⟨p,q,rfl,rfl⟩:=h;refine⟨p.length,p.length+1+(aF t.2.2.2.length).length,p.length+(ag t).length,rfl,rfl,rfl,omq,?_,?_,rfl⟩
 ·have:=sr t;omega
 ·simp only[ak2];omega
def EL.whole{a:Bs}{t:TLV}{e:aV}(h:EL a t e):slc a e.2.2.2.1 e.2.2.2.2.2=some (ag t):=by
 obtain⟨p,q,rfl,rfl⟩:=h;exact O1 p (ag t) q
def EL.body{a:Bs}{t:TLV}{e:aV}(h:EL a t e):slc a e.2.2.2.2.1 e.2.2.2.2.2=some t.2.2.2:=by
 obtain⟨p,q,rfl,rfl⟩:=h;have h:=O1 (p++(idB t.1 t.2.1 t.2.2.1::aF t.2.2.2.length)) t.2.2.2 q;have c:p++(idB t.1 t.2.1 t.2.2.1::aF t.2.2.2.length)++t.2.2.2++q=p++ag t++q:=by simp[ag,tlv]
 have b:(p++(idB t.1 t.2.1 t.2.2.1::aF t.2.2.2.length)).length=p.length+1+(aF t.2.2.2.length).length:=by simp;omega
 have d:(p++(idB t.1 t.2.1 t.2.2.1::aF t.2.2.2.length)).length+t.2.2.2.length=p.length+(ag t).length:=by rw[b,sr];omega
 rw[c,d,b]at h;exact h
def EL.is{a:Bs}{t:TLV}{e:aV}(h:EL a t e)(c num:Nat)(k:Bool):eu e (c:Int) k (num:Int)=some (decide (t.1=c/\t.2.1=k/\t.2.2.1=num)):=by
 obtain⟨p,q,rfl,rfl⟩:=h;exact Nx _ _ _ _ _ _ _ _
def Ke:∀(a:List TLV)(p q:Bs),br (EL (p++ak a++q)) a (fG p.length a)
 |[],_,_=>.nil
 |t::r,p,q=>by
  refine .cons ⟨p,ak r++q,by rw[dt];simp,rfl⟩ ?_;have h:=Ke r (p++ag t) q;rw[show p++ag t++ak r++q=p++ak (t::r)++q from by rw[dt];simp,ak2]at h;exact h
def FN(N:Nat):Prop:=1000000000<=N/\N<4611686018427387904
def acI{a:List TLV}(h:(ak a).length<10000000):a.length<10000000:=by
 have:=eN a;omega
def VX{N:Nat}(b:FN N){c num:Nat}(e:c<4)(i:num<31)(a:List TLV)(g:∀t∈a,okT t)(d:(ak a).length<10000000):
 ∃l,aW N (tlv c true num (ak a)) (c:Int) (num:Int)=some (l,0,0)/\br (EL (tlv c true num (ak a))) a l:=by
 have f:=acI d;refine⟨_,YR N (by unfold FN at b;omega) e i a g (by unfold FN at b;omega) f omq,?_⟩;have h:=Ke a (idB c true num::aF (ak a).length) [];rw[alm,show(idB c true num::aF (ak a).length)++ak a=tlv c true num (ak a) from by simp[tlv],show((idB c true num::aF (ak a).length).length)=1+(aF (ak a).length).length from by simp;omega]at h;exact h
def nj{N:Nat}(B:FN N)(a:Bs)(x:a.length<10000000)(c num:Nat):OW (aW N a (c:Int) (num:Int)) λr=>
 (r.2=(0,0)/\∃g,(∀t∈g,okT t)/\c<4/\num<31/\a=tlv c true num (ak g)/\br (EL a) g r.1)∨r.2.1≠0/\0<=r.2.2/\r.2.2<=(a.length:Int):=by
 unfold FN at B;have q:∃l e o,aW N a (c:Int) (num:Int)=some (l,e,o)/\(e=0/\o=0∨(0:Int)<=o/\o<=(a.length:Int)):=by
  unfold aW syv;obtain⟨v,e,o,i,s⟩:=Vo N omq a omq;rw[i,akX];dsimp only;by_cases f:e=0
  ·subst f;obtain⟨c1,d,k,b,q1,G,q3,y,rfl⟩:=O2 N omq a omq v o i;rw[show((0:Int) !=0)=false from rfl,ak5,Nx,akX];cases (!decide (c1=c/\k=true/\d=num))
   ·have p:=kY c1 k d b;have C:a.length=1+(aF b.length).length+b.length:=by rw[y,p]
    have z:(iF c1 k d b 0).2.2.2.2.1=((1+(aF b.length).length:Nat):Int):=by
     show((0+1+(aF b.length).length:Nat):Int)=_;omega
    have A:(iF c1 k d b 0).2.2.2.2.2=((a.length:Nat):Int):=by
     show((0+(tlv c1 k d b).length:Nat):Int)=_;rw[<-y];omega
    rw[ak5,z,A];obtain⟨l,e,o,j,m⟩:=L0 N a omq (1+(aF b.length).length) a.length omq (ak7 _) x;rw[j];exact⟨_,_,_,rfl,.inr m⟩
   ·exact⟨_,_,_,rfl,.inr ⟨omq,omq⟩⟩
  ·rw[show(e !=0)=true from by simpa using f];exact⟨_,_,_,rfl,.inr (s.resolve_left f)⟩
 obtain⟨l,e,o,h,E⟩:=q;refine⟨_,h,?_⟩;by_cases f:e=0
 ·subst f;obtain⟨g,i,s,j,m,n,rfl⟩:=YS N omq a omq l o h;have D:(ak g).length<10000000:=by
   rw[n,kY]at x;omega
  obtain⟨F,u,w⟩:=VX (N:=N) ⟨omq,omq⟩ j m g i D;rw[<-n]at u w;rw[u]at h;simp only[ak1,aln,true_and]at h;obtain⟨rfl,rfl⟩:=h;exact .inl ⟨rfl,g,i,j,m,n,w⟩
 ·refine .inr ⟨f,?_⟩;rcases E with h|h
  ·exact absurd h.1 f
  ·exact h
def Ry{N:Nat}(b:FN N)(t:TLV)(a:okT t):∃e,bM N (ag t)=some (e,0,0)/\EL (ag t) t e:=by
 unfold FN at b;refine⟨_,Ta N omq t.2.1 a.1 a.2.1 t.2.2.2 a.2.2,[],[],by simp,rfl⟩
def CY{N:Nat}(m:FN N)(a:Bs)(q:a.length<10000000):OW (bM N a) λr=>
 (r.2=(0,0)/\∃t,okT t/\a=ag t/\EL a t r.1)∨r.2.1≠0/\0<=r.2.2/\r.2.2<=(a.length:Int):=by
 unfold FN at m;obtain⟨v,e,o,d,l⟩:=Vo N omq a omq;refine⟨_,d,?_⟩;by_cases g:e=0
 ·subst g;obtain⟨c1,c,k,b,q1,i,q3,n,rfl⟩:=O2 N omq a omq v o d;obtain⟨p,h,f⟩:=Ry (N:=N) ⟨omq,omq⟩ (c1,k,c,b) ⟨q1,i,q3⟩;have j:a=ag (c1,k,c,b):=n;rw[<-j]at h f;rw[h]at d;simp only[ak1,aln,true_and]at d;obtain⟨d,rfl⟩:=d;rw[d]at f;exact .inl ⟨rfl,_,⟨q1,i,q3⟩,j,f⟩
 ·exact .inr ⟨g,l.resolve_left g⟩
def xc{α:Type}{l:List α}{i:Int}(b:0<=i)(h:i<(l.length:Int)):OW (ix l i) λx=>l[i.toNat]?=some x/\x∈l:=by
 have a:i.toNat<l.length:=omq;refine⟨l[i.toNat],?_,akZ a,alZ a⟩;have:=bc (akZ a);rwa[show((i.toNat:Nat):Int)=i from omq]at this
def GF{α:Type}{l:List α}{i j:Int}(a:0<=i)(h:i<=j)(b:j<=(l.length:Int)):OW (slc l i j) λx=>x=(l.take j.toNat).drop i.toNat:=by
 refine⟨_,?_,rfl⟩;unfold slc;rw[ali ⟨omq,omq,omq⟩]
def ajg{α:Type}{k:Nat}(a:k<=200){l r:List α}(h:l.length+r.length<=1000000000):OW (app k l r) λx=>x=l++r:=by
 refine⟨_,?_,rfl⟩;unfold app ba;have:(l.length+r.length)*k<=(l.length+r.length)*200:=Nat.mul_le_mul_left _ a;rw[ali ⟨omq,omq⟩]
def dQ{α:Type}{k:Nat}(b:k<=200){l r:List α}(h:l.length+r.length<=1000000000):app k l r=some (l++r):=by
 obtain⟨x,a,rfl⟩:=ajg b h;exact a
end Go.Fw
def ao0:=@Go.Lib.join_one
namespace Go.Fw
open Go
def Ug(c:UInt8):∀(x:List UInt8),c ∉ x->Lib.index x [c]= -1
 |[],_=>rfl
 |b::l,h=>by
  have a:(c==b)=false:=alu.2 λe=>h (by simp[e]);unfold Lib.index;rw[Ug c l λe=>h (alj _ e)];simp[List.isPrefixOf,a]
def Mu(c:UInt8)(t:List UInt8):∀(x:List UInt8),c ∉ x->Lib.index (x++c::t) [c]=(x.length:Int)
 |[],_=>by simp[Lib.index,List.isPrefixOf]
 |b::l,h=>by
  have a:(c==b)=false:=alu.2 λe=>h (by simp[e]);have d:=Mu c t l λe=>h (alj _ e);rw[alT];unfold Lib.index;rw[d];have:((l.length:Int)== -1)=false:=alu.2 omq;simp[List.isPrefixOf,a,this]
def Ln(c:UInt8):∀(s:List UInt8),Lib.index s [c]≠-1->s=s.take (Lib.index s [c]).toNat++c::s.drop ((Lib.index s [c]).toNat+1)
 |[],h=>by exact absurd rfl h
 |b::l,h=>by
  unfold Lib.index at h⊢;by_cases e:c=b
  ·subst e;simp[List.isPrefixOf]
  ·have d:(c==b)=false:=alu.2 e;simp only[List.isPrefixOf,d,Bool.false_and,alU,alV]at h⊢;by_cases a:Lib.index l [c]= -1
   ·rw[a]at h;exact absurd rfl h
   ·have f:(Lib.index l [c]== -1)=false:=alu.2 a;have g:=Lib.index_ge l [c];simp only[f,alU,alV];rw[show(Lib.index l [c]+1).toNat=(Lib.index l [c]).toNat+1 from omq];simp only[am0,anB,alT];rw[<-Ln c l a]
def ql(x y:List UInt8)(r:List (List UInt8)):Lib.join (x::y::r) [46]=x++46::Lib.join (y::r) [46]:=by
 rw[Lib.join_cons,Lib.join_cons];simp[Lib.joinTail]
def aaa(k:Nat)(s:List UInt8):∃y r,Lib.splitK [46] 0 k s=y::r:=by
 cases k with
 |zero=>exact⟨_,_,rfl⟩
 |succ k=>
  unfold Lib.splitK;split
  ·exact⟨_,_,rfl⟩
  ·exact⟨_,_,rfl⟩
def Lo:∀(k:Nat)(s:List UInt8),Lib.join (Lib.splitK [46] 0 k s) [46]=s
 |0,s=>ao0 s _
 |k+1,s=>by
  unfold Lib.splitK;split
  ·exact ao0 s _
  ·rename_i h;have b:Lib.index s [46]≠-1:=λe=>h (by rw[e];rfl);obtain⟨y,r,c⟩:=aaa k (s.drop ((Lib.index s [46]).toNat+[(46:UInt8)].length));have a:=Lo k (s.drop ((Lib.index s [46]).toNat+[(46:UInt8)].length));rw[c]at a⊢;rw[ql,a];exact(Ln 46 s b).symm
def X2(s:List UInt8):Lib.join (Lib.split s [46]) [46]=s:=Lo _ s
def N9:∀(r:List (List UInt8))(x:List UInt8),(∀y∈x::r,(46:UInt8) ∉ y)->Lib.count (Lib.join (x::r) [46]) [46]=r.length
 |[],x,h=>by
  rw[ao0];exact Lib.count_miss (Ug 46 x (h x siq))
 |y::r,x,h=>by
  have a:=Mu 46 (Lib.join (y::r) [46]) x (h x siq);rw[ql,Lib.count_hit siq a,show x.length+[(46:UInt8)].length=x.length+1 from rfl,<-amG,amL,alH (ak7 _)];simp only[anK,alR,alN,anB,ak4];rw[N9 r y λz b=>h z (alj _ b)];omega
def Lp:∀(r:List (List UInt8))(x:List UInt8),(∀y∈x::r,(46:UInt8) ∉ y)->Lib.splitK [46] 0 r.length (Lib.join (x::r) [46])=x::r
 |[],x,h=>by rw[ao0];rfl
 |y::r,x,h=>by
  have a:=Mu 46 (Lib.join (y::r) [46]) x (h x siq);rw[ak4,ql];unfold Lib.splitK;rw[a,alJ (by simp only[amy];omega)];simp only[anx,al5,ak4,alq,alS];rw[aoX,alw (ak7 _),<-amG,amL,alH (ak7 _)];simp only[anK,aoK,alm,alR,alN,anB];rw[Lp r y λz b=>h z (alj _ b)]
def X3(xs:List (List UInt8))(a:xs≠[])(h:∀y∈xs,(46:UInt8) ∉ y):Lib.split (Lib.join xs [46]) [46]=xs:=by
 cases xs with
 |nil=>exact absurd rfl a
 |cons x r=>
  unfold Lib.split;rw[N9 r x h];exact Lp r x h
def aab(n:Nat):∀b∈Lib.decDigits n,48<=b.toNat/\b.toNat<=57:=by
 induction n using Nat.strongRecOn with
 |ind n c=>
  intro b a;rw[Lib.decDigits]at a;split at a
  ·simp only[al3]at a;subst a;rw[amx];omega
  ·simp only[alM,al3]at a;rcases a with a|rfl
   ·exact c (n / 10) omq b a
   ·rw[amx];omega
def aac(n:Nat):(46:UInt8) ∉ Lib.decDigits n:=λh=>by
 have:=(aab n _ h).1;simp at this
def aad(n:Nat):Lib.decDigits n≠[]:=by
 rw[Lib.decDigits];split<;>simp
def V2(M:Nat)(d:UInt8):∀(l:List UInt8)(acc v:Nat),Lib.parseUintM M acc l=.ok v->Lib.parseUintM M acc (l++[d])=Lib.parseUintM M v [d]
 |[],acc,v,h=>by cases h;rfl
 |c::r,acc,v,h=>by
  rw[alT];unfold Lib.parseUintM at h⊢;split at h<;>try (cases h;done)
  rename_i a;rw[ali a];split at h<;>try (cases h;done)
  rename_i b;rw[alJ b];split at h<;>try (cases h;done)
  rename_i e;rw[alJ e];exact V2 M d r _ v h
def afw(M:Nat)(b:M<=4294967295)(n:Nat):n<=M->Lib.parseUintM M 0 (Lib.decDigits n)=.ok n:=by
 induction n using Nat.strongRecOn with
 |ind n a=>
  intro c;rw[Lib.decDigits];split
  ·rename_i h;have e:(UInt8.ofNat (48+n)).toNat=48+n:=by rw[amx];omega
   unfold Lib.parseUintM;rw[ali (by rw[e];omega),alJ omq,alJ (by rw[e];omega)];unfold Lib.parseUintM;rw[e];congr 1;omega
  ·rename_i h;have e:(UInt8.ofNat (48+n % 10)).toNat=48+n % 10:=by rw[amx];omega
   rw[V2 M _ _ 0 _ (a (n / 10) omq omq)];unfold Lib.parseUintM;rw[ali (by rw[e];omega),alJ omq,alJ (by rw[e];omega)];unfold Lib.parseUintM;rw[e];congr 1;omega
def Oa(n:Nat)(a:n<=4294967295):ju (Lib.decDigits n)=some (.inl (n:Int)):=by
 have b:=I1 n omq;unfold ju;rw[show Nat.ble (Lib.decDigits n).length zy=true from alY (by unfold zy;omega),ala];unfold Lib.parseUintB;rw[alJ (aad n),afw _ deq n (by simpa using a)];rfl
end Go.Fw
def anb:=@Go.IntKind.wrap_u32
namespace Go.Fw
open Go
def vz:List Nat->Bool
 |[]=>false
 |a::t=>match t with
  |[]=>false
  |b::_=>decide (a<=2/\(a<2->b<40)/\(¬a<2->b<=4294967215))
def jo(s:Bs)(L:List Nat):Prop:=vz L=true/\(∀x∈L,x<=4294967295)/\s=Lib.join (L.map Lib.decDigits) [46]
def aX(L:List Nat):List Int:=L.map λ(n:Nat)=>(n:Int)
def afI{a b:Nat}(d:a<=4294967295)(e:b<=4294967295)(h:Lib.decDigits a=Lib.decDigits b):a=b:=by
 have c:=Oa a d;rw[h,Oa b e]at c;simp only[ak1,Sum.inl.injEq]at c;omega
def My:∀{L M:List Nat},(∀x∈L,x<=4294967295)->(∀x∈M,x<=4294967295)->L.map Lib.decDigits=M.map Lib.decDigits->L=M
 |[],[],_,_,_=>rfl
 |[],_::_,_,_,h=>by simp at h
 |_::_,[],_,_,h=>by simp at h
 |a::L,b::M,d,e,h=>by
  simp only[alc,am2]at h;rw[afI (d a siq) (e b siq) h.1,My (λx c=>d x (by simp[c])) (λx c=>e x (by simp[c])) h.2]
def Yg(L:List Nat):∀y∈L.map Lib.decDigits,(46:UInt8) ∉ y:=by
 intro y a;obtain⟨n,_,rfl⟩:=alW.1 a;exact aac n
def aar{L:List Nat}(h:vz L=true):L.map Lib.decDigits≠[]:=by
 cases L with
 |nil=>cases h
 |cons a r=>simp
def jo.split{s:Bs}{L:List Nat}(h:jo s L):Lib.split s [46]=L.map Lib.decDigits:=by
 rw[h.2.2];exact X3 _ (aar h.1) (Yg L)
def jo.uniq{s:Bs}{L M:List Nat}(h:jo s L)(k:jo s M):L=M:=My h.2.1 k.2.1 (h.split.symm.trans k.split)
def QG(L:List Nat):lR (aX L)=some (vz L):=by
 unfold lR syv
 match L with
 |[]=>rfl
 |[_]=>rfl
 |a::b::r=>
  have c:ix (aX (a::b::r)) 0=some (a:Int):=rfl;have d:ix (aX (a::b::r)) 1=some (b:Int):=rfl;have e:decide (((aX (a::b::r)).length:Int)<2)=false:=ak0 (by simp only[aX,alQ,ak4];omega);rw[c,d,e];simp only[ak5,akX];show _=some (decide (a<=2/\(a<2->b<40)/\(¬a<2->b<=4294967215)));by_cases h:a<=2
  ·rw[ak0 (by omega:¬(a:Int)>2),ak5];by_cases f:a<2
   ·rw[ak3 (by omega:(a:Int)<2),ala];exact alD some (aov.2 omq)
   ·rw[ak0 (by omega:¬(a:Int)<2),ak5];exact alD some (aov.2 omq)
  ·rw[ak3 (by omega:(a:Int)>2),ala,ak0 omq]
def ahY(N:Nat)(l:List Bs)(A:l.length<=100000000)(p:∀x∈l,x.length<=100000000):∀(n:Nat)(s:List Bs×Int×Int×List Int),(∃L:List Nat,(∀x∈L,x<=4294967295)/\L.length<=l.length/\l.take L.length=L.map Lib.decDigits/\s=(l,(l.length:Int),(L.length:Int),aX L))->
 l.length-s.2.2.1.toNat<n->OW (G9 N n s) λy=>(∃L:List Nat,(∀x∈L,x<=4294967295)/\l=L.map Lib.decDigits/\y=.inr (aX L))∨(y=.inl 11/\¬∃L:List Nat,(∀x∈L,x<=4294967295)/\l=L.map Lib.decDigits):=by
 refine VW _ _ (λ(s:List Bs×Int×Int×List Int)=>l.length-s.2.2.1.toNat) _ ?_;rintro n _ ⟨L,q,w,r,rfl⟩ v;show OW (bif decide ((L.length:Int)<(l.length:Int)) then _ else _) _;by_cases a:L.length<l.length
 ·rw[ak3 (by omega:(L.length:Int)<(l.length:Int)),ala,bc (akZ a),akX];have g:=alZ a;have o:l.take (L.length+1)=L.map Lib.decDigits++[l[L.length]]:=by
   rw[al8,akZ a,r];rfl
  have d:(∀m≤4294967295,l[L.length]≠Lib.decDigits m)->OW (some (Sum.inl 11):Option (Int⊕List Int)) λy=>(∃L:List Nat,(∀x∈L,x<=4294967295)/\l=L.map Lib.decDigits/\y=.inr (aX L))∨(y=.inl 11/\¬∃L:List Nat,(∀x∈L,x<=4294967295)/\l=L.map Lib.decDigits):=by
   refine λu=>aa (.inr ⟨rfl,?_⟩);rintro⟨M,t,f⟩;have k:L.length<M.length:=by rw[f,alQ]at a;exact a
   refine u M[L.length] (t _ (alZ k)) ?_;simp only[f,List.getElem_map]
  rcases aha l[L.length] (by have:=p _ g;omega) with⟨m,c,B,_⟩|⟨z,c⟩
  ·rw[c,akX];dsimp only;rw[Td m omq,akX];by_cases i:Lib.decDigits m=l[L.length]
   ·rw[show(!(Lib.decDigits m==l[L.length]))=false from by rw[i];simp,ak5,show IntKind.wrap .u32 (m:Int)=(m:Int) from by rw[anb];omega,dQ omq (by simp only[aX,alQ,ak4,alq];omega),akX,bu omq];refine v _ ⟨L++[m],?_,by simp;omega,?_,?_⟩ ?_
    ·intro x p;rcases alM.1 p with h|h
     ·exact q x h
     ·simp at h;omega
    ·rw[ak2,amr,o,<-i];simp
    ·simp[aX]
    ·show l.length-(((L.length+1:Nat):Int)).toNat<l.length-((L.length:Int)).toNat;omega
   ·rw[show(!(Lib.decDigits m==l[L.length]))=true from by simpa using i,cond_true];refine d λj b e=>i ?_;rw[e,Oa j b]at c;simp only[ak1,Sum.inl.injEq]at c;rw[e,show m=j from omq]
  ·rw[c,akX];refine d λj b e=> ?_;rw[e,Oa j b]at c;simp at c
 ·rw[ak0 (by omega:¬(L.length:Int)<(l.length:Int)),ak5];refine aa (.inl ⟨L,q,?_,rfl⟩);rw[<-r,alw omq]
def aas{N:Nat}(j:FN N)(s:Bs)(f:s.length<10000000):OW (Fr N s) λr=>(∃L,jo s L/\r=(aX L,0))∨(r=([],11)/\¬∃L,jo s L):=by
 unfold FN at j;unfold Fr syv;obtain⟨l,b,n,i⟩:=Qa s omq;have c:l=Lib.split s [46]:=by
  unfold dD at b;rw[show Nat.blt s.length 4294967281=true from alY omq]at b;exact(alX b).symm
 rw[b,akX];refine ah (ahY N l omq (λx m=>by have:=i x m;omega) N (l,(l.length:Int),0,[]) ⟨[],by simp,by simp,by simp,rfl⟩ (by show l.length-0<N;omega)) ?_;rintro y (⟨L,g,h,rfl⟩|⟨rfl,k⟩)
 ·dsimp only;rw[QG,akX];have f:s=Lib.join (L.map Lib.decDigits) [46]:=by rw[<-h,c,X2]
  cases d:vz L
  ·refine aa (.inr ⟨rfl,?_⟩);rintro⟨M,a⟩;have e:L=M:=My g a.2.1 (by rw[<-a.split,<-h,c]);rw[e,a.1]at d;cases d
  ·exact aa (.inl ⟨L,⟨d,g,f⟩,rfl⟩)
 ·refine aa (.inr ⟨rfl,?_⟩);rintro⟨M,a⟩;exact k ⟨M,a.2.1,by rw[c,a.split]⟩
noncomputable def ofP(p:Prop):Bool:= @decide p (Classical.propDecidable p)
def tz{p:Prop}:ofP p=true↔p:= @decide_eq_true_iff p (Classical.propDecidable p)
noncomputable def gu(s:Bs):Bool:=ofP (∃L,jo s L)
def jV{s:Bs}:gu s=true↔∃L,jo s L:=tz
def C0{N:Nat}(c:FN N)(s:Bs)(d:s.length<10000000):xi N s=some (gu s):=by
 unfold xi syv;obtain⟨r,h,a⟩:=aas c s d;rw[h,akX];rcases a with⟨L,b,rfl⟩|⟨rfl,a⟩
 ·rw[jV.2 ⟨L,b⟩];rfl
 ·have:gu s=false:=by
   cases h:gu s with
   |false=>rfl
   |true=>exact absurd (jV.1 h) a
  rw[this];rfl
end Go.Fw
namespace Go.Fw
open Go
def b7:Nat->Nat->List UInt8
 |0,_=>[]
 |f+1,n=>if n=0 then [] else UInt8.ofNat (n % 128+128)::b7 f (n / 128)
def Od:∀(f n:Nat),(b7 f n).length<=f
 |0,_=>ak7 _
 |f+1,n=>by
  unfold b7;split
  ·simp
  ·simp only[ak4];have:=Od f (n / 128);omega
def We:∀(f n:Nat),n<128 ^ f->b7 (f+1) n=b7 f n
 |0,n,h=>by
  have:n=0:=by simpa using h
  subst this;rfl
 |f+1,n,h=>by
  unfold b7;split
  ·rfl
  ·rw[We f (n / 128) (by rw[ane]at h;omega)]
def hi7(n:Nat):List UInt8:=(b7 5 n).reverse
def cP(n:Nat):List UInt8:=hi7 (n / 128)++[UInt8.ofNat (n % 128)]
def Mz(n d:Nat)(hd:d<128)(b:n<268435456)(a:n*128+d≠0):hi7 (n*128+d)=hi7 n++[UInt8.ofNat (d+128)]:=by
 unfold hi7;rw[show b7 5 (n*128+d)=UInt8.ofNat ((n*128+d) % 128+128)::b7 4 ((n*128+d) / 128) from by rw[b7,alJ a],anU,show(n*128+d) / 128=n from omq,show(n*128+d) % 128=d from omq,We 4 n omq]
def BO:hi7 0=[]:=rfl
def GS(n:Nat):bits .and .u32 (n:Int) 127=((n % 128:Nat):Int):=by
 show IntKind.u32.wrap (((BitVec.ofInt 32 (n:Int))&&& (BitVec.ofInt 32 127)).toNat:Int)=_;rw[BitVec.toNat_and,anv,show(BitVec.ofInt 32 127).toNat=2 ^ 7-1 from rfl,Nat.and_two_pow_sub_one_eq_mod,anb];omega
def aaw(n:Nat)(h:n<128):bits .or .u32 (n:Int) 128=((n+128:Nat):Int):=by
 show IntKind.u32.wrap (((BitVec.ofInt 32 (n:Int))|||(BitVec.ofInt 32 128)).toNat:Int)=_;rw[ao2,anv,show(BitVec.ofInt 32 128).toNat=1<<<7 from rfl,show((n:Int) % ((2 ^ 32:Nat):Int)).toNat=n from omq,Nat.or_comm,<-anH (by omega:n<2 ^ 7),anb];omega
def Yi(n:Nat):wY .u32 (n:Int) 7=((n / 128:Nat):Int):=by
 show(n:Int).fdiv (2 ^ (7:Nat))=_;rw[anV _ deq];omega
def aax(N:Nat)(l:Bs):∀(f a n:Nat)(acc:List UInt8),a<128 ^ f->f<n->acc.length+f<1000->li N n ((a:Int),l,acc)=some (l,acc++b7 f a):=by
 intro f;induction f with
 |zero=>
  intro a n acc b d _;obtain⟨n,rfl⟩:∃m,n=m+1:=⟨n-1,omq⟩;have:a=0:=by simpa using b
  subst this;show some (l,acc)=_;simp[b7]
 |succ f e=>
  intro a n acc b d g;obtain⟨n,rfl⟩:∃m,n=m+1:=⟨n-1,omq⟩;show(bif decide ((a:Int)>0) then _ else _)=_;by_cases c:a=0
  ·subst c;simp[b7]
  ·rw[ak3 (by omega:(a:Int)>0),ala,GS,aaw _ omq,lW,akX,dQ omq soq,akX,Yi];refine(e (a / 128) n _ (by rw[ane]at b;omega) omq soq).trans ?_;simp[b7,c,show(a % 128+128) % 256=a % 128+128 from omq]
def ah5(N:Nat)(l:Bs):∀(f a n:Nat)(acc:List UInt8),a<128 ^ f->f<n->acc.length+f<1000->ll N n ((a:Int),l,acc)=some (l,acc++b7 f a):=by
 have e:ll N=li N:=by unfold ll li syv;rfl
 rw[e];exact aax N l
def adc(i:Int)(n:Nat):(decide (i>=0)&&decide ((n:Int)>i))=inb i n:=rfl
def aay(N:Nat)(l:Bs):∀(n:Nat)(i j:Int)(m:Bs),lj N n (i,j,l,m)=(cT N n (i,j,m)).map λr=>(l,r):=by
 intro n;induction n with
 |zero=>intro i j m;rfl
 |succ n d=>
  intro i j m;rw[SR];show(bif decide (i<j) then _ else _)=_;dsimp only;simp only[adc];cases decide (i<j)
  ·rfl
  ·rw[ala,ala];cases inb j m.length
   ·rfl
   ·rw[ala,ala];cases ix m j with
    |none=>rfl
    |some b=>
    rw[akX,akX];cases inb i m.length
    ·rfl
    ·rw[ala,ala];cases ix m i with
     |none=>rfl
     |some a=>
     rw[akX,akX];simp only[ala];cases toB (b.toNat:Int) with
     |none=>rfl
     |some c=>
     rw[akX,akX];cases inb j (m.set (Int.toNat i) c).length
     ·rfl
     ·simp only[ala];cases toB (a.toNat:Int) with
      |none=>rfl
      |some e=>
      rw[akX,akX];exact d _ _ _
def Wf(N:Nat)(a:FN N)(m:Bs)(b:m.length<=100):cT N N (0,aC .i64 (m.length:Int) 1,m)=some m.reverse:=by
 unfold FN at a;have h:=Vn N 101 m [] [] N omq omq soq;simp only[alN,alm,alq,alS]at h;rw[pF omq,show(0:Int)=((0:Nat):Int) from rfl];exact h
def ah6(N:Nat)(l:Bs):∀(n:Nat)(i j:Int)(m:Bs),ln N n (i,j,l,m)=(cT N n (i,j,m)).map λr=>(l,r):=by
 have e:ln N=lj N:=by unfold ln lj syv;rfl
 rw[e];exact aay N l
def MA(n:Nat):(cP n).length<=6:=by
 unfold cP hi7;have:=Od 5 (n / 128);simp;omega
def afK(N:Nat)(h:FN N)(acc:Bs)(n:Nat)(l:n<=4294967295)(k:Bs->Option Bs)(j:acc.length<=900000000):
 ((toB (IntKind.wrap .u8 (bits .and .u32 (n:Int) 127))).bind λb=>(ll N N (wY .u32 (n:Int) 7,acc,[b])).bind λ(d,a)=>(ln N N (0,aC .i64 (a.length:Int) 1,d,a)).bind λ(e,f)=>(app 1 e f).bind λg=>k g)=k (acc++cP n):=by
 have c:=h;unfold FN at c;have i:=Od 5 (n / 128);rw[GS,lW,akX,Yi,ah5 N acc 5 (n / 128) N _ omq omq siq,akX];dsimp only;rw[ah6,Wf N h _ soq,amA,akX];dsimp only;rw[dQ omq soq,akX];congr 2;simp[cP,hi7,show n % 128 % 256=n % 128 from omq]
def aaz(N:Nat)(h:FN N){α:Type}(n:Nat)(j:n<=4294967295)(k:Bs->Option α):
 ((toB (IntKind.wrap .u8 (bits .and .u32 (n:Int) 127))).bind λb=>(li N N (wY .u32 (n:Int) 7,[],[b])).bind λ(d,a)=>(lj N N (0,aC .i64 (a.length:Int) 1,d,a)).bind λ(e,f)=>(app 1 e f).bind λg=>k g)=k (cP n):=by
 have c:=h;unfold FN at c;have i:=Od 5 (n / 128);rw[GS,lW,akX,Yi,aax N [] 5 (n / 128) N _ omq omq siq,akX];dsimp only;rw[aay,Wf N h _ soq,amA,akX];dsimp only;rw[dQ omq soq,akX];congr 1;simp[cP,hi7,show n % 128 % 256=n % 128 from omq]
def Dz:List Nat->Bs
 |a::b::r=>cP (40*a+b)++(r.map cP).flatten
 |_=>[]
def ah7(N:Nat)(d:FN N)(s:List Nat)(r:s.length<=100000000)(l:∀x∈s,x<=4294967295):∀(k n i:Nat)(acc:Bs),s.length-i=k->k<n->i<=s.length->acc.length<=6*(i+1)->
 tQ N n (aX s,((aX s).length:Int),(i:Int),acc)=some (acc++((s.drop i).map cP).flatten):=by
 have f:(aX s).length=s.length:=by simp[aX]
 intro k;induction k with
 |zero=>
  intro n i acc h j g e;obtain⟨n,rfl⟩:∃m,n=m+1:=⟨n-1,omq⟩;show(bif decide ((i:Int)<((aX s).length:Int)) then _ else _)=_;rw[ak0 omq,ak5,alH omq];simp
 |succ k p=>
  intro n i acc h j g e;obtain⟨n,rfl⟩:∃m,n=m+1:=⟨n-1,omq⟩;have a:i<s.length:=omq;have o:ix (aX s) (i:Int)=some (s[i]:Int):=by
   refine bc ?_;simp[aX,a]
  have b:=l s[i] (alZ a);show(bif decide ((i:Int)<((aX s).length:Int)) then _ else _)=_;rw[ak3 omq,ala,o,akX,afK N d acc _ b _ omq,bu omq];have q:=MA s[i];have c:=p n (i+1) (acc++cP s[i]) omq omq omq soq;refine c.trans ?_;rw[aly a,alc,alx,<-alp]
def afL{N:Nat}(d:FN N)(s:Bs)(C:s.length<10000000):(∀L,jo s L->ke N s=some (Dz L,0))/\(gu s=false->ke N s=some ([],8)):=by
 have k:=d;unfold FN at k;obtain⟨r,h,c⟩:=aas d s C;refine⟨λL i=> ?_,λo=> ?_⟩
 ·rcases c with⟨M,j,rfl⟩|⟨_,c⟩
  ·have e:=i.uniq j;subst e;obtain⟨f,g,n⟩:=i
   match L,f,g,n,h with
   |a::b::t,f,g,n,h=>
   have E:a<=2/\(a<2->b<40)/\(¬a<2->b<=4294967215):=alC f;have p:t.length<=s.length:=by
    have A:(a::b::t).length<=s.length+2:=by
     obtain⟨l,q1,q,_⟩:=Qa s omq;have B:l=Lib.split s [46]:=by
      unfold dD at q1;rw[show Nat.blt s.length 4294967281=true from alY omq]at q1;exact(alX q1).symm
     have w:=(show jo s (a::b::t) from⟨f,g,n⟩).split;rw[B,w,alQ]at q;exact q
    simp only[ak4]at A;omega
   unfold ke syv;rw[h,akX];dsimp only;have u:ix (aX (a::b::t)) 0=some (a:Int):=rfl;have v:ix (aX (a::b::t)) 1=some (b:Int):=rfl;have y:ay .u32 (iB .u32 40 (a:Int)) (b:Int)=((40*a+b:Nat):Int):=by
    show IntKind.u32.wrap (IntKind.u32.wrap (40*(a:Int))+(b:Int))=_;rw[anb,anb];omega
   rw[show((0:Int) !=0)=false from rfl,ak5,u,v,akX,akX,y,aaz N d _ omq];have m:slc (aX (a::b::t)) 2 ((aX (a::b::t)).length:Int)=some (aX t):=by
    unfold slc;rw[ali ⟨omq,by simp only[aX,alQ,ak4];omega,omq⟩,al5,alw (ak7 _)];rfl
   rw[m,akX];have F:=MA (40*a+b);have z:=ah7 N d t omq (λx D=>g x (by simp[D])) t.length N 0 (cP (40*a+b)) omq omq omq omq;rw[show tQ N N (aX t,((aX t).length:Int),0,cP (40*a+b))=_ from z,akX];rfl
  ·exact absurd ⟨L,i⟩ c
 ·rcases c with⟨M,j,rfl⟩|⟨rfl,c⟩
  ·rw[jV.2 ⟨M,j⟩]at o;cases o
  ·unfold ke syv;rw[h,akX];rfl
end Go.Fw
def amn:=@List.flatten_nil
def an5:=@List.flatten_append
namespace Go.Fw
open Go
set_option maxRecDepth 100000 in
def ah8:∀b:UInt8,IntKind.wrap .u64 (bits .and .u8 (b.toNat:Int) 127)=((b.toNat % 128:Nat):Int):=by
 intro b;have h:∀n:Fin 256,IntKind.wrap .u64 (bits .and .u8 (n.val:Int) 127)=((n.val % 128:Nat):Int):=by decide
 exact h ⟨b.toNat,b.toNat_lt⟩
def afM(v d:Nat)(b:v<=4294967295)(hd:d<128):bits .or .u64 (Pf .u64 (v:Int) 7) (d:Int)=((v*128+d:Nat):Int):=by
 have a:Pf .u64 (v:Int) 7=((v*128:Nat):Int):=by
  show IntKind.u64.wrap ((v:Int)*2 ^ (7:Nat))=_;rw[am8];omega
 rw[a];show IntKind.u64.wrap (((BitVec.ofInt 64 ((v*128:Nat):Int))|||(BitVec.ofInt 64 (d:Int))).toNat:Int)=_;rw[ao2,anv,anv,show(((v*128:Nat):Int) % ((2 ^ 64:Nat):Int)).toNat=v*2 ^ 7 from omq,show((d:Int) % ((2 ^ 64:Nat):Int)).toNat=d from omq,<-aou,<-anH (by omega:d<2 ^ 7),aou,am8];omega
def EW(N n:Nat)(c:Bool)(v:Nat)(a:Bs)(i:Nat)(acc:List Int)(b:UInt8)(o:a[i]?=some b)(u:v<=4294967295)(y:i<1000000000)(w:acc.length<=100000000):
 bF N (n+1) (c,(v:Int),a,(a.length:Int),(i:Int),acc)=if (c=false/\b.toNat=128)∨v*128+b.toNat % 128>4294967295 then some (.inl ([],6)) else if b.toNat<128 then bF N n (false,0,a,(a.length:Int),((i+1:Nat):Int),acc++[((v*128+b.toNat % 128:Nat):Int)]) else bF N n (true,((v*128+b.toNat % 128:Nat):Int),a,(a.length:Int),((i+1:Nat):Int),acc):=by
 have t:i<a.length:=by
  rcases alf i a.length with h|h
  ·exact h
  ·rw[alg omq]at o;cases o
 have r:decide ((i:Int)<(a.length:Int))=true:=ak3 omq;have l:∀x:Int,app 8 acc [x]=some (acc++[x]):=λx=>dQ omq soq;have g:ay .i64 (i:Int) 1=((i+1:Nat):Int):=bu omq;have s:=Vr b;have p:=afM v (b.toNat % 128) u omq;have k:(((b.toNat:Nat):Int)==128)=decide (b.toNat=128):=by
  show((b.toNat:Int)==((128:Nat):Int))=_;rw[F8];rfl
 unfold bF syv;simp only[r,ala,bc o,akX,ah8,p,l,g,k,bne,s];generalize (@Nat.rec (λ_=>Bool×Int×Bs×Int×Int×List Int->Option (Bs×Int⊕Bool×List Int)) _ _ n)=R;generalize ((i+1:Nat):Int)=j at g⊢;generalize z:v*128+b.toNat % 128=m;by_cases q:m>4294967295
 ·rw[ak3 (by omega:(m:Int)>4294967295),ali (.inr q)];cases c
  ·by_cases d:b.toNat=128
   ·simp[d]
   ·simp[d]
  ·simp
 ·rw[ak0 (by omega:¬(m:Int)>4294967295)];by_cases f:b.toNat<128
  ·have d:¬b.toNat=128:=omq;rw[alJ omq,ali f];cases c<;>simp[d,f,g]
  ·by_cases d:c=false/\b.toNat=128
   ·rw[ali (.inl d)];obtain⟨rfl,d⟩:=d;simp[d]
   ·rw[alJ (λh=>h.elim d q),alJ f];cases c
    ·have:¬b.toNat=128:=λe=>d ⟨rfl,e⟩;simp[this,f,g]
    ·simp[f,g]
def aaA(N n:Nat)(c:Bool)(v:Int)(a:Bs)(acc:List Int):bF N (n+1) (c,v,a,(a.length:Int),(a.length:Int),acc)=some (.inr (c,acc)):=by
 show(bif decide ((a.length:Int)<(a.length:Int)) then _ else _)=_;rw[ak0 omq];rfl
def GT{a r:Bs}{i:Nat}{b:UInt8}(h:a.drop i=b::r):a[i]?=some b/\a.drop (i+1)=r:=by
 have c:(a.drop i)[0]?=some b:=by rw[h];rfl
 rw[aoc,anx]at c;refine⟨c,?_⟩;rw[<-amG,h];rfl
def ajy(N:Nat)(a:Bs)(q:a.length<1000000000):∀(k n:Nat),n<=k->0<n->n<33554432->∀(f i:Nat)(acc:List Int)(r:Bs),a.drop i=hi7 n++r->acc.length<=100000000->
 bF N (f+(hi7 n).length) (false,0,a,(a.length:Int),(i:Int),acc)=bF N f (true,(n:Int),a,(a.length:Int),((i+(hi7 n).length:Nat):Int),acc):=by
 intro k;induction k with
 |zero=>intro n v w;omega
 |succ k t=>
  intro n y u z f i acc r c l;have x:i<=a.length:=by
   rcases alf a.length i with h|h
   ·rw[alH omq]at c;have b:=Mz (n / 128) (n % 128) omq omq omq;rw[show n / 128*128+n % 128=n from omq]at b;rw[b]at c;have:=alD List.length c;simp at this
   ·exact h
  have b:=Mz (n / 128) (n % 128) omq omq omq;rw[show n / 128*128+n % 128=n from omq]at b;have o:(UInt8.ofNat (n % 128+128)).toNat=n % 128+128:=by rw[amx];omega
  by_cases d:n / 128=0
  ·rw[d,BO,alN]at b;rw[b]at c⊢;obtain⟨j,p⟩:=GT c;rw[show(0:Int)=((0:Nat):Int) from rfl,amr,EW N f false 0 a i acc _ j omq omq l,o,alJ omq,alJ omq];rw[show 0*128+(n % 128+128) % 128=n from omq]
  ·have e:a.drop i=hi7 (n / 128)++(UInt8.ofNat (n % 128+128)::r):=by rw[c,b];simp
   have g:=t (n / 128) omq omq omq (f+1) i acc _ e l;have m:a.drop (i+(hi7 (n / 128)).length)=UInt8.ofNat (n % 128+128)::r:=by
    rw[<-amG,e,amL,alH (ak7 _)];simp
   obtain⟨j,p⟩:=GT m;have s:=aj j;rw[b,ak2,amr,show f+((hi7 (n / 128)).length+1)=f+1+(hi7 (n / 128)).length from omq,g,EW N f true (n / 128) a _ acc _ j omq omq l,o,alJ soq,alJ omq];rw[show n / 128*128+(n % 128+128) % 128=n from omq,anc]
def ah9(N:Nat)(a:Bs)(e:a.length<1000000000)(m:Nat)(n:m<=4294967295)(f i:Nat)(acc:List Int)(r:Bs)(hd:a.drop i=cP m++r)(c:acc.length<=100000000):
 bF N (f+(cP m).length) (false,0,a,(a.length:Int),(i:Int),acc)=bF N f (false,0,a,(a.length:Int),((i+(cP m).length:Nat):Int),acc++[(m:Int)]):=by
 have k:(UInt8.ofNat (m % 128)).toNat=m % 128:=by rw[amx];omega
 unfold cP at hd⊢;rw[alp,anS]at hd;by_cases h:m / 128=0
 ·rw[h,BO,alN]at hd⊢;obtain⟨b,l⟩:=GT hd;have j:=aj b;rw[show(0:Int)=((0:Nat):Int) from rfl,amr,EW N f false 0 a i acc _ b omq omq c,k,alJ omq,ali omq];rw[show 0*128+m % 128 % 128=m from omq];rfl
 ·have g:=ajy N a e (m / 128) (m / 128) (ak7 _) omq omq (f+1) i acc _ hd c;have d:a.drop (i+(hi7 (m / 128)).length)=UInt8.ofNat (m % 128)::r:=by
   rw[<-amG,hd,amL,alH (ak7 _)];simp
  obtain⟨b,l⟩:=GT d;have j:=aj b;rw[ak2,amr,show f+((hi7 (m / 128)).length+1)=f+1+(hi7 (m / 128)).length from omq,g,EW N f true (m / 128) a _ acc _ b omq omq c,k,alJ soq,ali omq];rw[show m / 128*128+m % 128 % 128=m from omq,anc]
def MB(n:Nat):1<=(cP n).length:=by unfold cP;simp
def MC:∀(L:List Nat),L.length<=((L.map cP).flatten).length
 |[]=>by simp
 |a::r=>by
  have:=MC r;have:=MB a;simp only[alc,alx,ak2,ak4];omega
def aaB(N:Nat)(a:Bs)(d:a.length<100000000):∀(L:List Nat)(f i:Nat)(acc:List Int),(∀x∈L,x<=4294967295)->a.drop i=(L.map cP).flatten->i<=a.length->acc.length<=i->
 bF N (f+1+((L.map cP).flatten).length) (false,0,a,(a.length:Int),(i:Int),acc)=some (.inr (false,acc++aX L))
 |[],f,i,acc,_,b,j,_=>by
  have:i=a.length:=by
   have:=alD List.length b;simp at this;omega
  subst this;show bF N (f+1) _=_;rw[aaA];simp[aX]
 |x::L,f,i,acc,h,b,j,m=>by
  rw[alc,alx]at b;have g:=ah9 N a omq x (h x siq) (f+1+((L.map cP).flatten).length) i acc _ b omq;have c:a.drop (i+(cP x).length)=(L.map cP).flatten:=by
   rw[<-amG,b,amL,alH (ak7 _)];simp
  have e:i+(cP x).length<=a.length:=by
   have:=alD List.length b;rw[al0,ak2]at this;have:=MB x;omega
  have n:=MB x;have l:=aaB N a d L f (i+(cP x).length) (acc++[(x:Int)]) (λy k=>h y (by simp[k])) c e soq;rw[alc,alx,ak2,show f+1+((cP x).length+((L.map cP).flatten).length)=f+1+((L.map cP).flatten).length+(cP x).length from omq,g,l];simp[aX]
def akK(N:Nat)(a:Bs)(z:a.length<100000000):∀(n:Nat)(s:Bool×Int×Bs×Int×Int×List Int),
 (∃(c:Bool)(v i:Nat)(L:List Nat),i<=a.length/\L.length<=i/\(∀x∈L,x<=4294967295)/\v<=4294967295/\a.take i=(L.map cP).flatten++hi7 v/\(c=false->v=0)/\(c=true->0<v)/\s=(c,(v:Int),a,(a.length:Int),(i:Int),aX L))->
 a.length-s.2.2.2.2.1.toNat<n->OW (bF N n s) λy=>y=.inl ([],6)∨∃c L,y=.inr (c,aX L)/\(c=false->a=(L.map cP).flatten/\∀x∈L,x<=4294967295)/\L.length<=a.length:=by
 refine VW _ _ (λ(s:Bool×Int×Bs×Int×Int×List Int)=>a.length-s.2.2.2.2.1.toNat) _ ?_;rintro n _ ⟨c,v,i,L,B,p,f,q,d,r,t,rfl⟩ o;by_cases g:i<a.length
 ·have m:a[i]?=some a[i]:=akZ g;have b:a.take (i+1)=a.take i++[a[i]]:=by rw[al8,m];rfl
  rw[EW N n c v a i _ _ m q omq (by simp[aX];omega)];split
  ·exact aa (.inl rfl)
  ·rename_i j;have u:=a[i].toNat_lt;split
   ·rename_i k;refine o _ ⟨false,0,i+1,L++[v*128+a[i].toNat % 128],omq,by simp;omega,?_,omq,?_,λ_=>rfl,(λh=>by cases h),?_⟩ ?_
    ·intro x A;rcases alM.1 A with h|h
     ·exact f x h
     ·simp at h;omega
    ·rw[b,d,BO,alm,al9,an5,alp];congr 1;simp only[alc,amj,alx,amn,alm,cP];rw[show(v*128+a[i].toNat % 128) / 128=v from omq,show(v*128+a[i].toNat % 128) % 128=a[i].toNat from omq];simp
    ·simp[aX]
    ·show a.length-(((i+1:Nat):Int)).toNat<a.length-((i:Int)).toNat;omega
   ·rename_i k;have l:v*128+a[i].toNat % 128≠0:=by
     cases c with
     |false=>
      have:a[i].toNat≠128:=λe=>j (.inl ⟨rfl,e⟩);omega
     |true=>have:=t rfl;omega
    refine o _ ⟨true,v*128+a[i].toNat % 128,i+1,L,omq,omq,f,omq,?_,(λh=>by cases h),λ_=>omq,rfl⟩ ?_
    ·rw[b,d,Mz v _ omq omq l,alp];congr 2;rw[show a[i].toNat % 128+128=a[i].toNat from omq];simp
    ·show a.length-(((i+1:Nat):Int)).toNat<a.length-((i:Int)).toNat;omega
 ·have:i=a.length:=omq;subst this;rw[aaA];refine aa (.inr ⟨c,L,rfl,λw=>⟨?_,f⟩,p⟩);rw[r w,BO,alm,amC]at d;exact d
end Go.Fw
def anw:=@Int.tdiv_eq_ediv_of_nonneg
namespace Go.Fw
open Go
def aia(N:Nat)(s:List Nat)(o:s.length<=100000000)(g:∀x∈s,x<=4294967295):∀(k n i:Nat)(acc:List Int),s.length-i=k->k<n->i<=s.length->acc.length<=i+2->
 ub N n (aX s,((aX s).length:Int),(i:Int),acc)=some (acc++aX (s.drop i)):=by
 have c:(aX s).length=s.length:=by simp[aX]
 intro k;induction k with
 |zero=>
  intro n i acc e f d b;obtain⟨n,rfl⟩:∃m,n=m+1:=⟨n-1,omq⟩;show(bif decide ((i:Int)<((aX s).length:Int)) then _ else _)=_;rw[ak0 omq,ak5,alH omq];simp[aX]
 |succ k j=>
  intro n i acc e f d b;obtain⟨n,rfl⟩:∃m,n=m+1:=⟨n-1,omq⟩;have a:i<s.length:=omq;have h:ix (aX s) (i:Int)=some (s[i]:Int):=by
   refine bc ?_;simp[aX,a]
  have l:=g s[i] (alZ a);show(bif decide ((i:Int)<((aX s).length:Int)) then _ else _)=_;rw[ak3 omq,ala,h,akX,show IntKind.wrap .u32 (s[i]:Int)=(s[i]:Int) from by rw[anb];omega,dQ omq soq,akX,bu omq];refine(j n (i+1) _ omq omq omq soq).trans ?_;rw[aly a,alp];rfl
def ade(N:Nat)(b:FN N)(L:List Nat)(g:L.length<=100000000)(c:vz L=true)(d:∀x∈L,x<=4294967295):zu N (aX L)=some (Lib.join (L.map Lib.decDigits) [46],0):=by
 unfold FN at b;obtain⟨t,e,h,a,_⟩:=abQ N (aX L) (by simp[aX];omega) (by simp[aX];omega);obtain⟨rfl,rfl⟩:=a (by rw[QG,c]);rw[h];congr 3;unfold aX;rw[List.map_map];refine List.map_congr_left λx f=> ?_;have:=d x f;show Lib.decDigits (IntKind.wrap .u64 (x:Int)).toNat=_;rw[show IntKind.wrap .u64 (x:Int)=(x:Int) from by rw[am8];omega,al5]
def vA:List Nat->List Nat
 |[]=>[]
 |q::r=>min (q / 40) 2::(q-40*min (q / 40) 2)::r
def QH(q:Nat)(r:List Nat)(b:∀x∈q::r,x<=4294967295):vz (vA (q::r))=true/\(∀x∈vA (q::r),x<=4294967295)/\Dz (vA (q::r))=((q::r).map cP).flatten:=by
 have c:=b q siq;refine⟨ak3 omq,?_,?_⟩
 ·intro x a;simp only[vA,alr]at a;rcases a with rfl|rfl|a
  ·omega
  ·omega
  ·exact b x (by simp[a])
 ·show cP (40*min (q / 40) 2+(q-40*min (q / 40) 2))++_=_;rw[show 40*min (q / 40) 2+(q-40*min (q / 40) 2)=q from omq];rfl
def Yj(a b:Nat)(r:List Nat)(h:vz (a::b::r)=true):vA ((40*a+b)::r)=a::b::r:=by
 have c:a<=2/\(a<2->b<40)/\(¬a<2->b<=4294967215):=alC h;show min ((40*a+b) / 40) 2::(40*a+b-40*min ((40*a+b) / 40) 2)::r=_;have e:min ((40*a+b) / 40) 2=a:=omq;rw[e,show 40*a+b-40*a=b from omq]
def Uv{N:Nat}(i:FN N)(a:Bs)(M:List Nat)(d:M.length<=10000000)(l:M≠[])(f:∀x∈M,x<=4294967295)(c:Bool)(h:bF N N (false,0,a,(a.length:Int),0,[])=some (.inr (false,aX M))):cS N a=some (Lib.join ((vA M).map Lib.decDigits) [46],0):=by
 have b:=i;unfold FN at b;cases M with
 |nil=>exact absurd rfl l
 |cons q r=>
  obtain⟨o,p,u⟩:=QH q r f;have t:=f q siq;unfold cS syv;rw[h,akX];dsimp only;have j:ix (aX (q::r)) 0=some (q:Int):=rfl;have s:(aX (q::r)).length=r.length+1:=by simp[aX]
  have e:slc (aX (q::r)) 1 ((aX (q::r)).length:Int)=some (aX r):=by
   unfold slc;rw[ali ⟨omq,omq,omq⟩,al5,alw (ak7 _)];rfl
  have m:TQ (vf .u64 (q:Int) 40) 2=((min (q / 40) 2:Nat):Int):=by
   have:vf .u64 (q:Int) 40=((q / 40:Nat):Int):=by
    show IntKind.u64.wrap ((q:Int).tdiv 40)=_;rw[anw omq,am8];omega
   rw[this];rw[J6];split<;>omega
  have g:IntKind.wrap .u32 ((min (q / 40) 2:Nat):Int)=((min (q / 40) 2:Nat):Int):=by rw[anb];omega
  have n:IntKind.wrap .u32 (aC .u64 (q:Int) (iB .u64 40 ((min (q / 40) 2:Nat):Int)))=((q-40*min (q / 40) 2:Nat):Int):=by
   show IntKind.wrap .u32 (IntKind.u64.wrap ((q:Int)-IntKind.u64.wrap (40*((min (q / 40) 2:Nat):Int))))=_;rw[am8,am8,anb];omega
  rw[ak5,show(((aX (q::r)).length:Int)==0)=false from alu.2 omq,ak5,show decide (((aX (q::r)).length:Int)>0)=true from ak3 omq,ala,j,akX,ala,akX,e,akX,m,g,n];have k:=aia N r (by simp at d;omega) (λx g=>f x (by simp[g])) r.length N 0 [((min (q / 40) 2:Nat):Int),((q-40*min (q / 40) 2:Nat):Int)] omq (by simp at d;omega) omq siq;rw[show ub N N (aX r,((aX r).length:Int),0,_)=_ from k,akX,show [((min (q / 40) 2:Nat):Int),((q-40*min (q / 40) 2:Nat):Int)]++aX (r.drop 0)=aX (vA (q::r)) from rfl,ade N i _ (by simp[vA]at d⊢;omega) o p];rfl
def aaC{N:Nat}(l:FN N){s:Bs}{L:List Nat}(h:jo s L)(f:(Dz L).length<10000000):cS N (Dz L)=some (s,0):=by
 have d:=l;unfold FN at d;obtain⟨c,i,j⟩:=h
 match L,c,i,j,f with
 |a::b::r,c,i,j,f=>
  have n:a<=2/\(a<2->b<40)/\(¬a<2->b<=4294967215):=alC c;have m:∀x∈(40*a+b)::r,x<=4294967295:=by
   intro x g;rcases alr.1 g with rfl|g
   ·omega
   ·exact i x (by simp[g])
  have e:Dz (a::b::r)=(((40*a+b)::r).map cP).flatten:=rfl;have o:=MC ((40*a+b)::r);rw[e]at f⊢;have k:=aaB N _ omq ((40*a+b)::r) (N-1-((((40*a+b)::r).map cP).flatten).length) 0 [] m (alR ..) omq siq;rw[show N-1-((((40*a+b)::r).map cP).flatten).length+1+((((40*a+b)::r).map cP).flatten).length=N from omq,alN]at k;rw[Uv l _ _ omq siq m false k,Yj a b r c,j]
def aaD{N:Nat}(e:FN N)(a:Bs)(m:a.length<10000000):OW (cS N a) λr=>(r.2=0/\∃L,jo r.1 L/\a=Dz L)∨r=([],6):=by
 have b:=e;unfold FN at b;obtain⟨y,h,i⟩:=akK N a omq N (false,0,a,(a.length:Int),0,[]) ⟨false,0,0,[],omq,by simp,by simp,omq,by simp[BO],λ_=>rfl,(λh=>by cases h),rfl⟩ (by show a.length-0<N;omega);rcases i with rfl|⟨c,M,rfl,g,n⟩
 ·unfold cS syv;rw[h,akX];exact aa (.inr rfl)
 ·cases c with
  |true=>
   unfold cS syv;rw[h,akX];exact aa (.inr rfl)
  |false=>
   obtain⟨f,d⟩:=g rfl;cases M with
   |nil=>
    unfold cS syv;rw[h,akX];exact aa (.inr rfl)
   |cons q r=>
    obtain⟨j,k,l⟩:=QH q r d;exact Kc (Uv e a (q::r) omq siq d false h) (.inl ⟨rfl,vA (q::r),⟨j,k,rfl⟩,by rw[l];exact f⟩)
def adf{s:Bs}{L:List Nat}(h:jo s L):L.length<=(Dz L).length+1:=by
 obtain⟨d,e,f⟩:=h
 match L,d with
 |a::b::r,_=>
  have c:=MC ((40*a+b)::r);simp only[ak4]at c⊢;show _<=((((40*a+b)::r).map cP).flatten).length+1;omega
end Go.Fw
