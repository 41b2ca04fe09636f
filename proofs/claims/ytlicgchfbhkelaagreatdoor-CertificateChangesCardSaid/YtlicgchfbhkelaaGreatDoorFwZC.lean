/- A framework for proofs about Go programs in this model: part ZC. Everything is proved; no condition is added. -/
import Derived.Test.YtlicgchfbhkelaaGreatDoorFwZB
set_option linter.unusedVariables false
set_option linter.unusedSimpArgs false
set_option linter.defProp false
def ani:=@List.length_eq_zero_iff
namespace Go.Fw
open Go
abbrev pV:=Int×Bs×(Bs×Bs)×List Rdn×dI×dI×List Rdn×DA×Bool×gR×Bool×gR×List cb
noncomputable def BQ(h:Bool)(b:gR)(ver:Int):Bool:=bif h then decide (ver>=1)&&ir b else((b.1.length:Int)==0)&&b.2==0
def Uz(h:Bool)(b:gR)(ver:Int)(a:b.1.length<10000000):kj h b ver=some (BQ h b ver):=by
 unfold kj tZ BQ syv;rw[vB _ omq];cases h
 ·cases ((b.1.length:Int)==0)<;>rfl
 ·cases decide (ver>=1)<;>rfl
def TB(v:pV):Prop:=v.2.2.1.1.length<10000000/\v.2.2.1.2.length<10000000/\wN v.2.2.2.1<10000000/\wN v.2.2.2.2.2.2.1<10000000/\KB v.2.2.2.2.2.2.2.1/\v.2.2.2.2.2.2.2.2.2.1.1.length<10000000/\v.2.2.2.2.2.2.2.2.2.2.2.1.1.length<10000000/\XB v.2.2.2.2.2.2.2.2.2.2.2.2
noncomputable def mB(N:Nat)(v:pV):Bool:=(bY N v).getD false
def yp(a:FN NN)(v:pV)(h:TB v):bY NN v=some (mB NN v):=by
 obtain⟨f,g,i,j,k,l,m,e⟩:=h;have d:SM (bY NN v):=by
  unfold bY syv;have p:=Uc v.2.2.2.2.2.2.2.2.2.2.2.2;have n:=e.1;simp only[gp,yo a _ f g,vr a _ i,vr a _ j,uT,C1 a _ k,Uz _ _ _ l,Uz _ _ _ m,N6 a v.2.2.2.2.2.2.2.2.2.2.2.2 omq λx b=>by have:=(Og b).1;omega,akX]
  repeat (first|exact aa trivial|refine k_c _ (aa trivial) ?_)
  refine CZ (ah4 a _ omq λx b=>⟨by have:=(Og b).1;omega,e.2 x b⟩) λ_ _=> ?_;dsimp only;exact k_c _ (k_c _ (aa trivial) (aa trivial)) (aa trivial)
 obtain⟨c,o,_⟩:=d;unfold mB;rw[o];rfl
def Ym(v:pV):Prop:=(v.1=0∨v.1=1∨v.1=2)/\v.2.1.length<=20/\ii v.2.1=true/\jR NN v.2.2.1=true/\nk NN v.2.2.2.1=true/\ij v.2.2.2.2.1=true/\ij v.2.2.2.2.2.1=true/\nk NN v.2.2.2.2.2.2.1=true/\zR NN v.2.2.2.2.2.2.2.1=true/\BQ v.2.2.2.2.2.2.2.2.1 v.2.2.2.2.2.2.2.2.2.1 v.1=true/\BQ v.2.2.2.2.2.2.2.2.2.2.1 v.2.2.2.2.2.2.2.2.2.2.2.1 v.1=true/\(v.2.2.2.2.2.2.2.2.2.2.2.2=[]∨gP v.2.2.2.2.2.2.2.2.2.2.2.2=true)
def JE(b:FN NN)(v:pV)(h:TB v)(F:mB NN v=true):Ym v:=by
 have j:=yp b v h;rw[F]at j;obtain⟨u,w,y,z,A,B,C,D⟩:=h;have i:OP (bY NN v) λc=>c=true->Ym v:=by
  unfold bY syv;have J:=Uc v.2.2.2.2.2.2.2.2.2.2.2.2;have E:=D.1;simp only[gp,yo b _ u w,vr b _ y,vr b _ z,uT,C1 b _ A,Uz _ _ _ B,Uz _ _ _ C,N6 b v.2.2.2.2.2.2.2.2.2.2.2.2 omq λx G=>by have:=(Og G).1;omega,akX];have a:OP (some false) λc=>c=true->Ym v:=aA λh=>by cases h
  refine aD (λ_=>a) λc1=>aD (λ_=>a) λk=>aD (λ_=>a) λl=>aD (λ_=>a) λm=>aD (λ_=>a) λn=>aD (λ_=>a) λ_=>aD (λ_=>a) λo=>aD (λ_=>a) λp=>aD (λ_=>a) λs=>aD (λ_=>a) λt=>aD (λ_=>a) λe=>aD (λ_=>a) λf=>aD (λ_=>a) λg=> ?_;have H:=amz c1;have d2:=amz k;have I:=amz l;have d:∀(_:v.2.2.2.2.2.2.2.2.2.2.2.2=[]∨gP v.2.2.2.2.2.2.2.2.2.2.2.2=true),Ym v:=λq=>
   ⟨omq,omq,by simpa using m,by simpa using n,by simpa using o,by simpa using p,by simpa using s,by simpa using t,by simpa using e,by simpa using f,by simpa using g,q⟩
  refine aD (λc=>aA λ_=>d (.inl ?_)) λ_=>aU (bX _) λr _=> ?_
  ·have:((v.2.2.2.2.2.2.2.2.2.2.2.2.length:Nat):Int)=0:=by simpa using c
   exact ani.1 omq
  ·exact aD (λ_=>aD (λc=>aA λ_=>d (.inr c)) λ_=>a) λ_=>a
 exact i true j rfl
noncomputable def tvT(ver:Int):List TLV:=bif decide (ver>0) then [(2,true,0,ag (0,false,2,nL ver.toNat))] else []
def idT(n:Nat)(h:Bool)(b:gR):List TLV:=bif h then [(2,false,n,cn b)] else []
noncomputable def exT(x:List cb):List TLV:=bif decide (((x.length:Nat):Int)>0) then [(2,true,3,fX x)] else []
noncomputable def eF(v:pV):List TLV:=tvT v.1++((0,false,2,v.2.1)::mb v.2.2.1::gr v.2.2.2.1::fY v.2.2.2.2.1 v.2.2.2.2.2.1::gr v.2.2.2.2.2.2.1::iu v.2.2.2.2.2.2.2.1::(idT 1 v.2.2.2.2.2.2.2.2.1 v.2.2.2.2.2.2.2.2.2.1++(idT 2 v.2.2.2.2.2.2.2.2.2.2.1 v.2.2.2.2.2.2.2.2.2.2.2.1++exT v.2.2.2.2.2.2.2.2.2.2.2.2)))
noncomputable def kW(v:pV):TLV:=(0,true,16,ak (eF v))
def afT{v:pV}{t:TLV}(a:t∈eF v):t.1<4/\t.2.2.1<31:=by
 unfold eF tvT idT exT at a;simp only[alM,alr]at a;rcases a with a|rfl|rfl|rfl|rfl|rfl|rfl|a|a|a
 ·cases b:decide (v.1>0)
  ·rw[b]at a;cases a
  ·rw[b]at a;rw[al3.1 a];exact⟨by show 2<4;decide,by show 0<31;decide⟩
 ·exact⟨by show 0<4;decide,by show 2<31;decide⟩
 ·exact⟨by show 0<4;decide,by show 16<31;decide⟩
 ·exact⟨by show 0<4;decide,by show 16<31;decide⟩
 ·exact⟨by show 0<4;decide,by show 16<31;decide⟩
 ·exact⟨by show 0<4;decide,by show 16<31;decide⟩
 ·exact⟨by show 0<4;decide,by show 16<31;decide⟩
 ·cases b:v.2.2.2.2.2.2.2.2.1
  ·rw[b]at a;cases a
  ·rw[b]at a;rw[al3.1 a];exact⟨by show 2<4;decide,by show 1<31;decide⟩
 ·cases b:v.2.2.2.2.2.2.2.2.2.2.1
  ·rw[b]at a;cases a
  ·rw[b]at a;rw[al3.1 a];exact⟨by show 2<4;decide,by show 2<31;decide⟩
 ·cases b:decide (((v.2.2.2.2.2.2.2.2.2.2.2.2.length:Nat):Int)>0)
  ·rw[b]at a;cases a
  ·rw[b]at a;rw[al3.1 a];exact⟨by show 2<4;decide,by show 3<31;decide⟩
def aaJ{b:List TLV}(h:∀t∈b,t.1<4/\t.2.2.1<31)(e:(ak b).length<10000000):∀t∈b,okT t:=λt a=>by
 have c:=fc _ t a;have d:=bt t;exact⟨(h t a).1,(h t a).2,omq⟩
def aee(c:FN NN)(v:pV)(h:TB v)(hs:(ak (eF v)).length<10000000):cm NN v=some (bif mB NN v then(ag (kW v),0) else([],8)):=by
 have hv:=yp c v h;cases Z:mB NN v
 ·unfold cm syv;rw[hv,Z];rfl
 ·obtain⟨f1,f2,f3,f4,f5,f6,f7,f8,f9,d,f,y⟩:=JE c v h Z;have e9:∀t∈eF v,(ag t).length<10000000:=λt ht=>by have:=fc _ t ht;omega
  have z:iu v.2.2.2.2.2.2.2.1∈eF v:=by unfold eF;simp
  have j8:=e9 _ z;have j9:=bt (iu v.2.2.2.2.2.2.2.1);have k8:(iu v.2.2.2.2.2.2.2.1).2.2.2.length=(ak (nM v.2.2.2.2.2.2.2.1)).length:=rfl;rw[Z]at hv;obtain⟨h1,h2,h3,h4,h5,h6,p,W⟩:=h;have B:=RB c v.2.2.1 h1 h2;rw[f4]at B;have C:=N4 c v.2.2.2.1 h3;rw[f5]at C;have i:=N4 c v.2.2.2.2.2.2.1 h4;rw[f8]at i;simp only[ala]at B C i;have hp:=aik c v.2.2.2.2.1 v.2.2.2.2.2.1 f6 f7;have A:=ajI c v.2.2.2.2.2.2.2.1 h5 f9 omq;have hw:=kA c 0 2 false v.2.1 0 2 rfl rfl omq omq omq;have E:=ahK c v.2.2.2.2.2.2.2.2.2.2.2.2 W.1;have j3:=Z0 v.2.2.2.2.2.2.2.2.2.2.2.2 (by have:=W.1;omega);have X:=W.1;have hq:=λ(L:List Bs)(e:L.flatten=ak (eF v))(hl:L.length<=10)=>GJ c L (ak (eF v)) e omq omq;suffices OW (cm NN v) λr=>r=(ag (kW v),0) by
   obtain⟨r,D,rfl⟩:=this;exact D
  unfold cm syv;obtain⟨a,s,⟨J,sp⟩,n,⟨K,M,N,O,P,Q⟩,⟨S,u2,u3,u4,u5,T⟩,m,⟨⟨F,I⟩,G,H⟩,q,⟨j,l⟩,u,⟨k,o⟩,x⟩:=v;dsimp only at f1 f2 d f y h6 p B C i hp A hw E j3 X hq;rw[hv];refine iq (gS (k_t ?_));dsimp only;refine ah (R:=λr=>∃L:List Bs,r=(a,s,J,sp,n,K,M,N,O,P,Q,S,u2,u3,u4,u5,T,m,F,I,G,H,q,j,l,u,k,o,x,0,L)/\L.length<=1/\L.flatten=ak (tvT a)) ?_ ?_
  ·unfold tvT;refine aY (λg=> ?_) λg=> ?_
   ·rw[ak3 g];have w:a=((a.toNat:Nat):Int):=omq;have D:=acU c a.toNat;rw[<-w]at D;have hc:=Mv a.toNat;have hc2:(ag (0,false,2,nL a.toNat)).length<=(nL a.toNat).length+6:=eC (b:=nL a.toNat) omq;refine cC D (cC (kA c 0 2 false (nL a.toNat) 0 2 rfl rfl omq omq omq) ?_);dsimp only;refine cC (kA c 2 0 true (ag (0,false,2,nL a.toNat)) 2 0 rfl rfl omq omq omq) ?_;dsimp only;refine jG omq siq (aa ⟨_,by rw[nh],by simp,?_⟩);simp[ak]
   ·rw[ak0 g];exact aa ⟨_,rfl,by simp,rfl⟩
  rintro _ ⟨L1,rfl,j5,w⟩;dsimp only;refine cC hw ?_;dsimp only;refine jG omq omq (cC B ?_);dsimp only;refine jG omq soq (cC C ?_);dsimp only;refine jG omq soq (cC hp ?_);dsimp only;refine jG omq soq (cC i ?_);dsimp only;refine jG omq soq (cC A ?_);dsimp only;refine jG omq soq ?_;refine ah (R:=λr=>∃L:List Bs,r=(a,s,J,sp,n,K,M,N,O,P,Q,S,u2,u3,u4,u5,T,m,F,I,G,H,q,j,l,u,k,o,x,0,L)/\L.length<=8/\L.flatten=ak (tvT a++((0,false,2,s)::mb (J,sp)::gr n::fY (K,M,N,O,P,Q) (S,u2,u3,u4,u5,T)::gr m::iu ((F,I),G,H)::idT 1 q (j,l)))) ?_ ?_
  ·simp only[nh];unfold idT;cases q
   ·refine k_f (aa ⟨_,rfl,by simp;omega,?_⟩);simp only[an5,alx,amn,w,sw,dt,ak5,alp,alm,alN];simp[ak,mb,gr,eD,ep,ag]
   ·have U:ir (j,l)=true:=by
     unfold BQ at d;simp only[ala,akY]at d;exact d.2
    have V:=JD c (j,l) U h6;refine k_t (cC V (cC (kA c 2 1 false (cn (j,l)) 2 1 rfl rfl omq omq (by rw[jf];dsimp only;omega)) ?_));dsimp only;refine jG omq soq ?_;simp only[nh];refine aa ⟨_,rfl,by simp;omega,?_⟩;simp only[an5,alx,amn,w,sw,dt,ala,alp,alm,alN];simp[ak,mb,gr,eD,ep,ag]
  rintro _ ⟨L2,rfl,j6,e2⟩;clear w;dsimp only;refine ah (R:=λr=>∃L:List Bs,r=(a,s,J,sp,n,K,M,N,O,P,Q,S,u2,u3,u4,u5,T,m,F,I,G,H,q,j,l,u,k,o,x,0,L)/\L.length<=9/\L.flatten=L2.flatten++ak (idT 2 u (k,o))) ?_ ?_
  ·unfold idT;cases u
   ·exact k_f (aa ⟨_,rfl,omq,by simp[ak]⟩)
   ·have U:ir (k,o)=true:=by
     unfold BQ at f;simp only[ala,akY]at f;exact f.2
    have V:=JD c (k,o) U p;refine k_t (cC V (cC (kA c 2 2 false (cn (k,o)) 2 2 rfl rfl omq omq (by rw[jf];dsimp only;omega)) ?_));dsimp only;refine jG omq omq ?_;simp only[nh];exact aa ⟨_,rfl,by simp;omega,by simp[ak]⟩
  rintro _ ⟨L3,rfl,j7,e3⟩;dsimp only;refine ah (R:=λr=>∃L:List Bs,r=(0,L)/\L.length<=10/\L.flatten=L3.flatten++ak (exT x)) ?_ ?_
  ·unfold exT;refine aY (λg=> ?_) λg=> ?_
   ·rw[ak3 g];have j4:gP x=true:=by
     rcases y with p|p
     ·rw[p]at g;simp at g
     ·exact p
    rw[j4]at E;simp only[ala]at E;refine cC E (cC (kA c 2 3 true (fX x) 2 3 rfl rfl omq omq omq) ?_);dsimp only;refine jG omq omq ?_;simp only[nh];exact aa ⟨_,rfl,by simp;omega,by simp[ak]⟩
   ·rw[ak0 g];exact aa ⟨_,rfl,omq,by simp[ak]⟩
  rintro _ ⟨L4,rfl,Y,e4⟩;dsimp only;refine k_z (cC (hq L4 ?_ Y) (aa rfl));rw[e4,e3,e2];unfold eF;simp only[sw,dt,alp]
end Go.Fw
namespace Go.Fw
open Go
def aaK{a:Bs}{d:List TLV}{b:List aV}(h:br (EL a) d b)(k:Bool)(n:Nat)(c:Int)(f:c=(n:Int))(i:∀t∈d.head?,¬(t.1=2/\t.2.1=k/\t.2.2.1=n)):b=[]∨∃e r,b=e::r/\eu e 2 k c=some false:=by
 cases h with
 |nil=>exact .inl rfl
 |cons g _=>exact .inr ⟨_,_,rfl,g.no 2 n k 2 c rfl f (i _ siq)⟩
def ail(b:Bool)(y:gR)(x:List cb):∀t∈(idT 2 b y++exT x).head?,¬(t.1=2/\t.2.1=false/\t.2.2.1=1):=by
 unfold idT exT;cases b<;>cases decide (((x.length:Nat):Int)>0)<;>simp
def aim(x:List cb):∀t∈(exT x).head?,¬(t.1=2/\t.2.1=false/\t.2.2.1=2):=by
 unfold exT;cases decide (((x.length:Nat):Int)>0)<;>simp
def aef{b:gR}{ver:Int}(h:BQ false b ver=true):b=([],0):=by
 unfold BQ at h;simp only[ak5,akY,amy]at h;have a:b.1.length=0:=omq;exact Prod.ext (ani.1 a) h.2
def aaL{b:gR}{ver:Int}(h:BQ true b ver=true):ir b=true:=by
 unfold BQ at h;simp only[ala,akY]at h;exact h.2
set_option maxHeartbeats 4000000 in
def ain(L:FN NN)(v:pV)(hB:TB v)(hk:mB NN v=true)(a:Bs)(hE:ag (kW v)=a)(ha:a.length<9000000)(hX:(fX v.2.2.2.2.2.2.2.2.2.2.2.2).length<300000):dC NN a=some (v,0,0):=by
 have e9:(ak (eF v)).length<a.length:=by rw[<-hE];exact bt (kW v)
 obtain⟨l,hp,d⟩:=lg L (c:=0) (num:=16) omq omq a (eF v) hE.symm (aaJ (λt X=>afT X) omq) omq 0 16 rfl rfl;have hv:=yp L v hB;rw[hk]at hv;obtain⟨f1,f2,f3,f4,f5,f6,f7,f8,f9,N,O,Q⟩:=JE L v hB hk;have K:∀t∈eF v,(ag t).length<9000000:=λt X=>by have:=fc _ t X;omega
 obtain⟨f,s,⟨q,sp⟩,n,⟨B,C,D,E,F,G⟩,⟨H,u2,u3,u4,u5,I⟩,m,⟨⟨w,A⟩,y,z⟩,J,⟨o,p⟩,k,⟨i,j⟩,x⟩:=v;dsimp only at f1 f2 f4 f5 f6 f7 f8 f9 N O Q hX;have fs:=aed L s omq;have fa:=Ux L (q,sp) f4 (ag (mb (q,sp))) rfl (by have:=K (mb (q,sp)) (by unfold eF;simp);omega);have fn:=V0 L n f5 (ag (gr n)) rfl (by have:=K (gr n) (by unfold eF;simp);omega);have ft:=afR L (B,C,D,E,F,G) (H,u2,u3,u4,u5,I) f6 f7;have fm:=V0 L m f8 (ag (gr m)) rfl (by have:=K (gr m) (by unfold eF;simp);omega);have fk:=aij L ((w,A),y,z) f9 (ag (iu ((w,A),y,z))) rfl (K _ (by unfold eF;simp));suffices OW (dC NN a) λr=>r=((f,s,(q,sp),n,(B,C,D,E,F,G),(H,u2,u3,u4,u5,I),m,((w,A),y,z),J,(o,p),k,(i,j),x),0,0) by
  obtain⟨r,W,rfl⟩:=this;exact W
 have M:br (EL a) (tvT f++((0,false,2,s)::mb (q,sp)::gr n::fY (B,C,D,E,F,G) (H,u2,u3,u4,u5,I)::gr m::iu ((w,A),y,z)::(idT 1 J (o,p)++(idT 2 k (i,j)++exT x)))) l:=d;clear d;unfold dC syv;refine gQ (cC hp (iq ?_));dsimp only;refine ah (R:=λr=>∃b,r=(f,a,b,0,0)/\br (EL a) ((0,false,2,s)::mb (q,sp)::gr n::fY (B,C,D,E,F,G) (H,u2,u3,u4,u5,I)::gr m::iu ((w,A),y,z)::(idT 1 J (o,p)++(idT 2 k (i,j)++exT x))) b) ?_ ?_
 ·rcases (by omega:f=0∨0<f) with rfl|V
  ·cases M with
   |cons u d=>
    have c1:=u.no 2 0 true 2 0 rfl rfl (λh=>by cases h.1)
    (have zz:∀(P:Prop)(h:P:=by exact aa ⟨_,rfl,br.cons u d⟩),P:= @id;exact stQ)
  ·have g:br (EL a) ((2,true,0,ag (0,false,2,nL f.toNat))::((0,false,2,s)::mb (q,sp)::gr n::fY (B,C,D,E,F,G) (H,u2,u3,u4,u5,I)::gr m::iu ((w,A),y,z)::(idT 1 J (o,p)++(idT 2 k (i,j)++exT x)))) l:=by
    unfold tvT at M;rw[ak3 V]at M;exact M
   have hc:=Mv f.toNat;have q1:=aed L (nL f.toNat) omq;have T:=Pv L (nL f.toNat) omq;rw[V8,ak3 omq,aai _ omq,show((f.toNat:Nat):Int)=f from omq]at T;simp only[aoU,ala]at T;cases g with
   |cons u d=>
    have c1:=u.yes 2 0 true 2 0 rfl rfl rfl rfl rfl
    (have zz:∀(P:Prop)(h:P:=by exact aie omq (aie omq (aa ⟨_,rfl,d⟩))),P:= @id;exact stQ)
 clear M hp;rintro _ ⟨b,rfl,d⟩;dsimp only;refine ah (R:=λr=>∃b,r=(s,a,b,0,0,f)/\br (EL a) (mb (q,sp)::gr n::fY (B,C,D,E,F,G) (H,u2,u3,u4,u5,I)::gr m::iu ((w,A),y,z)::(idT 1 J (o,p)++(idT 2 k (i,j)++exT x))) b) ?_ ?_
 ·cases d with
  |cons u d=>(have zz:∀(P:Prop)(h:P:=by exact aa ⟨_,rfl,d⟩),P:= @id;exact stQ)
 clear d;rintro _ ⟨b,rfl,d⟩;dsimp only;refine ah (R:=λr=>∃b,r=(a,b,0,0,f,s,q,sp)/\br (EL a) (gr n::fY (B,C,D,E,F,G) (H,u2,u3,u4,u5,I)::gr m::iu ((w,A),y,z)::(idT 1 J (o,p)++(idT 2 k (i,j)++exT x))) b) ?_ ?_
 ·cases d with
  |cons u d=>(have zz:∀(P:Prop)(h:P:=by exact aa ⟨_,rfl,d⟩),P:= @id;exact stQ)
 clear d;rintro _ ⟨b,rfl,d⟩;dsimp only;refine ah (R:=λr=>∃b,r=(n,a,b,0,0,f,s,q,sp)/\br (EL a) (fY (B,C,D,E,F,G) (H,u2,u3,u4,u5,I)::gr m::iu ((w,A),y,z)::(idT 1 J (o,p)++(idT 2 k (i,j)++exT x))) b) ?_ ?_
 ·cases d with
  |cons u d=>(have zz:∀(P:Prop)(h:P:=by exact aa ⟨_,rfl,d⟩),P:= @id;exact stQ)
 clear d;rintro _ ⟨b,rfl,d⟩;dsimp only;refine ah (R:=λr=>∃b Y Z e3 e4 e5 e6,r=(ag (fY (B,C,D,E,F,G) (H,u2,u3,u4,u5,I)),a,b,0,0,f,s,q,sp,n,Y,Z,e3,e4,e5,e6)/\br (EL a) (gr m::iu ((w,A),y,z)::(idT 1 J (o,p)++(idT 2 k (i,j)++exT x))) b) ?_ ?_
 ·cases d with
  |cons u d=>(have zz:∀(P:Prop)(h:P:=by exact aa ⟨_,_,_,_,_,_,_,rfl,d⟩),P:= @id;exact stQ)
 clear d;rintro _ ⟨b,Y,Z,e3,e4,e5,e6,rfl,d⟩;dsimp only;refine ah (R:=λr=>r=(a,b,0,0,f,s,q,sp,n,B,C,D,E,F,G,H,u2,u3,u4,u5,I)) (by(have zz:∀(P:Prop)(h:P:=by exact aa rfl),P:= @id;exact stQ)) ?_;rintro _ rfl;dsimp only;refine ah (R:=λr=>∃b,r=(m,a,b,0,0,f,s,q,sp,n,B,C,D,E,F,G,H,u2,u3,u4,u5,I)/\br (EL a) (iu ((w,A),y,z)::(idT 1 J (o,p)++(idT 2 k (i,j)++exT x))) b) ?_ ?_
 ·cases d with
  |cons u d=>(have zz:∀(P:Prop)(h:P:=by exact aa ⟨_,rfl,d⟩),P:= @id;exact stQ)
 clear d;rintro _ ⟨b,rfl,d⟩;dsimp only;refine ah (R:=λr=>∃b,r=(a,b,0,0,f,s,q,sp,n,B,C,D,E,F,G,H,u2,u3,u4,u5,I,m,w,A,y,z)/\br (EL a) ((idT 1 J (o,p)++(idT 2 k (i,j)++exT x))) b) ?_ ?_
 ·cases d with
  |cons u d=>(have zz:∀(P:Prop)(h:P:=by exact aa ⟨_,rfl,d⟩),P:= @id;exact stQ)
 clear d;rintro _ ⟨b,rfl,d⟩;dsimp only;refine ah (R:=λr=>∃b,r=(J,a,b,0,0,f,s,q,sp,n,B,C,D,E,F,G,H,u2,u3,u4,u5,I,m,w,A,y,z,o,p)/\br (EL a) (idT 2 k (i,j)++exT x) b) ?_ ?_
 ·cases J
  ·cases aef N;have g:br (EL a) (idT 2 k (i,j)++exT x) b:=d;rcases aaK g false 1 1 rfl (ail k (i,j) x) with rfl|⟨e,r,rfl,c1⟩
   ·(have zz:∀(P:Prop)(h:P:=by exact aa ⟨_,rfl,g⟩),P:= @id;exact stQ)
   ·(have zz:∀(P:Prop)(h:P:=by exact aa ⟨_,rfl,g⟩),P:= @id;exact stQ)
  ·have q1:=aaL N;have q3:(cn (o,p)).length<9000000:=Nat.lt_trans (bt (2,false,1,cn (o,p))) (K _ (by unfold eF;simp[idT]));rw[jf]at q3;have T:=F7 (o,p) omq (by rw[vB _ omq,q1]);have g:br (EL a) ((2,false,1,cn (o,p))::(idT 2 k (i,j)++exT x)) b:=d;cases g with
   |cons u g=>
    have c1:=u.yes 2 1 false 2 1 rfl rfl rfl rfl rfl
    (have zz:∀(P:Prop)(h:P:=by exact aa ⟨_,rfl,g⟩),P:= @id;exact stQ)
 clear d;rintro _ ⟨b,rfl,d⟩;dsimp only;refine ah (R:=λr=>∃b,r=(k,a,b,0,0,f,s,q,sp,n,B,C,D,E,F,G,H,u2,u3,u4,u5,I,m,w,A,y,z,J,o,p,i,j)/\br (EL a) (exT x) b) ?_ ?_
 ·cases k
  ·cases aef O;have g:br (EL a) (exT x) b:=d;rcases aaK g false 2 2 rfl (aim x) with rfl|⟨e,r,rfl,c1⟩
   ·(have zz:∀(P:Prop)(h:P:=by exact aa ⟨_,rfl,g⟩),P:= @id;exact stQ)
   ·(have zz:∀(P:Prop)(h:P:=by exact aa ⟨_,rfl,g⟩),P:= @id;exact stQ)
  ·have q1:=aaL O;have q3:(cn (i,j)).length<9000000:=Nat.lt_trans (bt (2,false,2,cn (i,j))) (K _ (by unfold eF;simp[idT]));rw[jf]at q3;have T:=F7 (i,j) omq (by rw[vB _ omq,q1]);have g:br (EL a) ((2,false,2,cn (i,j))::(exT x)) b:=d;cases g with
   |cons u g=>
    have c1:=u.yes 2 2 false 2 2 rfl rfl rfl rfl rfl
    (have zz:∀(P:Prop)(h:P:=by exact aa ⟨_,rfl,g⟩),P:= @id;exact stQ)
 clear d;rintro _ ⟨b,rfl,d⟩;dsimp only;refine ah (R:=λr=>(x=[]/\r=(false,a,[],0,0,f,s,q,sp,n,B,C,D,E,F,G,H,u2,u3,u4,u5,I,m,w,A,y,z,J,o,p,k,i,j,0,0,false,0,0,0))∨∃e:aV,EL a (2,true,3,fX x) e/\gP x=true/\r=(true,a,[],0,0,f,s,q,sp,n,B,C,D,E,F,G,H,u2,u3,u4,u5,I,m,w,A,y,z,J,o,p,k,i,j,e.1,e.2.1,e.2.2.1,e.2.2.2.1,e.2.2.2.2.1,e.2.2.2.2.2)) ?_ ?_
 ·unfold exT at d;cases S:decide (((x.length:Nat):Int)>0)
  ·have:x=[]:=ani.1 (by have:=amz S;omega);rw[S]at d;cases d
   (have zz:∀(P:Prop)(h:P:=by exact aa (.inl ⟨this,rfl⟩)),P:= @id;exact stQ)
  ·rw[S]at d;have q1:gP x=true:=by
    rcases Q with U|U
    ·rw[U]at S;simp at S
    ·exact U
   cases d with
   |cons u d=>
    cases d;have c1:=u.yes 2 3 true 2 3 rfl rfl rfl rfl rfl
    (have zz:∀(P:Prop)(h:P:=by exact aa (.inr ⟨_,u,q1,rfl⟩)),P:= @id;exact stQ)
 clear d;intro r W;refine ah (R:=λr=>r=(a,[],0,0,f,s,q,sp,n,B,C,D,E,F,G,H,u2,u3,u4,u5,I,m,w,A,y,z,J,o,p,k,i,j,x)) ?_ ?_
 ·rcases W with⟨rfl,rfl⟩|⟨e,u,q1,rfl⟩
  ·(have zz:∀(P:Prop)(h:P:=by exact aa rfl),P:= @id;exact stQ)
  ·have fx:=aft L x q1 (fX x) rfl hX
   (have zz:∀(P:Prop)(h:P:=by exact aa rfl),P:= @id;exact stQ)
 rintro _ rfl;dsimp only;refine cC hv ?_
 (have zz:∀(P:Prop)(h:P:=by exact aa rfl),P:= @id;exact stQ)
end Go.Fw
namespace Go.Fw
open Go
abbrev iC:=pV×(Bs×Bs)×gR
noncomputable def nN(N:Nat)(v:iC):Bool:=(v.2.1.1==v.1.2.2.1.1&&v.2.1.2==v.1.2.2.1.2)&&(ir v.2.2&&mB N v.1)
noncomputable def gT(v:iC):List TLV:=[kW v.1,mb v.2.1,vC v.2.2]
noncomputable def jg(v:iC):TLV:=(0,true,16,ak (gT v))
def QB(v:iC):Prop:=TB v.1/\v.2.1.1.length<10000000/\v.2.1.2.length<10000000/\v.2.2.1.length<8000000
def JF(b:FN NN)(v:iC)(h:QB v):iH NN v=some (nN NN v):=by
 obtain⟨a,c,d,e⟩:=h;unfold iH gD rD nN syv;rw[vB _ omq,yp b _ a];simp only[akX];cases (v.2.1.1==v.1.2.2.1.1)<;>cases (v.2.1.2==v.1.2.2.1.2)<;>cases ir v.2.2<;>rfl
def PG{N:Nat}{v:iC}(h:nN N v=true):v.2.1=v.1.2.2.1/\ir v.2.2=true/\mB N v.1=true:=by
 unfold nN at h;simp only[akY,amy]at h;exact⟨Prod.ext h.1.1 h.1.2,h.2.1,h.2.2⟩
def PH{v:iC}:(ak (eF v.1)).length<(ak (gT v)).length:=by
 have a:=fc (gT v) (kW v.1) (by unfold gT;simp);have b:=bt (kW v.1);have c:(kW v.1).2.2.2.length=(ak (eF v.1)).length:=rfl;omega
def ajJ(a:FN NN)(v:iC)(h:QB v)(t:(ak (gT v)).length<9000000):dP NN v=some (bif nN NN v then(ag (jg v),0) else([],8)):=by
 have e:=JF a v h;cases c:nN NN v
 ·unfold dP syv;rw[e,c];rfl
 ·rw[c]at e;obtain⟨g,p,i⟩:=PG c;obtain⟨f,j,k,q⟩:=h;have s:=PH (v:=v);have d:=aee a v.1 f omq;rw[i]at d;have b:=RB a v.2.1 j k;rw[g,(JE a v.1 f i).2.2.2.1,<-g]at b;simp only[ala]at d b;have l:=JD a v.2.2 p omq;have o:=kA a 0 3 false (cn v.2.2) 0 3 rfl rfl omq omq (by rw[jf];omega);have m:=GJ a [ag (kW v.1),eD v.2.1,ag (0,false,3,cn v.2.2)] (ak (gT v)) rfl siq omq;suffices OW (dP NN v) λr=>r=(ag (jg v),0) by
   obtain⟨r,n,rfl⟩:=this;exact n
  unfold dP syv;rw[e];refine iq (gS (k_t (cC d ?_)));dsimp only;refine jG omq siq (cC b ?_);dsimp only;refine jG omq siq (cC l (cC o ?_));dsimp only;refine jG omq siq ?_;simp only[nh];exact k_z (cC m (aa rfl))
def adj(s p:Bs):gD (s,p) (s,p)=some true:=by
 unfold gD rD syv;simp
def afU{v:iC}{t:TLV}(a:t∈gT v):t.1<4/\t.2.2.1<31:=by
 unfold gT at a;simp only[alr,ant,or_false]at a;rcases a with rfl|rfl|rfl
 ·exact⟨by show 0<4;decide,by show 16<31;decide⟩
 ·exact⟨by show 0<4;decide,by show 16<31;decide⟩
 ·exact⟨by show 0<4;decide,by show 3<31;decide⟩
set_option maxHeartbeats 4000000 in
def Oh(d:FN NN)(v:iC)(f:QB v)(h:nN NN v=true)(a:Bs)(o:ag (jg v)=a)(ha:a.length<8000000)(C:(fX v.1.2.2.2.2.2.2.2.2.2.2.2.2).length<300000):cU NN a=some (v,0,0):=by
 have D:(ak (gT v)).length<a.length:=by rw[<-o];exact bt (jg v)
 obtain⟨l,E,b⟩:=lg d (c:=0) (num:=16) omq omq a (gT v) o.symm (aaJ (λt g=>afU g) omq) omq 0 16 rfl rfl;obtain⟨i,K,p⟩:=PG h;have e:∀t∈gT v,(ag t).length<8000000:=λt g=>by have:=fc _ t g;omega
 have B:=ain d v.1 f.1 p (ag (kW v.1)) rfl (by have:=e (kW v.1) (by unfold gT;simp);omega) C;have z:=Ux d v.2.1 (by rw[i];exact(JE d v.1 f.1 p).2.2.2.1) (ag (mb v.2.1)) rfl (by have:=e (mb v.2.1) (by unfold gT;simp);omega);have A:=afS d v.2.2 K (by have:=f.2.2.2;omega);suffices OW (cU NN a) λr=>r=(v,0,0) by
  obtain⟨r,F,rfl⟩:=this;exact F
 unfold cU syv;refine gQ (cC E (iq ?_));obtain⟨⟨k,s,⟨j,sp⟩,n,⟨Q,S,T,U,V,W⟩,⟨X,u2,u3,u4,u5,Y⟩,m,⟨⟨L,O⟩,M,N⟩,q,⟨G,I⟩,u,⟨H,J⟩,x⟩,⟨s2,p2⟩,w,y⟩:=v;dsimp only at i;cases i;unfold gT at b;dsimp only at b B z A;have Z:=adj j sp;cases b with
 |cons g0 b=>cases b with
  |cons g1 b=>cases b with
   |cons g2 b=>
    cases b;dsimp only;refine ah (R:=λr=>r=(a,_,0,0,k,s,j,sp,n,Q,S,T,U,V,W,X,u2,u3,u4,u5,Y,m,L,O,M,N,q,G,I,u,H,J,x)) (by(have zz:∀(P:Prop)(h:P:=by exact aa rfl),P:= @id;exact stQ)) ?_;rintro _ rfl;dsimp only;refine ah (R:=λr=>r=(a,_,0,0,j,sp)) (by(have zz:∀(P:Prop)(h:P:=by exact aa rfl),P:= @id;exact stQ)) ?_;rintro _ rfl;dsimp only;refine ah (R:=λr=>r=(a,_,0,0,w,y)) (by(have zz:∀(P:Prop)(h:P:=by exact aa rfl),P:= @id;exact stQ)) ?_;rintro _ rfl;dsimp only
    (have zz:∀(P:Prop)(h:P:=by exact aa rfl),P:= @id;exact stQ)
end Go.Fw
namespace Go.Fw
open Go
abbrev NnP{α:Type}(r:α×Int×Int):Prop:=0<=r.2.1
abbrev NN1{α:Type}(r:α×Int):Prop:=0<=r.2
abbrev NS{β:Type}(y:(Int×Int)⊕β):Prop:=∀e o,y=.inl (e,o)->0<=e
def E2{σ β:Type}{Q:β->Prop}(b:(σ->Option β)->σ->Option β)(I:σ->Prop)
 (step:∀(G:σ->Option β) s,I s->(∀a,I a->OP (G a) Q)->OP (b G s) Q):∀n s,I s->OP (Nat.rec (motive:=λ_=>σ->Option β) (λ_=>none) (λ_ G=>b G) n s) Q:=by
 intro n;induction n with
 |zero=>exact λs _=>ET
 |succ n d=>exact λs c=>step _ s c d
section
variable {β:Type}{Q:β→Prop}
def aaT{α:Type}{x:α}{f:α->Option β}(h:OP (f x) Q):OP ((some x).bind f) Q:=h
def PQ{α γ:Type}{x:Option α}{g:α->Option γ}{f:γ->Option β}(h:OP (x.bind λa=>(g a).bind f) Q):OP ((x.bind g).bind f) Q:=by
 rw[Option.bind_assoc];exact h
def aaU{α:Type}{c:Bool}{x y:Option α}{f:α->Option β}(a:OP (x.bind f) Q)(b:OP (y.bind f) Q):OP ((bif c then x else y).bind f) Q:=by
 cases c
 ·exact b
 ·exact a
def Ys{γ:Type}{x:Option ((Int×Int)⊕γ)}{f:(Int×Int)⊕γ->Option β}(h:OP x NS)(b:∀e o,0<=e->OP (f (.inl (e,o))) Q)(c:∀a,OP (f (.inr a)) Q):OP (x.bind f) Q:=aU h λa k=>by
 cases a with
 |inl y=>exact b y.1 y.2 (k _ _ rfl)
 |inr y=>exact c y
def xq{α:Type}{x:Option (α×Int×Int)}{f:α×Int×Int->Option β}(h:OP x NnP)(k:∀v e o,0<=e->OP (f (v,e,o)) Q):OP (x.bind f) Q:=aU h λa b=>k a.1 a.2.1 a.2.2 b
def aiy{α:Type}{x:Option (α×Int)}{f:α×Int->Option β}(h:OP x NN1)(k:∀v e,0<=e->OP (f (v,e)) Q):OP (x.bind f) Q:=aU h λa b=>k a.1 a.2 b
def qn{α:Type}{x:Option α}{f:α->Option β}(k:∀v,OP (f v) Q):OP (x.bind f) Q:=aU (bX x) λa _=>k a
def aej{γ:Type}{e o:Int}(h:0<=e):OP (some (Sum.inl (e,o)):Option ((Int×Int)⊕γ)) NS:=aA λ_ _ k=>by cases k;exact h
def aek{γ:Type}{x:γ}:OP (some (Sum.inr x):Option ((Int×Int)⊕γ)) NS:=aA λ_ _ k=>by cases k
end
def adr(x:Int):OP (dq x) λr=>0<=r.2.2.2:=by
 unfold dq syv;exact aD (λ_=>aA (by show(0:Int)<=_;dsimp only;omega)) λ_=>aA (by show(0:Int)<=0;decide)
class NC{α:Type}(x:Option (α×Int×Int)):Prop where
 h:OP x NnP
class NC1{α:Type}(x:Option (α×Int)):Prop where
 h:OP x NN1
def kC{P:Prop}(h:P:=by repeat ((try dsimp only);first|with_reducible exact ET|with_reducible exact aek|with_reducible exact ih _ trivial|with_reducible exact aej (by first|assumption|omega)|with_reducible exact aA (by show(0:Int)<=_;(try dsimp only);first|assumption|omega)|with_reducible refine aD (λ_=> ?_) (λ_=> ?_)|with_reducible refine aaT ?_|with_reducible refine PQ ?_|with_reducible refine aaU ?_ ?_|with_reducible refine xq NC.h (λ_ _ _ _=> ?_)|with_reducible refine aiy NC1.h (λ_ _ _=> ?_)|with_reducible refine qn (λ_=> ?_))):P:=h
def aiz(N:Nat)(a:Bs):OP (dA N a) λr=>0<=r.2.2.1:=by
 unfold dA lh syv;exact kC
def QM(N:Nat)(a:Bs):OP (bU N a) NnP:=by
 unfold bU syv;refine aD (λ_=>aA (by show(0:Int)<=_;dsimp only;omega)) λ_=>qn λb=> ?_;refine aU (adr _) λr d=>aD (λ_=>aA d) λ_=>qn λs=> ?_;exact aU (aiz N s) λq c=>aD (λ_=>aA c) λ_=>aA (by show(0:Int)<=0;decide)
def Wm(N:Nat)(a:Bs)(i j:Int):OP (cu N a i j) NnP:=by
 unfold cu syv;refine aD (λ_=>qn λs=>xq (QM N s) λv e o b=> ?_) λ_=>ET;exact kC
def aaV(N:Nat)(a:Bs):OP (bM N a) NnP:=by
 unfold bM syv;refine xq (Wm N a _ _) λv e o b=> ?_;exact kC
instance(N:Nat)(a:Bs):NC (bM N a):=⟨aaV N a⟩
def af7(N:Nat)(a:Bs)(i j:Int):OP (bK N a i j) NnP:=by
 unfold bK syv;have c:∀s,OP (dG N N s) NS:=λs=>by
  unfold dG syv;refine E2 _ (λ_=>True) ?_ N s trivial;rintro G ⟨a,i,j,k,l,m⟩ _ d;dsimp only;refine aD (λ_=>xq (Wm N a _ _) λv e o b=> ?_) λ_=>aek;dsimp only;exact aD (λ_=>aej b) λ_=>qn λl=>d _ trivial
 refine aD (λ_=>aA (by show(0:Int)<=_;dsimp only;omega)) λ_=>aD (λ_=>aA (by show(0:Int)<=_;dsimp only;omega)) λ_=>aD (λ_=>aA (by show(0:Int)<=_;dsimp only;omega)) λ_=> ?_;exact Ys (c _) (λe o b=>aA b) λa=>aA (by show(0:Int)<=_;dsimp only;omega)
instance(N:Nat)(a:Bs)(i j:Int):NC (bK N a i j):=⟨af7 N a i j⟩
def BR(N:Nat)(a:Bs)(c n:Int):OP (aW N a c n) NnP:=by
 unfold aW syv;exact kC
instance(N:Nat)(a:Bs)(c n:Int):NC (aW N a c n):=⟨BR N a c n⟩
def af8(N:Nat)(a:Bs):OP (cS N a) NN1:=by
 have b:∀s,OP (bF N N s) λy=>∀t e,y=.inl (t,e)->0<=e:=λs=>by
  unfold bF syv;refine E2 _ (λ_=>True) ?_ N s trivial;rintro G ⟨a,i,j,k,l,m⟩ _ g;dsimp only;have d:OP (some (Sum.inl (([]:Bs),(6:Int))):Option ((Bs×Int)⊕(Bool×List Int))) λy=>∀t e,y=.inl (t,e)->0<=e:=aA λ_ _ h=>by cases h;decide
  have f:∀x,OP (some (Sum.inr x):Option ((Bs×Int)⊕(Bool×List Int))) λy=>∀t e,y=.inl (t,e)->0<=e:=λx=>aA λ_ _ h=>by cases h
  repeat (first|with_reducible exact d|with_reducible exact f _|exact g _ trivial|with_reducible refine aD (λ_=> ?_) (λ_=> ?_)|with_reducible refine aaT ?_|with_reducible refine PQ ?_|with_reducible refine aaU ?_ ?_|with_reducible refine qn (λ_=> ?_))
 unfold cS syv;refine aU (b _) ?_;rintro(⟨s,e⟩|⟨c,l⟩) h
 ·exact aA (h s e rfl)
 ·exact kC
instance(N:Nat)(a:Bs):NC1 (cS N a):=⟨af8 N a⟩
end Go.Fw
namespace Go.Fw
open Go
def ads(N:Nat):∀(n:Nat)(a:Bs)(i j k:Int),OP (cZ N n a i j k) NnP:=by
 intro n;induction n with
 |zero=>exact λ_ _ _ _=>ET
 |succ n c=>
  intro a i j k;have d:∀R:Bs->Int->Int->Int->Option (Fw.Spot×(Int×Int)),(∀a i j k,OP (R a i j k) NnP)->∀m s,OP (dO N R m s) λy=>∀f g l p q e o,y=.inl (f,g,l,p,q,e,o)->0<=e:=by
   intro R u m s;unfold dO;refine E2 _ (λ_=>True) ?_ m s trivial;rintro G ⟨K,w,x,z,A,B,C,r,L,D,E,M,O,F,H,I,J,t⟩ _ c;dsimp only;refine aD (λ_=>xq (u _ _ _ _) λv e o b=> ?_) λ_=>aA λ_ _ _ _ _ _ _ h=>by cases h
   dsimp only;refine aD (λ_=>aA λ_ _ _ _ _ _ _ h=>by cases h;exact b) λ_=> ?_;exact qn λ_=>qn λ_=>c _ trivial
  show OP (bif (k==0) then _ else _) NnP;unfold gj syv;refine aD (λ_=>aA (by show(0:Int)<=5;omega)) λ_=>aD (λ_=> ?_) λ_=>ET;refine qn λs=>xq (QM N s) λv e o b=> ?_;refine aD (λ_=>aA b) λ_=>aD (λ_=>aA (by show(0:Int)<=1;omega)) λ_=> ?_;refine aD (λ_=>qn λ_=>qn λ_=>aA (by show(0:Int)<=0;omega)) λ_=> ?_;refine aU (d (cZ N n) c N _) ?_;rintro(⟨f,g,l,p,q,e,o⟩|⟨W,X,Y,Z,y5,y6,y7,y8,y9,P,Q,S,T,U,V⟩) h
  ·exact aA (h _ _ _ _ _ _ _ rfl)
  ·exact aA (by show(0:Int)<=0;omega)
def aaW(N:Nat)(a:Bs):OP (eU N a) NnP:=by
 unfold eU tO syv;refine PQ (xq (ads N N a _ _ _) λv e o b=> ?_);exact kC
instance(N:Nat)(a:Bs):NC (eU N a):=⟨aaW N a⟩
def af9(N:Nat)(a:Bs):OP (cF N a) NnP:=by
 unfold cF kH syv;exact kC
instance(N:Nat)(a:Bs):NC (cF N a):=⟨af9 N a⟩
def aga(N:Nat)(a:Bs):OP (dL N a) NnP:=by
 have c:∀s,OP (bD N N s) NS:=λs=>by
  unfold bD syv;refine E2 _ (λ_=>True) ?_ N s trivial;rintro G ⟨k,l,f,g,h,i,m,d⟩ _ ih;exact kC
 unfold dL syv;refine xq (BR _ _ _ _) λv e o b=>aD (λ_=>aA b) λ_=>aD (λ_=>aA (by show(0:Int)<=1;omega)) λ_=> ?_;refine Ys (c _) (λe o b=>aA b) λ_=>aA (by show(0:Int)<=0;omega)
instance(N:Nat)(a:Bs):NC (dL N a):=⟨aga N a⟩
def adt(N:Nat)(a:Bs):OP (iQ N a) NnP:=by
 have c:∀s,OP (cQ N N s) NS:=λs=>by
  unfold cQ syv;refine E2 _ (λ_=>True) ?_ N s trivial;rintro G ⟨j,k,d,f,g,h,l⟩ _ ih;exact kC
 unfold iQ syv;refine xq (BR _ _ _ _) λv e o b=>aD (λ_=>aA b) λ_=> ?_;refine Ys (c _) (λe o b=>aA b) λ_=>aA (by show(0:Int)<=0;omega)
def aiA(N:Nat)(a:Bs):OP (dd N a) NnP:=by
 unfold dd gF syv;exact kC
def aiB(N:Nat)(a:Bs):OP (cG N a) NnP:=by
 unfold cG syv;exact kC
instance(N:Nat)(a:Bs):NC (cG N a):=⟨aiB N a⟩
def agb(N:Nat)(a:Bs):OP (bQ N a) NnP:=by
 have c:∀s,OP (aJ N N s) NS:=λs=>by
  unfold aJ syv;refine E2 _ (λ_=>True) ?_ N s trivial;rintro G ⟨j,k,d,f,g,h,l⟩ _ ih;exact kC
 unfold bQ syv;refine xq (BR _ _ _ _) λv e o b=>aD (λ_=>aA b) λ_=> ?_;refine Ys (c _) (λe o b=>aA b) λ_=> ?_;exact kC
def aiC(N:Nat)(a:Bs):OP (cX N a) NN1:=by
 unfold cX syv;refine qn λ_=>aD (λ_=>aA (by show(0:Int)<=0;omega)) λ_=>aA (by show(0:Int)<=6;omega)
instance(N:Nat)(a:Bs):NC1 (cX N a):=⟨aiC N a⟩
def aiD(N:Nat)(a:Bs):OP (eJ N a) NN1:=by
 unfold eJ syv;refine qn λ_=>aD (λ_=>aA (by show(0:Int)<=0;omega)) λ_=>aA (by show(0:Int)<=6;omega)
instance(N:Nat)(a:Bs):NC1 (eJ N a):=⟨aiD N a⟩
def agc(N:Nat)(a:Bs):OP (ec N a) NnP:=by
 unfold ec syv;exact kC
def agd(a:Bs):OP (bA a) NN1:=by
 unfold bA syv;exact kC
end Go.Fw
namespace Go.Fw
open Go
def PN{T:Type}(b:T->Prop)(E:T->Bs)(z:T)(a:Bs)(r:T×Int×Int):Prop:=(r.2=(0,0)/\b r.1/\E r.1=a)∨(r.1=z/\0<r.2.1/\0<=r.2.2/\r.2.2<=(a.length:Int))
def Yq{T:Type}{ok:T->Bool}{f:T->Prop}{E:T->Bs}{z:T}{a:Bs}{x:Option (T×Int×Int)}(h:OW x (PS ok E a))(n:OP x NnP)(k:OP x λr=>r.2.1≠0->r.1=z)(b:∀v,ok v=true->E v=a->f v):OW x (PN f E z a):=by
 refine tq (CW (CW h n) k) ?_;rintro⟨v,e,o⟩ ⟨⟨⟨g,c,d⟩|⟨c,d,j⟩,l⟩,p⟩
 ·exact .inl ⟨g,b v c d,d⟩
 ·have m:0<=e:=l;have i:e≠0:=c;exact .inr ⟨p c,by show 0<e;omega,d,j⟩
section
variable {β:Type}{Q:β→Prop}
def adq{T:Type}{g:T->Prop}{E:T->Bs}{z:T}{a:Bs}{x:Option (T×Int×Int)}{f:T×Int×Int->Option β}(h:OW x (PN g E z a))(j:∀e o,0<e->0<=o->o<=(a.length:Int)->OW (f (z,e,o)) Q)(k:∀v,g v->E v=a->OW (f (v,0,0)) Q):OW (x.bind f) Q:=by
 refine ah h ?_;rintro⟨v,e,o⟩ (⟨b,c,d⟩|⟨b,c,d,i⟩)
 ·cases b;exact k v c d
 ·cases b;exact j e o c d i
end
def aiw(N:Nat)(a:Bs):OP (dd N a) λr=>r.2.1≠0->r.1=([],[]):=by
 unfold dd gF syv;refine aU (bX _) λr _=>aD (λ_=>aA λ_=>rfl) λ_=> ?_;refine aD (λ_=>aU (bX _) λ_ _=>aA λ_=>rfl) λ_=> ?_;refine aD (λ_=>aU (bX _) λ_ _=>aU (bX _) λ_ _=>aA λ_=>rfl) λ_=> ?_;refine aU (bX _) λ_ _=>aU (bX _) λ_ _=>aD (λ_=>aU (bX _) λ_ _=>aU (bX _) λ_ _=>aA λ_=>rfl) λ_=> ?_;refine aU (bX _) λ_ _=>aU (bX _) λ_ _=>aU (bX _) λ_ _=>aU (bX _) λ_ _=> ?_;refine aD (λ_=>aU (bX _) λ_ _=>aU (bX _) λ_ _=>aA λ_=>rfl) λ_=> ?_;refine aU (R:=λy=>match y with
  |.inl (_,_,_,_,_)=>True
  |.inr (s,_,_)=>s=[]) ?_ ?_
 ·refine aD (λ_=> ?_) λ_=>aA trivial;refine aU (bX _) λ_ _=>aU (bX _) λ_ _=>aU (bX _) λ_ _=>aU (bX _) λ_ _=>aU (bX _) λ_ _=> ?_;exact aD (λ_=>aU (bX _) λ_ _=>aU (bX _) λ_ _=>aA rfl) λ_=>aA trivial
 ·rintro(⟨s,i,j,t,l⟩|⟨s,i,j⟩) h
  ·exact aA λh=>absurd rfl h
  ·refine aA λ_=> ?_;rw[show s=[] from h]
def af3(N:Nat)(a:Bs):OP (iQ N a) λr=>r.2.1≠0->r.1=[]:=by
 unfold iQ syv;refine aU (bX _) λr _=>aD (λ_=>aA λ_=>rfl) λ_=> ?_;refine aU (bX _) ?_;rintro(⟨i,j⟩|l) _
 ·exact aA λ_=>rfl
 ·exact aA λh=>absurd rfl h
def af4(N:Nat)(a:Bs):OP (bQ N a) λr=>r.2.1≠0->r.1=[]:=by
 unfold bQ syv;refine aU (bX _) λr _=>aD (λ_=>aA λ_=>rfl) λ_=> ?_;refine aU (bX _) ?_;rintro(⟨i,j⟩|⟨i,j,l⟩) _
 ·exact aA λ_=>rfl
 ·exact aU (bX _) λc _=>aD (λ_=>aA λ_=>rfl) λ_=>aA λh=>absurd rfl h
def af5{l:List cb}(h:gP l=true)(j:(fX l).length<190000):XB l:=by
 have b:=afr h;refine⟨omq,λv a=> ?_⟩;have c:=xd fe l v a;have d:((l.map fe).flatten).length<=(fX l).length:=Nat.le_of_lt (bt (N5 l));have e:(iN v.2.2).2.2.2.length<(ag (iN v.2.2)).length:=bt _;have f:=fc (gt v) (iN v.2.2) (by unfold gt;simp);have g:(ak (gt v)).length<(fe v).length:=bt (GI v);have i:(iN v.2.2).2.2.2.length=v.2.2.length:=rfl;omega
def Yr(b:FN NN)(a:Bs)(c:a.length<190000):OW (dd NN a) (PN (λv=>v.1.length<10000000/\v.2.length<10000000) eD ([],[]) a):=
 Yq (aic b a omq) (aiA NN a) (aiw NN a) λv h e=>by have:=ahD h;rw[e]at this;omega
def aaQ(b:FN NN)(a:Bs)(c:a.length<190000):OW (iQ NN a) (PN (λn=>wN n<10000000) ep [] a):=
 Yq (VZ b a omq) (adt NN a) (af3 NN a) λv h e=>by have:=V1 h;rw[e]at this;omega
def aix(b:FN NN)(a:Bs)(c:a.length<190000):OW (bQ NN a) (PN (λl=>XB l/\l≠[]) fX [] a):=
 Yq (afs b a omq) (agb NN a) (af4 NN a) λv h e=>⟨af5 h (by rw[e];omega),λe=>by have:=afP h;rw[e]at this;cases this⟩
def ajO(c:Bs)(k:c.length<1000000):OW (bA c) λr=>(r.2=0/\cn r.1=c/\r.1.1.length<8000000/\ir r.1=true)∨(r.1=([],0)/\0<r.2):=by
 obtain⟨x,e,b,d⟩:=Tb c omq;have l:0<=e:=agd c _ b;have i:OP (bA c) λr=>r.2≠0->r.1=([],0):=by
  unfold bA syv;exact aD (λ_=>aA λ_=>rfl) λ_=>aU (bX _) λ_ _=>aU (bX _) λ_ _=>aU (bX _) λ_ _=>aU (bX _) λ_ _=>aD (λ_=>aA λ_=>rfl) λ_=>aA λh=>absurd rfl h
 refine⟨_,b,?_⟩;by_cases a:e=0
 ·have f:=(d a).1;have j:c.length=x.1.length+1:=by rw[f];rfl
  refine .inl ⟨a,f.symm,by show x.1.length<_;omega,?_⟩;have g:=vB x omq;rw[(d a).2]at g;exact(alX g).symm
 ·exact .inr ⟨i _ b a,by show 0<e;omega⟩
def aaR{β:Type}{Q:β->Prop}{c:Bs}{f:gR×Int->Option β}(i:c.length<1000000)(j:∀e,0<e->OW (f (([],0),e)) Q)(k:∀b n,cn (b,n)=c->b.length<8000000->ir (b,n)=true->OW (f ((b,n),0)) Q):OW ((bA c).bind f) Q:=by
 refine ah (ajO c i) ?_;rintro⟨⟨b,n⟩,e⟩ (⟨a,d,g,h⟩|⟨a,d⟩)
 ·cases a;exact k b n d g h
 ·cases a;exact j e d
def aaS{β:Type}{Q:β->Prop}(j:FN NN){a:Bs}{f:aV×Int×Int->Option β}(m:a.length<190000)(k:∀v e o,0<e->0<=o->o<=(a.length:Int)->OW (f (v,e,o)) Q)(l:∀v t,a=ag t->EL a t v->OW (f (v,0,0)) Q):OW ((bM NN a).bind f) Q:=by
 refine ah (CW (CY j a omq) (aaV NN a)) ?_;rintro⟨v,e,o⟩ ⟨⟨b,t,_,c,d⟩|⟨b,c,d⟩,h⟩
 ·cases b;exact l v t c d
 ·have i:0<=e:=h;have g:e≠0:=b;exact k v e o omq c d
def aei(i:FN NN)(a:Bs)(f:a.length<190000):OW (fv NN a) (PN (λ_=>True) (λs=>ag (0,false,2,s)) [] a):=by
 unfold fv syv;refine aaS i f (λv e o g b c=> ?_) λv t b c=> ?_
 ·dsimp only;exact G4 omq (aa (.inr ⟨rfl,g,b,c⟩))
 ·have:=bt t;rw[b]at f;dsimp only;refine k_z ?_;rcases c.cs 0 2 false 0 2 rfl rfl with⟨d,h⟩|⟨d,_⟩
  ·refine cC d (gS (k_t (EZ c (cC (iz omq) (aa (.inl ⟨rfl,trivial,?_⟩))))));exact(alD ag h).symm.trans b.symm
  ·exact cC d (gS (k_f (aa (.inr ⟨rfl,by decide,by decide,by show(0:Int)<=_;omega⟩))))
def af6(p:FN NN)(a:Bs)(g:a.length<190000):OW (gG NN a) (PN (λx=>x.1.length<8000000/\ir x=true) (λx=>ag (vC x)) ([],0) a):=by
 unfold gG syv;refine aaS p g (λv e o i c d=> ?_) λv t c d=> ?_
 ·dsimp only;exact G4 omq (aa (.inr ⟨rfl,i,c,d⟩))
 ·have:=bt t;rw[c]at g;dsimp only;refine k_z ?_;rcases d.cs 0 3 false 0 3 rfl rfl with⟨f,j⟩|⟨f,_⟩
  ·refine cC f (gS (k_t (EZ d (aaR omq (λe h=> ?_) λb n k l m=> ?_))))
   ·exact aa (.inr ⟨rfl,h,by show(0:Int)<=0;omega,by show(0:Int)<=_;omega⟩)
   ·refine aa (.inl ⟨rfl,⟨l,m⟩,?_⟩);show ag (0,false,3,cn (b,n))=a;rw[k,c];exact(alD ag j).symm
  ·exact cC f (gS (k_f (aa (.inr ⟨rfl,by decide,by decide,by show(0:Int)<=_;omega⟩))))
end Go.Fw
namespace Go.Fw
open Go
section
variable {β:Type}{Q:β→Prop}
def G5(n:FN NN){a:Bs}{f:List aV×Int×Int->Option β}(r:a.length<190000)(p:∀e o,0<e->0<=o->o<=(a.length:Int)->OW (f ([],e,o)) Q)(q:∀c l,a=tlv 0 true 16 (ak c)->br (EL a) c l->OW (f (l,0,0)) Q):OW ((aW NN a 0 16).bind f) Q:=by
 refine ah (CW (CW (nj n a omq 0 16) (GR NN a _ _)) (BR NN a _ _)) ?_;rintro⟨l,e,o⟩ ⟨⟨⟨b,c,g,_,_,d,i⟩|⟨b,g,d⟩,j⟩,k⟩
 ·cases b;exact q c l d i
 ·have m:0<=e:=k;have h:e≠0:=b;obtain rfl:l=[]:=j b;exact p e o omq g d
end
def EL.lb{a:Bs}{t:TLV}{e:aV}(h:EL a t e):0<=e.2.2.2.1/\e.2.2.2.1<=(a.length:Int)/\(ag t).length<=a.length:=by
 obtain⟨p,q,r,b,c,d,f,g,i,b7⟩:=h.bd;rw[b];omega
def az{P:Prop}(h:P:=by first|assumption|omega|decide|exact MD (by first|omega|(rw[bO ⟨omq,omq⟩];omega)) omq|exact PF):P:=h
def snQ{P:Prop}(h:P:=by repeat' ((try dsimp only);first|with_reducible exact(zz _)|with_reducible refine iq ?_|with_reducible refine k_z ?_|with_reducible refine Uy ?_|with_reducible refine k_t ?_|with_reducible refine k_f ?_|with_reducible refine gS ?_|with_reducible refine G4 omq ?_|with_reducible refine RE omq ?_|with_reducible refine aaE ?_|with_reducible refine aaF ?_|with_reducible refine aaG ?_|with_reducible refine aaH ?_|with_reducible refine Yl ?_|with_reducible refine aea ?_|with_reducible refine aeb ?_|with_reducible refine gQ ?_|with_reducible refine BN ?_|with_reducible refine RD ?_|with_reducible refine Ko ?_|with_reducible refine ad9 ?_|with_reducible refine Kn asq ?_|with_reducible refine EZ asq ?_|with_reducible refine cC asq ?_|with_reducible refine adq asq (λ_ _ _ _ _=> ?_) (λ_ _ _=> ?_)|with_reducible refine aaR omq (λ_ _=> ?_) (λ_ _ _ _ _=> ?_)|exact(zz _))):P:=h
def ajF(u:FN NN)(a:Bs)(z:a.length<190000):OW (fy NN a) (PN KB (λk=>ag (iu k)) (([],[]),[],0) a):=by
 unfold fy gF syv;refine G5 u z (λe o i f j=> ?_) λZ l f d=> ?_
 ·dsimp only;exact G4 omq (aa (.inr ⟨rfl,i,f,j⟩))
 have c:∀e o,0<e->0<=o->o<=(a.length:Int)->OW (some (((([]:Bs),([]:Bs)),([]:Bs),(0:Int)),e,o)) (PN KB (λk=>ag (iu k)) (([],[]),[],0) a):=λe o i f j=>aa (.inr ⟨rfl,i,f,j⟩);dsimp only;refine k_z ?_;cases d with
 |nil=>exact aY (λ_=>c _ _ deq omq (aoT _)) λh=>absurd deq h
 |cons t d=>cases d with
  |nil=>exact aY (λ_=>c _ _ deq omq (aoT _)) λh=>absurd siq h
  |cons g d=>cases d with
   |cons y d=>
    have:=y.ei;refine aY (λh=> ?_) λ_=>aY (λ_=> ?_) λh=> ?_
    ·simp only[ak4]at h;omega
    ·refine cC (show ix (_::_::_::_) 2=some _ from rfl) (c _ _ deq omq omq)
    ·simp only[ak4]at h;omega
   |nil=>
    rename_i m R s S;have X:=t.ei;have q1:=g.ei;obtain⟨p,q,r,J,d2,K,L,M,N,O⟩:=t.bd;have T:=bt s;have U:=g.lt;obtain⟨V,W,Y,D,E,F,G,H,I,b7⟩:=g.bd;have C:=Yr u (ag m) omq;rcases g.cs 0 3 false 0 3 rfl rfl with⟨c1,x⟩|⟨c1,_⟩
    ·have ok:∀(v:Bs×Bs) b n,(v.1.length<10000000/\v.2.length<10000000)->eD v=ag m->cn (b,n)=s.2.2.2->b.length<8000000->PN KB (λk=>ag (iu k)) (([],[]),[],0) a ((v,b,n),0,0):=λv b n w A B w4=>.inl ⟨rfl,⟨w.1,w.2,by show b.length<_;omega⟩,by
      rw[f];show tlv 0 true 16 (ak [mb v,vC (b,n)])=tlv 0 true 16 (ak [m,s]);rw[BP,BP,<-A,x,<-B];rfl⟩
     (have zz:∀(P:Prop)(h:P:=by first|exact aa (ok _ _ _ asq asq asq asq)|exact c _ _ az (by first|omega|(rw[bO ⟨omq,omq⟩];omega)) (by first|omega|(rw[bO ⟨omq,omq⟩];omega))),P:= @id;exact snQ)
    ·(have zz:∀(P:Prop)(h:P:=by exact c _ _ deq omq omq),P:= @id;exact snQ)
def aif(j:FN NN)(a:Bs)(k:a.length<190000):OW (ec NN a) λr=>(r.2=(0,0)/\lO r.1=a)∨(0<r.2.1/\0<=r.2.2/\r.2.2<=(a.length:Int)):=by
 refine tq (CW (afx j a omq) (agc NN a)) ?_;rintro⟨v,e,o⟩ ⟨⟨d,c,b⟩|⟨c,b,g⟩,h⟩
 ·exact .inl ⟨d,b⟩
 ·have i:0<=e:=h;have f:e≠0:=c;exact .inr ⟨by show 0<e;omega,b,g⟩
def Wi{β:Type}{Q:β->Prop}(h:FN NN){a:Bs}{f:dI×Int×Int->Option β}(i:a.length<190000)(j:∀t e o,0<e->0<=o->o<=(a.length:Int)->OW (f (t,e,o)) Q)(k:∀t,lO t=a->OW (f (t,0,0)) Q):OW ((ec NN a).bind f) Q:=by
 refine ah (aif h a i) ?_;rintro⟨t,e,o⟩ (⟨c,b⟩|⟨d,b,g⟩)
 ·cases c;exact k t b
 ·exact j t e o d b g
def PP(a:Bs)(r:dI×dI×Int×Int):Prop:=(r.2.2=(0,0)/\ag (fY r.1 r.2.1)=a)∨(0<r.2.2.1/\0<=r.2.2.2/\r.2.2.2<=(a.length:Int))
def aig(f:FN NN)(a:Bs)(v:a.length<190000):OW (fw NN a) (PP a):=by
 unfold fw syv;refine G5 f v (λe o n d s=> ?_) λU l d c=> ?_
 ·dsimp only;exact G4 omq (aa (.inr ⟨n,d,s⟩))
 dsimp only;refine k_z ?_;have b:OW (some ((0,0,0,0,0,0),(0,0,0,0,0,0),6,0)) (PP a):=aa (.inr ⟨by decide,by decide,by show(0:Int)<=_;omega⟩);cases c with
 |nil=>exact b
 |cons i c=>cases c with
  |nil=>exact b
  |cons j c=>cases c with
   |cons P c=>exact aw (λ_=>b) λh=>absurd h soq
   |nil=>
    rename_i x N y O;obtain⟨p,q,r,H,d2,I,J,K,L,M⟩:=i.bd;obtain⟨R,S,T,B,C,D,E,F,G,b7⟩:=j.bd;refine Yl (RD (RD (Kn i (Wi f omq (λt e o g m A=> ?_) λt w=> ?_))))
    ·dsimp only;have k:e≠0:=omq;refine BN (RE k (iq ?_));dsimp only;exact G4 k (aa (.inr ⟨g,MD m omq,PF⟩))
    ·dsimp only;refine BN (Uy (gQ (Ko (gQ (Ko (gQ (Kn j (gQ (Wi f omq (λu e o g m A=> ?_) λu z=> ?_)))))))))
     ·dsimp only;refine gQ (Ko (iq ?_));dsimp only;exact G4 omq (aa (.inr ⟨g,MD (by rw[bO ⟨omq,omq⟩];omega) omq,PF⟩))
     ·dsimp only;refine gQ (Ko (iq ?_));dsimp only;refine k_z (aa (.inl ⟨rfl,?_⟩));rw[d];show tlv 0 true 16 (ak [jQ t,jQ u])=tlv 0 true 16 (ak [x,y]);rw[BP,BP,<-w,<-z];rfl
end Go.Fw
namespace Go.Fw
open Go
def CS(a:Bs)(B:Bs)(b:List aV)(e o:Int):Prop:=(e=0/\o=0/\∃c d,a=tlv 0 true 16 (ak (c++d))/\br (EL a) d b/\ak c=B)∨(0<e/\0<=o/\o<=(a.length:Int))
variable{Z:List aV}{Y X:List TLV}
def bT{a B:Bs}{e o:Int}(d:0<e)(b:0<=o)(c:o<=(a.length:Int)):CS a B Z e o:=.inr ⟨d,b,c⟩
def qm{a:Bs}{t:TLV}{B E:Bs}(q1:a=tlv 0 true 16 (ak (Y++t::X)))(c:br (EL a) X Z)(q3:ak Y=B)(b:E=ag t):CS a (B++E) Z 0 0:=
 .inl ⟨rfl,rfl,Y++[t],X,by rw[q1];simp,c,by rw[sw,q3,b];simp[ak]⟩
def tA{a:Bs}{B E:Bs}(q1:a=tlv 0 true 16 (ak (Y++X)))(c:br (EL a) X Z)(q3:ak Y=B)(b:E=[]):CS a (B++E) Z 0 0:=
 .inl ⟨rfl,rfl,Y,X,q1,c,by rw[b,alm];exact q3⟩
def afQ{d:Type}{Q:d->Prop}{a:Bs}{x:Option (dI×dI×Int×Int)}{f:dI×dI×Int×Int->Option d}(h:OW x (PP a))(i:∀t u e o,0<e->0<=o->o<=(a.length:Int)->OW (f (t,u,e,o)) Q)(j:∀t u,ag (fY t u)=a->OW (f (t,u,0,0)) Q):OW (x.bind f) Q:=by
 refine ah h ?_;rintro⟨t,u,e,o⟩ (⟨b,c⟩|⟨b,c,g⟩)
 ·cases b;exact j t u c
 ·exact i t u e o b c g
def aec{x:List cb}(h:x≠[]):ak (exT x)=ag (2,true,3,fX x):=by
 unfold exT;cases x with
 |nil=>exact absurd rfl h
 |cons y r=>
  rw[ak3 (by simp only[ak4];omega)];simp[ak]
def ajG{ver:Int}(h:0<ver):ak (tvT ver)=ag (2,true,0,ag (0,false,2,nL ver.toNat)):=by
 unfold tvT;rw[ak3 omq];simp[ak]
def aaI(d:FN NN)(c:Bs)(e:c.length<10000000):∃i b,nQ NN c=some (i,b)/\(b=true->ii c=true/\i=pR c):=by
 have h:=Pv d c e;cases a:ii c&&decide (c.length<=8)
 ·rw[a]at h;exact⟨0,false,h,λh=>by cases h⟩
 ·rw[a]at h;simp only[akY]at a;exact⟨_,_,h,λ_=>⟨a.1,rfl⟩⟩
def zT:pV:=(0,[],([],[]),[],(0,0,0,0,0,0),(0,0,0,0,0,0),[],(([],[]),[],0),false,([],0),false,([],0),[])
def TPS(a:Bs)(r:pV×Int×Int):Prop:=(r.2=(0,0)/\mB NN r.1=true/\ag (kW r.1)=a/\TB r.1)∨(r.1=zT/\0<r.2.1/\0<=r.2.2/\r.2.2<=(a.length:Int))
set_option maxHeartbeats 4000000 in
def aih(hN:FN NN)(a:Bs)(ha:a.length<190000):OW (dC NN a) (TPS a):=by
 unfold dC syv;refine ah (R:=λr=>∃c e o,r=(a,c,e,o)/\CS a [] c e o) (G5 hN ha (λe o Z T h2=>aa ⟨_,_,_,rfl,.inr ⟨Z,T,h2⟩⟩) λts l T A=>aa ⟨_,_,_,rfl,.inl ⟨rfl,rfl,[],ts,T,A,rfl⟩⟩) ?_;rintro _ ⟨c,e,o,rfl,d⟩;dsimp only;refine ah (R:=λr=>∃c e o f,r=(f,a,c,e,o)/\CS a ([]++ak (tvT f)) c e o) ?_ ?_
 ·obtain⟨rfl,rfl,j,K,q1,J,q3⟩|⟨he,Z,T⟩:=d
  ·cases J with
   |nil=>(have zz:∀(P:Prop)(h:P:=by first|exact aa ⟨_,_,_,_,rfl,tA q1 br.nil q3 rfl⟩),P:= @id;exact snQ)
   |cons g A=>
    rename_i k y Y c;rcases g.cs 2 0 true 2 0 rfl rfl with⟨c1,c2⟩|⟨c1,_⟩
    ·have f0:=g.lb;have f1:=g.ei;have l0:=bt k;have nm:=aei hN k.2.2.2 omq;refine ah (R:=λr=>r=(true,a,c,0,0,y.1,y.2.1,y.2.2.1,y.2.2.2.1,y.2.2.2.2.1,y.2.2.2.2.2)) (by(have zz:∀(P:Prop)(h:P:=by first|exact aa rfl),P:= @id;exact snQ)) ?_;rintro _ rfl;dsimp only;refine gS (k_t (EZ g (adq nm (λe o w0 w1 w2=> ?_) λs _ w=> ?_)))
     ·obtain⟨i,b,hi,_⟩:=aaI hN [] deq
      (have zz:∀(P:Prop)(h:P:=by first|exact aa ⟨_,_,_,_,rfl,bT az az az⟩),P:= @id;exact snQ)
     ·have l2:=bt (0,false,2,s);have w':ag (0,false,2,s)=k.2.2.2:=w;obtain⟨i,b,hi,hb⟩:=aaI hN s (by rw[w']at l2;dsimp only at l2;omega);refine cC hi ?_;dsimp only;refine k_z ?_;cases b
      ·(have zz:∀(P:Prop)(h:P:=by first|exact aa ⟨_,_,_,_,rfl,bT az az az⟩),P:= @id;exact snQ)
      ·obtain⟨d1,d2⟩:=hb rfl;refine gS (k_t (aY (λ_=> ?_) λd3=>aY (λ_=> ?_) λd4=>aa ⟨_,_,_,_,rfl,qm q1 A q3 ?_⟩))
       ·(have zz:∀(P:Prop)(h:P:=by first|exact aa ⟨_,_,_,_,rfl,bT az az az⟩),P:= @id;exact snQ)
       ·(have zz:∀(P:Prop)(h:P:=by first|exact aa ⟨_,_,_,_,rfl,bT az az az⟩),P:= @id;exact snQ)
       ·rw[ajG omq,c2,<-w',<-afB (v:=i.toNat) omq d1 omq]
    ·(have zz:∀(P:Prop)(h:P:=by first|exact aa ⟨_,_,_,_,rfl,tA q1 (br.cons g A) q3 rfl⟩),P:= @id;exact snQ)
  ·(have zz:∀(P:Prop)(h:P:=by first|exact aa ⟨_,_,_,_,rfl,bT az az az⟩),P:= @id;exact snQ)
 clear d;rintro _ ⟨c,e,o,f,rfl,d⟩;dsimp only;refine ah (R:=λr=>∃c e o s,r=(s,a,c,e,o,f)/\CS a ([]++ak (tvT f)++ag (0,false,2,s)) c e o) ?_ ?_
 ·obtain⟨rfl,rfl,j,K,q1,J,q3⟩|⟨he,Z,T⟩:=d
  ·cases J with
   |nil=>(have zz:∀(P:Prop)(h:P:=by first|exact aa ⟨_,_,_,_,rfl,bT az az az⟩),P:= @id;exact snQ)
   |cons g A=>
    rename_i k y Y c;obtain⟨f1,f2,f3⟩:=g.lb;have nm:=aei hN (ag k) omq
    (have zz:∀(P:Prop)(h:P:=by first|exact aa ⟨_,_,_,_,rfl,qm q1 A q3 asq⟩|exact aa ⟨_,_,_,_,rfl,bT az az az⟩),P:= @id;exact snQ)
  ·(have zz:∀(P:Prop)(h:P:=by first|exact aa ⟨_,_,_,_,rfl,bT az az az⟩),P:= @id;exact snQ)
 clear d;rintro _ ⟨c,e,o,s,rfl,d⟩;dsimp only;refine ah (R:=λr=>∃c e o z sp,r=(a,c,e,o,f,s,z,sp)/\CS a ([]++ak (tvT f)++ag (0,false,2,s)++eD (z,sp)) c e o/\(z.length<10000000/\sp.length<10000000)) ?_ ?_
 ·obtain⟨rfl,rfl,j,K,q1,J,q3⟩|⟨he,Z,T⟩:=d
  ·cases J with
   |nil=>(have zz:∀(P:Prop)(h:P:=by first|exact aa ⟨_,_,_,_,_,rfl,bT az az az,by decide⟩),P:= @id;exact snQ)
   |cons g A=>
    rename_i k y Y c;obtain⟨f1,f2,f3⟩:=g.lb;have nm:=Yr hN (ag k) omq
    (have zz:∀(P:Prop)(h:P:=by first|exact aa ⟨_,_,_,_,_,rfl,qm q1 A q3 asq,by assumption⟩|exact aa ⟨_,_,_,_,_,rfl,bT az az az,by decide⟩),P:= @id;exact snQ)
  ·(have zz:∀(P:Prop)(h:P:=by first|exact aa ⟨_,_,_,_,_,rfl,bT az az az,by decide⟩),P:= @id;exact snQ)
 clear d;rintro _ ⟨c,e,o,z,sp,rfl,d,j3⟩;dsimp only;refine ah (R:=λr=>∃c e o n,r=(n,a,c,e,o,f,s,z,sp)/\CS a ([]++ak (tvT f)++ag (0,false,2,s)++eD (z,sp)++ep n) c e o/\wN n<10000000) ?_ ?_
 ·obtain⟨rfl,rfl,j,K,q1,J,q3⟩|⟨he,Z,T⟩:=d
  ·cases J with
   |nil=>(have zz:∀(P:Prop)(h:P:=by first|exact aa ⟨_,_,_,_,rfl,bT az az az,by decide⟩),P:= @id;exact snQ)
   |cons g A=>
    rename_i k y Y c;obtain⟨f1,f2,f3⟩:=g.lb;have nm:=aaQ hN (ag k) omq
    (have zz:∀(P:Prop)(h:P:=by first|exact aa ⟨_,_,_,_,rfl,qm q1 A q3 asq,by assumption⟩|exact aa ⟨_,_,_,_,rfl,bT az az az,by decide⟩),P:= @id;exact snQ)
  ·(have zz:∀(P:Prop)(h:P:=by first|exact aa ⟨_,_,_,_,rfl,bT az az az,by decide⟩),P:= @id;exact snQ)
 clear d;rintro _ ⟨c,e,o,n,rfl,d,j4⟩;dsimp only;refine ah (R:=λr=>(∃c e o e1 e2 e3 e4 e5 e6,r=([],a,c,e,o,f,s,z,sp,n,e1,e2,e3,e4,e5,e6)/\0<e/\0<=o/\o<=(a.length:Int))∨∃k y c j Y,r=(ag k,a,c,0,0,f,s,z,sp,n,y.1,y.2.1,y.2.2.1,y.2.2.2.1,y.2.2.2.2.1,y.2.2.2.2.2)/\EL a k y/\a=tlv 0 true 16 (ak (j++k::Y))/\br (EL a) Y c/\ak j=[]++ak (tvT f)++ag (0,false,2,s)++eD (z,sp)++ep n) ?_ ?_
 ·obtain⟨rfl,rfl,j,K,q1,J,q3⟩|⟨he,Z,T⟩:=d
  ·cases J with
   |nil=>(have zz:∀(P:Prop)(h:P:=by first|exact aa (.inl ⟨_,_,_,_,_,_,_,_,_,rfl,az,az,az⟩)),P:= @id;exact snQ)
   |cons g A=>(have zz:∀(P:Prop)(h:P:=by first|exact aa (.inr ⟨_,_,_,_,_,rfl,g,q1,A,q3⟩)),P:= @id;exact snQ)
  ·(have zz:∀(P:Prop)(h:P:=by first|exact aa (.inl ⟨_,_,_,_,_,_,_,_,_,rfl,az,az,az⟩)),P:= @id;exact snQ)
 clear d;intro r hr;refine ah (R:=λr=>∃c e o B C D E F G H u2 u3 u4 u5 I,r=(a,c,e,o,f,s,z,sp,n,B,C,D,E,F,G,H,u2,u3,u4,u5,I)/\CS a ([]++ak (tvT f)++ag (0,false,2,s)++eD (z,sp)++ep n++ag (fY (B,C,D,E,F,G) (H,u2,u3,u4,u5,I))) c e o) ?_ ?_
 ·rcases hr with⟨c,e,o,e1,e2,e3,e4,e5,e6,rfl,Z,T,h2⟩|⟨k,y,c,j,Y,rfl,g,q1,A,q3⟩
  ·(have zz:∀(P:Prop)(h:P:=by first|exact aa ⟨_,_,_,_,_,_,_,_,_,_,_,_,_,_,_,rfl,bT az az az⟩),P:= @id;exact snQ)
  ·obtain⟨f1,f2,f3⟩:=g.lb;have nm:=aig hN (ag k) omq;dsimp only;refine Uy (afQ nm (λt u e o w0 w1 w2=> ?_) λt u w=> ?_)
   ·(have zz:∀(P:Prop)(h:P:=by first|exact aa ⟨_,_,_,_,_,_,_,_,_,_,_,_,_,_,_,rfl,bT az az az⟩),P:= @id;exact snQ)
   ·(have zz:∀(P:Prop)(h:P:=by first|exact aa ⟨_,_,_,_,_,_,_,_,_,_,_,_,_,_,_,rfl,qm q1 A q3 asq⟩),P:= @id;exact snQ)
 rintro _ ⟨c,e,o,B,C,D,E,F,G,H,u2,u3,u4,u5,I,rfl,d⟩;dsimp only;refine ah (R:=λr=>∃c e o m,r=(m,a,c,e,o,f,s,z,sp,n,B,C,D,E,F,G,H,u2,u3,u4,u5,I)/\CS a ([]++ak (tvT f)++ag (0,false,2,s)++eD (z,sp)++ep n++ag (fY (B,C,D,E,F,G) (H,u2,u3,u4,u5,I))++ep m) c e o/\wN m<10000000) ?_ ?_
 ·obtain⟨rfl,rfl,j,K,q1,J,q3⟩|⟨he,Z,T⟩:=d
  ·cases J with
   |nil=>(have zz:∀(P:Prop)(h:P:=by first|exact aa ⟨_,_,_,_,rfl,bT az az az,by decide⟩),P:= @id;exact snQ)
   |cons g A=>
    rename_i k y Y c;obtain⟨f1,f2,f3⟩:=g.lb;have nm:=aaQ hN (ag k) omq
    (have zz:∀(P:Prop)(h:P:=by first|exact aa ⟨_,_,_,_,rfl,qm q1 A q3 asq,by assumption⟩|exact aa ⟨_,_,_,_,rfl,bT az az az,by decide⟩),P:= @id;exact snQ)
  ·(have zz:∀(P:Prop)(h:P:=by first|exact aa ⟨_,_,_,_,rfl,bT az az az,by decide⟩),P:= @id;exact snQ)
 clear d;rintro _ ⟨c,e,o,m,rfl,d,j5⟩;dsimp only;refine ah (R:=λr=>∃c e o L O M N,r=(a,c,e,o,f,s,z,sp,n,B,C,D,E,F,G,H,u2,u3,u4,u5,I,m,L,O,M,N)/\CS a ([]++ak (tvT f)++ag (0,false,2,s)++eD (z,sp)++ep n++ag (fY (B,C,D,E,F,G) (H,u2,u3,u4,u5,I))++ep m++ag (iu ((L,O),M,N))) c e o/\KB ((L,O),M,N)) ?_ ?_
 ·obtain⟨rfl,rfl,j,K,q1,J,q3⟩|⟨he,Z,T⟩:=d
  ·cases J with
   |nil=>(have zz:∀(P:Prop)(h:P:=by first|exact aa ⟨_,_,_,_,_,_,_,rfl,bT az az az,⟨by decide,by decide,by decide⟩⟩),P:= @id;exact snQ)
   |cons g A=>
    rename_i k y Y c;obtain⟨f1,f2,f3⟩:=g.lb;have nm:=ajF hN (ag k) omq
    (have zz:∀(P:Prop)(h:P:=by first|exact aa ⟨_,_,_,_,_,_,_,rfl,qm q1 A q3 asq,by assumption⟩|exact aa ⟨_,_,_,_,_,_,_,rfl,bT az az az,⟨by decide,by decide,by decide⟩⟩),P:= @id;exact snQ)
  ·(have zz:∀(P:Prop)(h:P:=by first|exact aa ⟨_,_,_,_,_,_,_,rfl,bT az az az,⟨by decide,by decide,by decide⟩⟩),P:= @id;exact snQ)
 clear d;rintro _ ⟨c,e,o,L,O,M,N,rfl,d,j6⟩;dsimp only;refine ah (R:=λr=>∃S c e o Q V,r=(S,a,c,e,o,f,s,z,sp,n,B,C,D,E,F,G,H,u2,u3,u4,u5,I,m,L,O,M,N,Q,V)/\CS a ([]++ak (tvT f)++ag (0,false,2,s)++eD (z,sp)++ep n++ag (fY (B,C,D,E,F,G) (H,u2,u3,u4,u5,I))++ep m++ag (iu ((L,O),M,N))++ak (idT 1 S (Q,V))) c e o/\Q.length<8000000) ?_ ?_
 ·obtain⟨rfl,rfl,j,K,q1,J,q3⟩|⟨he,Z,T⟩:=d
  ·cases J with
   |nil=>(have zz:∀(P:Prop)(h:P:=by first|exact aa ⟨_,_,_,_,_,_,rfl,tA q1 br.nil q3 rfl,by decide⟩),P:= @id;exact snQ)
   |cons g A=>
    rename_i k y Y c;rcases g.cs 2 1 false 2 1 rfl rfl with⟨c1,c2⟩|⟨c1,_⟩
    ·obtain⟨f1,f2,f3⟩:=g.lb;have f4:=g.ei;have l0:=bt k;have hE:∀b n,cn (b,n)=k.2.2.2->ak (idT 1 true (b,n))=ag k:=λb n h=>by
      rw[c2,<-h];simp[idT,ak]
     (have zz:∀(P:Prop)(h:P:=by first|exact aa ⟨_,_,_,_,_,_,rfl,qm q1 A q3 (hE _ _ asq),by assumption⟩|exact aa ⟨_,_,_,_,_,_,rfl,bT az az az,by decide⟩),P:= @id;exact snQ)
    ·(have zz:∀(P:Prop)(h:P:=by first|exact aa ⟨_,_,_,_,_,_,rfl,tA q1 (br.cons g A) q3 rfl,by decide⟩),P:= @id;exact snQ)
  ·(have zz:∀(P:Prop)(h:P:=by first|exact aa ⟨_,_,_,_,_,_,rfl,bT az az az,by decide⟩),P:= @id;exact snQ)
 clear d;rintro _ ⟨S,c,e,o,Q,V,rfl,d,j9⟩;dsimp only;refine ah (R:=λr=>∃W c e o U X,r=(W,a,c,e,o,f,s,z,sp,n,B,C,D,E,F,G,H,u2,u3,u4,u5,I,m,L,O,M,N,S,Q,V,U,X)/\CS a ([]++ak (tvT f)++ag (0,false,2,s)++eD (z,sp)++ep n++ag (fY (B,C,D,E,F,G) (H,u2,u3,u4,u5,I))++ep m++ag (iu ((L,O),M,N))++ak (idT 1 S (Q,V))++ak (idT 2 W (U,X))) c e o/\U.length<8000000) ?_ ?_
 ·obtain⟨rfl,rfl,j,K,q1,J,q3⟩|⟨he,Z,T⟩:=d
  ·cases J with
   |nil=>(have zz:∀(P:Prop)(h:P:=by first|exact aa ⟨_,_,_,_,_,_,rfl,tA q1 br.nil q3 rfl,by decide⟩),P:= @id;exact snQ)
   |cons g A=>
    rename_i k y Y c;rcases g.cs 2 2 false 2 2 rfl rfl with⟨c1,c2⟩|⟨c1,_⟩
    ·obtain⟨f1,f2,f3⟩:=g.lb;have f4:=g.ei;have l0:=bt k;have hE:∀b n,cn (b,n)=k.2.2.2->ak (idT 2 true (b,n))=ag k:=λb n h=>by
      rw[c2,<-h];simp[idT,ak]
     (have zz:∀(P:Prop)(h:P:=by first|exact aa ⟨_,_,_,_,_,_,rfl,qm q1 A q3 (hE _ _ asq),by assumption⟩|exact aa ⟨_,_,_,_,_,_,rfl,bT az az az,by decide⟩),P:= @id;exact snQ)
    ·(have zz:∀(P:Prop)(h:P:=by first|exact aa ⟨_,_,_,_,_,_,rfl,tA q1 (br.cons g A) q3 rfl,by decide⟩),P:= @id;exact snQ)
  ·(have zz:∀(P:Prop)(h:P:=by first|exact aa ⟨_,_,_,_,_,_,rfl,bT az az az,by decide⟩),P:= @id;exact snQ)
 clear d;rintro _ ⟨W,c,e,o,U,X,rfl,d,k8⟩;dsimp only;refine ah (R:=λr=>(∃c e o,r=(false,a,c,e,o,f,s,z,sp,n,B,C,D,E,F,G,H,u2,u3,u4,u5,I,m,L,O,M,N,S,Q,V,W,U,X,0,0,false,0,0,0)/\CS a ([]++ak (tvT f)++ag (0,false,2,s)++eD (z,sp)++ep n++ag (fY (B,C,D,E,F,G) (H,u2,u3,u4,u5,I))++ep m++ag (iu ((L,O),M,N))++ak (idT 1 S (Q,V))++ak (idT 2 W (U,X))++[]) c e o)∨∃k y c j Y,r=(true,a,c,0,0,f,s,z,sp,n,B,C,D,E,F,G,H,u2,u3,u4,u5,I,m,L,O,M,N,S,Q,V,W,U,X,y.1,y.2.1,y.2.2.1,y.2.2.2.1,y.2.2.2.2.1,y.2.2.2.2.2)/\EL a k y/\k=(2,true,3,k.2.2.2)/\a=tlv 0 true 16 (ak (j++k::Y))/\br (EL a) Y c/\ak j=[]++ak (tvT f)++ag (0,false,2,s)++eD (z,sp)++ep n++ag (fY (B,C,D,E,F,G) (H,u2,u3,u4,u5,I))++ep m++ag (iu ((L,O),M,N))++ak (idT 1 S (Q,V))++ak (idT 2 W (U,X))) ?_ ?_
 ·obtain⟨rfl,rfl,j,K,q1,J,q3⟩|⟨he,Z,T⟩:=d
  ·cases J with
   |nil=>(have zz:∀(P:Prop)(h:P:=by first|exact aa (.inl ⟨_,_,_,rfl,tA q1 br.nil q3 rfl⟩)),P:= @id;exact snQ)
   |cons g A=>
    rcases g.cs 2 3 true 2 3 rfl rfl with⟨c1,c2⟩|⟨c1,_⟩
    ·(have zz:∀(P:Prop)(h:P:=by first|exact aa (.inr ⟨_,_,_,_,_,rfl,g,c2,q1,A,q3⟩)),P:= @id;exact snQ)
    ·(have zz:∀(P:Prop)(h:P:=by first|exact aa (.inl ⟨_,_,_,rfl,tA q1 (br.cons g A) q3 rfl⟩)),P:= @id;exact snQ)
  ·(have zz:∀(P:Prop)(h:P:=by first|exact aa (.inl ⟨_,_,_,rfl,bT az az az⟩)),P:= @id;exact snQ)
 clear d;intro r hr;refine ah (R:=λr=>∃c e o x,r=(a,c,e,o,f,s,z,sp,n,B,C,D,E,F,G,H,u2,u3,u4,u5,I,m,L,O,M,N,S,Q,V,W,U,X,x)/\CS a ([]++ak (tvT f)++ag (0,false,2,s)++eD (z,sp)++ep n++ag (fY (B,C,D,E,F,G) (H,u2,u3,u4,u5,I))++ep m++ag (iu ((L,O),M,N))++ak (idT 1 S (Q,V))++ak (idT 2 W (U,X))++ak (exT x)) c e o/\XB x) ?_ ?_
 ·rcases hr with⟨c,e,o,rfl,d⟩|⟨k,y,c,j,Y,rfl,g,c2,q1,A,q3⟩
  ·(have zz:∀(P:Prop)(h:P:=by first|exact aa ⟨_,_,_,_,rfl,d,XB.nil⟩),P:= @id;exact snQ)
  ·obtain⟨f1,f2,f3⟩:=g.lb;have f4:=g.ei;obtain⟨p,q,r,d1,d2,d3,d4,d5,d6,d7⟩:=g.bd;have l0:=bt k;have k9:y.2.2.2.2.1+(k.2.2.2.length:Int)<=(a.length:Int):=by
    obtain⟨u,w,k1,k2⟩:=g;rw[k2,k1];unfold iF ag tlv;simp only[ak2,ak4];omega
   have nm:=aix hN k.2.2.2 omq;dsimp only;refine k_t (EZ g (adq nm (λe o w0 w1 w2=> ?_) λx hx w=> ?_))
   ·(have zz:∀(P:Prop)(h:P:=by first|exact aa ⟨_,_,_,_,rfl,bT az az az,XB.nil⟩),P:= @id;exact snQ)
   ·(have zz:∀(P:Prop)(h:P:=by first|exact aa ⟨_,_,_,_,rfl,qm q1 A q3 (by rw[aec hx.2,c2,<-w]),hx.1⟩),P:= @id;exact snQ)
 clear hr;rintro _ ⟨c,e,o,x,rfl,d,hx⟩;dsimp only;have hB:TB (f,s,(z,sp),n,(B,C,D,E,F,G),(H,u2,u3,u4,u5,I),m,((L,O),M,N),S,(Q,V),W,(U,X),x):=⟨j3.1,j3.2,j4,j5,j6,by show Q.length<_;omega,by show U.length<_;omega,hx⟩;refine cC (yp hN _ hB) ?_;have e9:∀e o,0<e->0<=o->o<=(a.length:Int)->OW (some (zT,e,o)) (TPS a):=λe o T h2 h3=>aa (.inr ⟨rfl,T,h2,h3⟩);unfold zT at e9;have j8:=d;obtain⟨rfl,rfl,j,K,q1,J,q3⟩|⟨he,Z,T⟩:=d
 ·cases J with
  |nil=>
   cases hk:mB NN (f,s,(z,sp),n,(B,C,D,E,F,G),(H,u2,u3,u4,u5,I),m,((L,O),M,N),S,(Q,V),W,(U,X),x)
   ·(have zz:∀(P:Prop)(h:P:=by first|exact e9 _ _ az az az),P:= @id;exact snQ)
   ·have hE:ag (kW (f,s,(z,sp),n,(B,C,D,E,F,G),(H,u2,u3,u4,u5,I),m,((L,O),M,N),S,(Q,V),W,(U,X),x))=a:=by
     rw[q1,alm];show tlv 0 true 16 (ak (eF _))=_;rw[q3];unfold eF;simp only[sw,dt,alp,alN];rfl
    have j7:OW (some ((f,s,(z,sp),n,(B,C,D,E,F,G),(H,u2,u3,u4,u5,I),m,((L,O),M,N),S,(Q,V),W,(U,X),x),(0:Int),(0:Int))) (TPS a):=aa (.inl ⟨rfl,hk,hE,hB⟩)
    (have zz:∀(P:Prop)(h:P:=by first|exact j7),P:= @id;exact snQ)
  |cons g A=>
   obtain⟨f1,f2,f3⟩:=g.lb;cases mB NN (f,s,(z,sp),n,(B,C,D,E,F,G),(H,u2,u3,u4,u5,I),m,((L,O),M,N),S,(Q,V),W,(U,X),x)<;>(have zz:∀(P:Prop)(h:P:=by first|exact e9 _ _ az az az),P:= @id;exact snQ)
 ·cases c<;>cases mB NN (f,s,(z,sp),n,(B,C,D,E,F,G),(H,u2,u3,u4,u5,I),m,((L,O),M,N),S,(Q,V),W,(U,X),x)<;>(have zz:∀(P:Prop)(h:P:=by first|exact e9 _ _ az az az),P:= @id;exact snQ)
end Go.Fw
namespace Go.Fw
open Go
def ajH(f:FN NN)(a:Bs)(g:a.length<190000):OW (dC NN a) (PN (λv=>mB NN v=true/\TB v) (λv=>ag (kW v)) zT a):=by
 refine tq (aih f a g) ?_;rintro r (⟨b,c,d,e⟩|⟨b,c,d,e⟩)
 ·exact .inl ⟨b,⟨c,e⟩,d⟩
 ·exact .inr ⟨b,c,d,e⟩
def zC:iC:=(zT,([],[]),[],0)
def RPS(a:Bs)(r:iC×Int×Int):Prop:=(r.2=(0,0)/\nN NN r.1=true/\ag (jg r.1)=a/\QB r.1)∨(r.1=zC/\0<r.2.1/\0<=r.2.2/\r.2.2<=(a.length:Int))
set_option maxHeartbeats 4000000 in
def aii(U:FN NN)(a:Bs)(ha:a.length<190000):OW (cU NN a) (RPS a):=by
 unfold cU syv;refine ah (R:=λr=>∃b e o,r=(a,b,e,o)/\CS a [] b e o) (G5 U ha (λe o S I h2=>aa ⟨_,_,_,rfl,.inr ⟨S,I,h2⟩⟩) λts l I J=>aa ⟨_,_,_,rfl,.inl ⟨rfl,rfl,[],ts,I,J,rfl⟩⟩) ?_;rintro _ ⟨b,e,o,rfl,c⟩;dsimp only;refine ah (R:=λr=>∃b e o d s f sp n z A B C D E F u2 u3 u4 u5 G m u y v w i k q j p t x,r=(a,b,e,o,d,s,f,sp,n,z,A,B,C,D,E,F,u2,u3,u4,u5,G,m,u,y,v,w,i,k,q,j,p,t,x)/\CS a ([]++ag (kW (d,s,(f,sp),n,(z,A,B,C,D,E),(F,u2,u3,u4,u5,G),m,((u,y),v,w),i,(k,q),j,(p,t),x))) b e o/\(e=0->mB NN (d,s,(f,sp),n,(z,A,B,C,D,E),(F,u2,u3,u4,u5,G),m,((u,y),v,w),i,(k,q),j,(p,t),x)=true/\TB (d,s,(f,sp),n,(z,A,B,C,D,E),(F,u2,u3,u4,u5,G),m,((u,y),v,w),i,(k,q),j,(p,t),x))) ?_ ?_
 ·obtain⟨rfl,rfl,N,O,q1,M,q3⟩|⟨he,S,I⟩:=c
  ·cases M with
   |nil=>(have zz:∀(P:Prop)(h:P:=by first|exact aa ⟨_,_,_,_,_,_,_,_,_,_,_,_,_,_,_,_,_,_,_,_,_,_,_,_,_,_,_,_,_,_,_,_,rfl,bT az az az,λh=>absurd h omq⟩),P:= @id;exact snQ)
   |cons L J=>
    rename_i T e0 tr b;obtain⟨X,Y,Z⟩:=L.lb;obtain⟨⟨⟨d,s,⟨f,sp⟩,n,⟨z,A,B,C,D,E⟩,⟨F,u2,u3,u4,u5,G⟩,m,⟨⟨u,y⟩,v,w⟩,i,⟨k,q⟩,j,⟨p,t⟩,x⟩,e,o⟩,nm,⟨w1,V,W⟩|⟨w1,V,W,w4⟩⟩:=ajH U (ag T) omq
    ·cases w1;dsimp only at V W
     (have zz:∀(P:Prop)(h:P:=by first|exact aa ⟨_,_,_,_,_,_,_,_,_,_,_,_,_,_,_,_,_,_,_,_,_,_,_,_,_,_,_,_,_,_,_,_,rfl,qm q1 J q3 W,λ_=>V⟩),P:= @id;exact snQ)
    ·dsimp only at V W w4
     (have zz:∀(P:Prop)(h:P:=by first|exact aa ⟨_,_,_,_,_,_,_,_,_,_,_,_,_,_,_,_,_,_,_,_,_,_,_,_,_,_,_,_,_,_,_,_,rfl,bT az az az,λh=>absurd h omq⟩),P:= @id;exact snQ)
  ·(have zz:∀(P:Prop)(h:P:=by first|exact aa ⟨_,_,_,_,_,_,_,_,_,_,_,_,_,_,_,_,_,_,_,_,_,_,_,_,_,_,_,_,_,_,_,_,rfl,bT az az az,λh=>absurd h omq⟩),P:= @id;exact snQ)
 clear c;rintro _ ⟨b,e1,o,d,s,f,sp,n,z,A,B,C,D,E,F,u2,u3,u4,u5,G,m,u,y,v,w,i,k,q,j,p,t,x,rfl,c,ht⟩;dsimp only;refine ah (R:=λr=>∃b e o g p2,r=(a,b,e,o,g,p2)/\CS a ([]++ag (kW (d,s,(f,sp),n,(z,A,B,C,D,E),(F,u2,u3,u4,u5,G),m,((u,y),v,w),i,(k,q),j,(p,t),x))++eD (g,p2)) b e o/\(e=0->e1=0/\g.length<10000000/\p2.length<10000000)) ?_ ?_
 ·obtain⟨rfl,rfl,N,O,q1,M,q3⟩|⟨he,S,I⟩:=c
  ·cases M with
   |nil=>(have zz:∀(P:Prop)(h:P:=by first|exact aa ⟨_,_,_,_,_,rfl,bT az az az,λh=>absurd h omq⟩),P:= @id;exact snQ)
   |cons L J=>
    rename_i T e0 tr b;obtain⟨X,Y,Z⟩:=L.lb;have nm:=Yr U (ag T) omq
    (have zz:∀(P:Prop)(h:P:=by first|exact aa ⟨_,_,_,_,_,rfl,qm q1 J q3 asq,λ_=>⟨rfl,by assumption⟩⟩|exact aa ⟨_,_,_,_,_,rfl,bT az az az,λh=>absurd h omq⟩),P:= @id;exact snQ)
  ·(have zz:∀(P:Prop)(h:P:=by first|exact aa ⟨_,_,_,_,_,rfl,bT az az az,λh=>absurd h omq⟩),P:= @id;exact snQ)
 clear c;rintro _ ⟨b,e2,o,g,p2,rfl,c,e9⟩;dsimp only;refine ah (R:=λr=>∃b e o K Q,r=(a,b,e,o,K,Q)/\CS a ([]++ag (kW (d,s,(f,sp),n,(z,A,B,C,D,E),(F,u2,u3,u4,u5,G),m,((u,y),v,w),i,(k,q),j,(p,t),x))++eD (g,p2)++ag (vC (K,Q))) b e o/\(e=0->e2=0/\K.length<8000000/\ir (K,Q)=true)) ?_ ?_
 ·obtain⟨rfl,rfl,N,O,q1,M,q3⟩|⟨he,S,I⟩:=c
  ·cases M with
   |nil=>(have zz:∀(P:Prop)(h:P:=by first|exact aa ⟨_,_,_,_,_,rfl,bT az az az,λh=>absurd h omq⟩),P:= @id;exact snQ)
   |cons L J=>
    rename_i T e0 tr b;obtain⟨X,Y,Z⟩:=L.lb;have nm:=af6 U (ag T) omq
    (have zz:∀(P:Prop)(h:P:=by first|exact aa ⟨_,_,_,_,_,rfl,qm q1 J q3 asq,λ_=>⟨rfl,by assumption⟩⟩|exact aa ⟨_,_,_,_,_,rfl,bT az az az,λh=>absurd h omq⟩),P:= @id;exact snQ)
  ·(have zz:∀(P:Prop)(h:P:=by first|exact aa ⟨_,_,_,_,_,rfl,bT az az az,λh=>absurd h omq⟩),P:= @id;exact snQ)
 clear c;rintro _ ⟨b,e3,o,K,Q,rfl,c,j3⟩;dsimp only;have fs:gD (g,p2) (f,sp)=some ((g==f)&&(p2==sp)):=by
  unfold gD rD syv;cases (g==f)<;>rfl
 refine cC fs ?_;have H:∀e o,0<e->0<=o->o<=(a.length:Int)->OW (some (zC,e,o)) (RPS a):=λe o I h2 h3=>aa (.inr ⟨rfl,I,h2,h3⟩);unfold zC zT at H;have j5:=c;obtain⟨rfl,rfl,N,O,q1,M,q3⟩|⟨he,S,I⟩:=c
 ·cases M with
  |nil=>
   cases hs:((g==f)&&(p2==sp))
   ·(have zz:∀(P:Prop)(h:P:=by first|exact H _ _ az az az),P:= @id;exact snQ)
   ·obtain⟨d1,d2,d3⟩:=j3 rfl;obtain⟨d4,d5,d6⟩:=e9 d1;obtain⟨d7,d8⟩:=ht d4;have hE:ag (jg ((d,s,(f,sp),n,(z,A,B,C,D,E),(F,u2,u3,u4,u5,G),m,((u,y),v,w),i,(k,q),j,(p,t),x),(g,p2),K,Q))=a:=by
     rw[q1,alm];show tlv 0 true 16 (ak (gT _))=_;rw[q3];unfold gT;simp only[dt,alp,alN];simp[ak];rfl
    have j4:OW (some (((d,s,(f,sp),n,(z,A,B,C,D,E),(F,u2,u3,u4,u5,G),m,((u,y),v,w),i,(k,q),j,(p,t),x),(g,p2),K,Q),(0:Int),(0:Int))) (RPS a):=aa (.inl ⟨rfl,by unfold nN;dsimp only;rw[hs,d3,d7];rfl,hE,d8,d5,d6,d2⟩)
    (have zz:∀(P:Prop)(h:P:=by first|exact j4),P:= @id;exact snQ)
  |cons L J=>
   obtain⟨X,Y,Z⟩:=L.lb;cases ((g==f)&&(p2==sp))<;>(have zz:∀(P:Prop)(h:P:=by first|exact H _ _ az az az),P:= @id;exact snQ)
 ·cases b<;>cases ((g==f)&&(p2==sp))<;>(have zz:∀(P:Prop)(h:P:=by first|exact H _ _ az az az),P:= @id;exact snQ)
end Go.Fw
namespace Go.Fw
open Go
def EQ(x:Option Bool)(P:Prop):Prop:=OW x λc=>(c=true↔P)
def aaX{α:Type}[BEq α][LawfulBEq α](a b:α):EQ (some (a==b)) (a=b):=aa amy
def BS{x:Option Bool}{y:Option Bool}{P Q R:Prop}(h:EQ x P)(k:P->EQ y Q)(e:R↔P/\Q):EQ (x.bind λc=>bif c then y else some false) R:=by
 refine ah h λc b=>aw (λa=>tq (k (b.1 a)) λd f=> ?_) λa=>aa ?_
 ·rw[f,e];exact⟨λq=>⟨b.1 a,q⟩,λq=>q.2⟩
 ·rw[e];refine⟨λh=>(by cases h),λq=> ?_⟩;rw[b.2 q.1]at a;cases a
def BT{x:Option Bool}{y:Option Bool}{P Q R:Prop}(h:EQ x P)(k:P->EQ y Q)(e:R↔P/\Q):EQ (x.bind λc=>bif !c then some false else y) R:=by
 refine ah h λc a=> ?_;have:=BS (x:=some c) (y:=y) (aa a) k e;cases c<;>exact this
def UF{c:Bool}{y:Option Bool}{P Q R:Prop}(h:c=true↔P)(k:P->EQ y Q)(e:R↔P/\Q):EQ (bif c then y else some false) R:=BS (x:=some c) (aa h) k e
def Yt{c:Bool}{y:Option Bool}{P Q R:Prop}(h:c=true↔P)(k:P->EQ y Q)(e:R↔P/\Q):EQ (bif !c then some false else y) R:=BT (x:=some c) (aa h) k e
def Kq{x:Option Bool}{P:Prop}(h:EQ x P):EQ (x.bind λc=>some c) P:=by
 obtain⟨c,rfl,a⟩:=h;exact aa a
def adu{α:Type}(N:Nat)(n:FN N)(F:Nat->List α×List α×Int->Option (Unit⊕(List α×List α)))(b:(List α×List α×Int->Option (Unit⊕(List α×List α)))->List α×List α×Int->Option (Unit⊕(List α×List α)))(k:F N=Nat.rec (motive:=λ_=>List α×List α×Int->Option (Unit⊕(List α×List α))) (λ_=>none) (λ_ G=>b G) N)(l m:List α)(r:l.length<10000000)
 (o:∀G (i:Nat) x y (Q:Unit⊕(List α×List α)->Prop),l[i]?=some x->m[i]?=some y->(x≠y->Q (.inl ()))->(x=y->OW (G (l,m,((i+1:Nat):Int))) Q)->OW (b G (l,m,(i:Int))) Q)
 (d:∀G (i:Nat),¬(i<l.length/\i<m.length)->b G (l,m,(i:Int))=some (.inr (l,m))):
 OW (F N (l,m,0)) λy=>(y=.inl ()/\l≠m)∨(y=.inr (l,m)/\(l.length=m.length->l=m)):=by
 unfold FN at n;rw[k];refine ff _ l.length (λi p=>p=(l,m,(i:Int))/\∀j<i,l[j]?=m[j]?) ?_ N 0 _ omq omq ⟨rfl,λj c=>omq⟩;rintro G i _ q ⟨rfl,g⟩ rec;by_cases a:i<l.length/\i<m.length
 ·refine o G i l[i] m[i] _ (akZ a.1) (akZ a.2) (λf=>.inl ⟨rfl,λe=>f ?_⟩) λd=>rec _ a.1 ⟨rfl,λj c=> ?_⟩
  ·subst e;rfl
  ·rcases Nat.lt_succ_iff_lt_or_eq.1 c with h|rfl
   ·exact g j h
   ·rw[akZ a.1,akZ a.2,d]
 ·rw[d G i a];refine aa (.inr ⟨rfl,λe=>amv λj=> ?_⟩);by_cases c:j<i
  ·exact g j c
  ·rw[alg omq,alg omq]
def UG{α:Type}{l m:List α}{x:Option (Unit⊕(List α×List α))}{k:Unit⊕(List α×List α)->Option Bool}(h:OW x λy=>(y=.inl ()/\l≠m)∨(y=.inr (l,m)/\(l.length=m.length->l=m)))(b:k (.inl ())=some false)(c:k (.inr (l,m))=some ((l.length:Int)==(m.length:Int))):EQ (x.bind k) (l=m):=by
 refine ah h ?_;rintro _ (⟨rfl,a⟩|⟨rfl,a⟩)
 ·rw[b];exact aa ⟨λh=>(by cases h),λh=>absurd h a⟩
 ·rw[c];refine aa ?_;rw[amy];exact⟨λh=>a omq,λh=>by rw[h]⟩
def eqB{α:Type}(A:α->α->Option Bool)(G:List α×List α×Int->Option (Unit⊕(List α×List α)))(s:List α×List α×Int):Option (Unit⊕(List α×List α)):=
 bif decide (s.2.2<(s.1.length:Int)) then(bif decide (s.2.2<(s.2.1.length:Int)) then((ix s.1 s.2.2).bind λa=>(ix s.2.1 s.2.2).bind λb=>(A a b).bind λc=>bif !c then some (.inl ()) else G (s.1,s.2.1,ay .i64 s.2.2 1)) else some (.inr (s.1,s.2.1))) else some (.inr (s.1,s.2.1))
def UH{α:Type}(N:Nat)(n:FN N)(A:α->α->Option Bool)(F:Nat->List α×List α×Int->Option (Unit⊕(List α×List α)))(k:F N=Nat.rec (motive:=λ_=>List α×List α×Int->Option (Unit⊕(List α×List α))) (λ_=>none) (λ_ G=>eqB A G) N)(l m:List α)(o:l.length<10000000)(j:∀x∈l,∀y,EQ (A x y) (x=y)):
 OW (F N (l,m,0)) λy=>(y=.inl ()/\l≠m)∨(y=.inr (l,m)/\(l.length=m.length->l=m)):=by
 refine adu N n F (eqB A) k l m o ?_ ?_
 ·intro G i x y Q a f b g;have p:=(amg.1 a).1;have q:=(amg.1 f).1;unfold eqB;dsimp only;refine aY (λ_=>aY (λ_=>cC (bc a) (cC (bc f) (ah (j x (alz a) y) λc d=> ?_))) λh=>absurd h omq) λh=>absurd h omq;cases c
  ·exact aa (b λe=>by cases d.2 e)
  ·rw[bu omq];exact g (d.1 rfl)
 ·intro G i h;unfold eqB;dsimp only;by_cases b:i<l.length
  ·rw[ak3 omq,ak0 omq];rfl
  ·rw[ak0 omq];rfl
end Go.Fw
def amd:=@Prod.ext_iff
namespace Go.Fw
open Go
def Ak(a b:Bs):EQ (eB a b) (a=b):=by
 unfold eB syv;exact aaX a b
def Yu(a b:Bs×Bs):EQ (qS a b) (a=b):=by
 unfold qS syv;exact UF amy (λ_=>Kq (Ak _ _)) amd
def ajP(a b:Bs×Bs):EQ (mr a b) (a=b):=by
 unfold mr syv;exact UF amy (λ_=>Kq (Ak _ _)) amd
def ajQ(a b:cb):EQ (mt a b) (a=b):=by
 unfold mt syv;exact UF amy (λ_=>UF amy (λ_=>Kq (Ak _ _)) amd) amd
def Oj(a b:gR):EQ (Bf a b) (a=b):=by
 unfold Bf syv;exact BS (Ak _ _) (λ_=>aaX _ _) amd
def ajR(a:FN NN)(l m:Rdn)(b:l.length<10000000):EQ (xj NN l m) (l=m):=by
 unfold xj syv;exact UG (UH NN a mr (wM NN) (by unfold wM syv;rfl) l m b λx _ y=>ajP x y) rfl rfl
def Ok{α:Type}(f:α->Nat)(h:∀x,1<=f x):∀l:List α,l.length<=(l.map f).sum/\∀x∈l,f x<=(l.map f).sum
 |[]=>⟨by simp,λ_ h=>by cases h⟩
 |a::r=>by
  obtain⟨e,b⟩:=Ok f h r;have:=h a;refine⟨by simp only[ak4,alc,amm];omega,λx d=> ?_⟩;simp only[alc,amm];rcases alr.1 d with rfl|c
  ·omega
  ·have:=b x c;omega
def aaY(a:FN NN)(l m:List Rdn)(c:wN l<10000000):EQ (Be NN l m) (l=m):=by
 unfold wN at c;obtain⟨e,b⟩:=Ok wR (λx=>by unfold wR;omega) l;unfold Be syv;refine UG (UH NN a (xj NN) (uI NN) (by unfold uI syv;rfl) l m omq λx d y=>ajR a x y ?_) rfl rfl;have f:=b x d;have g:=(Ok wA (λx=>by unfold wA;omega) x).1;have h:wR x=(x.map wA).sum+20:=rfl;omega
def aiE(b:FN NN)(l m:List cb)(c:XB l):EQ (pD NN l m) (l=m):=by
 have a:=c.1;unfold wL at a;have d:=(Ok wE (λx=>by unfold wE;omega) l).1;unfold pD syv;exact UG (UH NN b mt (mW NN) (by unfold mW syv;rfl) l m omq λx _ y=>ajQ x y) rfl rfl
def aaZ{a b:dI}:((a.1==b.1)&&((a.2.1==b.2.1)&&((a.2.2.1==b.2.2.1)&&((a.2.2.2.1==b.2.2.2.1)&&((a.2.2.2.2.1==b.2.2.2.2.1)&&(a.2.2.2.2.2==b.2.2.2.2.2))))))=true↔a=b:=by
 simp only[akY,amy,amd]
def ajS(a b:DA):EQ (Dm a b) (a=b):=by
 unfold Dm syv;exact BS (Yu _ _) (λ_=>Kq (Oj _ _)) amd
def ajT(c:FN NN)(a b:pV)(h:TB a):EQ (Dn NN a b) (a=b):=by
 obtain⟨_,_,d,e,_,_,_,f⟩:=h;unfold Dn syv;exact Yt amy (λ_=>BT (Ak _ _) (λ_=>BT (Yu _ _) (λ_=>BT (aaY c _ _ d) (λ_=>Yt aaZ (λ_=>Yt aaZ (λ_=>BT (aaY c _ _ e) (λ_=>BT (ajS _ _) (λ_=>Yt amy (λ_=>BT (Oj _ _) (λ_=>UF amy (λ_=>BS (Oj _ _) (λ_=>Kq (aiE c _ _ f)) amd) amd) amd) amd) amd) amd) amd) amd) amd) amd) amd) amd
def ael(c:FN NN)(a b:iC)(h:QB a):EQ (cz NN a b) (a=b):=by
 unfold cz syv;exact BS (ajT c _ _ h.1) (λ_=>BS (Yu _ _) (λ_=>Kq (Oj _ _)) amd) amd
end Go.Fw
namespace Go.Fw
open Go Go.Proofs.Tryz
noncomputable section
set_option maxRecDepth 100000
set_option maxHeartbeats 0
attribute [local irreducible] ix app slc cw toB agree fF fH fE ju dD aI aP aQ
def zm:AD B0:=⟨20,(c1 [eQ,Ik]),[vZ,vF,.ilit .i64 3,jp],(.tup [hc0,hc4])⟩
@[irreducible] def iy(N:Nat)(a:List Bs):Y18:=syv N (zm.go (a))
def KZ:=gA zm (iy NN)
def fV(N:Nat)(e:Y11)(a2:Int)(a3:Int):Option Bool:=
 (iK N).bind λc1=>
 bif (!c1) then(
 (iK N).bind λY=>
 some Y)
 else
 (uH N e).bind λZ=>
 bif (!Z) then(
 (iK N).bind λc4=>
 some c4)
 else
 (iH N e).bind λc5=>
 bif (!c5) then(
 some true)
 else
 (cm N e.1).bind λ(l6,t)=>
 (app 24 [] [l6]).bind λl8=>
 (ga N e.2.1).bind λ(l9,f)=>
 (app 24 l8 [l9]).bind λJ=>
 (eW N e.2.2).bind λ(K,g)=>
 (iy N [K]).bind λ(L,h)=>
 (app 24 J [L]).bind λM=>
 bif (fQ (fQ (fQ (fQ 0 t) f) g) h !=0) then(
 bif (fQ (fQ (fQ (fQ 0 t) f) g) h !=0) then(
 some (fQ (fQ (fQ (fQ 0 t) f) g) h==8))
 else
 some (fQ (fQ (fQ (fQ 0 t) f) g) h==8))
 else
 (bI N M).bind λq=>
 (dY 0 true 16).bind λ(H,i)=>
 bif (i !=0) then(
 bif (i !=0) then(
 some (i==8))
 else
 some (i==8))
 else
 (mF N (q.length:Int)).bind λ(O,j)=>
 bif (j !=0) then(
 bif (j !=0) then(
 some (j==8))
 else
 some (j==8))
 else
 (toB H).bind λu=>
 (cW N ([[u],O,q])).bind λa=>
 bif ((a.length:Int)==0) then(
 some false)
 else
 bif ((a.length:Int)==0) then(
 none)
 else
 bif inb (Int.tmod (IntKind.wrap .i64 a2) (a.length:Int)) a.length then(
 (ix a (Int.tmod (IntKind.wrap .i64 a2) (a.length:Int))).bind λd=>
 bif inb (Int.tmod (IntKind.wrap .i64 a2) (a.length:Int)) a.length then(
 bif inb (Int.tmod (IntKind.wrap .i64 a2) (a.length:Int)) a.length then(
 (toB a3).bind λc=>
 (cU N (a.set (Int.toNat (Int.tmod (IntKind.wrap .i64 a2) (a.length:Int))) c)).bind λ(b,s)=>
 bif (s.1 !=0) then(
 bif (a3 !=(d.toNat:Int)) then(
 (cz N b ((0,[],([],[]),[],(0,0,0,0,0,0),(0,0,0,0,0,0),[],(([],[]),[],0),false,([],0),false,([],0),[]),([],[]),[],0)).bind λw=>
 bif w then(
 (jX s ((a.set (Int.toNat (Int.tmod (IntKind.wrap .i64 a2) (a.length:Int))) c).length:Int)).bind λx=>
 some x)
 else
 some false)
 else
 some false)
 else
 (iH N b).bind λy=>
 bif (!y) then(
 some false)
 else
 (cm N b.1).bind λ(P,k)=>
 (app 24 [] [P]).bind λQ=>
 (ga N b.2.1).bind λ(R,l)=>
 (app 24 Q [R]).bind λS=>
 (eW N b.2.2).bind λ(T,m)=>
 (iy N [T]).bind λ(U,n)=>
 (app 24 S [U]).bind λV=>
 bif (fQ (fQ (fQ (fQ 0 k) l) m) n !=0) then(
 bif (fQ (fQ (fQ (fQ 0 k) l) m) n==0) then(
 (eB [] (a.set (Int.toNat (Int.tmod (IntKind.wrap .i64 a2) (a.length:Int))) c)).bind λz=>
 bif z then(
 (cz N b e).bind λA=>
 some (A==(a3==(d.toNat:Int))))
 else
 some false)
 else
 some false)
 else
 (bI N V).bind λr=>
 (dY 0 true 16).bind λ(I,o)=>
 bif (o !=0) then(
 bif (o==0) then(
 (eB [] (a.set (Int.toNat (Int.tmod (IntKind.wrap .i64 a2) (a.length:Int))) c)).bind λB=>
 bif B then(
 (cz N b e).bind λC=>
 some (C==(a3==(d.toNat:Int))))
 else
 some false)
 else
 some false)
 else
 (mF N (r.length:Int)).bind λ(W,p)=>
 bif (p !=0) then(
 bif (p==0) then(
 (eB [] (a.set (Int.toNat (Int.tmod (IntKind.wrap .i64 a2) (a.length:Int))) c)).bind λD=>
 bif D then(
 (cz N b e).bind λE=>
 some (E==(a3==(d.toNat:Int))))
 else
 some false)
 else
 some false)
 else
 (toB I).bind λv=>
 (cW N ([[v],W,r])).bind λX=>
 (eB X (a.set (Int.toNat (Int.tmod (IntKind.wrap .i64 a2) (a.length:Int))) c)).bind λF=>
 bif F then(
 (cz N b e).bind λG=>
 some (G==(a3==(d.toNat:Int))))
 else
 some false)
 else
 none)
 else
 none)
 else
 none
def agR:KC B0:=gC 4 ⟨[OQ,Sw,vX,py,kI,lB,KZ,eQ,AA,Ii,wc,HY,OS,jt],[nn],[],[],.nil⟩ [Ia,.hole (.int .u16),zr] au (u3 (fV NN)) krq
end
end Go.Fw
namespace Go.Fw
open Go
def aeg:jo [49,46,50,46,51] [1,2,3]:=⟨by decide,by decide,krq⟩
def aeh:jo [49,46,50,46,52] [1,2,4]:=⟨by decide,by decide,krq⟩
def aaM:jo [50,46,53,46,52,46,51] [2,5,4,3]:=⟨by decide,by decide,krq⟩
def akN:fh [49,46,50,46,51]=[42,3]:=by rw[xg aeg];kernel_rfl
def akO:fh [49,46,50,46,52]=[42,4]:=by rw[xg aeh];kernel_rfl
def ajK:fh [50,46,53,46,52,46,51]=[85,4,3]:=by rw[xg aaM];kernel_rfl
def ajL(n:Nat):opn (n+300) [12,2,65,98]=true:=krq
abbrev adk:List Rdn:=[[([50,46,53,46,52,46,51],[12,2,65,98])]]
abbrev oD:iC:=((0,[1],([49,46,50,46,51],[]),adk,(2000,1,1,0,0,0),(2001,1,1,0,0,0),adk,(([49,46,50,46,52],[]),[160],5),false,([],0),false,([],0),[]),([49,46,50,46,51],[]),[],0)
def adl(n:Nat):nk (n+300) adk=true:=by
 unfold nk kL gN;simp only[amw,List.all_nil,jV.2 ⟨_,aaM⟩,ajL];kernel_rfl
def aio(N:Nat):jR N ([49,46,50,46,51],[])=true:=by
 unfold jR;rw[jV.2 ⟨_,aeg⟩];simp
def aip(N:Nat):jR N ([49,46,50,46,52],[])=true:=by
 unfold jR;rw[jV.2 ⟨_,aeh⟩];simp
def UA:ir ([160],5)=true/\ir ([],0)=true:=by
 unfold ir;exact⟨krq,krq⟩
def UB:QB oD:=⟨⟨by decide,by decide,by decide,by decide,⟨by decide,by decide,by decide⟩,by decide,by decide,XB.nil⟩,by decide,by decide,by decide⟩
def afV{N n:Nat}(a:FN N)(e:N=n+300):mB N oD.1=true:=by
 obtain⟨⟨d,f,g,k,h,i,l,m⟩,_⟩:=UB;have b:bY N oD.1=some true:=by
  unfold bY syv;have j:zR N oD.1.2.2.2.2.2.2.2.1=true:=by
   unfold zR;rw[aip,UA.1];rfl
  have c:=adl n;rw[<-e]at c;simp only[gp,yo a _ d f,aio,vr a _ g,c,uT,C1 a _ h,j,Uz _ _ _ i,akX];rw[show ii [1]=true from krq,show ij (2000,1,1,0,0,0)=true from krq,show ij (2001,1,1,0,0,0)=true from krq,show BQ false ([],0) 0=true from rfl];rfl
 unfold mB;rw[b];rfl
def ajM:(ag (jg oD)).length=96/\(ag (jg oD)).take 13=[48,94,48,83,2,1,1,48,4,6,2,42,3]/\(ag (jg oD)).drop 87=[48,4,6,2,42,3,3,1,0]:=by
 unfold jg gT kW eF iu nM mb gr gB;simp only[alc,amj];unfold cE
 try unfold eD
 unfold bS;dsimp only;rw[akN,akO,ajK];exact⟨krq,krq,krq⟩
def afW(c:FN NN):iK NN=some true:=by
 have d:=c;unfold FN at d;obtain⟨n,u⟩:∃n,NN=n+300:=⟨NN-300,omq⟩;obtain⟨a,q,t⟩:=ajM;have b:nN NN oD=true:=by
  unfold nN;rw[afV c u,UA.2];rfl
 have w:(ak (gT oD)).length<96:=by rw[<-a];exact bt (jg oD)
 have p:=ajJ c oD UB omq;rw[b]at p;have v:=Oh c oD UB b (ag (jg oD)) rfl omq deq;unfold iK oF eB syv;show(dP NN oD).bind _=_;rw[p];simp only[ala,akX];rw[v];simp only[akX];rw[a];obtain⟨s,k,m⟩:=GF (l:=ag (jg oD)) (i:=0) (j:=13) omq omq (by rw[a];decide);have o:s=[48,94,48,83,2,1,1,48,4,6,2,42,3]:=by rw[m];exact q
 obtain⟨r,e,f⟩:=GF (l:=ag (jg oD)) (i:=87) (j:=96) omq omq (by rw[a];decide);have g:r=[48,4,6,2,42,3,3,1,0]:=by
  rw[f,show(96:Int).toNat=(ag (jg oD)).length from by rw[a];rfl,amC];exact t
 have h:slc (ag (jg oD)) 87 ((96:Nat):Int)=some r:=e;rw[k,o];simp only[akX];rw[h,g];rfl
end Go.Fw
namespace Go.Fw
open Go
def E0(n:Nat):1<=(Lib.decDigits n).length:=by
 have:=ano.2 (aad n);omega
def QJ{n:Nat}(h:n<10):(Lib.decDigits n).length=1:=by
 rw[Lib.decDigits,dif_pos h];rfl
def E1{n:Nat}(h:10<=n):(Lib.decDigits n).length=(Lib.decDigits (n / 10)).length+1:=by
 rw[Lib.decDigits,dif_neg omq,ak2];rfl
def MF:∀(b a:Nat),a<=b->(Lib.decDigits a).length<=(Lib.decDigits b).length:=by
 intro b;induction b using Nat.strongRecOn with
 |ind b d=>
  intro a h;by_cases c:a<10
  ·rw[QJ c];exact E0 b
  ·rw[E1 omq,E1 (by omega:10<=b)];have:=d (b / 10) omq (a / 10) omq;omega
def aaN:∀(f n m:Nat),n*128<=m->(b7 f n).length+1<=(Lib.decDigits m).length
 |0,n,m,_=>by simpa[b7] using E0 m
 |f+1,n,m,h=>by
  unfold b7;split
  ·simpa using E0 m
  ·rename_i b;have c:=aaN f (n / 128) n omq;have a:n<=m / 10:=omq;have d:=MF (m / 10) n a;rw[E1 (by omega:10<=m),ak4];omega
def UC(n:Nat):(cP n).length<=(Lib.decDigits n).length:=by
 unfold cP hi7;rw[ak2,List.length_reverse];exact aaN 5 (n / 128) n omq
def adm(a b:Nat)(f:a<=2):(cP (40*a+b)).length<=(Lib.decDigits b).length+1:=by
 have d:=UC (40*a+b);by_cases g:b<10
 ·have c:=MF 99 (40*a+b) omq;have e:(Lib.decDigits 99).length=2:=by rw[E1 omq,QJ omq]
  have:=E0 b;omega
 ·have c:=MF (10*b+9) (40*a+b) omq;rw[E1 (by omega:10<=10*b+9),show(10*b+9) / 10=b from omq]at c;omega
def UD:∀(r:List Nat)(x:Nat),((Lib.decDigits x).length:Nat)+((r.map cP).flatten).length<=(Lib.join ((x::r).map Lib.decDigits) [46]).length
 |[],x=>by simp[Lib.join]
 |y::r,x=>by
  have a:=UD r y;have b:=UC y;show _<=(Lib.join (Lib.decDigits x::Lib.decDigits y::r.map Lib.decDigits) [46]).length;rw[ql,ak2,ak4];simp only[alc,alx,ak2]at a⊢;omega
def aaO{a b:Nat}{r:List Nat}(h:vz (a::b::r)=true):a<=2:=by
 unfold vz at h;simp only[alL]at h;exact h.1
def afX(s:Bs):(fh s).length<=s.length:=by
 unfold fh;split
 ·rename_i h;obtain⟨c,e,d⟩:=ame (tz.1 h);generalize Classical.choose (tz.1 h)=L at c e d
  match L,c with
  |a::b::r,c=>
   have f:=adm a b (aaO c);have g:=UD r b;have i:=E0 a;rw[d,alc,alc,ql,ak2,ak4,<-alc];show(cP (40*a+b)++(r.map cP).flatten).length<=_;rw[ak2];omega
 ·simp
def Oi{α:Type}(f g:α->Nat):∀(l:List α),(∀x∈l,f x<=g x)->(l.map f).sum<=(l.map g).sum
 |[],_=>by simp
 |a::r,h=>by
  have c:=h a siq;have d:=Oi f g r λx b=>h x (by simp[b]);simp only[alc,amm];omega
def G6{α:Type}(f:α->Bs):∀(l:List α),((l.map f).flatten).length=(l.map λx=>(f x).length).sum
 |[]=>rfl
 |a::r=>by
  have:=G6 f r;simp only[alc,alx,ak2,amm];omega
def QK{α:Type}(f:α->Nat)(B:Nat):∀(l:List α),(∀x∈l,f x<=B)->(l.map f).sum<=l.length*B
 |[],_=>by simp
 |a::r,h=>by
  have c:=h a siq;have d:=QK f B r λx b=>h x (by simp[b]);simp only[alc,amm,ak4,anq];omega
def PJ(s:Bs)(h:s.length<100000000):(ag (bS s)).length<=s.length+6:=by
 have a:=afX s;have d:(ag (bS s)).length<=(fh s).length+6:=eC (c:=0) (k:=false) (num:=6) (b:=fh s) omq;omega
def afY(v:Bs×Bs)(h:wA v<100000000):(cE v).length<=wA v:=by
 unfold wA at h⊢;have d:=PJ v.1 omq;have a:=eC (c:=0) (k:=true) (num:=16) (b:=ag (bS v.1)++v.2) (by rw[ak2];omega);rw[ak2]at a;show(tlv 0 true 16 (ag (bS v.1)++v.2)).length<=_;omega
def aiq(r:Rdn)(h:wR r<100000000):(gB r).length<=wR r:=by
 unfold wR at h⊢;have d:((r.map cE).flatten).length<=(r.map wA).sum:=by
  rw[G6];exact Oi _ _ r λx a=>afY x (by have:=lc wA r x a;omega)
 have e:=eC (c:=0) (k:=true) (num:=17) (b:=(r.map cE).flatten) omq;show(tlv 0 true 17 ((r.map cE).flatten)).length<=_;omega
def Wj(n:List Rdn)(h:wN n<100000000):(ep n).length<=wN n:=by
 unfold wN at h⊢;have d:((n.map gB).flatten).length<=(n.map wR).sum:=by
  rw[G6];exact Oi _ _ n λx a=>aiq x (by have:=lc wR n x a;omega)
 have e:=eC (c:=0) (k:=true) (num:=16) (b:=(n.map gB).flatten) omq;show(tlv 0 true 16 ((n.map gB).flatten)).length<=_;omega
def air(v:cb)(h:wE v<100000000):(fe v).length<=wE v:=by
 unfold wE at h⊢;have a:=PJ v.1 omq;have d:(ag (iN v.2.2)).length<=v.2.2.length+6:=eC (c:=0) (k:=false) (num:=4) (b:=v.2.2) omq;have e:(ak (gt v)).length<=(ag (bS v.1)).length+3+(ag (iN v.2.2)).length:=by
  have f:(ag vt).length=3:=krq;unfold gt;cases v.2.1
  ·simp[ak]
  ·simp[ak];omega
 have g:(fe v).length<=(ak (gt v)).length+6:=eC (c:=0) (k:=true) (num:=16) (b:=ak (gt v)) omq;omega
def afZ(l:List cb)(h:wL l<100000000):(fX l).length<=wL l:=by
 unfold wL at h⊢;have d:((l.map fe).flatten).length<=(l.map wE).sum:=by
  rw[G6];exact Oi _ _ l λx a=>air x (by have:=lc wE l x a;omega)
 have e:(fX l).length<=((l.map fe).flatten).length+6:=eC (c:=0) (k:=true) (num:=16) (b:=(l.map fe).flatten) omq;omega
def UE(v:Bs×Bs)(h:v.1.length<100000000)(d:v.2.length<100000000):(eD v).length<=v.1.length+v.2.length+12:=by
 have e:=PJ v.1 omq;have a:=eC (c:=0) (k:=true) (num:=16) (b:=ag (bS v.1)++v.2) (by rw[ak2];omega);rw[ak2]at a;show(tlv 0 true 16 (ag (bS v.1)++v.2)).length<=_;omega
def RF(n:List Rdn):Prop:=n.length<=10/\∀r∈n,r.length<=8/\(∀a∈r,a.1.length<=200/\a.2.length<=1000)/\(r.map λa=>a.2.length).sum<=2000
def ais{l:List cb}(h:wL l<=3500):XB l:=⟨omq,λv a=>by have:=Og a;omega⟩
def aaP:∀r:Rdn,(∀a∈r,a.1.length<=200)->(r.map wA).sum<=r.length*220+(r.map λa=>a.2.length).sum
 |[],_=>by simp
 |a::r,h=>by
  have b:=aaP r λx c=>h x (alj _ c);have d:=h a (alG ..);simp only[alc,amm,ak4];unfold wA at b⊢;omega
def Kp{n:List Rdn}(h:RF n):wN n<=37820:=by
 obtain⟨b,c⟩:=h;have d:∀r∈n,wR r<=3780:=by
  intro r i;obtain⟨e,f,j⟩:=c r i;have k:=aaP r λa g=>(f a g).1;unfold wR;omega
 have e:=QK wR 3780 n d;have:n.length*3780<=10*3780:=al6 _ b;unfold wN;omega
def okX(l:List cb):Prop:=∀x∈l,x.1.length<=140737488351232/\x.2.2.length<=140737488351232
def PL{a b:Nat}(h:a+b<4611686018427387904):ay .i64 (a:Int) (b:Int)=((a+b:Nat):Int):=by
 rw[bO ⟨omq,omq⟩];omega
def af0(m:FN NN)(l:List cb)(p:okX l):OW (se NN l) λb=>b=true->wL l<=3500:=by
 have g:=m;unfold FN at g;unfold se syv;refine ah (R:=λr=>∃c:Nat,r=(l,(c:Int))/\(l.length<=20->c=(l.map λx=>x.1.length+x.2.2.length).sum)) ?_ ?_
 ·unfold wh syv;refine ff _ 20 (λi s=>i<=20/\∃c:Nat,s=(l,(c:Int),(i:Int))/\c=((l.take i).map λx=>x.1.length+x.2.2.length).sum/\c<=i*281474976702464) ?_ NN 0 _ omq omq ⟨omq,0,rfl,by simp,omq⟩;rintro G i _ v ⟨o,c,rfl,e,k⟩ rec;dsimp only;refine aY (λh=>aY (λj=> ?_) λj=> ?_) λh=> ?_
  ·have d:i<l.length:=omq;obtain⟨t,u⟩:=p _ (alZ d);refine cC (bc (akZ d)) (cC (bc (akZ d)) ?_);rw[PL omq,PL omq,bu omq];refine rec _ omq ⟨omq,_,rfl,?_,omq⟩;rw[al8,akZ d,al9,aoG,<-e];simp;omega
  ·refine aa ⟨c,rfl,λf=> ?_⟩;rw[e,alw omq]
  ·refine aa ⟨c,rfl,λf=> ?_⟩;rw[e,alw omq]
 ·rintro _ ⟨c,rfl,e⟩;dsimp only;refine aY (λh=>aa λn=> ?_) λ_=>aa λh=>by cases h
  have k:=alC n;have j:=e omq;have f:∀l:List cb,(l.map wE).sum=(l.map λx=>x.1.length+x.2.2.length).sum+40*l.length:=by
   intro l;induction l with
   |nil=>rfl
   |cons a r q=>simp only[alc,amm,ak4,q];unfold wE;omega
  unfold wL;rw[f];omega
def af1(x:Bs×Bs):OW (Ba x) λb=>b=true->x.1.length<=200/\x.2.length<=1000:=by
 unfold Ba syv;exact aY (λh=>aa λa=>⟨omq,by have:=alC a;omega⟩) λ_=>aa λh=>by cases h
def PM(x:Bs×Bs):OW (A8 x) λb=>b=true->x.1.length<=200/\x.2.length<=1000:=by
 unfold A8 syv;exact aY (λh=>aa λa=>⟨omq,by have:=alC a;omega⟩) λ_=>aa λh=>by cases h
def Yn(r:Rdn):Prop:=r.length<=8/\(∀a∈r,a.1.length<=200/\a.2.length<=1000)/\(r.map λa=>a.2.length).sum<=2000
def MG{α:Type}{P:α->Prop}{l:List α}{i:Nat}(h:∀j<i,∀x,l[j]?=some x->P x)(c:l.length<=i):∀x∈l,P x:=by
 intro x b;obtain⟨j,a,rfl⟩:=List.getElem_of_mem b;exact h j omq _ (akZ a)
def QL{α:Type}{P:α->Prop}{l:List α}{i:Nat}(h:∀j<i,∀x,l[j]?=some x->P x){y:α}(d:l[i]?=some y)(k:P y):∀j<i+1,∀x,l[j]?=some x->P x:=by
 intro j c x a;rcases Nat.lt_succ_iff_lt_or_eq.1 c with b|rfl
 ·exact h j b x a
 ·rw[d]at a;cases a;exact k
def adn(o:FN NN)(r:Rdn)(t:∀a∈r,a.2.length<=140737488351232):OW (uD NN r) λb=>b=true->Yn r:=by
 have f:=o;unfold FN at f;unfold uD syv;refine ah (R:=λy=>y=.inl ()∨∃s:Nat,y=.inr (r,(s:Int))/\(r.length<=10->(∀a∈r,a.1.length<=200/\a.2.length<=1000)/\s=(r.map λa=>a.2.length).sum)) ?_ ?_
 ·unfold xS syv;refine ff _ 10 (λi u=>i<=10/\∃s:Nat,u=(r,(s:Int),(i:Int))/\(∀j<i,∀x,r[j]?=some x->x.1.length<=200/\x.2.length<=1000)/\s=((r.take i).map λa=>a.2.length).sum/\s<=i*140737488351232) ?_ NN 0 _ omq omq ⟨omq,0,rfl,λj A=>omq,by simp,omq⟩;rintro G i _ z ⟨q,s,rfl,k,n,w⟩ rec;dsimp only;have c:10<=i∨r.length<=i->OW (some (Sum.inr (r,(s:Int))):Option (Unit⊕(Rdn×Int))) λy=>y=.inl ()∨∃s:Nat,y=.inr (r,(s:Int))/\(r.length<=10->(∀a∈r,a.1.length<=200/\a.2.length<=1000)/\s=(r.map λa=>a.2.length).sum):=λh=>aa (.inr ⟨s,rfl,λm=>⟨MG k omq,by rw[n,alw omq]⟩⟩);refine aY (λh=>aY (λl=> ?_) λl=>c omq) λh=>c omq;have d:i<r.length:=omq;have e:=akZ d;have B:=t _ (alZ d);refine cC (bc e) (ah (af1 _) λb g=> ?_);refine aw (λ_=>aa (.inl rfl)) λp=>cC (bc e) ?_;rw[PL omq,bu omq];refine rec _ omq ⟨omq,_,rfl,QL k e (g (by simpa using p)),?_,omq⟩;rw[al8,e,al9,aoG,<-n];simp
 ·rintro _ (rfl|⟨s,rfl,h⟩)
  ·exact aa λh=>by cases h
  ·dsimp only;refine aY (λv=>aa λg=> ?_) λ_=>aa λh=>by cases h
   have l:=alC g;have m:=h omq;exact⟨omq,m.1,omq⟩
def Wl(q:FN NN)(n:List Rdn)(I:n.length<=140737488351232)(B:∀r∈n,r.length<=140737488351232/\∀a∈r,a.2.length<=140737488351232):OW (Bb NN n) λb=>b=true->RF n:=by
 have l:=q;unfold FN at l;unfold Bb syv;refine ah (R:=λy=>y=.inl ()∨∃s:Int,y=.inr (n,s)/\(n.length<=20->∀r∈n,Yn r)) ?_ ?_
 ·unfold CA syv;refine ff _ 20 (λi p=>i<=20/\∃s:Int,p=(n,s,(i:Int))/\∀j<i,∀x,n[j]?=some x->Yn x) ?_ NN 0 _ omq omq ⟨omq,_,rfl,λj F=>omq⟩;rintro G i _ E ⟨A,s,rfl,g⟩ rec;dsimp only;refine aY (λh=>aY (λt=> ?_) λt=> ?_) λh=> ?_
  ·have d:i<n.length:=omq;have f:=akZ d;have o:=B _ (alZ d);refine cC (bc f) (ah (adn q _ o.2) λb w=> ?_);refine aw (λ_=>aa (.inl rfl)) λz=> ?_;have m:Yn n[i]:=w (by simpa using z);refine ah (R:=λy=>∃s:Int,y=(n,s,(i:Int))) ?_ ?_
   ·unfold Cy syv;refine ff _ n[i].length (λk p=>∃s:Int,p=(n,s,(i:Int),(k:Int))) ?_ NN 0 _ omq (by have:=m.1;omega) ⟨_,rfl⟩;rintro C k _ H ⟨s,rfl⟩ e;dsimp only;refine cC (bc f) (aY (λv=> ?_) λv=>aa ⟨_,rfl⟩);have c:k<n[i].length:=omq;refine cC (bc f) (cC (bc (akZ c)) ?_);exact e _ c ⟨_,by rw[bu (by have:=m.1;omega)]⟩
   ·rintro _ ⟨s,rfl⟩;dsimp only;exact rec _ omq ⟨omq,_,by rw[bu omq],QL g f m⟩
  ·exact aa (.inr ⟨s,rfl,λu=>MG g omq⟩)
  ·exact aa (.inr ⟨s,rfl,λu=>MG g omq⟩)
 ·rintro _ (rfl|⟨s,rfl,h⟩)
  ·exact aa λh=>by cases h
  ·dsimp only;exact aY (λD=>aa λ_=>⟨omq,h omq⟩) λ_=>aa λh=>by cases h
def okN(n:List Rdn):Prop:=n.length<=140737488351232/\∀r∈n,r.length<=140737488351232/\∀a∈r,a.2.length<=140737488351232
def ait(v:pV):Prop:=v.2.1.length<=100/\(v.2.2.1.1.length<=200/\v.2.2.1.2.length<=1000)/\RF v.2.2.2.1/\RF v.2.2.2.2.2.2.1/\((v.2.2.2.2.2.2.2.1.1.1.length<=200/\v.2.2.2.2.2.2.2.1.1.2.length<=1000)/\v.2.2.2.2.2.2.2.1.2.1.length<=1000)/\v.2.2.2.2.2.2.2.2.2.1.1.length<=300/\v.2.2.2.2.2.2.2.2.2.2.2.1.1.length<=300/\wL v.2.2.2.2.2.2.2.2.2.2.2.2<=3500
def Yo(v:pV):Prop:=okN v.2.2.2.1/\okN v.2.2.2.2.2.2.1/\okX v.2.2.2.2.2.2.2.2.2.2.2.2
def ado(v:DA):OW (uF v) λb=>b=true->(v.1.1.length<=200/\v.1.2.length<=1000)/\v.2.1.length<=1000:=by
 unfold uF syv;exact ah (PM _) λb a=>aw (λc=>aa λh=>⟨a c,by have:=alC h;omega⟩) λ_=>aa λh=>by cases h
def aiu(a:FN NN)(v:pV)(o:Yo v):OW (uG NN v) λb=>b=true->ait v:=by
 obtain⟨c,d,p⟩:=o;unfold uG syv;refine aY (λw=> ?_) λ_=>aa λh=>by cases h
 refine ah (PM _) λq j=>aw (λc1=> ?_) λ_=>aa λh=>by cases h
 refine ah (Wl a _ c.1 c.2) λr k=>aw (λe=> ?_) λ_=>aa λh=>by cases h
 refine ah (Wl a _ d.1 d.2) λs l=>aw (λf=> ?_) λ_=>aa λh=>by cases h
 refine ah (ado _) λt m=>aw (λg=> ?_) λ_=>aa λh=>by cases h
 refine aY (λd2=>aY (λx=> ?_) λ_=>aa λh=>by cases h) λ_=>aa λh=>by cases h
 exact ah (af0 a _ p) λu n=>aa λi=>⟨omq,j c1,k e,l f,m g,omq,omq,n i⟩
def Yp(v:iC):Prop:=ait v.1/\(v.2.1.1.length<=200/\v.2.1.2.length<=1000)/\v.2.2.1.length<=500
def ajN(e:FN NN)(v:iC)(f:Yo v.1):OW (uH NN v) λb=>b=true->Yp v:=by
 unfold uH syv;refine ah (aiu e v.1 f) λg c=>aw (λc1=> ?_) λ_=>aa λh=>by cases h
 refine ah (PM _) λi d=>aw (λa=> ?_) λ_=>aa λh=>by cases h
 exact aa λh=>⟨c c1,d a,by have:=alC h;omega⟩
def af2{v:iC}(h:Yp v):QB v:=by
 obtain⟨⟨d,e,a,b,f,g,i,c⟩,j,k⟩:=h;have l:=Kp a;have m:=Kp b;exact⟨⟨omq,omq,omq,omq,⟨omq,omq,omq⟩,omq,omq,ais c⟩,omq,omq,omq⟩
def rQ(c:Nat)(k:Bool)(m:Nat)(b:Bs)(h:b.length<10000000):(ag (c,k,m,b)).length<=b.length+6:=eC (b:=b) omq
def aiv{v:iC}(h:Yp v):(fX v.1.2.2.2.2.2.2.2.2.2.2.2.2).length<=3500:=by
 obtain⟨⟨a,b,c,d,e,f,g,i⟩,j,k⟩:=h;have:=afZ v.1.2.2.2.2.2.2.2.2.2.2.2.2 omq;omega
def adp{v:iC}(h:Yp v):(ag (jg v)).length<=90000:=by
 have L:=aiv h;obtain⟨⟨z,A,w,y,B,C,D,E⟩,F,G⟩:=h;obtain⟨⟨a,s,⟨k,sp⟩,n,t,u,m,⟨⟨d,e⟩,b,c⟩,c1,⟨f,i⟩,l,⟨g,j⟩,x⟩,⟨q,p2⟩,o,p⟩:=v;dsimp only at z A w y B C D E F G L;have n1:=Kp w;have n2:=Kp y;have q1:=Wj n omq;have q2:=Wj m omq;have q3:=UE (k,sp) (by dsimp only;omega) (by dsimp only;omega);have Y:=UE (d,e) (by dsimp only;omega) (by dsimp only;omega);have Z:=UE (q,p2) (by dsimp only;omega) (by dsimp only;omega);have q6:=ME t u;have q7:=rQ 0 true 16 (ak (pU t u)) omq;have M:=jf (b,c);have N:=jf (o,p);have O:=jf (f,i);have P:=jf (g,j);dsimp only at q3 Y Z M N O P;have q8:=rQ 0 false 3 (cn (b,c)) omq;have q9:=rQ 0 false 3 (cn (o,p)) omq;have e1:(ak (nM ((d,e),b,c))).length=(eD (d,e)).length+(ag (0,false,3,cn (b,c))).length:=by
  unfold nM;rw[BP,ak2];rfl
 have Q:=rQ 0 true 16 (ak (nM ((d,e),b,c))) omq;have R:=rQ 0 false 2 s omq;have S:(ak (tvT a)).length<=20:=by
  unfold tvT;cases decide (a>0)
  ·simp[ak]
  ·have h1:=Mv a.toNat;have h2:=rQ 0 false 2 (nL a.toNat) omq;have r:=rQ 2 true 0 (ag (0,false,2,nL a.toNat)) omq;simp only[ala,ak,alc,amj,alx,amn,alm];omega
 have T:(ak (idT 1 c1 (f,i))).length<=307:=by
  unfold idT;cases c1
  ·simp[ak]
  ·have r:=rQ 2 false 1 (cn (f,i)) omq;simp only[ala,ak,alc,amj,alx,amn,alm];omega
 have U:(ak (idT 2 l (g,j))).length<=307:=by
  unfold idT;cases l
  ·simp[ak]
  ·have r:=rQ 2 false 2 (cn (g,j)) omq;simp only[ala,ak,alc,amj,alx,amn,alm];omega
 have V:(ak (exT x)).length<=3506:=by
  unfold exT;cases decide (((x.length:Nat):Int)>0)
  ·simp[ak]
  ·have r:=rQ 2 true 3 (fX x) omq;simp only[ala,ak,alc,amj,alx,amn,alm];omega
 have e2:(ak (eF (a,s,(k,sp),n,t,u,m,((d,e),b,c),c1,(f,i),l,(g,j),x))).length<=88000:=by
  unfold eF;simp only[sw,dt,ak2];have H:(ag (mb (k,sp))).length=(eD (k,sp)).length:=rfl;have I:(ag (gr n)).length=(ep n).length:=rfl;have J:(ag (gr m)).length=(ep m).length:=rfl;have K:(ag (fY t u)).length=(ag (0,true,16,ak (pU t u))).length:=rfl;have g5:(ag (iu ((d,e),b,c))).length=(ag (0,true,16,ak (nM ((d,e),b,c)))).length:=rfl;omega
 have W:=rQ 0 true 16 (ak (eF (a,s,(k,sp),n,t,u,m,((d,e),b,c),c1,(f,i),l,(g,j),x))) omq;have e3:(ak (gT ((a,s,(k,sp),n,t,u,m,((d,e),b,c),c1,(f,i),l,(g,j),x),(q,p2),o,p))).length<=89900:=by
  unfold gT;simp only[dt,ak2];have H:(ag (mb (q,p2))).length=(eD (q,p2)).length:=rfl;have I:(ag (kW (a,s,(k,sp),n,t,u,m,((d,e),b,c),c1,(f,i),l,(g,j),x))).length=(ag (0,true,16,ak (eF (a,s,(k,sp),n,t,u,m,((d,e),b,c),c1,(f,i),l,(g,j),x)))).length:=rfl;have J:(ag (vC (o,p))).length=(ag (0,false,3,cn (o,p))).length:=rfl;have K:(ak []).length=0:=rfl;omega
 have X:=rQ 0 true 16 (ak (gT ((a,s,(k,sp),n,t,u,m,((d,e),b,c),c1,(f,i),l,(g,j),x),(q,p2),o,p))) omq;have g9:(ag (jg ((a,s,(k,sp),n,t,u,m,((d,e),b,c),c1,(f,i),l,(g,j),x),(q,p2),o,p))).length=(ag (0,true,16,ak (gT ((a,s,(k,sp),n,t,u,m,((d,e),b,c),c1,(f,i),l,(g,j),x),(q,p2),o,p)))).length:=rfl;omega
end Go.Fw
namespace Go.Fw
open Go
def QN{v:iC}(h:(ag (jg v)).length<=190000):(fX v.1.2.2.2.2.2.2.2.2.2.2.2.2).length<300000:=by
 by_cases a:v.1.2.2.2.2.2.2.2.2.2.2.2.2=[]
 ·rw[a];decide
 ·have b:=aec a;have c:=bt (2,true,3,fX v.1.2.2.2.2.2.2.2.2.2.2.2.2);have d:(ak (exT v.1.2.2.2.2.2.2.2.2.2.2.2.2)).length<=(ak (eF v.1)).length:=by
   unfold eF;simp only[sw,dt,ak2];omega
  have e:=PH (v:=v);have f:(ak (gT v)).length<(ag (jg v)).length:=bt (jg v);have g:(ag (2,true,3,fX v.1.2.2.2.2.2.2.2.2.2.2.2.2)).length=(ak (exT v.1.2.2.2.2.2.2.2.2.2.2.2.2)).length:=by rw[b]
  dsimp only at c;omega
noncomputable def pW(v:iC):Bs:=ak (gT v)
noncomputable def cH(v:iC):Bs:=ag (jg v)
def akP(k:FN NN)(v:iC)(q:QB v)(u:(cH v).length<=90000)(r:nN NN v=true)(i:Nat)(m:i<(cH v).length)(x:UInt8):
 ∃w e o,cU NN ((cH v).set i x)=some (w,e,o)/\((0<e/\x≠(cH v)[i]/\w=zC/\0<=o/\o<=((cH v).length:Int))∨(e=0/\nN NN w=true/\QB w/\cH w=(cH v).set i x/\(w=v↔x=(cH v)[i]))):=by
 have a:x=(cH v)[i]->(cH v).set i x=cH v:=λh=>by rw[h];exact List.set_getElem_self m
 have c:(cH v).set i x=cH v->x=(cH v)[i]:=λh=>by
  have b:((cH v).set i x)[i]?=(cH v)[i]? :=by rw[h]
  rw[alP m,akZ m]at b;exact alX b
 have s:(fX v.1.2.2.2.2.2.2.2.2.2.2.2.2).length<300000:=QN (by unfold cH at u;omega);obtain⟨⟨w,e,o⟩,b,⟨l,d,f,g⟩|⟨l,d,f,g⟩⟩:=aii k ((cH v).set i x) (by rw[ams];omega)
 ·cases l;refine⟨w,0,0,b,.inr ⟨rfl,d,g,f,λj=>by subst j;exact c f.symm,λj=> ?_⟩⟩;have n:cH w=cH v:=Eq.trans f (a j);have t:=Oh k v q r (cH v) rfl omq s;have p:=Oh k w g d (cH v) n omq (QN (by rw[show(ag (jg w)).length=(cH v).length from alD List.length n];omega));rw[t]at p;cases p;rfl
 ·rw[ams]at g;refine⟨w,e,o,b,.inl ⟨d,λj=> ?_,l,f,g⟩⟩;rw[a j,Oh k v q r (cH v) rfl omq s]at b;cases b;exact absurd (show(0:Int)<0 from d) deq
def adv(a:FN NN)(xs:List Bs)(b:Bs)(e:xs.flatten=b)(d:xs.length<1000)(c:b.length<2000000000):bI NN xs=some b:=by
 unfold FN at a;rw[qe NN xs omq omq (by rw[e];omega),e]
def age(d:FN NN)(b:Bs)(e:b.length<1000000000):iy NN [b]=some (ag (0,false,3,b),0):=by
 have a:=d;unfold FN at a;unfold iy syv;rw[adv d [b] b siq siq omq,akX,show oU NN 0 false 3 b=_ from Nw NN omq omq (c:=0) (num:=3) false omq omq b omq];rfl
def aa0(a:FN NN)(v:iC)(h:QB v)(p:(pW v).length<9000000)(o:nN NN v=true):cm NN v.1=some (ag (kW v.1),0)/\ga NN v.2.1=some (eD v.2.1,0)/\eW NN v.2.2=some (cn v.2.2,0)/\iy NN [cn v.2.2]=some (ag (0,false,3,cn v.2.2),0)/\bI NN ([]++[ag (kW v.1)]++[eD v.2.1]++[ag (0,false,3,cn v.2.2)])=some (pW v)/\mF NN ((pW v).length:Int)=some (aF (pW v).length,0)/\cW NN [[idB 0 true 16],aF (pW v).length,pW v]=some (cH v):=by
 unfold pW at p;obtain⟨i,r,j⟩:=PG o;obtain⟨e,k,l,s⟩:=h;have t:=PH (v:=v);have g:=aee a v.1 e omq;rw[j]at g;have f:=RB a v.2.1 k l;rw[i,(JE a v.1 e j).2.2.2.1,<-i]at f;have m:=JD a v.2.2 r omq;have q:(cn v.2.2).length=v.2.2.1.length+1:=rfl;have d:(cH v).length<=(pW v).length+6:=eC (b:=pW v) (by unfold pW;omega);have c:20<=NN:=by unfold FN at a;omega
 have n:pW v=ag (kW v.1)++(eD v.2.1++(ag (0,false,3,cn v.2.2)++[])):=rfl;refine⟨g,f,m,age a _ omq,adv a _ _ (by rw[n];simp) siq (by unfold pW;omega),Nu NN c _ (by unfold pW;omega),?_⟩;rw[cco];exact adv a _ _ (by simp[cH,jg,pW,ag,tlv]) siq (by unfold pW at d;omega)
def okC(v:iC):Prop:=Yo v.1
end Go.Fw
namespace Go.Fw
open Go
def adw{e o n:Int}(a:0<e)(b:0<=o)(c:o<=n):jX (e,o) n=some true:=by
 suffices OW (jX (e,o) n) λr=>r=true by
  obtain⟨r,d,rfl⟩:=this;exact d
 unfold jX syv;dsimp only;exact RE omq (aY (λ_=>aY (λ_=>aa (ak3 c)) λh=>absurd b h) λh=>absurd a h)
def aem{x y:UInt8}:((x.toNat:Int)==(y.toNat:Int))=true↔x=y:=by
 rw[amy];exact⟨λh=>aoa.1 omq,λh=>by rw[h]⟩
variable{Z:Type}
def aiF{c:Bool}{Q:Z->Prop}{x y:Option Z}(h:c=true)(k:OW x Q):OW (bif c then x else y) Q:=by rw[h];exact k
def akQ{c:Bool}{Q:Z->Prop}{x y:Option Z}(h:c=false)(k:OW y Q):OW (bif c then x else y) Q:=by rw[h];exact k
def chQ{P:Prop}(h:P:=by repeat ((try dsimp only);first|with_reducible exact(zz _)|with_reducible refine iq ?_|with_reducible refine k_z ?_|with_reducible refine Uy ?_|with_reducible refine k_t ?_|with_reducible refine k_f ?_|with_reducible refine gS ?_|with_reducible refine cC asq ?_|with_reducible refine jG omq siq ?_|with_reducible refine aiF asq ?_|with_reducible refine akQ asq ?_|(simp only[nh];with_reducible refine k_z ?_)|exact(zz _))):P:=h
set_option maxHeartbeats 4000000 in
def UI(d:FN NN)(v:iC)(L:okC v)(n:Nat)(Y:n<65536)(x:UInt8):fV NN v (n:Int) (x.toNat:Int)=some true:=by
 suffices OW (fV NN v (n:Int) (x.toNat:Int)) λr=>r=true by
  obtain⟨r,K,rfl⟩:=this;exact K
 unfold fV;rw[afW d];refine iq (gS (k_t ?_));refine ah (ajN d v L) λb y=>gS (aw (λc=> ?_) λ_=>aa rfl);have g:=af2 (y c);have I:(cH v).length<=90000:=adp (y c);have J:(pW v).length<(cH v).length:=bt (jg v);have a:=JF d v g;cases p:nN NN v
 ·rw[p]at a;exact cC a (aa rfl)
 ·rw[p]at a;obtain⟨N,O,Q,R,S,T,U⟩:=aa0 d v g omq p;have V:dY 0 true 16=some (((idB 0 true 16).toNat:Int),0):=I0 (c:=0) (num:=16) true omq omq;have W:=JP (idB 0 true 16);have X:=JP x;have m:n % (cH v).length<(cH v).length:=Nat.mod_lt _ omq;have A:Int.tmod (IntKind.wrap .i64 (n:Int)) (((cH v).length:Nat):Int)=((n % (cH v).length:Nat):Int):=by
   rw[show IntKind.wrap .i64 (n:Int)=(n:Int) from by show IntKind.i64.wrap (n:Int)=_;rw[alA _ omq]];rfl
  have Z:((((cH v).length:Nat):Int)==0)=false:=alu.2 omq;generalize n % (cH v).length=i at m A;obtain⟨w,e,o,E,F⟩:=akP d v g I p i m x;have c1:ix (cH v) (i:Int)=some (cH v)[i]:=bc (akZ m);have B:inb (i:Int) (cH v).length=true:=OZ m;have t:Int.toNat (i:Int)=i:=al5 i;rw[<-A]at c1 B t;rw[<-t]at E;rcases F with⟨q,d2,k,l,s⟩|⟨q,d2,k,l,s⟩
  ·have C:((x.toNat:Int) !=((cH v)[i].toNat:Int))=true:=by rw[bne,amu,<-aoY];exact λh=>d2 (aem.1 h)
   have D:e≠0:=omq;have f:OW ((cz NN w ((0,[],([],[]),[],(0,0,0,0,0,0),(0,0,0,0,0,0),[],(([],[]),[],0),false,([],0),false,([],0),[]),([],[]),[],0)).bind λc=>bif c then((jX (e,o) ((cH v).length:Int)).bind λc=>some c) else some false) λr=>r=true:=by
    subst k;refine ah (ael d _ _ ⟨⟨by decide,by decide,by decide,by decide,⟨by decide,by decide,by decide⟩,by decide,by decide,XB.nil⟩,by decide,by decide,by decide⟩) λc u=> ?_;rw[u.2 rfl];exact k_t (cC (adw q l s) (aa rfl))
   (have zz:∀(P:Prop)(h:P:=by first|exact G4 D (aiF C (by simp only[ams];exact f))),P:= @id;exact chQ)
  ·cases q;have j:=JF d w k;rw[d2]at j;have M:(cH w).length=(cH v).length:=by rw[l,ams]
   have z:(pW w).length<(cH w).length:=bt (jg w);obtain⟨w1,w2,w3,w4,w5,w6,w7⟩:=aa0 d w k omq d2;have w8:eB (cH w) ((cH v).set (Int.toNat (Int.tmod (IntKind.wrap .i64 (n:Int)) (((cH v).length:Nat):Int))) x)=some true:=by
    obtain⟨c,G,H⟩:=Ak (cH w) ((cH v).set (Int.toNat (Int.tmod (IntKind.wrap .i64 (n:Int)) (((cH v).length:Nat):Int))) x);rw[G,H.2 (by rw[t];exact l)]
   have f:OW ((cz NN w v).bind λc=>some (c==((x.toNat:Int)==((cH v)[i].toNat:Int)))) λr=>r=true:=by
    refine ah (ael d w v k) λc u=>aa ?_;rw[amy];exact Bool.eq_iff_iff.2 (u.trans (s.trans aem.symm))
   (have zz:∀(P:Prop)(h:P:=by exact f),P:= @id;exact chQ)
end Go.Fw
namespace Go.Fw
open Go.RowKit
mutual
def akj(σ:Sto):Nat->D->Option D
 |0,_=>none
 |n+1,d=>match d.pure with
  |true=>some d
  |false=>match d with
   |.sl l u o len sz f=>match σ[l]? with
    |some (.cells cs _ v)=>match Nat.beq v u&&Nat.ble (o+len*sz) cs.length with
     |true=>match WK σ n ((cs.drop o).take (len*sz)) with
      |some xs=>some (.list xs len f)
      |none=>none
     |false=>none
    |_=>none
   |.agg cs=>match WK σ n cs with
    |some xs=>some (.agg xs)
    |none=>none
   |_=>none
def WK (σ:Sto):Nat->List D->Option (List D)
 |0,_=>none
 |n+1,l=>match l with
  |[]=>some []
  |d::ds=>match akj σ n d with
   |some x=>match WK σ n ds with
    |some xs=>some (x::xs)
    |none=>none
   |none=>none
end
def snap(G:Gh)(w:World):Gh:=⟨λb o=>w.cell? ⟨b,o,none⟩,G.mimm,λ_ _=>none,G.siz⟩
section
variable {P:Program}{B:bE P}{G:Gh}{σ:Sto}{w:World}
end
end Go.Fw
