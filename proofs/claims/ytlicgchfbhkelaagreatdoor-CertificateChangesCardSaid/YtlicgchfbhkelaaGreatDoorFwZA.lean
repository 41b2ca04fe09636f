/- A framework for proofs about Go programs in this model: part ZA. Everything is proved; no condition is added. -/
import Derived.Test.YtlicgchfbhkelaaGreatDoorFwZ
set_option linter.unusedVariables false
set_option linter.unusedSimpArgs false
set_option linter.defProp false
namespace Go.Fw
open Go
noncomputable def opn(N:Nat)(b:Bs):Bool:=match eU N b with
 |some (_,e,_)=>e==0
 |none=>false
def adg(N n:Nat)(O:15<n)(H:FN N)(a:Bs)(D:a.length<10000000)(v:Fw.Spot)(e o:Int)(h:cZ N (n+1) a 0 (a.length:Int) 16=some (v,e,o))(r:e=0):o=0/\∃t q,okT t/\a=ag t++q/\v.stop=((ag t).length:Int):=by
 unfold FN at H;have K:(decide ((a.length:Int)<=(a.length:Int))&&decide ((a.length:Int)<=(a.length:Int)))=true:=by simp
 have A:slc a 0 (a.length:Int)=some a:=by
  unfold slc;rw[ali ⟨omq,omq,omq⟩];simp
 rw[P9,show((16:Int)==0)=false from rfl,ak5,K,ala,A,akX]at h;cases u:bU N a with
 |none=>rw[u]at h;cases h
 |some x=>
  obtain⟨⟨c,B,k,L,W⟩,C,U⟩:=x;rw[u,akX]at h;dsimp only at h;by_cases f:C=0
  ·subst f;obtain⟨p,d,m,b,q1,V,q3,F,rfl,rfl,rfl,rfl⟩:=F4 N omq a omq c B L W U k u;have M:=alD List.length F;simp only[ak4,ak2]at M;have w1:ay .i64 0 ((1+(aF m).length:Nat):Int)=((1+(aF m).length:Nat):Int):=by rw[bO omq];omega
   have w2:aC .i64 (a.length:Int) ((1+(aF m).length:Nat):Int)=((a.length-(1+(aF m).length):Nat):Int):=by
    show IntKind.i64.wrap _=_;rw[alA _ omq];omega
   simp only[aoS,ak5,w1,w2]at h;by_cases hm:a.length-(1+(aF m).length)<m
   ·rw[ak3 omq]at h;cases h;cases r
   ·rw[ak0 omq]at h;have w3:ay .i64 ((1+(aF m).length:Nat):Int) (m:Int)=((1+(aF m).length+m:Nat):Int):=by rw[bO omq];omega
    simp only[ak5,w3]at h;have E:(b.take m).length=m:=by rw[alB];omega
    have I:∃t q,okT t/\a=ag t++q/\((ag t).length:Int)=((1+(aF m).length+m:Nat):Int):=by
     refine⟨(p,k,d,b.take m),b.drop m,⟨q1,V,by show(b.take m).length<=_;omega⟩,?_,?_⟩
     ·rw[F];show _=idB p k d::(aF (b.take m).length++b.take m)++b.drop m;rw[E];simp
     ·rw[sr];show((1+(aF (b.take m).length).length+(b.take m).length:Nat):Int)=_;rw[E]
    obtain⟨t,q,X,Y,Z⟩:=I;have g:∀z:Int,z=((1+(aF m).length+m:Nat):Int)->v.stop=z->o=0->o=0/\∃t q,okT t/\a=ag t++q/\v.stop=((ag t).length:Int):=λz T R P=>⟨P,t,q,X,Y,by rw[R,T,Z]⟩;cases k
    ·simp only[amR,ala]at h;obtain⟨s,Q,w⟩:=GF (l:=a) (i:=((1+(aF m).length:Nat):Int)) (j:=((1+(aF m).length+m:Nat):Int)) omq omq omq;rw[Q,akX,xU (by rw[w,al0,alB];omega),akX]at h;simp only[ak1,aln]at h;exact g _ rfl (by rw[<-h.1];rfl) h.2.2.symm
    ·simp only[al7,ak5]at h;obtain⟨y,S,J⟩:=Lh N a D (cZ N n) 15 omq
      (L7 N a omq D 15 n O omq)
      (1+(aF m).length+m) omq 0 (p:Int) (d:Int) true _ N (1+(aF m).length) [] [] rfl omq omq siq siq
     rw[show dO N (cZ N n) N (a,16,((1+(aF m).length:Nat):Int),0,0,0,0,false,[],0,0,[],[],0,((1+(aF m).length+m:Nat):Int),(p:Int),(d:Int),true)=some y from S,akX]at h;rcases J with⟨e',o',rfl,G,g2,g3⟩|⟨l,l',rfl⟩
     ·simp only[ak1,aln]at h;exact absurd (h.2.1.trans r) G
     ·simp only[ak1,aln]at h;exact g _ rfl (by rw[<-h.1];rfl) h.2.2.symm
  ·rw[show(C !=0)=true from by simpa using f]at h;cases h;exact absurd r f
def Yk{N:Nat}(l:FN N)(a:Bs)(k:a.length<10000000):OW (eU N a) λr=>(r.2=(0,0)/\opn N a=true/\∃t,okT t/\a=ag t)∨(r.2.1≠0/\opn N a=false/\0<=r.2.2/\r.2.2<=(a.length:Int)):=by
 have j:=l;unfold FN at j;obtain⟨v,e,o,i,u,x⟩:=WZ N a omq k;have n:opn N a=(e==0):=by unfold opn;rw[i]
 refine⟨_,i,?_⟩;by_cases h:e=0
 ·have b:=i;unfold eU tO syv at b;obtain⟨w,d,p,y,A,B,C⟩:=L7 N a omq k 16 N omq omq 0 a.length omq (ak7 _);have g:cZ N N a 0 (a.length:Int) 16=some (w,d,p):=y;rw[g,akX]at b;dsimp only at b;by_cases c:d=0
  ·obtain⟨m,rfl⟩:∃m,N=m+1:=⟨N-1,omq⟩;obtain⟨p1,t,q,p2,s,D⟩:=adg (m+1) m omq l a k w d p g c;rw[show(d==0)=true from by simpa using c,cond_true]at b;by_cases f:w.stop<(a.length:Int)
   ·rw[ak3 f,ala]at b;simp only[akX,ak1,aln]at b;have:=b.2.1;omega
   ·rw[ak0 f,ak5]at b;simp only[akX,ak1,aln]at b;have z:a.length=(ag t).length+q.length:=by rw[s,ak2]
    have:q=[]:=alF omq;subst this;refine .inl ⟨?_,by rw[n];simpa using h,t,p2,by simpa using s⟩;rw[<-b.2.1,<-b.2.2,c,p1]
  ·rw[show(d==0)=false from by simpa using c,cond_false]at b;simp only[akX,ak1,aln]at b;exact absurd (b.2.1.trans h) c
 ·exact .inr ⟨h,by rw[n];simpa using h,u,x⟩
end Go.Fw
def amm:=@List.sum_cons
namespace Go.Fw
open Go
noncomputable def fh(s:Bs):Bs:=if h:ofP (∃L,jo s L)=true then Dz (Classical.choose (tz.1 h)) else []
def xg{s:Bs}{L:List Nat}(h:jo s L):fh s=Dz L:=by
 have a:ofP (∃L,jo s L)=true:=tz.2 ⟨L,h⟩;unfold fh;rw[dif_pos a];exact alD Dz ((ame (tz.1 a)).uniq h)
def EX{N:Nat}(d:FN N)(s:Bs)(e:s.length<10000000):ke N s=some (bif gu s then(fh s,0) else([],8)):=by
 obtain⟨b,c⟩:=afL d s e;cases h:gu s
 ·exact c h
 ·obtain⟨L,a⟩:=jV.1 h;rw[b L a,xg a];rfl
def PC{N:Nat}(c:FN N){s:Bs}(h:gu s=true)(b:(fh s).length<10000000):cS N (fh s)=some (s,0):=by
 obtain⟨L,a⟩:=jV.1 h;rw[xg a]at b⊢;exact aaC c a b
def pT{N:Nat}(e:FN N)(a:Bs)(f:a.length<10000000):OW (cS N a) λr=>(r.2=0/\gu r.1=true/\fh r.1=a)∨r=([],6):=by
 refine tq (aaD e a f) ?_;rintro r (⟨c,L,b,d⟩|h)
 ·exact .inl ⟨c,jV.2 ⟨L,b⟩,by rw[xg b,d]⟩
 ·exact .inr h
def afN(L:List Nat)(b:∀x∈L,x<=4294967295):Lib.lens (L.map Lib.decDigits)<=20*L.length:=by
 induction L with
 |nil=>simp[Lib.lens]
 |cons a r e=>
  have f:=I1 a (by have:=b a (by simp);omega);have c:=e λx d=>b x (by simp[d]);simp only[Lib.lens,alc,List.map_map,amm,ak4]at c⊢;omega
def EY{s:Bs}(h:gu s=true):s.length<=21*((fh s).length+1):=by
 obtain⟨L,b⟩:=jV.1 h;have d:=adf b;rw[xg b];obtain⟨e,f,rfl⟩:=b;have c:=afN L f;cases L with
 |nil=>cases e
 |cons a r=>
  rw[alc,Lib.join_length,<-alc];simp only[alQ,ak4,alq]at d c⊢;omega
def HD:∀(L:List Nat),((L.map cP).flatten).length<=6*L.length
 |[]=>by simp
 |a::r=>by
  have b:=MA a;have c:=HD r;simp only[alc,alx,ak2,ak4];omega
def Wg:∀(r:List (List UInt8))(x:List UInt8),r.length<=(Lib.join (x::r) [46]).length
 |[],x=>by simp
 |y::r,x=>by
  have:=Wg r y;rw[ql,ak2,ak4,ak4];omega
def su(s:Bs):(fh s).length<=6*(s.length+1):=by
 unfold fh;split
 ·rename_i h;obtain⟨d,g,e⟩:=ame (tz.1 h);generalize Classical.choose (tz.1 h)=L at d g e
  match L,d with
  |a::b::r,_=>
   have c:=HD ((40*a+b)::r);have f:=Wg ((b::r).map Lib.decDigits) (Lib.decDigits a);rw[e];simp only[alQ,ak4,alc]at c f⊢;show((((40*a+b)::r).map cP).flatten).length<=_;simp only[alc]at c⊢;omega
 ·simp
def EL.cs{a:Bs}{t:TLV}{e:aV}(h:EL a t e)(c num:Nat)(k:Bool)(d f:Int)(l:d=(c:Int))(m:f=(num:Int)):(eu e d k f=some true/\t=(c,k,num,t.2.2.2))∨(eu e d k f=some false/\¬(t.1=c/\t.2.1=k/\t.2.2.1=num)):=by
 subst l m;rw[h.is];by_cases b:t.1=c/\t.2.1=k/\t.2.2.1=num
 ·rw[ak3 b];obtain⟨g,i,j⟩:=b;exact .inl ⟨rfl,by rw[<-g,<-i,<-j]⟩
 ·rw[ak0 b];exact .inr ⟨rfl,b⟩
def EL.yes{a:Bs}{t:TLV}{e:aV}(h:EL a t e)(c num:Nat)(k:Bool)(b d:Int)(j:b=(c:Int))(l:d=(num:Int))(f:t.1=c)(g:t.2.1=k)(i:t.2.2.1=num):eu e b k d=some true:=by
 subst j l;rw[h.is,ak3 ⟨f,g,i⟩]
def EL.no{a:Bs}{t:TLV}{e:aV}(h:EL a t e)(c num:Nat)(k:Bool)(b d:Int)(g:b=(c:Int))(i:d=(num:Int))(f:¬(t.1=c/\t.2.1=k/\t.2.2.1=num)):eu e b k d=some false:=by
 subst g i;rw[h.is,ak0 f]
def lg{N:Nat}(j:FN N){c num:Nat}(k:c<4)(n:num<31)(a:Bs)(b:List TLV)(e:a=tlv c true num (ak b))(m:∀t∈b,okT t)(o:a.length<10000000)(g i:Int)(d:g=(c:Int))(f:i=(num:Int)):
 ∃l,aW N a g i=some (l,0,0)/\br (EL a) b l:=by
 subst e d f;have h:(ak b).length<(tlv c true num (ak b)).length:=by rw[kY];omega
 exact VX j k n b m omq
def ajz{N:Nat}(b:FN N)(a:Bs)(t:TLV)(h:a=ag t)(c:okT t):∃e,bM N a=some (e,0,0)/\EL a t e:=by
 subst h;exact Ry b t c
def PS{T:Type}(ok:T->Bool)(enc:T->Bs)(a:Bs)(r:T×Int×Int):Prop:=(r.2=(0,0)/\ok r.1=true/\enc r.1=a)∨(r.2.1≠0/\0<=r.2.2/\r.2.2<=(a.length:Int))
def xp{T:Type}{ok:T->Bool}{enc:T->Bs}{a:Bs}{v:T}(b:ok v=true)(c:enc v=a):PS ok enc a (v,0,0):=.inl ⟨rfl,b,c⟩
def dE{T:Type}{ok:T->Bool}{enc:T->Bs}{a:Bs}{v:T}{e o:Int}(h:e≠0)(b:0<=o)(c:o<=(a.length:Int)):PS ok enc a (v,e,o):=.inr ⟨h,b,c⟩
noncomputable def bS(s:Bs):TLV:=(0,false,6,fh s)
def rB{c num:Nat}{k:Bool}{b:Bs}(a:c<4)(d:num<31)(e:b.length<10000000):okT (c,k,num,b):=⟨a,d,by show b.length<=_;omega⟩
def gi{c num:Nat}{k:Bool}{b:Bs}:b.length<(tlv c k num b).length:=by rw[kY];omega
def eC{c num:Nat}{k:Bool}{b:Bs}(h:b.length<4294967296):(tlv c k num b).length<=b.length+6:=by
 have:=(nI b.length h).2;rw[kY];omega
def JC{N:Nat}(a:FN N)(c num:Nat)(d:c<4)(e:num<31)(k:Bool)(xs:List Bs)(f:xs.length<10000000)(b:xs.flatten.length<=2147483647):cr N (c:Int) k (num:Int) xs=some (tlv c k num xs.flatten,0):=by
 unfold FN at a;exact SX N omq a.2 k d e xs omq b
def Oe{N:Nat}(a:FN N)(xs:List Bs)(c:xs.length<10000000)(b:xs.flatten.length<=2147483647):dr N xs=some (tlv 0 true 16 xs.flatten,0):=by
 unfold FN at a;exact SY N omq a.2 xs omq b
def iz{x:Bs}(h:x.length<10000000):cw x=some x:=xU omq
def Km{N:Nat}(c:FN N)(a:Bs)(d:a.length<10000000):∃v e o,eU N a=some (v,e,o)/\opn N a=(e==0)/\0<=o/\o<=(a.length:Int):=by
 obtain⟨⟨v,e,o⟩,h,f⟩:=Yk c a d;refine⟨v,e,o,h,?_,?_⟩
 ·unfold opn;rw[h]
 ·rcases f with⟨b,_⟩|⟨_,_,b⟩
  ·simp only[aln]at b;omega
  ·exact b
def ad8{N:Nat}(c:FN N){a:Bs}(d:a.length<10000000)(h:opn N a=true):∃t,okT t/\a=ag t:=by
 obtain⟨r,_,e⟩:=Yk c a d;rcases e with⟨_,_,b⟩|⟨_,b,_⟩
 ·exact b
 ·rw[h]at b;cases b
end Go.Fw
namespace Go.Fw
open Go
noncomputable def jR(N:Nat)(v:Bs×Bs):Bool:=gu v.1&&(decide (v.2=[])||opn N v.2)
noncomputable def eD(v:Bs×Bs):Bs:=tlv 0 true 16 (ag (bS v.1)++v.2)
def PD{α:Type}(l:List α):(((l.length:Nat):Int)==0)=decide (l=[]):=by
 cases l with
 |nil=>rfl
 |cons a r=>
  rw[ak0 siq];exact alu.2 (by simp only[ak4];omega)
def yo{N:Nat}(a:FN N)(v:Bs×Bs)(b:v.1.length<10000000)(c:v.2.length<10000000):qy N v=some (jR N v):=by
 obtain⟨w,e,o,d,f,_⟩:=Km a v.2 c;unfold qy jR Ay syv;rw[C0 a _ b,akX,PD,d,f];cases gu v.1
 ·rfl
 ·by_cases h:v.2=[]
  ·rw[ak3 h];rfl
  ·rw[ak0 h];rfl
def Uw(s:Bs)(h:s.length<10000000):(ag (bS s)).length<=6*s.length+12:=by
 have a:=su s;have d:=eC (c:=0) (num:=6) (k:=false) (b:=fh s) omq;show(tlv 0 false 6 (fh s)).length<=_;omega
def Aj(s:Bs):(fh s).length<(ag (bS s)).length:=gi
def RB{N:Nat}(a:FN N)(v:Bs×Bs)(b:v.1.length<10000000)(d:v.2.length<10000000):ga N v=some (bif jR N v then(eD v,0) else([],8)):=by
 unfold ga xL syv;rw[yo a v omq omq,akX];cases h:jR N v
 ·rfl
 ·have hO:gu v.1=true:=by unfold jR at h;simp only[akY]at h;exact h.1
  have e:=su v.1;have f:=Uw v.1 b;have c:=JC a 0 6 omq omq false [fh v.1] siq soq;simp only[al7,ak5,EX a _ (show v.1.length<10000000 by omega),hO,ala,akX,show((0:Int)==0)=true from rfl,show cr N 0 false 6 [fh v.1]=_ from c,alx,amn,alm,show((0:Int) !=0)=false from rfl];rw[Oe a _ siq (by simp only[alx,amn,alm,ak2];show(ag (bS v.1)).length+_<=_;omega)];simp[eD,ag,bS]
def akL{α:Type}(x:α):((([x]:List α).length:Nat):Int)=1:=rfl
def adh{α:Type}(x y:α):((([x,y]:List α).length:Nat):Int)=2:=rfl
def aib{α:Type}(x y z:α):((([x,y,z]:List α).length:Nat):Int)=3:=rfl
def ix0{α:Type}(x:α)(l:List α):ix (x::l) 0=some x:=rfl
def ix1{α:Type}(x y:α)(l:List α):ix (x::y::l) 1=some y:=rfl
def ix2{α:Type}(x y z:α)(l:List α):ix (x::y::z::l) 2=some z:=rfl
def Ux{N:Nat}(b:FN N)(v:Bs×Bs)(h:jR N v=true)(a:Bs)(j:eD v=a)(F:a.length<9000000):dd N a=some (v,0,0):=by
 obtain⟨s,p⟩:=v;unfold jR at h;simp only[akY,amI,alL]at h;obtain⟨hO,B⟩:=h;have z:(ag (bS s)++p).length<a.length:=by rw[<-j];exact gi
 rw[ak2]at z;have E:=Aj s;have u:okT (bS s):=rB omq omq omq;have r:=PC b hO omq;unfold dd gF syv;by_cases e:p=[]
 ·subst e;obtain⟨l,g,i⟩:=lg b (c:=0) (num:=16) omq omq a [bS s] (by rw[<-j];simp[eD,ak]) (by simpa using u) omq 0 16 rfl rfl;rw[g];rcases i with _|⟨f,⟨⟩⟩;have m:=f.yes 0 6 false 0 6 rfl rfl rfl rfl rfl;have n:=f.body;simp[ix0,m,n,show(bS s).2.2.2=fh s from rfl,r]
 ·have d:opn N p=true:=B.resolve_left e;obtain⟨t,k,rfl⟩:=ad8 b omq d;obtain⟨l,g,i⟩:=lg b (c:=0) (num:=16) omq omq a [bS s,t] (by rw[<-j];simp[eD,ak]) (by simp[u,k]) omq 0 16 rfl rfl;obtain⟨w,x,o,y,q,_⟩:=Km b (ag t) omq;rw[d]at q;have A:x=0:=by simpa using q.symm
  rw[g];rcases i with _|⟨f,_|⟨D,⟨⟩⟩⟩;have m:=f.yes 0 6 false 0 6 rfl rfl rfl rfl rfl;have n:=f.body;have C:=D.whole;simp[ix0,ix1,m,n,C,show(bS s).2.2.2=fh s from rfl,r,iz (show(ag t).length<10000000 by omega),y,A]
def ajA(t:TLV):ak [t]=ag t:=by simp[ak]
def GU(t u:TLV):ak [t,u]=ag t++ag u:=by simp[ak]
def RC(t u v:TLV):ak [t,u,v]=ag t++(ag u++ag v):=by simp[ak]
def aic{N:Nat}(m:FN N)(a:Bs)(T:a.length<9000000):OW (dd N a) (PS (jR N) eD a):=by
 unfold dd gF syv;refine ah (nj m a omq 0 16) ?_;rintro⟨l,e,o⟩ (⟨d,C,h,_,_,A,b⟩|⟨h,y,z⟩)
 ·cases d;dsimp only at b⊢;rw[show((0:Int) !=0)=false from rfl,ak5];rcases b with _| @⟨t1,e1,C,l,k1,b⟩
  ·exact aa (dE deq omq omq)
  ·obtain⟨p,q,r,f,i,E,G,I,K,b7⟩:=k1.bd;have P:=sr t1;refine aw (λc=>by rw[PD]at c;cases c) λ_=> ?_;refine aw (λc=> ?_) λc=> ?_
   ·refine ah (xc omq (by simpa using c)) λe O=> ?_;obtain⟨t,_,k⟩:=(br.cons k1 b).get O.1;obtain⟨p,q,r,f,i,E,G,I,K,b7⟩:=k.bd;exact aa (dE deq (by rw[f];omega) (by rw[f];omega))
   ·rw[ix0,akX];rcases k1.cs 0 6 false 0 6 rfl rfl with⟨v,u⟩|⟨v,_⟩
    ·rw[v,akX,al7,ak5,akX,akX,k1.body,akX];refine ah (pT m _ omq) ?_;rintro⟨s,e⟩ (⟨d,j,d2⟩|d)
     ·dsimp only at d j d2;subst d;dsimp only;rw[show((0:Int) !=0)=false from rfl,ak5];have B:ag t1=ag (bS s):=by rw[u];unfold bS;rw[d2]
      rcases b with _| @⟨t2,e2,C,l,k2,b⟩
      ·rw[akL,show((1:Int)==2)=false from rfl,ak5];exact aa (xp (by simp[jR,j]) (by rw[A,ajA,B];simp[eD]))
      ·obtain⟨X,Y,Z,g,D,F,H,J,L,M⟩:=k2.bd;rcases b with _|⟨U,b⟩
       ·have Q:(ag t2).length<9000000:=omq;rw[adh,show((2:Int)==2)=true from rfl,ala,ix1,akX,akX,k2.whole,akX,iz omq,akX];obtain⟨w,x,o,R,S,V,W⟩:=Km m (ag t2) omq;rw[R,akX];dsimp only;by_cases n:x=0
        ·subst n;exact aa (xp (by simp[jR,j,S]) (by rw[A,GU,B];simp[eD]))
        ·rw[show(x !=0)=true from by simpa using n,cond_true,Option.bind_some];exact aa (dE n (by rw[g,bO omq];omega) (by rw[g,bO omq];omega))
       ·exact absurd c soq
     ·cases d;exact aa (dE deq (by rw[i];omega) (by rw[i];omega))
    ·rw[v,akX,amR,ala,akX];exact aa (dE deq (by rw[f];omega) (by rw[f];omega))
 ·dsimp only at h y z⊢;rw[show(e !=0)=true from by simpa using h];exact aa (dE h y z)
end Go.Fw
namespace Go.Fw
open Go
noncomputable def gN(N:Nat)(v:Bs×Bs):Bool:=gu v.1&&opn N v.2
noncomputable def cE(v:Bs×Bs):Bs:=tlv 0 true 16 (ag (bS v.1)++v.2)
def XY{N:Nat}(a:FN N)(v:Bs×Bs)(b:v.1.length<10000000)(c:v.2.length<10000000):qA N v=some (gN N v):=by
 obtain⟨w,e,o,d,f,_⟩:=Km a v.2 c;unfold qA gN syv;rw[d,akX,f];dsimp only;rw[C0 a _ b,akX];cases gu v.1<;>rfl
def ahC{N:Nat}(a:FN N)(v:Bs×Bs)(b:v.1.length<10000000)(d:v.2.length<10000000):oa N v=some (bif gN N v then(cE v,0) else([],8)):=by
 unfold oa syv;rw[XY a v omq omq,akX];cases h:gN N v
 ·rfl
 ·have hO:gu v.1=true:=by unfold gN at h;simp only[akY]at h;exact h.1
  have e:=su v.1;have f:=Uw v.1 b;have c:=JC a 0 6 omq omq false [fh v.1] siq soq;simp only[al7,ak5,EX a _ (show v.1.length<10000000 by omega),hO,ala,akX,show cr N 0 false 6 [fh v.1]=_ from c,alx,amn,alm,show((0:Int) !=0)=false from rfl];rw[Oe a _ siq (by simp only[alx,amn,alm,ak2];show(ag (bS v.1)).length+_<=_;omega)];simp[cE,ag,bS]
def afl{N:Nat}(d:FN N)(v:Bs×Bs)(h:gN N v=true)(a:Bs)(g:cE v=a)(D:a.length<9000000):cF N a=some (v,0,0):=by
 obtain⟨s,p⟩:=v;unfold gN at h;simp only[akY]at h;obtain⟨hO,b⟩:=h;have q:(ag (bS s)++p).length<a.length:=by rw[<-g];exact gi
 rw[ak2]at q;have C:=Aj s;have x:okT (bS s):=rB omq omq omq;have r:=PC d hO omq;unfold cF kH syv;obtain⟨t,e,rfl⟩:=ad8 d omq b;obtain⟨l,k,m⟩:=lg d (c:=0) (num:=16) omq omq a [bS s,t] (by rw[<-g];simp[cE,ak]) (by simp[x,e]) omq 0 16 rfl rfl;obtain⟨w,j,o,n,f,_⟩:=Km d (ag t) omq;rw[b]at f;have u:j=0:=by simpa using f.symm
 rw[k];rcases m with _|⟨i,_|⟨B,⟨⟩⟩⟩;have y:=i.yes 0 6 false 0 6 rfl rfl rfl rfl rfl;have z:=i.body;have A:=B.whole;simp[ix0,ix1,y,z,A,show(bS s).2.2.2=fh s from rfl,r,iz (show(ag t).length<10000000 by omega),n,u]
def afm{N:Nat}(j:FN N)(a:Bs)(T:a.length<9000000):OW (cF N a) (PS (gN N) cE a):=by
 unfold cF kH syv;refine ah (nj j a omq 0 16) ?_;rintro⟨l,e,o⟩ (⟨b,v,g,_,_,M,h⟩|⟨g,A,B⟩)
 ·cases b;dsimp only at h⊢;rw[show((0:Int) !=0)=false from rfl,ak5];refine aw (λc=>aa (dE deq omq omq)) λx=> ?_;refine aw (λc=> ?_) λc=> ?_
  ·refine ah (xc omq (by simpa using c)) λe P=> ?_;obtain⟨t,_,k⟩:=h.get P.1;obtain⟨p,q,r,d,i,D,F,H,J,b7⟩:=k.bd;exact aa (dE deq (by rw[d];omega) (by rw[d];omega))
  ·rcases h with _| @⟨t1,e1,v,l,k1,_| @⟨t2,e2,v,l,k2,_| @⟨t3,e3,v,l,k3,h⟩⟩⟩
   ·cases x
   ·cases x
   ·obtain⟨p,q,r,d,i,D,F,H,J,b7⟩:=k1.bd;obtain⟨W,X,Y,f,C,E,G,I,K,L⟩:=k2.bd;have Q:=sr t1;rw[ix0,akX];rcases k1.cs 0 6 false 0 6 rfl rfl with⟨u,n⟩|⟨u,_⟩
    ·rw[u,akX,al7,ak5,akX,akX,k1.body,akX];refine ah (pT j _ omq) ?_;rintro⟨s,e⟩ (⟨b,y,d2⟩|b)
     ·dsimp only at b y d2;subst b;dsimp only;have O:ag t1=ag (bS s):=by rw[n];unfold bS;rw[d2]
      rw[show((0:Int) !=0)=false from rfl,ak5,ix1,akX,akX,k2.whole,akX,iz omq,akX];obtain⟨w,z,o,R,S,U,V⟩:=Km j (ag t2) omq;rw[R,akX];dsimp only;by_cases m:z=0
      ·subst m;exact aa (xp (by simp[gN,y,S]) (by rw[M,GU,O];simp[cE]))
      ·rw[show(z !=0)=true from by simpa using m,cond_true,Option.bind_some];exact aa (dE m (by rw[f,bO omq];omega) (by rw[f,bO omq];omega))
     ·cases b;exact aa (dE deq (by rw[i];omega) (by rw[i];omega))
    ·rw[u,akX,amR,ala,akX];exact aa (dE deq (by rw[d];omega) (by rw[d];omega))
   ·exact absurd c soq
 ·dsimp only at g A B⊢;rw[show(e !=0)=true from by simpa using g];exact aa (dE g A B)
def afn{N:Nat}{v:Bs×Bs}(h:gN N v=true):v.1.length<=21*(cE v).length/\v.2.length<=(cE v).length:=by
 unfold gN at h;simp only[akY]at h;have b:=EY h.1;have c:=Aj v.1;have a:(ag (bS v.1)++v.2).length<(cE v).length:=gi;rw[ak2]at a;omega
def ahD{N:Nat}{v:Bs×Bs}(h:jR N v=true):v.1.length<=21*(eD v).length/\v.2.length<=(eD v).length:=by
 unfold jR at h;simp only[akY]at h;have b:=EY h.1;have c:=Aj v.1;have a:(ag (bS v.1)++v.2).length<(eD v).length:=gi;rw[ak2]at a;omega
end Go.Fw
def an7:=@Bool.true_and
namespace Go.Fw
open Go
def XZ{T γ:Type}(l:List T)(ok:T->Bool)(enc:T->Bs)(F:Nat->Nat->List Bs->Option (Int⊕γ))(fin:List Bs->γ)(c:Int)
 (step:∀n i x a,l[i]?=some x->a.length=i->F (n+1) i a=if ok x=true then F n (i+1) (a++[enc x]) else some (.inl c))
 (d:∀n a,a.length=l.length->F (n+1) l.length a=some (.inr (fin a)))(N:Nat)(g:l.length<N):
 F N 0 []=if l.all ok=true then some (.inr (fin (l.map enc))) else some (.inl c):=by
 have e:∀(k n i:Nat),l.length-i=k->k<n->i<=l.length->F n i ((l.take i).map enc)=if (l.drop i).all ok=true then some (.inr (fin (l.map enc))) else some (.inl c):=by
  intro k;induction k with
  |zero=>
   intro n i o p j;obtain⟨n,rfl⟩:∃m,n=m+1:=⟨n-1,omq⟩;obtain rfl:i=l.length:=omq;rw[d n _ siq,List.drop_length,amC];rfl
  |succ k q=>
   intro n i o p j;obtain⟨n,rfl⟩:∃m,n=m+1:=⟨n-1,omq⟩;have b:i<l.length:=omq;rw[step n i l[i] _ (akZ b) soq,aly b,amw];cases h:ok l[i]
   ·simp
   ·have f:=q n (i+1) omq omq omq;rw[al8,akZ b,al9]at f;simp only[an7,al1];exact f
 exact e l.length N 0 omq g omq
def adZ{T γ H:Type}(a:Bs)(g:List TLV)(l:List aV)(D:br (EL a) g l)(ok:T->Bool)(enc:T->Bs)(p:Bs->Option (T×Int×Int))(F:Nat->Nat->List T->Option (γ⊕H))(fin:List T->H)(x:Int->Int->γ)
 (O:∀t∈g,OW (p (ag t)) (PS ok enc (ag t)))
 (good:∀n i e t b v,l[i]?=some e->EL a t e->g[i]?=some t->b.length=i->p (ag t)=some (v,0,0)->F (n+1) i b=F n (i+1) (b++[v]))
 (bad:∀n i e t b v c o,l[i]?=some e->EL a t e->g[i]?=some t->b.length=i->p (ag t)=some (v,c,o)->c≠0->F (n+1) i b=some (.inl (x c (ay .i64 e.2.2.2.1 o))))
 (u:∀n b,b.length=l.length->F (n+1) l.length b=some (.inr (fin b)))(N:Nat)(I:l.length<N)(W:a.length<10000000):
 (∃h,F N 0 []=some (.inr (fin h))/\h.all ok=true/\(h.map enc)=g.map ag)∨(∃c o,F N 0 []=some (.inl (x c o))/\c≠0/\0<=o/\o<=(a.length:Int)):=by
 have B:∀(k n i:Nat)(b:List T),l.length-i=k->k<n->i<=l.length->b.all ok=true->b.map enc=(g.take i).map ag->
  (∃h,F n i b=some (.inr (fin h))/\h.all ok=true/\(h.map enc)=g.map ag)∨(∃c o,F n i b=some (.inl (x c o))/\c≠0/\0<=o/\o<=(a.length:Int)):=by
  have E:=D.length;intro k;induction k with
  |zero=>
   intro n i b L M K y j;obtain⟨n,rfl⟩:∃m,n=m+1:=⟨n-1,omq⟩;obtain rfl:i=l.length:=omq;have z:=alD List.length j;simp only[alQ,alB]at z;exact .inl ⟨b,u n b omq,y,by rw[j,alw omq]⟩
  |succ k P=>
   intro n i b L M K y j;obtain⟨n,rfl⟩:∃m,n=m+1:=⟨n-1,omq⟩;have f:i<l.length:=omq;have z:=alD List.length j;simp only[alQ,alB]at z;have d:b.length=i:=omq;obtain⟨t,w,A⟩:=D.get (akZ f);obtain⟨⟨v,c,o⟩,G,J⟩:=O t (alz w);rcases J with⟨q1,s,q3⟩|⟨q1,s,q3⟩
   ·cases q1;rw[good n i _ t b v (akZ f) A w d G];refine P n (i+1) _ omq omq omq (by simp[y,s]) ?_;rw[al9,j,al8,w,al9];simp[q3]
   ·rw[bad n i _ t b v c o (akZ f) A w d G q1];obtain⟨p,q,r,C,Q,R,S,U,V,b7⟩:=A.bd;refine .inr ⟨_,_,rfl,q1,?_,?_⟩
    ·rw[C,bO (by dsimp only at s q3;omega)];dsimp only at s;omega
    ·rw[C,bO (by dsimp only at s q3;omega)];dsimp only at q3;omega
 exact B l.length N 0 [] omq I omq rfl siq
def VY{T γ w:Type}(a:Bs)(g:List TLV)(l:List aV)(q:br (EL a) g l)(enc:T->Bs)(p:Bs->Option (T×Int×Int))(F:Nat->Nat->List T->Option (γ⊕w))(fin:List T->w)(vs:List T)(u:vs.map enc=g.map ag)
 (D:∀v∈vs,p (enc v)=some (v,0,0))
 (good:∀n i e t b v,l[i]?=some e->EL a t e->g[i]?=some t->b.length=i->p (ag t)=some (v,0,0)->F (n+1) i b=F n (i+1) (b++[v]))
 (f:∀n b,b.length=l.length->F (n+1) l.length b=some (.inr (fin b)))(N:Nat)(y:l.length<N):F N 0 []=some (.inr (fin vs)):=by
 have r:=q.length;have E:vs.length=g.length:=by have:=alD List.length u;simpa using this
 have h:∀(k n i:Nat),l.length-i=k->k<n->i<=l.length->F n i (vs.take i)=some (.inr (fin vs)):=by
  intro k;induction k with
  |zero=>
   intro n i B C A;obtain⟨n,rfl⟩:∃m,n=m+1:=⟨n-1,omq⟩;obtain rfl:i=l.length:=omq;rw[f n _ soq,alw omq]
  |succ k G=>
   intro n i B C A;obtain⟨n,rfl⟩:∃m,n=m+1:=⟨n-1,omq⟩;have d:i<l.length:=omq;have c:i<vs.length:=omq;obtain⟨t,s,x⟩:=q.get (akZ d);have z:enc vs[i]=ag t:=by
    have j:(vs.map enc)[i]?=(g.map ag)[i]? :=by rw[u]
    rw[al4,al4,s,akZ c]at j;exact alX j
   rw[good n i _ t _ vs[i] (akZ d) x s soq (by rw[<-z];exact D _ (alZ c))];have o:=G n (i+1) omq omq omq;rw[al8,akZ c]at o;exact o
 exact h l.length N 0 omq y omq
def ahE{T γ O:Type}(d:Nat->Bool)(a:Bs)(s:List TLV)(l:List aV)(L:br (EL a) s l)(ok:T->Bool)(enc:T->Bs)(p:Bs->Option (T×Int×Int))(F:Nat->Nat->List T->Option (γ⊕O))(fin:List T->O)(D:Int->Int->γ)
 (hp:∀t∈s,OW (p (ag t)) (PS ok enc (ag t)))
 (good:∀n i e t b v,l[i]?=some e->EL a t e->s[i]?=some t->b.length=i->p (ag t)=some (v,0,0)->d i=true->F (n+1) i b=F n (i+1) (b++[v]))
 (x:∀n i e t b v,l[i]?=some e->EL a t e->s[i]?=some t->b.length=i->p (ag t)=some (v,0,0)->d i=false->F (n+1) i b=some (.inl (D 7 e.2.2.2.1)))
 (bad:∀n i e t b v c o,l[i]?=some e->EL a t e->s[i]?=some t->b.length=i->p (ag t)=some (v,c,o)->c≠0->F (n+1) i b=some (.inl (D c (ay .i64 e.2.2.2.1 o))))
 (C:∀n b,b.length=l.length->F (n+1) l.length b=some (.inr (fin b)))(N:Nat)(V:l.length<N)(ha:a.length<10000000):
 (∃w,F N 0 []=some (.inr (fin w))/\w.all ok=true/\(w.map enc)=s.map ag/\∀j<l.length,d j=true)∨(∃c o,F N 0 []=some (.inl (D c o))/\c≠0/\0<=o/\o<=(a.length:Int)):=by
 have K:∀(k n i:Nat)(b:List T),l.length-i=k->k<n->i<=l.length->b.all ok=true->b.map enc=(s.take i).map ag->(∀j<i,d j=true)->
  (∃w,F n i b=some (.inr (fin w))/\w.all ok=true/\(w.map enc)=s.map ag/\∀j<l.length,d j=true)∨(∃c o,F n i b=some (.inl (D c o))/\c≠0/\0<=o/\o<=(a.length:Int)):=by
  have M:=L.length;intro k;induction k with
  |zero=>
   intro n i b Y Z X G y u;obtain⟨n,rfl⟩:∃m,n=m+1:=⟨n-1,omq⟩;obtain rfl:i=l.length:=omq;have H:=alD List.length y;simp only[alQ,alB]at H;exact .inl ⟨b,C n b omq,G,by rw[y,alw omq],u⟩
  |succ k ih=>
   intro n i b Y Z X G y u;obtain⟨n,rfl⟩:∃m,n=m+1:=⟨n-1,omq⟩;have g:i<l.length:=omq;have H:=alD List.length y;simp only[alQ,alB]at H;have f:b.length=i:=omq;obtain⟨t,A,z⟩:=L.get (akZ g);obtain⟨⟨v,c,o⟩,J,W⟩:=hp t (alz A);rcases W with⟨q1,B,q3⟩|⟨q1,B,q3⟩
   ·cases q1;cases I:d i
    ·rw[x n i _ t b v (akZ g) z A f J I];obtain⟨p,q,r,E,P,Q,R,S,U,b7⟩:=z.bd;exact .inr ⟨_,_,rfl,by decide,omq,omq⟩
    rw[good n i _ t b v (akZ g) z A f J I];refine ih n (i+1) _ omq omq omq (by simp[G,B]) ?_ ?_
    ·rw[al9,y,al8,A,al9];simp[q3]
    ·intro j hj;rcases alf j i with h|h
     ·exact u j h
     ·rw[show j=i from omq];exact I
   ·rw[bad n i _ t b v c o (akZ g) z A f J q1];obtain⟨p,q,r,E,P,Q,R,S,U,b7⟩:=z.bd;refine .inr ⟨_,_,rfl,q1,?_,?_⟩
    ·rw[E,bO (by dsimp only at B q3;omega)];dsimp only at B;omega
    ·rw[E,bO (by dsimp only at B q3;omega)];dsimp only at q3;omega
 exact K l.length N 0 [] omq V omq rfl siq omq
def acJ{T γ y:Type}(d:Nat->Bool)(j:∀i,d i=true)(a:Bs)(h:List TLV)(l:List aV)(s:br (EL a) h l)(enc:T->Bs)(p:Bs->Option (T×Int×Int))(F:Nat->Nat->List T->Option (γ⊕y))(fin:List T->y)(vs:List T)(x:vs.map enc=h.map ag)
 (G:∀v∈vs,p (enc v)=some (v,0,0))
 (good:∀n i e t b v,l[i]?=some e->EL a t e->h[i]?=some t->b.length=i->p (ag t)=some (v,0,0)->d i=true->F (n+1) i b=F n (i+1) (b++[v]))
 (g:∀n b,b.length=l.length->F (n+1) l.length b=some (.inr (fin b)))(N:Nat)(A:l.length<N):F N 0 []=some (.inr (fin vs)):=by
 have u:=s.length;have H:vs.length=h.length:=by have:=alD List.length x;simpa using this
 have o:∀(k n i:Nat),l.length-i=k->k<n->i<=l.length->F n i (vs.take i)=some (.inr (fin vs)):=by
  intro k;induction k with
  |zero=>
   intro n i D E C;obtain⟨n,rfl⟩:∃m,n=m+1:=⟨n-1,omq⟩;obtain rfl:i=l.length:=omq;rw[g n _ soq,alw omq]
  |succ k I=>
   intro n i D E C;obtain⟨n,rfl⟩:∃m,n=m+1:=⟨n-1,omq⟩;have f:i<l.length:=omq;have c:i<vs.length:=omq;obtain⟨t,w,z⟩:=s.get (akZ f);have B:enc vs[i]=ag t:=by
    have q:(vs.map enc)[i]?=(h.map ag)[i]? :=by rw[x]
    rw[al4,al4,w,akZ c]at q;exact alX q
   rw[good n i _ t _ vs[i] (akZ f) z w soq (by rw[<-B];exact G _ (alZ c)) (j i)];have r:=I n (i+1) omq omq omq;rw[al8,akZ c]at r;exact r
 exact o l.length N 0 omq A omq
def xd{T:Type}(enc:T->Bs):∀(vs:List T)(v:T),v∈vs->(enc v).length<=((vs.map enc).flatten).length
 |[],_,h=>by simp at h
 |a::r,v,h=>by
  simp only[alc,alx,ak2];rcases alr.1 h with rfl|h
  ·omega
  ·have:=xd enc r v h;omega
end Go.Fw
namespace Go.Fw
open Go
def GG:Bs->Bs->Int
 |[],[]=>0
 |[],_::_=> -1
 |_::_,[]=>1
 |x::a,y::b=>if x.toNat<y.toNat then-1 else if y.toNat<x.toNat then 1 else GG a b
def acK(x y:UInt8):oV (x.toNat:Int) (y.toNat:Int)=some (if x.toNat<y.toNat then-1 else if y.toNat<x.toNat then 1 else 0):=by
 unfold oV xA AE syv;have h:∀n:Int,(n !=n)=false:=λn=>by simp
 simp only[h,akX,ak5];by_cases a:x.toNat<y.toNat
 ·rw[ak3 (by omega:(x.toNat:Int)<(y.toNat:Int)),ali a];rfl
 ·rw[ak0 (by omega:¬(x.toNat:Int)<(y.toNat:Int)),alJ a];by_cases b:y.toNat<x.toNat
  ·rw[ak3 (by omega:(x.toNat:Int)>(y.toNat:Int)),ali b];rfl
  ·rw[ak0 (by omega:¬(x.toNat:Int)>(y.toNat:Int)),alJ b];rfl
def akH:Int⊕(Bs×Bs)->Int
 |.inl i=>i
 |.inr (a,b)=>if a.length<b.length then-1 else 0
def acL(N:Nat)(a b:Bs)(p:a.length<100000000):∀(k n i:Nat),a.length-i=k->k<n->i<=a.length->i<=b.length->∃y,df N n (a,b,a,(a.length:Int),(i:Int))=some y/\akH y=GG (a.drop i) (b.drop i):=by
 intro k;induction k with
 |zero=>
  intro n i j l g f;obtain⟨n,rfl⟩:∃m,n=m+1:=⟨n-1,omq⟩;refine⟨.inr (a,b),?_,?_⟩
  ·show(bif decide ((i:Int)<(a.length:Int)) then _ else _)=_;rw[ak0 omq];rfl
  ·rw[alH (show a.length<=i by omega)];show(if a.length<b.length then(-1:Int) else 0)=_;by_cases h:a.length<b.length
   ·rw[ali h,aly (show i<b.length by omega)];rfl
   ·rw[alJ h,alH (show b.length<=i by omega)];rfl
 |succ k o=>
  intro n i j l g f;obtain⟨n,rfl⟩:∃m,n=m+1:=⟨n-1,omq⟩;have c:i<a.length:=omq;rw[aly c];show ∃y,(bif decide ((i:Int)<(a.length:Int)) then _ else _)=some y/\_;rw[ak3 omq,ala,bc (akZ c),akX];by_cases h:i<b.length
  ·rw[ak0 (by omega:¬(i:Int)>=(b.length:Int)),ak5,bc (akZ h),akX,acK,akX,aly h];unfold GG;by_cases d:a[i].toNat<b[i].toNat
   ·rw[ali d,ali d];exact⟨_,rfl,rfl⟩
   ·rw[alJ d,alJ d];by_cases e:b[i].toNat<a[i].toNat
    ·rw[ali e,ali e];exact⟨_,rfl,rfl⟩
    ·rw[alJ e,alJ e,bu omq];exact o n (i+1) omq omq omq omq
  ·rw[ak3 (by omega:(i:Int)>=(b.length:Int)),ala,alH (show b.length<=i by omega)];exact⟨_,rfl,rfl⟩
def afo{N:Nat}(e:FN N)(a b:Bs)(f:a.length<100000000):rW N a b=some (GG a b):=by
 unfold FN at e;obtain⟨y,d,c⟩:=acL N a b f a.length N 0 omq omq omq omq;rw[alR,alR]at c;unfold rW gw syv;rw[show df N N (a,b,a,(a.length:Int),0)=some y from d,akX,<-c];rcases y with i|⟨x,z⟩
 ·rfl
 ·show Option.bind (bif decide ((x.length:Int)<(z.length:Int)) then _ else _) _=some (if x.length<z.length then(-1:Int) else 0);by_cases h:x.length<z.length
  ·rw[ak3 (by omega:(x.length:Int)<(z.length:Int)),ali h];rfl
  ·rw[ak0 (by omega:¬(x.length:Int)<(z.length:Int)),alJ h];rfl
def nK:List Bs->Bool
 |[]=>true
 |a::r=>match r with
  |[]=>true
  |b::_=>decide (GG a b<0)&&nK r
def Jq(a b:Bs)(r:List Bs):nK (a::b::r)=(decide (GG a b<0)&&nK (b::r)):=rfl
def Qx:∀(l:List Bs)(i:Nat),nK l=true->nK (l.take i)=true
 |_,0,_=>by simp[nK]
 |[],_+1,_=>rfl
 |[a],i+1,_=>by simp[nK]
 |a::b::r,1,_=>rfl
 |a::b::r,i+2,h=>by
  rw[Jq,akY]at h;have:=Qx (b::r) (i+1) h.2;simp only[am0]at this⊢;rw[Jq,h.1,this];rfl
def acM(N:Nat)(e:FN N)(l:List Bs)(q:l.length<100000000)(o:∀x∈l,x.length<100000000):∀(k n i:Nat),l.length-i=k->k<n->1<=i->i<=l.length->hZ N n (l,(l.length:Int),(i:Int))=some (bif nK (l.drop (i-1)) then .inr () else .inl false):=by
 intro k;induction k with
 |zero=>
  intro n i g j f d;obtain⟨n,rfl⟩:∃m,n=m+1:=⟨n-1,omq⟩;show(bif decide ((i:Int)<(l.length:Int)) then _ else _)=_;rw[ak0 omq,ak5,aly (show i-1<l.length by omega),alH (show l.length<=i-1+1 by omega)];rfl
 |succ k p=>
  intro n i g j f d;obtain⟨n,rfl⟩:∃m,n=m+1:=⟨n-1,omq⟩;have b:i<l.length:=omq;have a:i-1<l.length:=omq;show(bif decide ((i:Int)<(l.length:Int)) then _ else _)=_;rw[ak3 omq,ala,ak3 (by omega:(i:Int)>0),ala,WV omq omq,bc (akZ a),akX,bc (akZ b),akX,afo e _ _ (o _ (alZ a)),akX,bu omq,aly a,aly (show i-1+1<l.length by omega),Jq];have c:l[i-1+1]'(by omega)=l[i]:=by congr 1;omega
  rw[c];by_cases h:GG l[i-1] l[i]<0
  ·rw[ak0 (by omega:¬GG l[i-1] l[i]>=0),ak3 h,ak5,an7];refine(p n (i+1) omq omq omq omq).trans ?_;rw[Nat.add_sub_cancel,aly b,show i-1+1+1=i+1 from omq]
  ·rw[ak3 (by omega:GG l[i-1] l[i]>=0),ak0 h];rfl
def Ps{N:Nat}(b:FN N)(l:List Bs)(e:l.length<100000000)(g:∀x∈l,x.length<100000000):qC N l=some (nK l):=by
 have a:=b;unfold FN at a;unfold qC syv;cases l with
 |nil=>
  obtain⟨n,rfl⟩:∃m,N=m+1:=⟨N-1,omq⟩;rfl
 |cons x r=>
  have c:hZ N N (x::r,((x::r).length:Int),0)=some (bif nK (x::r) then .inr () else .inl false):=by
   obtain⟨n,f⟩:∃m,N=m+1:=⟨N-1,omq⟩;have d:=acM N b (x::r) e g ((x::r).length-1) n 1 rfl omq omq siq;rw[show hZ N N=hZ N (n+1) from by rw[<-f]];show(bif decide ((0:Int)<((x::r).length:Int)) then _ else _)=_;rw[ak3 (by simp only[ak4];omega),ala];exact d
  rw[c,akX];cases nK (x::r)<;>rfl
end Go.Fw
namespace Go.Fw
open Go
abbrev Rdn:=List (Bs×Bs)
noncomputable def rP(v:Bs×Bs):TLV:=(0,true,16,ag (bS v.1)++v.2)
def Pt(v:Bs×Bs):cE v=ag (rP v):=rfl
noncomputable def kL(N:Nat)(r:Rdn):Bool:= !r.isEmpty&&(r.all (gN N)&&nK (r.map cE))
noncomputable def gB(r:Rdn):Bs:=tlv 0 true 17 ((r.map cE).flatten)
noncomputable def nk(N:Nat)(n:List Rdn):Bool:=n.all (kL N)
noncomputable def ep(n:List Rdn):Bs:=tlv 0 true 16 ((n.map gB).flatten)
def wA(v:Bs×Bs):Nat:=v.1.length+v.2.length+20
def wR(r:Rdn):Nat:=(r.map wA).sum+20
def wN(n:List Rdn):Nat:=(n.map wR).sum+20
def ZS(v:Bs×Bs)(h:wA v<100000000):(cE v).length<=6*wA v:=by
 unfold wA at h⊢;have e:=su v.1;have a:=eC (c:=0) (num:=6) (k:=false) (b:=fh v.1) omq;have f:(ag (bS v.1)).length<=(fh v.1).length+6:=a;have d:=eC (c:=0) (num:=16) (k:=true) (b:=ag (bS v.1)++v.2) (by rw[ak2];omega);rw[ak2]at d;show(tlv 0 true 16 (ag (bS v.1)++v.2)).length<=_;omega
def lc{T:Type}(w:T->Nat):∀(r:List T)(v:T),v∈r->w v<=(r.map w).sum
 |[],_,h=>by simp at h
 |a::r,v,h=>by
  simp only[alc,amm];rcases alr.1 h with rfl|h
  ·omega
  ·have:=lc w r v h;omega
def Kf{T:Type}(w:T->Nat)(e:T->Bs)(c:Nat):∀(r:List T),(∀v∈r,(e v).length<=c*w v)->((r.map e).flatten).length<=c*(r.map w).sum
 |[],_=>by simp
 |a::r,h=>by
  have d:=h a siq;have f:=Kf w e c r λv b=>h v (by simp[b]);simp only[alc,alx,ak2,amm,Nat.mul_add];omega
def xe{T:Type}(w:T->Nat)(c:Nat)(b:∀v,c<=w v):∀(r:List T),c*r.length<=(r.map w).sum
 |[]=>by simp
 |a::r=>by
  have d:=b a;have e:=xe w c b r;simp only[alc,amm,ak4,Nat.mul_add];omega
def Qy(r:Rdn)(h:wR r<50000000):((r.map cE).flatten).length+120<=6*wR r:=by
 unfold wR at h⊢;have:=Kf wA cE 6 r λv a=>ZS v (by have:=lc wA r v a;omega);omega
def acN(r:Rdn)(h:wR r<50000000):(gB r).length<=6*wR r:=by
 have a:=Qy r h;have d:=eC (c:=0) (num:=17) (k:=true) (b:=(r.map cE).flatten) omq;show(tlv 0 true 17 _).length<=_;omega
def ZT{α:Type}(l:List α):(!l.isEmpty)= !((l.length:Int)==0):=by
 rw[PD];cases l<;>simp
def acO{N:Nat}(e:FN N)(r:Rdn)(h:wR r<10000000)(k:Int)(c:Bool):kh N N (r,(r.length:Int),0,k,c,[])=if r.all (gN N)=true then some (.inr (k,c,r.map cE)) else some (.inl 8):=by
 have b:=e;unfold FN at b;have l:=xe wA 20 (λv=>by unfold wA;omega) r;unfold wR at h;refine XZ r (gN N) cE (λn i a=>kh N n (r,(r.length:Int),(i:Int),k,c,a)) (λp=>(k,c,p)) 8 (λn i x a d f=> ?_) (λn a f=> ?_) N omq
 ·have g:=aj d;have m:=lc wA r x (alz d);have j:wA x=x.1.length+x.2.length+20:=rfl;show(bif decide ((i:Int)<(r.length:Int)) then(nu N (i:Int) r).bind _ else _)=_;rw[ak3 omq,ala];unfold nu syv;rw[bc d,akX,ahC e x omq omq];cases gN N x
  ·rfl
  ·simp only[ala,akX,al1];rw[show((0:Int) !=0)=false from rfl,ak5,dQ omq (by simp only[ak4,alq];omega),akX,bu omq];rfl
 ·show(bif decide ((r.length:Int)<(r.length:Int)) then _ else _)=_;rw[ak0 omq];rfl
def ad0{N:Nat}(a:FN N)(r:Rdn)(h:wR r<10000000):tV N r=some (bif kL N r then(gB r,0) else([],8)):=by
 have b:=a;unfold FN at b;have c:=Qy r omq;have j:=xe wA 20 (λv=>by unfold wA;omega) r;unfold tV kL syv;rw[ZT];cases g:((r.length:Int)==0)
 ·rw[ak5];unfold sA syv;rw[acO a r h];cases i:r.all (gN N)
  ·simp
  ·rw[ali rfl,akX];dsimp only;unfold wR at h c;rw[ala,Ps a _ soq (λx f=>by
    obtain⟨v,d,rfl⟩:=alW.1 f;have:=xd cE r v d;omega),akX]
   cases hO:nK (r.map cE)
   ·rfl
   ·have e:=JC a 0 17 omq omq true (r.map cE) soq omq;rw[al7,ak5,show cr N 0 true 17 (r.map cE)=_ from e];rfl
 ·rfl
def X0(n:List Rdn)(h:wN n<50000000):((n.map gB).flatten).length+120<=6*wN n:=by
 unfold wN at h⊢;have:=Kf wR gB 6 n λv a=>acN v (by have:=lc wR n v a;omega);omega
def N4{N:Nat}(b:FN N)(l:List Rdn)(h:wN l<10000000):AI N l=some (bif nk N l then(ep l,0) else([],8)):=by
 have c:=b;unfold FN at c;have g:=X0 l omq;have o:=xe wR 20 (λv=>by unfold wR;omega) l;unfold wN at h g;have k:=XZ l (kL N) gB (λn i a=>ki N n (l,(l.length:Int),(i:Int),16,false,a)) (λp=>((16:Int),false,p)) 8 (λn i x a d f=>by
  have j:=aj d;have e:=lc wR l x (alz d);show(bif decide ((i:Int)<(l.length:Int)) then(qD N (i:Int) l).bind _ else _)=_;rw[ak3 omq,ala];unfold qD syv;rw[bc d,akX,ad0 b x omq];cases kL N x
  ·rfl
  ·simp only[ala,akX,al1];rw[show((0:Int) !=0)=false from rfl,ak5,dQ omq (by simp only[ak4,alq];omega),akX,bu omq];rfl) (λn a f=>by
  show(bif decide ((l.length:Int)<(l.length:Int)) then _ else _)=_;rw[ak0 omq];rfl) N omq
 unfold AI sC nk syv;rw[show ki N N (l,(l.length:Int),0,16,false,[])=_ from k];cases m:l.all (kL N)
 ·simp
 ·rw[ali rfl,akX];dsimp only;have e:=JC b 0 16 omq omq true (l.map gB) soq omq;rw[ak5,show cr N 0 true 16 (l.map gB)=_ from e];rfl
def vr{N:Nat}(a:FN N)(l:List Rdn)(h:wN l<10000000):Fv N l=some (nk N l):=by
 unfold Fv syv;rw[N4 a l h];cases nk N l<;>rfl
def ZU{N:Nat}(a:FN N)(l:Rdn)(h:wR l<10000000):rI N l=some (kL N l):=by
 unfold rI syv;rw[ad0 a l h];cases kL N l<;>rfl
end Go.Fw
def aoC:=@List.mem_of_mem_take
namespace Go.Fw
open Go
noncomputable def Jr(r:Rdn):TLV:=(0,true,17,(r.map cE).flatten)
def ZV(r:Rdn):gB r=ag (Jr r):=rfl
noncomputable def gr(r:List Rdn):TLV:=(0,true,16,(r.map gB).flatten)
def Kg{T:Type}(enc:T->Bs)(tl:T->TLV)(h:∀v,enc v=ag (tl v))(vs:List T):vs.map enc=(vs.map tl).map ag:=by
 rw[List.map_map];exact List.map_congr_left λv _=>h v
def bt(t:TLV):t.2.2.2.length<(ag t).length:=by have:=sr t;omega
def fc:∀(b:List TLV)(t:TLV),t∈b->(ag t).length<=(ak b).length
 |[],_,h=>by simp at h
 |a::r,t,h=>by
  rw[dt,ak2];rcases alr.1 h with rfl|h
  ·omega
  ·have:=fc r t h;omega
def GH{N:Nat}(k:FN N)(a:Bs)(y:a.length<9000000)(b:List TLV)(l:List aV)(m:br (EL a) b l)(z:(ak b).length<9000000)(n i:Nat)(e:aV)(t:TLV)(acc:Rdn)(v:Bs×Bs)(c o:Int)(d:l[i]?=some e)(j:EL a t e)(g:acc.length=i)(w:cF N (ag t)=some (v,c,o))(r:b[i]?=some t):
 bD N (n+1) (a,l,(l.length:Int),(i:Int),0,0,acc,(b.take i).map ag)=bif c !=0 then some (.inl (c,ay .i64 e.2.2.2.1 o)) else bif nK ((b.take (i+1)).map ag) then bD N n (a,l,(l.length:Int),((i+1:Nat):Int),0,0,acc++[v],(b.take (i+1)).map ag) else some (.inl (7,e.2.2.2.1)):=by
 have q:=aj d;have h:=m.length;have p:=eN b;have f:(b.take i).map ag++[ag t]=(b.take (i+1)).map ag:=by rw[al8,r,al9];rfl
 show(bif decide ((i:Int)<(l.length:Int)) then _ else _)=_;rw[ak3 omq,ala,bc d,akX,j.whole,akX,dQ omq soq,akX,akX,w,akX,f];dsimp only;rw[Ps k _ soq (λx d=>by
  obtain⟨u,s,rfl⟩:=alW.1 d;have:=fc b u (aoC s);omega),akX,dQ omq (by simp only[ak4,alq];omega),akX,bu omq]
 cases nK ((b.take (i+1)).map ag)<;>rfl
def ZW{N:Nat}(k:FN N)(a:Bs)(y:a.length<9000000):OW (dL N a) (PS (kL N) gB a):=by
 have x:=k;unfold FN at x;unfold dL syv;refine ah (nj k a omq 0 17) ?_;rintro⟨l,e,o⟩ (⟨L,d,w,_,_,I,j⟩|⟨w,G,H⟩)
 ·cases L;dsimp only at j⊢;rw[show((0:Int) !=0)=false from rfl,ak5,PD];have P:(ak d).length<a.length:=by rw[I];exact gi
  have M:=eN d;have q:=j.length;by_cases g:l=[]
  ·rw[ak3 g];exact aa (dE deq omq omq)
  ·rw[ak0 g,ak5];have E:=ahE (λi=>nK ((d.take (i+1)).map ag)) a d l j (gN N) cE (cF N) (λn i b=>bD N n (a,l,(l.length:Int),(i:Int),0,0,b,(d.take i).map ag)) (λv=>((0:Int),(0:Int),v)) (λc o=>(c,o))
    (λt h=>afm k _ (by have:=fc d t h;omega))
    (λn i e t b v s m h f r p=>by
      show bD N (n+1) _=_;rw[GH k a y d l j omq n i e t b v 0 0 s m f r h,p];rfl)
    (λn i e t b v s m h f r p=>by
      show bD N (n+1) _=_;rw[GH k a y d l j omq n i e t b v 0 0 s m f r h,p];rfl)
    (λn i e t b v c o s m h f r p=>by
      show bD N (n+1) _=_;rw[GH k a y d l j omq n i e t b v c o s m f r h,show(c !=0)=true from by simpa using p];rfl)
    (λn b J=>by
      show(bif decide ((l.length:Int)<(l.length:Int)) then _ else _)=_;rw[ak0 omq];rfl) N omq omq
   have O:bD N N (a,l,(l.length:Int),0,0,0,[],[])=bD N N (a,l,(l.length:Int),((0:Nat):Int),0,0,[],(d.take 0).map ag):=rfl;rw[O];rcases E with⟨F,B,C,u,D⟩|⟨c,o,B,C,u,D⟩
   ·rw[B,akX];have z:d≠[]:=λe=>by subst e;exact g (alF (by simpa using q.symm))
    have A:F≠[]:=λe=>by
     subst e;have:=alD List.length u;simp at this;exact z (alF this.symm)
    have hO:nK (F.map cE)=true:=by
     have K:0<l.length:=by cases l with|nil=>exact absurd rfl g|cons=>simp
     have:=D (l.length-1) omq;rw[show l.length-1+1=d.length from omq,amC]at this;rw[u,this]
    refine aa (xp ?_ ?_)
    ·unfold kL;rw[C,hO];cases F with
     |nil=>exact absurd rfl A
     |cons=>rfl
    ·rw[I];unfold gB;rw[u];rfl
   ·rw[B,akX];exact aa (dE C u D)
 ·dsimp only at w G H⊢;rw[show(e !=0)=true from by simpa using w];exact aa (dE w G H)
def Ub{T:Type}(enc:T->Bs)(tl:T->TLV)(h:∀v,enc v=ag (tl v))(vs:List T):(vs.map enc).flatten=ak (vs.map tl):=by
 rw[Kg enc tl h];rfl
def ahF{N:Nat}(q:FN N)(r:Rdn)(h:kL N r=true)(a:Bs)(p:gB r=a)(G:a.length<9000000):dL N a=some (r,0,0):=by
 have u:=q;unfold FN at u;unfold kL at h;simp only[akY]at h;obtain⟨D,E,F⟩:=h;have M:((r.map cE).flatten).length<a.length:=by rw[<-p];exact gi
 have j:=Ub cE rP Pt r;have f:∀v∈r,(cE v).length<9000000:=λv g=>by have:=xd cE r v g;omega
 have o:∀v∈r,gN N v=true:=alv.1 E;obtain⟨l,C,s⟩:=lg q (c:=0) (num:=17) omq omq a (r.map rP) (by rw[<-p,<-j];rfl) (λt y=>by
  obtain⟨v,g,rfl⟩:=alW.1 y;have:=f v g;exact rB omq omq (by have:=gi (c:=0) (num:=16) (k:=true) (b:=ag (bS v.1)++v.2);have e:(tlv 0 true 16 (ag (bS v.1)++v.2)).length=(cE v).length:=rfl;omega)) omq 0 17 rfl rfl
 have m:=s.length;have K:(ak (r.map rP)).length<9000000:=by rw[<-j];omega
 have I:=eN (r.map rP);unfold dL syv;rw[C,akX];dsimp only;have x:l≠[]:=λe=>by
  subst e;have:r=[]:=alF (by simpa using m);subst this;cases D
 have B:=Kg cE rP Pt r;have z:=acJ (λi=>nK (((r.map rP).take (i+1)).map ag)) (λi=>by
  show nK (((r.map rP).take (i+1)).map ag)=true;rw[List.map_take,<-B];exact Qx _ _ F) a (r.map rP) l s cE (cF N) (λn i d=>bD N n (a,l,(l.length:Int),(i:Int),0,0,d,((r.map rP).take i).map ag)) (γ:=Int×Int) (λv=>((0:Int),(0:Int),v)) r B
  (λv g=>afl q v (o v g) _ rfl (f v g))
  (λn i e t d v L p y w g H=>by
    show bD N (n+1) _=_;rw[GH q a G _ l s K n i e t d v 0 0 L p w g y,H];rfl)
  (λn d A=>by
    show(bif decide ((l.length:Int)<(l.length:Int)) then _ else _)=_;rw[ak0 omq];rfl) N omq
 have J:bD N N (a,l,(l.length:Int),0,0,0,[],[])=bD N N (a,l,(l.length:Int),((0:Nat):Int),0,0,[],((r.map rP).take 0).map ag):=rfl;rw[show((0:Int) !=0)=false from rfl,ak5,PD,ak0 x,ak5,J,z];rfl
end Go.Fw
namespace Go.Fw
open Go
def afp{r:Rdn}(h:(gB r).length<9000000):okT (Jr r):=by
 have a:((r.map cE).flatten).length<(gB r).length:=gi;exact rB omq omq omq
def Js{N:Nat}(q:FN N)(a:Bs)(b:List TLV)(l:List aV)(j:br (EL a) b l)(r:(ak b).length<9000000)(n i:Nat)(e:aV)(t:TLV)(acc:List Rdn)(v:Rdn)(c o:Int)(g:l[i]?=some e)(h:EL a t e)(d:acc.length=i)(p:dL N (ag t)=some (v,c,o)):
 cQ N (n+1) (a,l,(l.length:Int),(i:Int),0,0,acc)=bif c !=0 then some (.inl (c,ay .i64 e.2.2.2.1 o)) else cQ N n (a,l,(l.length:Int),((i+1:Nat):Int),0,0,acc++[v]):=by
 have m:=aj g;have f:=j.length;have k:=eN b;show(bif decide ((i:Int)<(l.length:Int)) then _ else _)=_;rw[ak3 omq,ala,bc g,akX,h.whole,akX,p,akX];dsimp only;rw[dQ omq (by simp only[ak4,alq];omega),akX,bu omq];rfl
def VZ{N:Nat}(h:FN N)(a:Bs)(H:a.length<9000000):OW (iQ N a) (PS (nk N) ep a):=by
 have m:=h;unfold FN at m;unfold iQ syv;refine ah (nj h a omq 0 16) ?_;rintro⟨l,e,o⟩ (⟨D,f,j,_,_,A,g⟩|⟨j,y,z⟩)
 ·cases D;dsimp only at g⊢;rw[show((0:Int) !=0)=false from rfl,ak5];have I:(ak f).length<a.length:=by rw[A];exact gi
  have F:=eN f;have C:=g.length;have x:=adZ a f l g (kL N) gB (dL N) (λn i b=>cQ N n (a,l,(l.length:Int),(i:Int),0,0,b)) (λv=>((0:Int),(0:Int),v)) (λc o=>(c,o))
   (λt p=>ZW h _ (by have:=fc f t p;omega))
   (λn i e t b v r k p d q=>by
     show cQ N (n+1) _=_;rw[Js h a f l g omq n i e t b v 0 0 r k d q];rfl)
   (λn i e t b v c o r k p d q E=>by
     show cQ N (n+1) _=_;rw[Js h a f l g omq n i e t b v c o r k d q,show(c !=0)=true from by simpa using E];rfl)
   (λn b B=>by
     show(bif decide ((l.length:Int)<(l.length:Int)) then _ else _)=_;rw[ak0 omq];rfl) N omq omq
  rw[show cQ N N (a,l,(l.length:Int),0,0,0,[])=cQ N N (a,l,(l.length:Int),((0:Nat):Int),0,0,[]) from rfl];rcases x with⟨J,s,u,w⟩|⟨c,o,s,u,w,G⟩
  ·rw[s,akX];refine aa (xp u ?_);rw[A];unfold ep;rw[w];rfl
  ·rw[s,akX];exact aa (dE u w G)
 ·dsimp only at j y z⊢;rw[show(e !=0)=true from by simpa using j];exact aa (dE j y z)
def V0{N:Nat}(m:FN N)(r:List Rdn)(h:nk N r=true)(a:Bs)(k:ep r=a)(D:a.length<9000000):iQ N a=some (r,0,0):=by
 have p:=m;unfold FN at p;have E:((r.map gB).flatten).length<a.length:=by rw[<-k];exact gi
 have g:=Ub gB Jr ZV r;have d:∀v∈r,(gB v).length<9000000:=λv f=>by have:=xd gB r v f;omega
 have j:∀v∈r,kL N v=true:=alv.1 h;obtain⟨l,y,o⟩:=lg m (c:=0) (num:=16) omq omq a (r.map Jr) (by rw[<-k,<-g];rfl) (λt x=>by
  obtain⟨v,f,rfl⟩:=alW.1 x;exact afp (d v f)) omq 0 16 rfl rfl
 have w:=o.length;have B:(ak (r.map Jr)).length<9000000:=by rw[<-g];omega
 have z:=eN (r.map Jr);unfold iQ syv;rw[y,akX];dsimp only;have A:=Kg gB Jr ZV r;have s:=VY a (r.map Jr) l o gB (dL N) (λn i b=>cQ N n (a,l,(l.length:Int),(i:Int),0,0,b)) (γ:=Int×Int) (λv=>((0:Int),(0:Int),v)) r A
  (λv f=>ahF m v (j v f) _ rfl (d v f))
  (λn i e t b v C k x q f=>by
    show cQ N (n+1) _=_;rw[Js m a _ l o B n i e t b v 0 0 C k q f];rfl)
  (λn b u=>by
    show(bif decide ((l.length:Int)<(l.length:Int)) then _ else _)=_;rw[ak0 omq];rfl) N omq
 rw[show((0:Int) !=0)=false from rfl,ak5,show cQ N N (a,l,(l.length:Int),0,0,0,[])=cQ N N (a,l,(l.length:Int),((0:Nat):Int),0,0,[]) from rfl,s];rfl
def ZX{N:Nat}{r:Rdn}(h:kL N r=true):wR r<=32*(gB r).length:=by
 unfold kL at h;simp only[akY]at h;have a:=alv.1 h.2.1;have i:((r.map cE).flatten).length<(gB r).length:=gi;have b:∀(l:Rdn),(∀v∈l,gN N v=true)->(l.map wA).sum<=32*((l.map cE).flatten).length:=by
  intro l;induction l with
  |nil=>simp
  |cons v l g=>
   intro c;have j:=afn (c v siq);have d:=g λx f=>c x (by simp[f]);have e:=F6 (rP v);rw[<-Pt]at e;simp only[alc,amm,alx,ak2];unfold wA at d⊢;omega
 have:=b r a;unfold wR;omega
def V1{N:Nat}{n:List Rdn}(h:nk N n=true):wN n<=32*(ep n).length:=by
 have a:=alv.1 h;have f:((n.map gB).flatten).length<(ep n).length:=gi;have b:∀(l:List Rdn),(∀v∈l,kL N v=true)->(l.map wR).sum<=32*((l.map gB).flatten).length:=by
  intro l;induction l with
  |nil=>simp
  |cons v l e=>
   intro c;have g:=ZX (c v siq);have i:=e λx d=>c x (by simp[d]);simp only[alc,amm,alx,ak2];omega
 have:=b n a;unfold wN;omega
end Go.Fw
namespace Go.Fw
open Go
abbrev cb:=Bs×Bool×Bs
def vt:TLV:=(0,false,1,[255])
def iN(b:Bs):TLV:=(0,false,4,b)
noncomputable def gt(v:cb):List TLV:=bS v.1::((bif v.2.1 then [vt] else [])++[iN v.2.2])
noncomputable def qj(v:cb):Bool:=gu v.1
noncomputable def GI(v:cb):TLV:=(0,true,16,ak (gt v))
noncomputable def fe(v:cb):Bs:=ag (GI v)
def wE(v:cb):Nat:=v.1.length+v.2.2.length+40
def acP(b:Bs)(h:b.length<4000000000):(ag (iN b)).length<=b.length+6:=eC (b:=b) omq
def ZY:(ag vt).length=3:=by decide
def Jt(v:cb)(h:wE v<100000000):(ak (gt v)).length+200<=6*wE v:=by
 unfold wE at h⊢;have a:=su v.1;have d:(ag (bS v.1)).length<=(fh v.1).length+6:=eC (c:=0) (num:=6) (k:=false) (b:=fh v.1) omq;have e:=acP v.2.2 omq;have f:=ZY;unfold gt;cases v.2.1
 ·simp only[ak5,alN];rw[GU,ak2];omega
 ·simp only[ala,anS];rw[RC,ak2,ak2];omega
def acQ(v:cb)(h:wE v<100000000):(fe v).length<=6*wE v:=by
 have a:=Jt v h;have d:(fe v).length<=(ak (gt v)).length+6:=eC (c:=0) (num:=16) (k:=true) (b:=ak (gt v)) (by unfold wE at a h;omega);omega
def kA{N:Nat}(g:FN N)(c num:Nat)(k:Bool)(b:Bs)(e f:Int)(a:e=(c:Int))(d:f=(num:Int))(i:c<4)(j:num<31)(l:b.length<2000000000):cr N e k f [b]=some (ag (c,k,num,b),0):=by
 subst a d;have h:=JC g c num i j k [b] siq soq;rw[h];simp[ag]
def GJ{N:Nat}(a:FN N)(xs:List Bs)(b:Bs)(e:xs.flatten=b)(c:xs.length<10000000)(d:b.length<2000000000):dr N xs=some (ag (0,true,16,b),0):=by
 subst e;exact Oe a xs c omq
def ajh{N:Nat}(a:FN N)(v:cb)(h:wE v<10000000):oy N v=some (bif qj v then(fe v,0) else([],8)):=by
 have e:=Jt v omq;have d:=h;unfold wE at d e;have f:=su v.1;unfold oy qj syv;rw[EX a _ omq];cases hO:gu v.1
 ·rfl
 ·rw[ala,akX];dsimp only;rw[show((0:Int) !=0)=false from rfl,ak5,kA a 0 6 false (fh v.1) 0 6 rfl rfl omq omq omq,akX];dsimp only;rw[dQ omq siq,akX];cases c:v.2.1
  ·have b:[ag (bS v.1),ag (iN v.2.2)].flatten=ak (gt v):=by
    unfold gt;rw[c];simp[ak]
   rw[ak5,akX];dsimp only;rw[kA a 0 4 false v.2.2 0 4 rfl rfl omq omq omq,akX];dsimp only;rw[dQ omq siq,akX,show(fQ (fQ 0 0) 0 !=0)=false from by rw[nh,nh];rfl,ak5];show Option.bind (dr N [ag (bS v.1),ag (iN v.2.2)]) _=_;rw[GJ a _ _ b siq omq];rfl
  ·have b:[ag (bS v.1),ag vt,ag (iN v.2.2)].flatten=ak (gt v):=by
    unfold gt;rw[c];simp[ak]
   rw[ala,show mU true=some [255] from by unfold mU syv;rfl,akX,kA a 0 1 false [255] 0 1 rfl rfl omq omq siq,akX];dsimp only;rw[dQ omq siq,akX,akX];dsimp only;rw[kA a 0 4 false v.2.2 0 4 rfl rfl omq omq omq,akX];dsimp only;rw[dQ omq siq,akX,show(fQ (fQ (fQ 0 0) 0) 0 !=0)=false from by rw[nh,nh,nh];rfl,ak5];show Option.bind (dr N [ag (bS v.1),ag vt,ag (iN v.2.2)]) _=_;rw[GJ a _ _ b siq omq];rfl
def ahG(c:Bs):∃v e,dH c=some (v,e)/\(e=0->v=true->c=[255]):=by
 obtain⟨v,e,h⟩:=Te c;refine⟨v,e,h,?_⟩;rintro rfl rfl;unfold dH syv at h
 match c with
 |[]=>cases h
 |x::y::r=>
  rw[show((((x::y::r).length:Nat):Int) !=1)=true from by simp only[aoZ,ne_eq,ak4];omega]at h;cases h
 |[x]=>
  rw[show((((([x]:Bs)).length:Nat):Int) !=1)=false from rfl]at h;simp only[ak5,show ix [x] 0=some x from rfl,akX]at h;by_cases a:x.toNat=0
  ·rw[a]at h;cases h
  ·by_cases b:x.toNat=255
   ·congr 1;exact aoa.1 b
   ·rw[show((x.toNat:Int) !=0)=true from by simp;omega,show((x.toNat:Int) !=255)=true from by simp;omega]at h;cases h
def ahH:dH [255]=some (true,0):=by unfold dH syv;rfl
def afq{v:cb}(h:(fe v).length<9000000):okT (GI v):=by
 have a:(ak (gt v)).length<(fe v).length:=gi;exact rB omq omq omq
def ahI{N:Nat}(o:FN N)(v:cb)(h:qj v=true)(a:Bs)(n:fe v=a)(C:a.length<9000000):cG N a=some (v,0,0):=by
 obtain⟨s,c,b⟩:=v;have hO:gu s=true:=h;have D:(ak (gt (s,c,b))).length<a.length:=by rw[<-n];exact gi
 have y:=Aj s;have E:(ag (bS s)).length<=(ak (gt (s,c,b))).length:=fc _ _ (by simp[gt]);have z:(ag (iN b)).length<=(ak (gt (s,c,b))).length:=fc _ _ (by simp[gt]);have e:=bt (iN b);have p:b.length<(ag (iN b)).length:=e;have g:okT (bS s):=rB omq omq omq;have f:okT (iN b):=rB omq omq omq;have q:okT vt:=rB omq omq siq;have d:=PC o hO omq;unfold cG syv;cases c
 ·obtain⟨l,k,m⟩:=lg o (c:=0) (num:=16) omq omq a [bS s,iN b] (by rw[<-n];rfl) (by simp[g,f]) omq 0 16 rfl rfl;rw[k];rcases m with _|⟨i,_|⟨j,⟨⟩⟩⟩;have r:=i.yes 0 6 false 0 6 rfl rfl rfl rfl rfl;have t:=i.body;have u:=j.yes 0 4 false 0 4 rfl rfl rfl rfl rfl;have w:=j.body;simp[ix0,ix1,r,t,u,w,show(bS s).2.2.2=fh s from rfl,show(iN b).2.2.2=b from rfl,d,iz (show b.length<10000000 by omega),show aC .i64 2 1=1 from rfl]
 ·obtain⟨l,k,m⟩:=lg o (c:=0) (num:=16) omq omq a [bS s,vt,iN b] (by rw[<-n];rfl) (by simp[g,f,q]) omq 0 16 rfl rfl;rw[k];rcases m with _|⟨i,_|⟨j,_|⟨x,⟨⟩⟩⟩⟩;have r:=i.yes 0 6 false 0 6 rfl rfl rfl rfl rfl;have t:=i.body;have A:=j.yes 0 1 false 0 1 rfl rfl rfl rfl rfl;have B:=j.body;have u:=x.yes 0 4 false 0 4 rfl rfl rfl rfl rfl;have w:=x.body;simp[ix0,ix1,ix2,r,t,A,B,u,w,ahH,show(bS s).2.2.2=fh s from rfl,show vt.2.2.2=[255] from rfl,show(iN b).2.2.2=b from rfl,d,iz (show b.length<10000000 by omega),show aC .i64 3 1=2 from rfl]
def ahJ{N:Nat}(G:FN N)(a:Bs)(ha:a.length<9000000):OW (cG N a) (PS qj fe a):=by
 unfold cG syv;refine ah (nj G a omq 0 16) ?_;rintro⟨l,e,o⟩ (⟨j,n,m,_,_,F,h⟩|⟨m,D,E⟩)
 ·cases j;dsimp only at h⊢;have b:∀v:cb,PS qj fe a (v,3,0):=λv=>dE deq omq omq;rw[show((0:Int) !=0)=false from rfl,ak5];refine aw (λc=>aa (b _)) λC=> ?_;refine aw (λc=>aa (b _)) λc1=> ?_;rcases h with _| @⟨t1,e1,n,l,k1,h⟩
  ·cases C
  obtain⟨p,q,r,b1,B,b3,b4,b5,b6,b7⟩:=k1.bd;have Z:=bt t1;rw[ix0,akX];rcases k1.cs 0 6 false 0 6 rfl rfl with⟨z,w⟩|⟨z,_⟩
  ·rw[z,akX,al7,ak5,akX,akX,k1.body,akX];refine ah (pT G _ omq) ?_;rintro⟨s,e⟩ (⟨j,t,d2⟩|j)
   ·dsimp only at j t d2;subst j;dsimp only;have H:ag t1=ag (bS s):=by rw[w];unfold bS;rw[d2]
    rw[show((0:Int) !=0)=false from rfl,ak5];rcases h with _| @⟨t2,e2,n,l,k2,h⟩
    ·cases C
    obtain⟨p',q',r',g,I,K,M,P,S,U⟩:=k2.bd;have e9:=bt t2;rcases h with _| @⟨t3,e3,n,l,k3,h⟩
    ·rw[adh,show((2:Int)==3)=false from rfl,ak5,akX];dsimp only;rw[adh,show aC .i64 2 1=1 from rfl,ix1,akX];rcases k2.cs 0 4 false 0 4 rfl rfl with⟨i,f⟩|⟨i,_⟩
     ·rw[i,akX,al7,ak5,k2.body,akX,iz omq,akX];refine aa (xp t ?_);rw[F];show ag (0,true,16,ak [bS s,iN t2.2.2.2])=tlv 0 true 16 (ak [t1,t2]);rw[GU,GU,H,show iN t2.2.2.2=t2 from f.symm];rfl
     ·rw[i,akX,amR,ala];exact aa (dE deq (by rw[g];omega) (by rw[g];omega))
    ·rcases h with _| @⟨t4,e4,n,l,k4,h⟩
     ·obtain⟨p3,q3,r3,k,J,L,O,Q,T,V⟩:=k3.bd;have j3:=bt t3;have d:OW (some (Sum.inr (([]:Bs),false,(6:Int),e2.2.2.2.1)):Option ((Bs×List (Int×Int×Bool×Int×Int×Int)×Bs×Bool×Int×Int×Bs×Bool)⊕(Bs×Bool×Int×Int))) (λy=>y=Sum.inr ([],false,6,e2.2.2.2.1)∨y=Sum.inl (a,[e1,e2,e3],[],false,0,0,s,true)/\t2=vt):=aa (.inl rfl);rw[aib,show((3:Int)==3)=true from rfl,ala,ix1,akX,akX,k2.body,akX];obtain⟨bv,be,Y,u⟩:=ahG t2.2.2.2;rw[Y,akX];dsimp only;refine ah (R:=λy=>y=Sum.inr ([],false,6,e2.2.2.2.1)∨y=Sum.inl (a,[e1,e2,e3],[],false,0,0,s,true)/\t2=vt) ?_ ?_
      ·rw[akX];rcases k2.cs 0 1 false 0 1 rfl rfl with⟨i,f⟩|⟨i,_⟩
       ·rw[i,akX,al7,ak5];refine aw (λ_=>d) λW=> ?_;refine aw (λ_=>d) λX=> ?_;refine aa (.inr ⟨rfl,?_⟩);rw[f,u (by simpa using W) (by simpa using X)];rfl
       ·rw[i,akX,amR,ala];exact d
      ·rintro y (rfl|⟨rfl,f⟩)
       ·exact aa (dE deq (by rw[g];omega) (by rw[g];omega))
       ·dsimp only;rw[aib,show aC .i64 3 1=2 from rfl,ix2,akX];rcases k3.cs 0 4 false 0 4 rfl rfl with⟨A,x⟩|⟨A,_⟩
        ·rw[A,akX,al7,ak5,k3.body,akX,iz omq,akX];refine aa (xp t ?_);rw[F];show ag (0,true,16,ak [bS s,vt,iN t3.2.2.2])=tlv 0 true 16 (ak [t1,t2,t3]);rw[RC,RC,H,show iN t3.2.2.2=t3 from x.symm,f];rfl
        ·rw[A,akX,amR,ala];exact aa (dE deq (by rw[k];omega) (by rw[k];omega))
     ·exact absurd c1 soq
   ·cases j;exact aa (dE deq (by rw[B];omega) (by rw[B];omega))
  ·rw[z,akX,amR,ala];exact aa (b _)
 ·dsimp only at m D E⊢;rw[show(e !=0)=true from by simpa using m];exact aa (dE m D E)
end Go.Fw
namespace Go.Fw
open Go
def wL(l:List cb):Nat:=(l.map wE).sum+20
noncomputable def GK:List Bs->List cb->Bool
 |_,[]=>true
 |seen,x::r=> !Tx x.1 seen&&(gu x.1&&GK (Jb x.1 seen) r)
noncomputable def gP(l:List cb):Bool:=GK [] l&& !l.isEmpty
noncomputable def N5(l:List cb):TLV:=(0,true,16,(l.map fe).flatten)
noncomputable def fX(l:List cb):Bs:=ag (N5 l)
def Mt:∀(l:List cb)(seen:List Bs),GK seen l=true->∀x∈l,gu x.1=true
 |[],_,_,x,b=>by simp at b
 |a::r,seen,h,x,b=>by
  unfold GK at h;simp only[akY]at h;rcases alr.1 b with rfl|b
  ·exact h.2.1
  ·exact Mt r _ h.2.2 x b
def Qz{N:Nat}(a:FN N)(v:cb)(h:v.1.length<10000000):mg N v=some (gu v.1):=by
 unfold mg syv;rw[C0 a _ h];rfl
def ZZ{N:Nat}(b:FN N)(l:List cb)(h:l.length<10000000)(f:∀x∈l,x.1.length<10000000):∀(k n i:Nat)(seen:List Bs),l.length-i=k->k<n->i<=l.length->
 mS N n (l,l,(l.length:Int),(i:Int),seen)=some (bif GK seen (l.drop i) then .inr l else .inl false):=by
 intro k;induction k with
 |zero=>
  intro n i seen d e c;obtain⟨n,rfl⟩:∃m,n=m+1:=⟨n-1,omq⟩;show(bif decide ((i:Int)<(l.length:Int)) then _ else _)=_;rw[ak0 omq,ak5,alH omq];rfl
 |succ k g=>
  intro n i seen d e c;obtain⟨n,rfl⟩:∃m,n=m+1:=⟨n-1,omq⟩;have a:i<l.length:=omq;show(bif decide ((i:Int)<(l.length:Int)) then _ else _)=_;rw[ak3 omq,ala,bc (akZ a),akX,Qz b _ (f _ (alZ a)),akX,bu omq,aly a];unfold GK;cases Tx l[i].1 seen
  ·cases gu l[i].1
   ·rfl
   ·simp only[ak5,al7,amR,an7];exact g n (i+1) _ omq omq omq
  ·rfl
def GM{N:Nat}(c:FN N)(l:List cb)(d:l.length<10000000)(e:∀x∈l,x.1.length<10000000):pt N l=some (gP l):=by
 have b:=c;unfold FN at b;unfold pt gP syv;have h:=ZZ c l d e l.length N 0 [] omq omq omq;rw[show mS N N (l,l,(l.length:Int),0,[])=_ from h,akX,alR];cases GK [] l
 ·rfl
 ·simp only[ala,an7,ak1];cases l with
  |nil=>rfl
  |cons a r=>exact ak3 (by simp only[ak4];omega)
def N6{N:Nat}(a:FN N)(l:List cb)(b:l.length<10000000)(c:∀x∈l,x.1.length<10000000):mT N l=some (gP l):=by
 unfold mT syv;rw[GM a l b c];rfl
def HB(l:List cb)(h:wL l<50000000):((l.map fe).flatten).length+120<=6*wL l:=by
 unfold wL at h⊢;have:=Kf wE fe 6 l λv a=>acQ v (by have:=lc wE l v a;omega);omega
def Z0(l:List cb)(h:wL l<50000000):(fX l).length<=6*wL l:=by
 have a:=HB l h;have d:(fX l).length<=((l.map fe).flatten).length+6:=eC (c:=0) (num:=16) (k:=true) (b:=(l.map fe).flatten) omq;omega
def Uc(l:List cb):40*l.length+20<=wL l:=by
 have:=xe wE 40 (λv=>by unfold wE;omega) l;unfold wL;omega
def Ud{l:List cb}{x:cb}(h:x∈l):x.1.length+x.2.2.length+60<=wL l:=by
 have a:=lc wE l x h;have b:wE x=x.1.length+x.2.2.length+40:=rfl;unfold wL;omega
def ahK{N:Nat}(c:FN N)(l:List cb)(h:wL l<10000000):kS N l=some (bif gP l then(fX l,0) else([],8)):=by
 have d:=c;unfold FN at d;have m:=HB l omq;have o:=Uc l;unfold kS syv;rw[GM c l omq (λx b=>by have:=Ud b;omega),akX];cases f:gP l
 ·rfl
 ·have e:l.all qj=true:=by
   unfold gP at f;rw[akY]at f;exact alv.2 λx b=>Mt l [] f.1 x b
  have k:=XZ l qj fe (λn i a=>js N n (l,(l.length:Int),(i:Int),a)) (λp=>p) 8 (λn i x a b g=>by
   have j:=aj b;have q:=Ud (alz b);show(bif decide ((i:Int)<(l.length:Int)) then _ else _)=_;rw[ak3 omq,ala,bc b,akX,ajh c x (by unfold wE;omega)];cases qj x
   ·rfl
   ·simp only[ala,akX,al1];rw[show((0:Int) !=0)=false from rfl,ak5,dQ omq (by simp only[ak4,alq];omega),akX,bu omq];rfl) (λn a g=>by
   show(bif decide ((l.length:Int)<(l.length:Int)) then _ else _)=_;rw[ak0 omq];rfl) N omq
  rw[al7,ak5,show js N N (l,(l.length:Int),0,[])=_ from k,ali e,akX];dsimp only;rw[GJ c (l.map fe) _ rfl soq omq];rfl
def Ju{N:Nat}(q:FN N)(a:Bs)(b:List TLV)(l:List aV)(j:br (EL a) b l)(r:(ak b).length<9000000)(n i:Nat)(e:aV)(t:TLV)(acc:List cb)(v:cb)(c o:Int)(g:l[i]?=some e)(h:EL a t e)(d:acc.length=i)(p:cG N (ag t)=some (v,c,o)):
 aJ N (n+1) (a,l,(l.length:Int),(i:Int),0,0,acc)=bif c !=0 then some (.inl (c,ay .i64 e.2.2.2.1 o)) else aJ N n (a,l,(l.length:Int),((i+1:Nat):Int),0,0,acc++[v]):=by
 have m:=aj g;have f:=j.length;have k:=eN b;show(bif decide ((i:Int)<(l.length:Int)) then _ else _)=_;rw[ak3 omq,ala,bc g,akX,h.whole,akX,p,akX];dsimp only;rw[dQ omq (by simp only[ak4,alq];omega),akX,bu omq];rfl
def ahL{v:cb}(h:qj v=true):wE v<=32*(fe v).length:=by
 have a:=EY h;have b:=Aj v.1;have c:(ak (gt v)).length<(fe v).length:=gi;have d:(ag (bS v.1)).length+(ag (iN v.2.2)).length<=(ak (gt v)).length:=by
  unfold gt;cases v.2.1
  ·simp only[ak5,alN];rw[GU,ak2];omega
  ·simp only[ala,anS];rw[RC,ak2,ak2];omega
 have e:v.2.2.length<(ag (iN v.2.2)).length:=bt (iN v.2.2);unfold wE;omega
def Kh:∀(l:List cb),l.all qj=true->(l.map wE).sum<=32*((l.map fe).flatten).length
 |[],_=>by simp
 |v::l,h=>by
  rw[amw,akY]at h;have a:=ahL h.1;have b:=Kh l h.2;simp only[alc,amm,alx,ak2];omega
def GN{l:List cb}(h:gP l=true):l.all qj=true:=by
 unfold gP at h;rw[akY]at h;exact alv.2 λx a=>Mt l [] h.1 x a
def afr{l:List cb}(h:gP l=true):wL l<=32*(fX l).length:=by
 have a:=Kh l (GN h);have b:((l.map fe).flatten).length<(fX l).length:=bt (N5 l);unfold wL;omega
def afs{N:Nat}(g:FN N)(a:Bs)(O:a.length<300000):OW (bQ N a) (PS gP fX a):=by
 have s:=g;unfold FN at s;unfold bQ syv;refine ah (nj g a omq 0 16) ?_;rintro⟨l,e,o⟩ (⟨F,f,j,_,_,C,k⟩|⟨j,q,B⟩)
 ·cases F;dsimp only at k⊢;rw[show((0:Int) !=0)=false from rfl,ak5];have P:(ak f).length<a.length:=by rw[C];exact gi
  have I:=eN f;have E:=k.length;have A:=adZ a f l k qj fe (cG N) (λn i b=>aJ N n (a,l,(l.length:Int),(i:Int),0,0,b)) (λv=>((0:Int),(0:Int),v)) (λc o=>(c,o))
   (λt u=>ahJ g _ (by have:=fc f t u;omega))
   (λn i e t b v m r u d w=>by
     show aJ N (n+1) _=_;rw[Ju g a f l k omq n i e t b v 0 0 m r d w];rfl)
   (λn i e t b v c o m r u d w G=>by
     show aJ N (n+1) _=_;rw[Ju g a f l k omq n i e t b v c o m r d w,show(c !=0)=true from by simpa using G];rfl)
   (λn b D=>by
     show(bif decide ((l.length:Int)<(l.length:Int)) then _ else _)=_;rw[ak0 omq];rfl) N omq omq
  rw[show aJ N N (a,l,(l.length:Int),0,0,0,[])=aJ N N (a,l,(l.length:Int),((0:Nat):Int),0,0,[]) from rfl];rcases A with⟨h,y,z,p⟩|⟨c,o,y,z,p,M⟩
  ·rw[y,akX];dsimp only;have H:((h.map fe).flatten).length<300000:=by rw[p];show(ak f).length<_;omega
   have J:=Kh h z;have L:=xe wE 40 (λv=>by unfold wE;omega) h;rw[GM g h omq (λx m=>by
    have j:=lc wE h x m;have q:wE x=x.1.length+x.2.2.length+40:=rfl;omega),akX]
   cases K:gP h
   ·exact aa (dE deq omq omq)
   ·refine aa (xp K ?_);rw[C];unfold fX N5;rw[p];rfl
  ·rw[y,akX];exact aa (dE z p M)
 ·dsimp only at j q B⊢;rw[show(e !=0)=true from by simpa using j];exact aa (dE j q B)
def aft{N:Nat}(g:FN N)(r:List cb)(h:gP r=true)(a:Bs)(m:fX r=a)(I:a.length<300000):bQ N a=some (r,0,0):=by
 have p:=g;unfold FN at p;have J:((r.map fe).flatten).length<a.length:=by rw[<-m];exact bt (N5 r)
 have j:=Ub fe GI (λ_=>rfl) r;have d:∀v∈r,(fe v).length<9000000:=λv f=>by have:=xd fe r v f;omega
 have k:∀v∈r,qj v=true:=alv.1 (GN h);have E:=Kh r (GN h);have F:=xe wE 40 (λv=>by unfold wE;omega) r;obtain⟨l,A,o⟩:=lg g (c:=0) (num:=16) omq omq a (r.map GI) (by rw[<-m,<-j];rfl) (λt z=>by
  obtain⟨v,f,rfl⟩:=alW.1 z;exact afq (d v f)) omq 0 16 rfl rfl
 have y:=o.length;have D:(ak (r.map GI)).length<9000000:=by rw[<-j];omega
 have B:=eN (r.map GI);unfold bQ syv;rw[A,akX];dsimp only;have C:=Kg fe GI (λ_=>rfl) r;have u:=VY a (r.map GI) l o fe (cG N) (λn i b=>aJ N n (a,l,(l.length:Int),(i:Int),0,0,b)) (γ:=Int×Int) (λv=>((0:Int),(0:Int),v)) r C
  (λv f=>ahI g v (k v f) _ rfl (d v f))
  (λn i e t b v s m z q f=>by
    show aJ N (n+1) _=_;rw[Ju g a _ l o D n i e t b v 0 0 s m q f];rfl)
  (λn b w=>by
    show(bif decide ((l.length:Int)<(l.length:Int)) then _ else _)=_;rw[ak0 omq];rfl) N omq
 rw[show((0:Int) !=0)=false from rfl,ak5,show aJ N N (a,l,(l.length:Int),0,0,0,[])=aJ N N (a,l,(l.length:Int),((0:Nat):Int),0,0,[]) from rfl,u,akX];dsimp only;rw[GM g r omq (λx s=>by
  have G:=lc wE r x s;have H:wE x=x.1.length+x.2.2.length+40:=rfl;omega),h]
 rfl
end Go.Fw
namespace Go.Fw
open Go
def Ny(y:Int):Bool:=bif (Int.tmod y 4==0) then(bif (Int.tmod y 100 !=0) then true else(Int.tmod y 400==0)) else false
def abN(y:Int):AK y=some (Ny y):=by
 unfold AK Ny syv;cases (Int.tmod y 4==0)<;>cases (Int.tmod y 100 !=0)<;>rfl
def Nz(l:Bool):Nat->Int
 |1=>31|2=>(if l then 29 else 28)|3=>31|4=>30|5=>31|6=>30|7=>31|8=>31|9=>30|10=>31|11=>30|12=>31|_=>0
def F9(y m:Int):Int:=if 0<=y/\y<=9999 then Nz (Ny y) m.toNat else 0
def abO(y m:Int):AL y m=some (F9 y m):=by
 unfold AL F9 syv;rw[abN];by_cases a:y<0
 ·rw[ak3 a,alJ omq];rfl
 ·by_cases c:y>9999
  ·rw[ak0 a,ak3 c,alJ omq];rfl
  ·rw[ak0 a,ak0 c,ali omq];generalize Ny y=l;by_cases b:m<1
   ·rw[ak3 b];have:m.toNat=0:=omq;rw[this];rfl
   ·by_cases d:m>12
    ·rw[ak0 b,ak3 d];obtain⟨k,e⟩:∃k,m.toNat=k+13:=⟨m.toNat-13,omq⟩;rw[e];rfl
    ·rw[ak0 b,ak0 d];have f:m=1∨m=2∨m=3∨m=4∨m=5∨m=6∨m=7∨m=8∨m=9∨m=10∨m=11∨m=12:=omq;rcases f with rfl|rfl|rfl|rfl|rfl|rfl|rfl|rfl|rfl|rfl|rfl|rfl<;>cases l<;>rfl
abbrev dI:=Int×Int×Int×Int×Int×Int
def pG(t:dI):Bool:=decide (t.2.2.2.1>=0)&&(decide (t.2.2.2.1<24)&&(decide (t.2.2.2.2.1>=0)&&(decide (t.2.2.2.2.1<60)&&(decide (t.2.2.2.2.2>=0)&&(decide (t.2.2.2.2.2<60)&&(decide (t.2.2.1>=1)&&decide (t.2.2.1<=F9 t.1 t.2.1)))))))
def xV(t:dI):kX t=some (pG t):=by
 obtain⟨y,b,d,h,a,s⟩:=t;unfold kX pG syv;simp only[abO,akX];cases decide (h>=0)<;>cases decide (h<24)<;>cases decide (a>=0)<;>cases decide (a<60)<;>cases decide (s>=0)<;>cases decide (s<60)<;>cases decide (d>=1)<;>rfl
def ij(t:dI):Bool:=pG t&&decide (t.1>=1950)
def uT(t:dI):rX t=some (ij t):=by
 unfold rX ij syv;rw[xV];simp only[akX];cases pG t<;>rfl
end Go.Fw
def an0:=@Int.tmod_eq_emod_of_nonneg
def aoV:=@Int.ofNat_inj
namespace Go.Fw
open Go
def dg(d:Nat):UInt8:=UInt8.ofNat (48+d)
def Z5{d:Nat}(h:d<=9):(dg d).toNat=48+d:=by unfold dg;rw[amx];omega
def d2(n:Nat):Bs:=[dg (n / 10),dg (n % 10)]
def Ki(b d h a s:Nat):Bs:=d2 b++(d2 d++(d2 h++(d2 a++(d2 s++[90]))))
def GO(y b d h a s:Nat):Bs:=d2 (y % 100)++Ki b d h a s
def BG(y b d h a s:Nat):Bs:=d2 (y / 100)++(d2 (y % 100)++Ki b d h a s)
def acR(y m:Int):F9 y m<=31:=by
 unfold F9;split
 ·have:∀(l:Bool)(k:Nat),Nz l k<=31:=by
   intro l k;unfold Nz;split<;>first|omega|(split<;>omega)
  exact this _ _
 ·omega
def Z6{y m:Int}(h:1<=F9 y m):0<=y/\y<=9999/\1<=m/\m<=12:=by
 unfold F9 at h;split at h
 ·rename_i a;refine⟨a.1,a.2,?_⟩;by_cases b:1<=m/\m<=12
  ·exact b
  ·exfalso;have e:Nz (Ny y) m.toNat=0:=by
    rcases alf 12 m.toNat with c|c
    ·obtain⟨k,d⟩:∃k,m.toNat=k+13:=⟨m.toNat-13,omq⟩;rw[d];rfl
    ·have:m.toNat=0:=omq;rw[this];rfl
   omega
 ·omega
def tu{t:dI}(h:pG t=true):∃y a d h b s:Nat,t=((y:Int),(a:Int),(d:Int),(h:Int),(b:Int),(s:Int))/\y<=9999/\1<=a/\a<=12/\1<=d/\d<=31/\h<24/\b<60/\s<60:=by
 obtain⟨y,a,d,g,b,s⟩:=t;unfold pG at h;simp only[akY,alL]at h;obtain⟨c,j,e,k,f,l,n,o⟩:=h;have p:=acR y a;obtain⟨i,q,r,u⟩:=Z6 (y:=y) (m:=a) omq;refine⟨y.toNat,a.toNat,d.toNat,g.toNat,b.toNat,s.toNat,?_,omq,omq,omq,omq,omq,omq,omq,omq⟩;rw[amN i,amN omq,amN omq,amN c,amN e,amN f]
def N7(n:Nat)(h:n<1000):toB (IntKind.wrap .u8 (ay .i64 48 (vf .i64 (n:Int) 10)))=some (dg (n / 10)):=by
 have e:vf .i64 (n:Int) 10=((n / 10:Nat):Int):=by
  show IntKind.i64.wrap ((n:Int).tdiv 10)=_;rw[anw omq,alA _ omq];omega
 rw[e,bO omq,show(48:Int)+((n / 10:Nat):Int)=((48+n / 10:Nat):Int) from omq,lW];unfold dg;rw[show(48+n / 10) % 256=48+n / 10 from omq]
def N8(n:Nat):toB (IntKind.wrap .u8 (ay .i64 48 (Int.tmod (n:Int) 10)))=some (dg (n % 10)):=by
 have e:Int.tmod (n:Int) 10=((n % 10:Nat):Int):=by
  rw[an0 omq];omega
 rw[e,bO omq,show(48:Int)+((n % 10:Nat):Int)=((48+n % 10:Nat):Int) from omq,lW];unfold dg;rw[show(48+n % 10) % 256=48+n % 10 from omq]
def X1{b α:Type}(x:Option b)(K:b->Option α):∀(a:List (Option b)),a≠[]->(∀o∈a,o=x)->agree a K=x.bind K:=by
 intro a c h
 match a with
 |[]=>exact absurd rfl c
 |o::r=>
  have e:o::r=List.replicate (r.length+1) x:=List.eq_replicate_iff.2 ⟨by simp,h⟩;rw[e,lL]
def BH(N n i:Nat)(l:List Int)(x:Nat)(a a2 a3 a4 a5 b:Int)(acc:Bs)(c:l[i]?=some (x:Int))(d:l.length<=1000)(f:x<1000)(g:acc.length<=100000):cJ N (n+1) (l,(l.length:Int),(i:Int),a,a2,a3,a4,a5,b,acc)=cJ N n (l,(l.length:Int),((i+1:Nat):Int),a,a2,a3,a4,a5,b,acc++d2 x):=by
 have e:=aj c;show(bif decide ((i:Int)<(l.length:Int)) then _ else _)=_;rw[ak3 omq,ala,bc c,akX,N7 x f,akX,N8,akX,dQ omq (by simp only[ak4,alq];omega),akX,bu omq];rfl
def acS(N n:Nat)(l:List Int)(a a2 a3 a4 a5 b:Int)(acc:Bs):cJ N (n+1) (l,(l.length:Int),(l.length:Int),a,a2,a3,a4,a5,b,acc)=some (a,a2,a3,a4,a5,b,acc):=by
 show(bif decide ((l.length:Int)<(l.length:Int)) then _ else _)=_;rw[ak0 omq];rfl
def Z7{N:Nat}(f:FN N)(b d h a s:Nat)(j:b<=99/\d<=99/\h<=99/\a<=99/\s<=99)(c a2 a3 a4 a5 e:Int)(acc:Bs)(i:acc.length<=100):
 cJ N N ([(b:Int),(d:Int),(h:Int),(a:Int),(s:Int)],(([(b:Int),(d:Int),(h:Int),(a:Int),(s:Int)].length:Nat):Int),0,c,a2,a3,a4,a5,e,acc)=some (c,a2,a3,a4,a5,e,acc++(d2 b++(d2 d++(d2 h++(d2 a++d2 s))))):=by
 unfold FN at f;obtain⟨n,g⟩:∃n,N=n+6:=⟨N-6,omq⟩;rw[show cJ N N=cJ N (n+6) from by rw[<-g],show(0:Int)=((0:Nat):Int) from rfl];have L:∀x:Nat,(d2 x).length=2:=λ_=>rfl;rw[BH N (n+5) 0 _ b _ _ _ _ _ _ _ rfl siq omq omq,BH N (n+4) 1 _ d _ _ _ _ _ _ _ rfl siq omq (by simp[L];omega),BH N (n+3) 2 _ h _ _ _ _ _ _ _ rfl siq omq (by simp[L];omega),BH N (n+2) 3 _ a _ _ _ _ _ _ _ rfl siq omq (by simp[L];omega),BH N (n+1) 4 _ s _ _ _ _ _ _ _ rfl siq omq (by simp[L];omega)];refine(acS N n _ _ _ _ _ _ _ _).trans ?_;simp[alp]
def ahM{N:Nat}(f:FN N)(b d h a s:Nat)(i:b<=99/\d<=99/\h<=99/\a<=99/\s<=99)(c a2 a3 a4 a5 e:Int)(acc:Bs)(g:acc.length<=100):
 ic N N ([(b:Int),(d:Int),(h:Int),(a:Int),(s:Int)],(([(b:Int),(d:Int),(h:Int),(a:Int),(s:Int)].length:Nat):Int),0,c,a2,a3,a4,a5,e,acc)=some (c,a2,a3,a4,a5,e,acc++(d2 b++(d2 d++(d2 h++(d2 a++d2 s))))):=Z7 f b d h a s i c a2 a3 a4 a5 e acc g
def Z8(y:Nat):Int.tmod (y:Int) 100=((y % 100:Nat):Int):=by
 rw[an0 omq];omega
def ahN(y:Nat)(h:y<100000):vf .i64 (y:Int) 100=((y / 100:Nat):Int):=by
 show IntKind.i64.wrap ((y:Int).tdiv 100)=_;rw[anw omq,alA _ omq];omega
def afu{N:Nat}(f:FN N)(y b d h a s:Nat)(c:pG ((y:Int),(b:Int),(d:Int),(h:Int),(a:Int),(s:Int))=true)(g:1950<=y)(i:y<=2049):mq N ((y:Int),(b:Int),(d:Int),(h:Int),(a:Int),(s:Int))=some (GO y b d h a s,0):=by
 obtain⟨_,_,_,_,_,_,e,_,_,_,_,_,_,_,_⟩:=tu c;simp only[aln,aoV]at e;have L:∀x:Nat,(d2 x).length=2:=λ_=>rfl;unfold mq;rw[xV,c,akX,al7,ak5,ak0 (by dsimp only;omega),ak5,ak0 (by dsimp only;omega),ak5,lL];simp only[Z8];rw[N7 _ omq,akX,N8,akX,dQ omq siq,akX,lL];rw[Z7 f b d h a s omq _ _ _ _ _ _ _ siq,akX];dsimp only;rw[dQ omq (by simp[L]),akX];simp[GO,Ki,d2]
def afv{N:Nat}(g:FN N)(y b d h a s:Nat)(f:pG ((y:Int),(b:Int),(d:Int),(h:Int),(a:Int),(s:Int))=true):jk N ((y:Int),(b:Int),(d:Int),(h:Int),(a:Int),(s:Int))=some (BG y b d h a s,0):=by
 obtain⟨_,_,_,_,_,_,e,_,_,_,_,_,_,_,_⟩:=tu f;simp only[aln,aoV]at e;have L:∀x:Nat,(d2 x).length=2:=λ_=>rfl;unfold jk;rw[xV,f,akX,al7,ak5];refine(X1 (some (BG y b d h a s,0)) _ _ siq ?_).trans rfl;have c:∀k:Nat,wg N ((y:Int),(b:Int),(d:Int),(h:Int),(a:Int),(s:Int)) (k+1)=some (BG y b d h a s,0):=by
  intro k;unfold wg;dsimp only;rw[ahN y omq,Z8,N7 _ omq,akX,N8,akX,dQ omq siq,akX,lL,N7 _ omq,akX,N8,akX,dQ omq siq,akX,lL,ahM g b d h a s omq _ _ _ _ _ _ _ siq,akX];dsimp only;rw[dQ omq (by simp[L]),akX];simp[BG,Ki,d2]
 repeat' first|refine List.forall_mem_cons.2 ⟨c _,?_⟩|exact λ_ h=>absurd h ant
def isD(b:UInt8):Bool:=decide (48<=b.toNat/\b.toNat<=57)
def dU{b:UInt8}(h:isD b=true):∃d,d<=9/\b=dg d:=by
 have a:=alC h;refine⟨b.toNat-48,omq,?_⟩;unfold dg;rw[show 48+(b.toNat-48)=b.toNat from omq];simp
def Z9{d:Nat}(h:d<=9):isD (dg d)=true:=by
 unfold isD;rw[Z5 h];exact ak3 omq
def Jv(N:Nat)(k:Int)(s a:Bs)(j:s.length<10000000):∀(m n i:Nat),s.length-i=m->m<n->i<=s.length->
 fK N n (k,s,(s.length:Int),(i:Int),a,0,0,0,0,0,0)=some (bif (s.drop i).all isD then .inr (k,a,0,0,0,0,0,0) else .inl (false,0,0,0,0,0,0)):=by
 intro m;induction m with
 |zero=>
  intro n i d e c;obtain⟨n,rfl⟩:∃m,n=m+1:=⟨n-1,omq⟩;show(bif decide ((i:Int)<(s.length:Int)) then _ else _)=_;rw[ak0 omq,ak5,alH omq];rfl
 |succ m f=>
  intro n i d e c;obtain⟨n,rfl⟩:∃m,n=m+1:=⟨n-1,omq⟩;have b:i<s.length:=omq;show(bif decide ((i:Int)<(s.length:Int)) then _ else _)=_;rw[ak3 omq,ala,bc (akZ b),akX,bu omq,aly b,amw];by_cases g:s[i].toNat<48
  ·rw[ak3 (by omega:((s[i].toNat:Nat):Int)<48),show isD s[i]=false from ak0 omq];rfl
  ·rw[ak0 (by omega:¬((s[i].toNat:Nat):Int)<48),ak5];by_cases h:s[i].toNat>57
   ·rw[ak3 (by omega:((s[i].toNat:Nat):Int)>57),show isD s[i]=false from ak0 omq];rfl
   ·rw[ak0 (by omega:¬((s[i].toNat:Nat):Int)>57),show isD s[i]=true from ak3 omq,ak5,an7];exact f n (i+1) omq omq omq
def dgv{d:Nat}(h:d<=9):IntKind.wrap .i64 (aC .u8 ((dg d).toNat:Int) 48)=(d:Int):=by
 rw[Z5 h];show IntKind.wrap .i64 (IntKind.u8.wrap (((48+d:Nat):Int)-48))=_;rw[IntKind.wrap_u8,alA _ omq];omega
def xf(d e:Nat)(hd:d<=9)(a:e<=9):ay .i64 (iB .i64 (IntKind.wrap .i64 (aC .u8 ((dg d).toNat:Int) 48)) 10) (IntKind.wrap .i64 (aC .u8 ((dg e).toNat:Int) 48))=((10*d+e:Nat):Int):=by
 rw[dgv hd,dgv a];show IntKind.i64.wrap (IntKind.i64.wrap ((d:Int)*10)+(e:Int))=_;rw[alA ((d:Int)*10) omq,alA _ omq];omega
def qk(d e:Nat)(hd:d<=9)(a:e<=9):d2 (10*d+e)=[dg d,dg e]:=by
 unfold d2;rw[show(10*d+e) / 10=d from omq,show(10*d+e) % 10=e from omq]
end Go.Fw
namespace Go.Fw
open Go
def Ue{N:Nat}(U:FN N)(j m g o p q r s t u d f:Nat)(h:j<=9/\m<=9/\g<=9/\o<=9/\p<=9/\q<=9/\r<=9/\s<=9/\t<=9/\u<=9/\d<=9/\f<=9)(y:Nat)(z:y=if 10*j+m<50 then 10*j+m+2000 else 10*j+m+1900):
 eG N [dg j,dg m,dg g,dg o,dg p,dg q,dg r,dg s,dg t,dg u,dg d,dg f,90] 2=some (((y:Int),((10*g+o:Nat):Int),((10*p+q:Nat):Int),((10*r+s:Nat):Int),((10*t+u:Nat):Int),((10*d+f:Nat):Int)),pG ((y:Int),((10*g+o:Nat):Int),((10*p+q:Nat):Int),((10*r+s:Nat):Int),((10*t+u:Nat):Int),((10*d+f:Nat):Int))):=by
 have A:=U;unfold FN at A;obtain⟨G,H,J,L,M,O,P,Q,R,S,w,x⟩:=h;unfold eG;rw[show((([dg j,dg m,dg g,dg o,dg p,dg q,dg r,dg s,dg t,dg u,dg d,dg f,90].length:Nat):Int) !=ay .i64 2 11)=false from rfl,ak5];rw[show ix [dg j,dg m,dg g,dg o,dg p,dg q,dg r,dg s,dg t,dg u,dg d,dg f,90] (aC .i64 (([dg j,dg m,dg g,dg o,dg p,dg q,dg r,dg s,dg t,dg u,dg d,dg f,90].length:Nat):Int) 1)=some 90 from rfl,akX,show((((90:UInt8).toNat:Nat):Int) !=90)=false from rfl,ak5];rw[show slc [dg j,dg m,dg g,dg o,dg p,dg q,dg r,dg s,dg t,dg u,dg d,dg f,90] 0 (aC .i64 (([dg j,dg m,dg g,dg o,dg p,dg q,dg r,dg s,dg t,dg u,dg d,dg f,90].length:Nat):Int) 1)=some [dg j,dg m,dg g,dg o,dg p,dg q,dg r,dg s,dg t,dg u,dg d,dg f] from rfl,akX];have T:=Jv N 2 [dg j,dg m,dg g,dg o,dg p,dg q,dg r,dg s,dg t,dg u,dg d,dg f] [dg j,dg m,dg g,dg o,dg p,dg q,dg r,dg s,dg t,dg u,dg d,dg f,90] siq 12 N 0 rfl omq siq;rw[alR,show([dg j,dg m,dg g,dg o,dg p,dg q,dg r,dg s,dg t,dg u,dg d,dg f]:Bs).all isD=true from by simp[Z9,G,H,J,L,M,O,P,Q,R,S,w,x]]at T;rw[show fK N N (2,[dg j,dg m,dg g,dg o,dg p,dg q,dg r,dg s,dg t,dg u,dg d,dg f],_,0,_,0,0,0,0,0,0)=_ from T,ala,akX];dsimp only;rw[ix0,akX,ix1,akX,show((2:Int)==4)=false from rfl,ak5,xf j m G H];have B:∀K:Int->Option ((Int×Int×Int×Int×Int×Int)×Bool),(bif decide (ay .i64 ((10*j+m:Nat):Int) 1900<1950) then K (ay .i64 (ay .i64 ((10*j+m:Nat):Int) 1900) 100) else K (ay .i64 ((10*j+m:Nat):Int) 1900))=K (y:Int):=by
  intro K;rw[bO (a:=((10*j+m:Nat):Int)) omq];by_cases v:10*j+m<50
  ·rw[ak3 omq,ala,bO omq,z,ali v];congr 1
  ·rw[ak0 omq,ak5,z,alJ v];congr 1
 have D:∀(c:Bool)(E F:Int)(l:Bs),((((bif c then some (l,(0:Int),(0:Int),(0:Int),(0:Int),(0:Int),(0:Int),(2:Int),E,(0:Int),(0:Int),(0:Int),(0:Int),(0:Int)) else some (l,(0:Int),(0:Int),(0:Int),(0:Int),(0:Int),(0:Int),(2:Int),F,(0:Int),(0:Int),(0:Int),(0:Int),(0:Int)):Option (Bs×Int×Int×Int×Int×Int×Int×Int×Int×Int×Int×Int×Int×Int)))))=some (l,(0:Int),(0:Int),(0:Int),(0:Int),(0:Int),(0:Int),(2:Int),bif c then E else F,(0:Int),(0:Int),(0:Int),(0:Int),(0:Int)):=by
  intro c E F l;cases c<;>rfl
 have C:(bif decide (ay .i64 ((10*j+m:Nat):Int) 1900<1950) then(ay .i64 (ay .i64 ((10*j+m:Nat):Int) 1900) 100) else(ay .i64 ((10*j+m:Nat):Int) 1900))=(y:Int):=by
  rw[bO (a:=((10*j+m:Nat):Int)) omq];by_cases v:10*j+m<50
  ·rw[ak3 omq,ala,bO omq,z,ali v];omega
  ·rw[ak0 omq,ak5,z,alJ v];omega
 rw[D,C,akX];dsimp only;rw[akX];dsimp only;generalize n:[dg j,dg m,dg g,dg o,dg p,dg q,dg r,dg s,dg t,dg u,dg d,dg f,(90:UInt8)]=cc;have I:∀(i:Int)(k:Nat)(b:UInt8),i=(k:Int)->cc[k]?=some b->ix cc i=some b:=λi k b e V=>by rw[e];exact bc V
 simp only[show ay .i64 2 2=4 from rfl,show ay .i64 4 2=6 from rfl,show ay .i64 6 2=8 from rfl,show ay .i64 8 2=10 from rfl,show ay .i64 10 2=12 from rfl,show ay .i64 12 2=14 from rfl,show aC .i64 4 2=2 from rfl,show aC .i64 4 1=3 from rfl,show aC .i64 6 2=4 from rfl,show aC .i64 6 1=5 from rfl,show aC .i64 8 2=6 from rfl,show aC .i64 8 1=7 from rfl,show aC .i64 10 2=8 from rfl,show aC .i64 10 1=9 from rfl,show aC .i64 12 2=10 from rfl,show aC .i64 12 1=11 from rfl,show aC .i64 14 2=12 from rfl,show aC .i64 14 1=13 from rfl];rw[I 2 2 (dg g) rfl (by rw[<-n];rfl),akX,I 3 3 (dg o) rfl (by rw[<-n];rfl),akX,I 4 4 (dg p) rfl (by rw[<-n];rfl),akX,I 5 5 (dg q) rfl (by rw[<-n];rfl),akX,I 6 6 (dg r) rfl (by rw[<-n];rfl),akX,I 7 7 (dg s) rfl (by rw[<-n];rfl),akX,I 8 8 (dg t) rfl (by rw[<-n];rfl),akX,I 9 9 (dg u) rfl (by rw[<-n];rfl),akX,I 10 10 (dg d) rfl (by rw[<-n];rfl),akX,I 11 11 (dg f) rfl (by rw[<-n];rfl),akX];rw[xf g o J L,xf p q M O,xf r s P Q,xf t u R S,xf d f w x,xV];rfl
def Uf{N:Nat}(Q:FN N)(g j s t f l m n o p q r c d:Nat)(h:g<=9/\j<=9/\s<=9/\t<=9/\f<=9/\l<=9/\m<=9/\n<=9/\o<=9/\p<=9/\q<=9/\r<=9/\c<=9/\d<=9)(y:Nat)(U:y=100*(10*g+j)+(10*s+t)):
 eG N [dg g,dg j,dg s,dg t,dg f,dg l,dg m,dg n,dg o,dg p,dg q,dg r,dg c,dg d,90] 4=some (((y:Int),((10*f+l:Nat):Int),((10*m+n:Nat):Int),((10*o+p:Nat):Int),((10*q+r:Nat):Int),((10*c+d:Nat):Int)),pG ((y:Int),((10*f+l:Nat):Int),((10*m+n:Nat):Int),((10*o+p:Nat):Int),((10*q+r:Nat):Int),((10*c+d:Nat):Int))):=by
 have x:=Q;unfold FN at x;obtain⟨B,C,O,P,D,E,F,G,H,J,K,L,v,w⟩:=h;unfold eG;generalize a:[dg g,dg j,dg s,dg t,dg f,dg l,dg m,dg n,dg o,dg p,dg q,dg r,dg c,dg d,(90:UInt8)]=cc;generalize u:[dg g,dg j,dg s,dg t,dg f,dg l,dg m,dg n,dg o,dg p,dg q,dg r,dg c,dg d]=ss;have I:∀(i:Int)(k:Nat)(b:UInt8),i=(k:Int)->cc[k]?=some b->ix cc i=some b:=λi k b e R=>by rw[e];exact bc R
 have S:((cc.length:Nat):Int)=15:=by rw[<-a];rfl
 have T:ss.length=14:=by rw[<-u];rfl
 have z:slc cc 0 14=some ss:=by rw[<-a,<-u];rfl
 have M:=Jv N 4 ss cc omq 14 N 0 omq omq omq;rw[alR,show ss.all isD=true from by rw[<-u];simp[Z9,B,C,O,P,D,E,F,G,H,J,K,L,v,w]]at M;rw[S,show((15:Int) !=ay .i64 4 11)=false from rfl,ak5,show aC .i64 15 1=14 from rfl,I 14 14 90 rfl (by rw[<-a];rfl),akX,show((((90:UInt8).toNat:Nat):Int) !=90)=false from rfl,ak5,z,akX,show fK N N (4,ss,((ss.length:Nat):Int),0,cc,0,0,0,0,0,0)=_ from M,ala,akX];dsimp only;rw[I 0 0 (dg g) rfl (by rw[<-a];rfl),akX,I 1 1 (dg j) rfl (by rw[<-a];rfl),akX,show((4:Int)==4)=true from rfl,ala,lL,I 2 2 (dg s) rfl (by rw[<-a];rfl),akX,I 3 3 (dg t) rfl (by rw[<-a];rfl),akX,akX];dsimp only;rw[akX];dsimp only;have A:ay .i64 (iB .i64 100 ((10*g+j:Nat):Int)) ((10*s+t:Nat):Int)=(y:Int):=by
  show IntKind.i64.wrap (IntKind.i64.wrap (100*((10*g+j:Nat):Int))+_)=_;rw[alA (100*((10*g+j:Nat):Int)) omq,alA _ omq];omega
 simp only[show ay .i64 2 2=4 from rfl,show ay .i64 4 2=6 from rfl,show ay .i64 6 2=8 from rfl,show ay .i64 8 2=10 from rfl,show ay .i64 10 2=12 from rfl,show ay .i64 12 2=14 from rfl,show aC .i64 4 2=2 from rfl,show aC .i64 4 1=3 from rfl,show aC .i64 6 2=4 from rfl,show aC .i64 6 1=5 from rfl,show aC .i64 8 2=6 from rfl,show aC .i64 8 1=7 from rfl,show aC .i64 10 2=8 from rfl,show aC .i64 10 1=9 from rfl,show aC .i64 12 2=10 from rfl,show aC .i64 12 1=11 from rfl,show aC .i64 14 2=12 from rfl,show aC .i64 14 1=13 from rfl];rw[I 4 4 (dg f) rfl (by rw[<-a];rfl),akX,I 5 5 (dg l) rfl (by rw[<-a];rfl),akX,I 6 6 (dg m) rfl (by rw[<-a];rfl),akX,I 7 7 (dg n) rfl (by rw[<-a];rfl),akX,I 8 8 (dg o) rfl (by rw[<-a];rfl),akX,I 9 9 (dg p) rfl (by rw[<-a];rfl),akX,I 10 10 (dg q) rfl (by rw[<-a];rfl),akX,I 11 11 (dg r) rfl (by rw[<-a];rfl),akX,I 12 12 (dg c) rfl (by rw[<-a];rfl),akX,I 13 13 (dg d) rfl (by rw[<-a];rfl),akX];rw[xf g j B C,xf s t O P,xf f l D E,xf m n F G,xf o p H J,xf q r K L,xf c d v w,A,xV];rfl
end Go.Fw
namespace Go.Fw
open Go
def V3{N:Nat}(l:FN N)(c:Bs)(k:Nat)(n:c.length<10000000)(o:k=2∨k=4):(∃s,c=s++[90]/\s.length=k+10/\s.all isD=true)∨eG N c (k:Int)=some ((0,0,0,0,0,0),false):=by
 have f:=l;unfold FN at f;unfold eG;have d:ay .i64 (k:Int) 11=((k+11:Nat):Int):=by rw[bO omq];omega
 rw[d];by_cases a:c.length=k+11
 ·obtain⟨s,b,rfl⟩:∃s b,c=s++[b]:=⟨c.dropLast,c.getLast (λe=>by rw[e]at a;simp at a),(amB _).symm⟩;have m:s.length=k+10:=by simp at a;omega
  rw[show(((s++[b]).length:Int) !=((k+11:Nat):Int))=false from by rw[a];simp,ak5,WV omq omq,bc (show(s++[b])[(s++[b]).length-1]?=some b from by rw[a,show k+11-1=s.length from omq];simp),akX];by_cases i:b=90
  ·subst i;by_cases h:s.all isD=true
   ·exact .inl ⟨s,rfl,m,h⟩
   ·right;rw[show((((90:UInt8).toNat:Nat):Int) !=90)=false from rfl,ak5];have g:slc (s++[(90:UInt8)]) 0 (((s++[(90:UInt8)]).length-1:Nat):Int)=some s:=by
     unfold slc;rw[ali ⟨omq,omq,omq⟩,al5,a,show k+11-1=s.length from omq];simp
    have j:=Jv N (k:Int) s (s++[90]) omq s.length N 0 omq omq omq;rw[alR,show s.all isD=false from by simpa using h]at j;rw[g,akX,show fK N N ((k:Int),s,(s.length:Int),0,s++[90],0,0,0,0,0,0)=_ from j,ak5];rfl
  ·right;rw[show(((b.toNat:Nat):Int) !=90)=true from by
    simp only[aoZ,ne_eq];intro e;exact i (aoa.1 (by rw[show b.toNat=90 from omq];rfl))]
   rfl
 ·right;rw[show((c.length:Int) !=((k+11:Nat):Int))=true from by simp only[aoZ,ne_eq];omega];rfl
def Jw(t:dI)(y b d h a s:Nat):Prop:=t=((y:Int),(b:Int),(d:Int),(h:Int),(a:Int),(s:Int))/\pG t=true
def aae{N:Nat}(H:FN N)(c:Bs)(X:c.length<10000000):OW (eJ N c) λr=>(r.2=0/\∃y J d h I s,Jw r.1 y J d h I s/\1950<=y/\y<=2049/\c=GO y J d h I s)∨r=((0,0,0,0,0,0),6):=by
 unfold eJ syv;rcases V3 H c 2 X omq with⟨s,rfl,Y,t⟩|h
 ·match s,Y,t with
  |[a0,a1,a2,a3,a4,a5,a6,a7,a8,a9,K,L],_,t=>
   simp only[amw,List.all_nil,aoU,akY]at t;obtain⟨M,O,P,Q,R,S,T,U,V,W,u,v⟩:=t;obtain⟨f,w,rfl⟩:=dU M;obtain⟨g,x,rfl⟩:=dU O;obtain⟨e,z,rfl⟩:=dU P;obtain⟨k,A,rfl⟩:=dU Q;obtain⟨l,B,rfl⟩:=dU R;obtain⟨m,C,rfl⟩:=dU S;obtain⟨n,D,rfl⟩:=dU T;obtain⟨o,E,rfl⟩:=dU U;obtain⟨p,F,rfl⟩:=dU V;obtain⟨q,G,rfl⟩:=dU W;obtain⟨a,i,rfl⟩:=dU u;obtain⟨b,j,rfl⟩:=dU v;have h:=Ue H f g e k l m n o p q a b ⟨w,x,z,A,B,C,D,E,F,G,i,j⟩ _ rfl;rw[show [dg f,dg g,dg e,dg k,dg l,dg m,dg n,dg o,dg p,dg q,dg a,dg b]++[(90:UInt8)]=[dg f,dg g,dg e,dg k,dg l,dg m,dg n,dg o,dg p,dg q,dg a,dg b,90] from rfl,h,akX];dsimp only;refine aw (λZ=>aa (.inl ⟨rfl,_,_,_,_,_,_,⟨rfl,Z⟩,?_,?_,?_⟩)) λ_=>aa (.inr rfl)
   ·split<;>omega
   ·split<;>omega
   ·unfold GO Ki;rw[qk e k z A,qk l m B C,qk n o D E,qk p q F G,qk a b i j,show(if 10*f+g<50 then 10*f+g+2000 else 10*f+g+1900) % 100=10*f+g from by split<;>omega,qk f g w x];rfl
 ·rw[show eG N c 2=_ from h];exact aa (.inr rfl)
def QA{N:Nat}(L:FN N)(c:Bs)(hc:c.length<10000000):OW (cX N c) λr=>(r.2=0/\∃y O d h M s,Jw r.1 y O d h M s/\c=BG y O d h M s)∨r=((0,0,0,0,0,0),6):=by
 unfold cX syv;rcases V3 L c 4 hc omq with⟨s,rfl,hs,v⟩|h
 ·match s,hs,v with
  |[a0,a1,b0,b1,a2,a3,a4,a5,a6,a7,a8,a9,P,Q],_,v=>
   simp only[amw,List.all_nil,aoU,akY]at v;obtain⟨R,S,k0,k1,T,U,V,W,X,Y,Z,h9,w,x⟩:=v;obtain⟨f,B,rfl⟩:=dU R;obtain⟨g,C,rfl⟩:=dU S;obtain⟨i,z,rfl⟩:=dU k0;obtain⟨j,A,rfl⟩:=dU k1;obtain⟨e,D,rfl⟩:=dU T;obtain⟨m,E,rfl⟩:=dU U;obtain⟨n,F,rfl⟩:=dU V;obtain⟨o,G,rfl⟩:=dU W;obtain⟨p,H,rfl⟩:=dU X;obtain⟨q,I,rfl⟩:=dU Y;obtain⟨t,J,rfl⟩:=dU Z;obtain⟨u,K,rfl⟩:=dU h9;obtain⟨a,k,rfl⟩:=dU w;obtain⟨b,l,rfl⟩:=dU x;have h:=Uf L f g i j e m n o p q t u a b ⟨B,C,z,A,D,E,F,G,H,I,J,K,k,l⟩ _ rfl;rw[show [dg f,dg g,dg i,dg j,dg e,dg m,dg n,dg o,dg p,dg q,dg t,dg u,dg a,dg b]++[(90:UInt8)]=[dg f,dg g,dg i,dg j,dg e,dg m,dg n,dg o,dg p,dg q,dg t,dg u,dg a,dg b,90] from rfl,h,akX];dsimp only;refine aw (λhv=>aa (.inl ⟨rfl,_,_,_,_,_,_,⟨rfl,hv⟩,?_⟩)) λ_=>aa (.inr rfl);unfold BG Ki;rw[qk e m D E,qk n o F G,qk p q H I,qk t u J K,qk a b k l,show(100*(10*f+g)+(10*i+j)) / 100=10*f+g from omq,show(100*(10*f+g)+(10*i+j)) % 100=10*i+j from omq,qk f g B C,qk i j z A];rfl
 ·rw[show eG N c 4=_ from h];exact aa (.inr rfl)
def aaf{N:Nat}(f:FN N){t:dI}{y b d h a s:Nat}(i:Jw t y b d h a s)(j:1950<=y)(k:y<=2049):eJ N (GO y b d h a s)=some (t,0):=by
 obtain⟨rfl,c⟩:=i;obtain⟨_,_,_,_,_,_,e,_,_,_,_,_,_,_,_⟩:=tu c;simp only[aln,aoV]at e;have g:=Ue f (y % 100 / 10) (y % 100 % 10) (b / 10) (b % 10) (d / 10) (d % 10) (h / 10) (h % 10) (a / 10) (a % 10) (s / 10) (s % 10) omq y (by split<;>omega);unfold eJ syv;rw[show GO y b d h a s=[dg (y % 100 / 10),dg (y % 100 % 10),dg (b / 10),dg (b % 10),dg (d / 10),dg (d % 10),dg (h / 10),dg (h % 10),dg (a / 10),dg (a % 10),dg (s / 10),dg (s % 10),90] from rfl,g,akX];dsimp only;rw[show 10*(b / 10)+b % 10=b from omq,show 10*(d / 10)+d % 10=d from omq,show 10*(h / 10)+h % 10=h from omq,show 10*(a / 10)+a % 10=a from omq,show 10*(s / 10)+s % 10=s from omq,c];rfl
def aag{N:Nat}(f:FN N){t:dI}{y b d h a s:Nat}(i:Jw t y b d h a s):cX N (BG y b d h a s)=some (t,0):=by
 obtain⟨rfl,c⟩:=i;obtain⟨_,_,_,_,_,_,e,_,_,_,_,_,_,_,_⟩:=tu c;simp only[aln,aoV]at e;have g:=Uf f (y / 100 / 10) (y / 100 % 10) (y % 100 / 10) (y % 100 % 10) (b / 10) (b % 10) (d / 10) (d % 10) (h / 10) (h % 10) (a / 10) (a % 10) (s / 10) (s % 10) omq y omq;unfold cX syv;rw[show BG y b d h a s=[dg (y / 100 / 10),dg (y / 100 % 10),dg (y % 100 / 10),dg (y % 100 % 10),dg (b / 10),dg (b % 10),dg (d / 10),dg (d % 10),dg (h / 10),dg (h % 10),dg (a / 10),dg (a % 10),dg (s / 10),dg (s % 10),90] from rfl,g,akX];dsimp only;rw[show 10*(b / 10)+b % 10=b from omq,show 10*(d / 10)+d % 10=d from omq,show 10*(h / 10)+h % 10=h from omq,show 10*(a / 10)+a % 10=a from omq,show 10*(s / 10)+s % 10=s from omq,c];rfl
def ahO(t:dI):Bs:=BG t.1.toNat t.2.1.toNat t.2.2.1.toNat t.2.2.2.1.toNat t.2.2.2.2.1.toNat t.2.2.2.2.2.toNat
def ahP(t:dI):Bs:=GO t.1.toNat t.2.1.toNat t.2.2.1.toNat t.2.2.2.1.toNat t.2.2.2.2.1.toNat t.2.2.2.2.2.toNat
def jQ(t:dI):TLV:=bif decide (t.1>2049) then(0,false,24,ahO t) else(0,false,23,ahP t)
def lO(t:dI):Bs:=ag (jQ t)
def Uh(t:dI):okT (jQ t):=by
 unfold jQ;cases decide (t.1>2049)
 ·exact rB omq omq (show 13<10000000 by omega)
 ·exact rB omq omq (show 15<10000000 by omega)
def QC(t:dI):(lO t).length<=21:=by
 unfold lO jQ;cases decide (t.1>2049)
 ·exact amo (eC (c:=0) (num:=23) (k:=false) (b:=ahP t) (show 13<_ by omega)) (show 13+6<=21 by omega)
 ·exact amo (eC (c:=0) (num:=24) (k:=false) (b:=ahO t) (show 15<_ by omega)) (show 15+6<=21 by omega)
def aah{N:Nat}(b:FN N)(t:dI):iX N t=some (bif ij t then(lO t,0) else([],8)):=by
 unfold iX syv;rw[uT,akX];cases a:ij t
 ·rfl
 ·unfold ij at a;rw[akY,alL]at a;obtain⟨y,e,d,h,c,s,rfl,_⟩:=tu a.1;have f:1950<=y:=by have:=a.2;dsimp only at this;omega
  rw[al7,ak5];unfold lO jQ;by_cases g:y>2049
  ·rw[ak3 (show((y:Int))>2049 by omega),ala,afv b y e d h c s a.1,akX];dsimp only;rw[show((0:Int) !=0)=false from rfl,ak5,kA b 0 24 false _ 0 24 rfl rfl omq omq (show 15<_ by omega)];rfl
  ·rw[ak0 (show ¬((y:Int))>2049 by omega),ak5,afu b y e d h c s a.1 f omq,akX];dsimp only;rw[show((0:Int) !=0)=false from rfl,ak5,kA b 0 23 false _ 0 23 rfl rfl omq omq (show 13<_ by omega)];rfl
def V4{N:Nat}(i:FN N)(t:dI)(c:ij t=true)(a:Bs)(m:lO t=a):ec N a=some (t,0,0):=by
 obtain⟨e,l,b⟩:=ajz i a (jQ t) m.symm (Uh t);unfold ij at c;rw[akY,alL]at c;obtain⟨y,g,d,h,f,s,rfl,_⟩:=tu c.1;have k:1950<=y:=by have:=c.2;dsimp only at this;omega
 unfold ec syv;rw[l,akX];dsimp only;rw[show((0:Int) !=0)=false from rfl,ak5,b.body,akX];by_cases n:y>2049
 ·have j:jQ ((y:Int),(g:Int),(d:Int),(h:Int),(f:Int),(s:Int))=(0,false,24,BG y g d h f s):=by
   unfold jQ;rw[ak3 (show((y:Int))>2049 by omega)];rfl
  rw[j]at b⊢;rw[b.no 0 23 false 0 23 rfl rfl siq,akX,ak5,b.yes 0 24 false 0 24 rfl rfl rfl rfl rfl,akX,ala,aag i ⟨rfl,c.1⟩];simp only[akX];rw[ak0 (show ¬((y:Int))<=2049 by omega)];rfl
 ·have j:jQ ((y:Int),(g:Int),(d:Int),(h:Int),(f:Int),(s:Int))=(0,false,23,GO y g d h f s):=by
   unfold jQ;rw[ak0 (show ¬((y:Int))>2049 by omega)];rfl
  rw[j]at b⊢;rw[b.yes 0 23 false 0 23 rfl rfl rfl rfl rfl,akX,ala,aaf i ⟨rfl,c.1⟩ k omq];rfl
def Ui{t:dI}{y b d h a s:Nat}(c:Jw t y b d h a s):lO t=ag (bif decide (y>2049) then(0,false,24,BG y b d h a s) else(0,false,23,GO y b d h a s)):=by
 obtain⟨rfl,_⟩:=c;unfold lO jQ;have:decide (((y:Int))>2049)=decide (y>2049):=aov.2 omq;dsimp only;rw[this];rfl
def afx{N:Nat}(m:FN N)(a:Bs)(I:a.length<10000000):OW (ec N a) (PS ij lO a):=by
 unfold ec syv;refine ah (CY m a I) ?_;rintro⟨v,e,o⟩ (⟨G,t,k,l,i⟩|⟨k,C,D⟩)
 ·cases G;dsimp only at i⊢;obtain⟨p,q,r,P,B,Q,R,S,T,b7⟩:=i.bd;have L:=bt t;have J:a.length=(ag t).length:=by rw[l]
  rw[show((0:Int) !=0)=false from rfl,ak5,i.body,akX];have b:∀(e:Int),e≠0->OW (some (((0:Int),(0:Int),(0:Int),(0:Int),(0:Int),(0:Int)),e,v.2.2.2.2.1):Option (dI×Int×Int)) (PS ij lO a):=λe K=>aa (dE K (by rw[B];omega) (by rw[B];omega));rcases i.cs 0 23 false 0 23 rfl rfl with⟨z,u⟩|⟨z,_⟩
  ·rw[z,akX,ala];obtain⟨⟨w,c⟩,x,g⟩:=aae m t.2.2.2 omq;rw[x];rcases g with⟨j,y,F,d,h,E,s,f,U,V,n⟩|g
   ·dsimp only at j;subst j;refine aa (xp ?_ ?_)
    ·unfold ij;have:=f.2;obtain⟨rfl,_⟩:=f;dsimp only at this⊢;rw[this];exact ak3 omq
    ·show lO w=a;rw[Ui f,ak0 omq,ak5,l,u,n]
   ·cases g;exact b 6 deq
  ·rw[z,akX,ak5];rcases i.cs 0 24 false 0 24 rfl rfl with⟨A,u⟩|⟨A,_⟩
   ·rw[A,akX,ala];obtain⟨⟨w,c⟩,x,g⟩:=QA m t.2.2.2 omq;rw[x];rcases g with⟨j,y,F,d,h,E,s,f,n⟩|g
    ·dsimp only at j;subst j;have M:=f.2;have H:=Ui f;obtain⟨rfl,_⟩:=f;by_cases O:y>2049
     ·rw[akX];dsimp only;rw[ak0 (show ¬((y:Int))<=2049 by omega)];refine aa (xp ?_ ?_)
      ·unfold ij;rw[M];exact ak3 (show((y:Int))>=1950 by omega)
      ·show lO ((y:Int),(F:Int),(d:Int),(h:Int),(E:Int),(s:Int))=a;rw[H,ak3 O,ala,l,u,n]
     ·rw[akX];dsimp only;rw[ak3 (show((y:Int))<=2049 by omega)];exact b 6 deq
    ·cases g;exact b 6 deq
   ·rw[A,akX,ak5];exact b 3 deq
 ·dsimp only at k C D⊢;rw[show(e !=0)=true from by simpa using k];exact aa (dE k C D)
end Go.Fw
def amt:=@Int.mul_le_mul_of_nonneg_right
namespace Go.Fw
open Go
def sgn(x:UInt8):Int:=if x.toNat<128 then(x.toNat:Int) else(x.toNat:Int)-256
def beI(a:Int)(r:Bs):Int:=r.foldl (λn x=>256*n+(x.toNat:Int)) a
def pR:Bs->Int
 |[]=>0
 |x::r=>beI (sgn x) r
set_option maxRecDepth 100000 in
def afy(x:UInt8):IntKind.wrap .i64 (IntKind.wrap .i8 (x.toNat:Int))=sgn x:=by
 have h:∀n:Fin 256,IntKind.wrap .i64 (IntKind.wrap .i8 (n.val:Int))=if n.val<128 then(n.val:Int) else(n.val:Int)-256:=by decide
 exact h ⟨x.toNat,x.toNat_lt⟩
def V5(x:UInt8): -128<=sgn x/\sgn x<128:=by
 have:=x.toNat_lt;unfold sgn;split<;>omega
def aji(N:Nat)(r:Bs)(p:r.length<=7):∀(k n i:Nat)(a:Int),r.length-i=k->k<n->i<=r.length->-(128*256 ^ i:Nat)<=a->a<(128*256 ^ i:Nat)->rY N n (a,r,(r.length:Int),(i:Int))=some (beI a (r.drop i)):=by
 intro k;induction k with
 |zero=>
  intro n i a d e c _ _;obtain⟨n,rfl⟩:∃m,n=m+1:=⟨n-1,omq⟩;show(bif decide ((i:Int)<(r.length:Int)) then _ else _)=_;rw[ak0 omq,ak5,alH omq];rfl
 |succ k g=>
  intro n i a d e c h j;obtain⟨n,rfl⟩:∃m,n=m+1:=⟨n-1,omq⟩;have b:i<r.length:=omq;have l:=r[i].toNat_lt;have o:256 ^ i<=256 ^ 6:=anf omq omq;have f:256 ^ (i+1)=256*256 ^ i:=by rw[ane,Nat.mul_comm]
  show(bif decide ((i:Int)<(r.length:Int)) then _ else _)=_;rw[ak3 omq,ala,bc (akZ b),akX,Bp,bu omq,Vm omq omq omq omq];refine(g n (i+1) _ omq omq omq omq omq).trans ?_;rw[aly b];rfl
def Pv{N:Nat}(e:FN N)(c:Bs)(f:c.length<10000000):nQ N c=some (bif ii c&&decide (c.length<=8) then(pR c,true) else(0,false)):=by
 unfold FN at e;unfold nQ syv;rw[gp,akX];cases h:ii c
 ·rfl
 ·by_cases a:c.length<=8
  ·rw[ak0 (by omega:¬(c.length:Int)>8),ak3 a];cases c with
   |nil=>cases h
   |cons x r=>
    have d:=V5 x;have b:=aji N r (by simp at a;omega) r.length N 0 (sgn x) omq (by simp at a;omega) omq (by simpa using d.1) (by simpa using d.2);rw[alR]at b;simp only[al7,ak5,ix0,akX,qd,afy,an7,ala];rw[show rY N N (sgn x,r,(r.length:Int),0)=_ from b];rfl
  ·rw[ak3 (by omega:(c.length:Int)>8),ak0 a];rfl
def V6{α:Type}{P:List α->Prop}(b:P [])(c:∀l x,P l->P (l++[x]))(l:List α):P l:=by
 have a:∀m:List α,P m.reverse:=by
  intro m;induction m with
  |nil=>exact b
  |cons x m d=>rw[anU];exact c _ _ d
 have:=a l.reverse;rwa[List.reverse_reverse]at this
def Jy(r:Bs):∀a:Int,beI a r=a*((256 ^ r.length:Nat):Int)+((beN r:Nat):Int):=by
 refine V6 (P:=λr=>∀a:Int,beI a r=a*((256 ^ r.length:Nat):Int)+((beN r:Nat):Int)) ?_ ?_ r
 ·intro a;simp[beI,beN]
 ·intro r x c;intro a;have b:beI a (r++[x])=256*beI a r+(x.toNat:Int):=by simp[beI]
  rw[b,c a,lE,ak2,amr,ane];have:a*((256 ^ r.length*256:Nat):Int)=256*(a*((256 ^ r.length:Nat):Int)):=by
   rw[aoD,<-Int.mul_assoc,Int.mul_comm];rfl
  rw[this];omega
def Jz(r:Bs):beN r<256 ^ r.length:=ag6 r.length r rfl
def afz:∀(r s:Bs),r.length=s.length->beN r=beN s->r=s:=by
 intro r;refine V6 (P:=λr=>∀s,r.length=s.length->beN r=beN s->r=s) ?_ ?_ r
 ·intro s h _;exact(alF h.symm).symm
 ·intro r x c s h b;obtain⟨t,y,rfl⟩:∃t y,s=t++[y]:=⟨s.dropLast,s.getLast (λe=>by rw[e]at h;simp at h),(amB _).symm⟩;rw[lE,lE]at b;have d:=x.toNat_lt;have f:=y.toNat_lt;have a:x.toNat=y.toNat:=omq;rw[c t (by simpa using h) omq,UInt8.toNat_inj.1 a]
def Uj{c:Bs}(h:ii c=true)(o:0<=pR c):pR c<((128*256 ^ (c.length-1):Nat):Int)/\(2<=c.length->((128*256 ^ (c.length-2):Nat):Int)<=pR c):=by
 match c,h with
 |[x],_=>
  have:pR [x]=sgn x:=rfl;have:=V5 x;exact⟨by simp;omega,by simp⟩
 |x::y::r,h=>
  have e:pR (x::y::r)=sgn x*((256 ^ (r.length+1):Nat):Int)+((beN (y::r):Nat):Int):=Jy (y::r) (sgn x);have i:=Jz (y::r);have m:beI (y.toNat:Int) r=(y.toNat:Int)*((256 ^ r.length:Nat):Int)+((beN r:Nat):Int):=Jy r _;have n:((beN (y::r):Nat):Int)=beI (y.toNat:Int) r:=by
   have:=Jy (y::r) 0;rw[Int.zero_mul,Int.zero_add]at this;rw[<-this];show beI 0 (y::r)=_;simp[beI]
  simp only[ak4]at i⊢;have j:256 ^ (r.length+1)=256*256 ^ r.length:=by rw[ane,Nat.mul_comm]
  have k:0<256 ^ r.length:=Nat.pow_pos omq;have q:=x.toNat_lt;have s:=y.toNat_lt;rw[show r.length+1+1-1=r.length+1 from rfl,show r.length+1+1-2=r.length from rfl];generalize p:(256 ^ r.length:Nat)=P at*;rw[j]at e i⊢;have a:0<=sgn x:=by
   rcases Int.lt_or_le (sgn x) 0 with g|g
   ·exfalso;have:sgn x*((256*P:Nat):Int)<=-1*((256*P:Nat):Int):=amt omq omq;omega
   ·exact g
  have b:sgn x=(x.toNat:Int)/\x.toNat<128:=by
   unfold sgn at a⊢;split at a
   ·rename_i h;rw[ali h];exact⟨rfl,h⟩
   ·omega
  have t:sgn x*((256*P:Nat):Int)<=127*((256*P:Nat):Int):=amt omq omq;refine⟨omq,λ_=> ?_⟩;by_cases d:x.toNat=0
  ·have l:128<=y.toNat:=by
    have f:(!(x.toNat==0&&decide (y.toNat<128))&& !(x.toNat==255&& !decide (y.toNat<128)))=true:=h;rw[d]at f;simp at f;omega
   have u:128*(P:Int)<=(y.toNat:Int)*(P:Int):=amt omq omq;rw[b.1,d]at e;omega
  ·have v:1*((256*P:Nat):Int)<=sgn x*((256*P:Nat):Int):=amt omq omq;omega
def acT{c d:Bs}(g:ii c=true)(hd:ii d=true)(n:0<=pR c)(h:pR c=pR d):c=d:=by
 obtain⟨c1,k⟩:=Uj g n;obtain⟨q,d2⟩:=Uj hd omq;have a:c.length=d.length:=by
  rcases aoR c.length d.length with b|b|b
  ·have o:=d2 (by have:=Tc g;have:0<c.length:=ano.2 this;omega);have:256 ^ (c.length-1)<=256 ^ (d.length-2):=anf omq omq;omega
  ·exact b
  ·have o:=k (by have:=Tc hd;have:0<d.length:=ano.2 this;omega);have:256 ^ (d.length-1)<=256 ^ (c.length-2):=anf omq omq;omega
 match c,d,a,g,hd with
 |x::r,y::s,a,g,hd=>
  have b:r.length=s.length:=by simpa using a
  have l:pR (x::r)=_:=Jy r (sgn x);have m:pR (y::s)=_:=Jy s (sgn y);have j:=Jz r;have p:=Jz s;rw[l,m,b]at h;rw[b]at j;generalize (256 ^ s.length:Nat)=P at*;have t:=x.toNat_lt;have u:=y.toNat_lt;have e:sgn x=sgn y:=by
   rcases Int.lt_trichotomy (sgn x) (sgn y) with i|i|i
   ·have:(sgn x+1)*(P:Int)<=sgn y*(P:Int):=amt omq omq;rw[Int.add_mul]at this;omega
   ·exact i
   ·have:(sgn y+1)*(P:Int)<=sgn x*(P:Int):=amt omq omq;rw[Int.add_mul]at this;omega
  have f:x=y:=by
   apply aoa.1;unfold sgn at e;split at e<;>split at e<;>omega
  rw[f]at h⊢;rw[afz r s b omq]
def vu:Bs->Bs
 |[]=>[]
 |x::r=>match r with
  |[]=>[x]
  |_::_=>bif ii (x::r) then x::r else vu r
def Uk:∀(c:Bs),c≠[]->ii (vu c)=true
 |[],h=>absurd rfl h
 |[x],_=>rfl
 |x::y::r,_=>by
  unfold vu;cases h:ii (x::y::r)
  ·exact Uk (y::r) siq
  ·exact h
def V7:∀(c:Bs),pR (vu c)=pR c
 |[]=>rfl
 |[x]=>rfl
 |x::y::r=>by
  unfold vu;cases h:ii (x::y::r)
  ·rw[ak5,V7 (y::r)];have a:(!(x.toNat==0&&decide (y.toNat<128))&& !(x.toNat==255&& !decide (y.toNat<128)))=false:=h;show beI (sgn y) r=beI (sgn x) (y::r);have e:beI (sgn x) (y::r)=beI (256*sgn x+(y.toNat:Int)) r:=rfl;rw[e];congr 1;unfold sgn;by_cases b:y.toNat<128
   ·rw[ali b];simp[b]at a;rw[a,ali omq];omega
   ·rw[alJ b];simp[b]at a;rw[a,alJ omq];omega
  ·rfl
def QD:∀(c:Bs),(vu c).length<=c.length
 |[]=>ak7 _
 |[x]=>ak7 _
 |x::y::r=>by
  unfold vu;cases ii (x::y::r)
  ·have:=QD (y::r);simp only[ak5,ak4]at this⊢;omega
  ·exact ak7 _
def ad1(N:Nat):∀(c:Bs)(n:Nat),c.length<n->c.length<1000->uy N n c=some (vu c)
 |[],n,h,_=>by
  obtain⟨n,rfl⟩:∃m,n=m+1:=⟨n-1,omq⟩;rfl
 |[x],n,h,_=>by
  obtain⟨n,rfl⟩:∃m,n=m+1:=⟨n-1,omq⟩;rfl
 |x::y::r,n,h,a=>by
  obtain⟨n,rfl⟩:∃m,n=m+1:=⟨n-1,omq⟩;show(bif decide (((x::y::r).length:Int)>1) then _ else _)=_;rw[ak3 (by simp only[ak4];omega),ala,gp,akX,qd];unfold vu;cases ii (x::y::r)
  ·exact ad1 N (y::r) n (by simp at h⊢;omega) (by simp at a⊢;omega)
  ·rfl
def tw(N n:Nat)(v i:Nat)(acc:Bs)(f:i<=63)(d:acc.length<=1000):dZ N (n+1) ((v:Int),(i:Int),acc)=dZ N n ((v:Int),(i:Int)-8,acc++[UInt8.ofNat (v / 2 ^ i % 256)]):=by
 have e:wY .i64 (v:Int) (i:Int)=((v / 2 ^ i:Nat):Int):=by
  show(v:Int).fdiv (2 ^ min ((i:Int)).toNat 64)=_;rw[al5,show min i 64=i from omq,anV _ (by exact Int.le_of_lt (Int.pow_pos deq))];simp
 have b:aC .i64 (i:Int) 8=(i:Int)-8:=pF omq;show(bif decide ((i:Int)>=0) then(bif decide (0<=(i:Int)) then(toB (IntKind.wrap .u8 (wY .i64 (v:Int) (i:Int)))).bind (λa=>(app 1 acc [a]).bind λc=>dZ N n ((v:Int),aC .i64 (i:Int) 8,c)) else none) else some acc)=_;rw[ak3 (show 0<=(i:Int) by omega),ala,ala,e,lW,akX,dQ omq (by simp only[ak4,alq];omega),akX,b]
def Dy(v:Nat):Bs:=[UInt8.ofNat (v / 2 ^ 56 % 256),UInt8.ofNat (v / 2 ^ 48 % 256),UInt8.ofNat (v / 2 ^ 40 % 256),UInt8.ofNat (v / 2 ^ 32 % 256),UInt8.ofNat (v / 2 ^ 24 % 256),UInt8.ofNat (v / 2 ^ 16 % 256),UInt8.ofNat (v / 2 ^ 8 % 256),UInt8.ofNat (v / 2 ^ 0 % 256)]
def afA(n:Nat):(UInt8.ofNat (n % 256)).toNat=n % 256:=by rw[amx];omega
def ahQ(v:Nat)(h:v<2147483648):pR (Dy v)=(v:Int):=by
 show beI (sgn _) _=_;unfold beI sgn;simp only[ao1,List.foldl_nil,afA];rw[ali omq];omega
def nL(v:Nat):Bs:=vu (Dy v)
def V8(v:Nat):ii (nL v)=true:=Uk _ (by simp[Dy])
def aai(v:Nat)(h:v<2147483648):pR (nL v)=(v:Int):=by unfold nL;rw[V7,ahQ v h]
def Mv(v:Nat):(nL v).length<=8:=QD (Dy v)
def afB{c:Bs}{v:Nat}(h:v<2147483648)(a:ii c=true)(b:pR c=(v:Int)):c=nL v:=acT a (V8 v) omq (by rw[b,aai v h])
def acU{N:Nat}(b:FN N)(v:Nat):qQ N (v:Int)=some (nL v):=by
 unfold FN at b;obtain⟨n,c⟩:∃n,N=n+9:=⟨N-9,omq⟩;have a:dZ N N ((v:Int),56,[])=some (Dy v):=by
  rw[show dZ N N=dZ N (n+9) from by rw[<-c]];rw[show(56:Int)=((56:Nat):Int) from rfl,tw N (n+8) v 56 [] omq siq,show((56:Nat):Int)-8=((48:Nat):Int) from rfl,tw N (n+7) v 48 _ omq siq,show((48:Nat):Int)-8=((40:Nat):Int) from rfl,tw N (n+6) v 40 _ omq siq,show((40:Nat):Int)-8=((32:Nat):Int) from rfl,tw N (n+5) v 32 _ omq siq,show((32:Nat):Int)-8=((24:Nat):Int) from rfl,tw N (n+4) v 24 _ omq siq,show((24:Nat):Int)-8=((16:Nat):Int) from rfl,tw N (n+3) v 16 _ omq siq,show((16:Nat):Int)-8=((8:Nat):Int) from rfl,tw N (n+2) v 8 _ omq siq,show((8:Nat):Int)-8=((0:Nat):Int) from rfl,tw N (n+1) v 0 _ omq siq];rfl
 unfold qQ syv;rw[a,akX,show decide ((((Dy v).length:Nat):Int)>1)=true from rfl,ala,gp,akX];unfold nL;show(bif !ii (Dy v) then(slc (Dy v) 1 ((Dy v).length:Int)).bind _ else _)=_;unfold Dy;rw[qd];unfold vu;cases ii _
 ·rw[amR,ala,akX,ad1 N _ N soq siq];rfl
 ·rfl
end Go.Fw
