/- A framework for proofs about Go programs in this model: part ZA. Everything is proved; no condition is added. -/
import Derived.Test.YtfjfjojmeookfaaGreatDoorFwZ
set_option linter.unusedVariables false
set_option linter.unusedSimpArgs false
set_option linter.defProp false
namespace Go.Fw
open Go
noncomputable def opn(N:Nat)(b:Bs):Bool:=match fx N b with
 |some (_,e,_)=>e==0
 |none=>false
def aey(N n:Nat)(O:15<n)(H:FN N)(a:Bs)(D:a.length<10000000)(v:Fw.Spot)(e o:Int)(h:cR N (n+1) a 0 (a.length:Int) 16=some (v,e,o))(r:e=0):o=0/\∃t q,okT t/\a=aj t++q/\v.stop=((aj t).length:Int):=by
 unfold FN at H;have K:(decide ((a.length:Int)<=(a.length:Int))&&decide ((a.length:Int)<=(a.length:Int)))=true:=by simp
 have A:slc a 0 (a.length:Int)=some a:=by
  unfold slc;rw[amE ⟨omq,omq,omq⟩];simp
 rw[Rk,show((16:Int)==0)=false from rfl,amp,K,amw,A,amj]at h;cases u:cb N a with
 |none=>rw[u]at h;cases h
 |some x=>
  obtain⟨⟨c,B,k,L,W⟩,C,U⟩:=x;rw[u,amj]at h;dsimp only at h;by_cases f:C=0
  ·subst f;obtain⟨p,d,m,b,q1,V,q3,F,rfl,rfl,rfl,rfl⟩:=G8 N omq a omq c B L W U k u;have M:=amV List.length F;simp only[amr,amo]at M;have w1:az .i64 0 ((1+(aE m).length:Nat):Int)=((1+(aE m).length:Nat):Int):=by rw[bX omq];omega
   have w2:aC .i64 (a.length:Int) ((1+(aE m).length:Nat):Int)=((a.length-(1+(aE m).length):Nat):Int):=by
    show IntKind.i64.wrap _=_;rw[amU _ omq];omega
   simp only[aqa,amp,w1,w2]at h;by_cases hm:a.length-(1+(aE m).length)<m
   ·rw[amq omq]at h;cases h;cases r
   ·rw[amm omq]at h;have w3:az .i64 ((1+(aE m).length:Nat):Int) (m:Int)=((1+(aE m).length+m:Nat):Int):=by rw[bX omq];omega
    simp only[amp,w3]at h;have E:(b.take m).length=m:=by rw[amT];omega
    have I:∃t q,okT t/\a=aj t++q/\((aj t).length:Int)=((1+(aE m).length+m:Nat):Int):=by
     refine⟨(p,k,d,b.take m),b.drop m,⟨q1,V,by show(b.take m).length<=_;omega⟩,?_,?_⟩
     ·rw[F];show _=idB p k d::(aE (b.take m).length++b.take m)++b.drop m;rw[E];simp
     ·rw[tm];show((1+(aE (b.take m).length).length+(b.take m).length:Nat):Int)=_;rw[E]
    obtain⟨t,q,X,Y,Z⟩:=I;have g:∀z:Int,z=((1+(aE m).length+m:Nat):Int)->v.stop=z->o=0->o=0/\∃t q,okT t/\a=aj t++q/\v.stop=((aj t).length:Int):=λz T R P=>⟨P,t,q,X,Y,by rw[R,T,Z]⟩;cases k
    ·simp only[an0,amw]at h;obtain⟨s,Q,w⟩:=HH (l:=a) (i:=((1+(aE m).length:Nat):Int)) (j:=((1+(aE m).length+m:Nat):Int)) omq omq omq;rw[Q,amj,yT (by rw[w,anj,amT];omega),amj]at h;simp only[amn,amJ]at h;exact g _ rfl (by rw[<-h.1];rfl) h.2.2.symm
    ·simp only[am3,amp]at h;obtain⟨y,S,J⟩:=Mn N a D (cR N n) 15 omq
      (Nd N a omq D 15 n O omq)
      (1+(aE m).length+m) omq 0 (p:Int) (d:Int) true _ N (1+(aE m).length) [] [] rfl omq omq siq siq
     rw[show ep N (cR N n) N (a,16,((1+(aE m).length:Nat):Int),0,0,0,0,false,[],0,0,[],[],0,((1+(aE m).length+m:Nat):Int),(p:Int),(d:Int),true)=some y from S,amj]at h;rcases J with⟨e',o',rfl,G,g2,g3⟩|⟨l,l',rfl⟩
     ·simp only[amn,amJ]at h;exact absurd (h.2.1.trans r) G
     ·simp only[amn,amJ]at h;exact g _ rfl (by rw[<-h.1];rfl) h.2.2.symm
  ·rw[show(C !=0)=true from by simpa using f]at h;cases h;exact absurd r f
def ZL{N:Nat}(l:FN N)(a:Bs)(k:a.length<10000000):OW (fx N a) λr=>(r.2=(0,0)/\opn N a=true/\∃t,okT t/\a=aj t)∨(r.2.1≠0/\opn N a=false/\0<=r.2.2/\r.2.2<=(a.length:Int)):=by
 have j:=l;unfold FN at j;obtain⟨v,e,o,i,u,x⟩:=Yj N a omq k;have n:opn N a=(e==0):=by unfold opn;rw[i]
 refine⟨_,i,?_⟩;by_cases h:e=0
 ·have b:=i;unfold fx uC syv at b;obtain⟨w,d,p,y,A,B,C⟩:=Nd N a omq k 16 N omq omq 0 a.length omq (amt _);have g:cR N N a 0 (a.length:Int) 16=some (w,d,p):=y;rw[g,amj]at b;dsimp only at b;by_cases c:d=0
  ·obtain⟨m,rfl⟩:∃m,N=m+1:=⟨N-1,omq⟩;obtain⟨p1,t,q,p2,s,D⟩:=aey (m+1) m omq l a k w d p g c;rw[show(d==0)=true from by simpa using c,cond_true]at b;by_cases f:w.stop<(a.length:Int)
   ·rw[amq f,amw]at b;simp only[amj,amn,amJ]at b;have:=b.2.1;omega
   ·rw[amm f,amp]at b;simp only[amj,amn,amJ]at b;have z:a.length=(aj t).length+q.length:=by rw[s,amo]
    have:q=[]:=amY omq;subst this;refine .inl ⟨?_,by rw[n];simpa using h,t,p2,by simpa using s⟩;rw[<-b.2.1,<-b.2.2,c,p1]
  ·rw[show(d==0)=false from by simpa using c,cond_false]at b;simp only[amj,amn,amJ]at b;exact absurd (b.2.1.trans h) c
 ·exact .inr ⟨h,by rw[n];simpa using h,u,x⟩
end Go.Fw
def anK:=@List.sum_cons
namespace Go.Fw
open Go
noncomputable def fQ(s:Bs):Bs:=if h:ofP (∃L,jZ s L)=true then Eu (Classical.choose (un.1 h)) else []
def Bf{s:Bs}{L:List Nat}(h:jZ s L):fQ s=Eu L:=by
 have a:ofP (∃L,jZ s L)=true:=un.2 ⟨L,h⟩;unfold fQ;rw[dif_pos a];exact amV Eu ((anz (un.1 a)).uniq h)
def F0{N:Nat}(d:FN N)(s:Bs)(e:s.length<10000000):ko N s=some (bif gG s then(fQ s,0) else([],8)):=by
 obtain⟨b,c⟩:=agT d s e;cases h:gG s
 ·exact c h
 ·obtain⟨L,a⟩:=lT.1 h;rw[b L a,Bf a];rfl
def QZ{N:Nat}(c:FN N){s:Bs}(h:gG s=true)(b:(fQ s).length<10000000):dj N (fQ s)=some (s,0):=by
 obtain⟨L,a⟩:=lT.1 h;rw[Bf a]at b⊢;exact abX c a b
def qr{N:Nat}(e:FN N)(a:Bs)(f:a.length<10000000):OW (dj N a) λr=>(r.2=0/\gG r.1=true/\fQ r.1=a)∨r=([],6):=by
 refine xR (abY e a f) ?_;rintro r (⟨c,L,b,d⟩|h)
 ·exact .inl ⟨c,lT.2 ⟨L,b⟩,by rw[Bf b,d]⟩
 ·exact .inr h
def aho(L:List Nat)(b:∀x∈L,x<=4294967295):Lib.lens (L.map Lib.decDigits)<=20*L.length:=by
 induction L with
 |nil=>simp[Lib.lens]
 |cons a r e=>
  have f:=JW a (by have:=b a (by simp);omega);have c:=e λx d=>b x (by simp[d]);simp only[Lib.lens,amz,List.map_map,anK,amr]at c⊢;omega
def F1{s:Bs}(h:gG s=true):s.length<=21*((fQ s).length+1):=by
 obtain⟨L,b⟩:=lT.1 h;have d:=aex b;rw[Bf b];obtain⟨e,f,rfl⟩:=b;have c:=aho L f;cases L with
 |nil=>cases e
 |cons a r=>
  rw[amz,Lib.join_length,<-amz];simp only[am7,amr,amI]at d c⊢;omega
def IE:∀(L:List Nat),((L.map dd).flatten).length<=6*L.length
 |[]=>by simp
 |a::r=>by
  have b:=NL a;have c:=IE r;simp only[amz,List.flatten_cons,amo,amr];omega
def XH:∀(r:List (List UInt8))(x:List UInt8),r.length<=(Lib.join (x::r) [46]).length
 |[],x=>by simp
 |y::r,x=>by
  have:=XH r y;rw[qJ,amo,amr,amr];omega
def tq(s:Bs):(fQ s).length<=6*(s.length+1):=by
 unfold fQ;split
 ·rename_i h;obtain⟨d,g,e⟩:=anz (un.1 h);generalize Classical.choose (un.1 h)=L at d g e
  match L,d with
  |a::b::r,_=>
   have c:=IE ((40*a+b)::r);have f:=XH ((b::r).map Lib.decDigits) (Lib.decDigits a);rw[e];simp only[am7,amr,amz]at c f⊢;show((((40*a+b)::r).map dd).flatten).length<=_;simp only[amz]at c⊢;omega
 ·simp
def EL.cs{a:Bs}{t:TLV}{e:aJ}(h:EL a t e)(c num:Nat)(k:Bool)(d f:Int)(l:d=(c:Int))(m:f=(num:Int)):(eu e d k f=some true/\t=(c,k,num,t.2.2.2))∨(eu e d k f=some false/\¬(t.1=c/\t.2.1=k/\t.2.2.1=num)):=by
 subst l m;rw[h.is];by_cases b:t.1=c/\t.2.1=k/\t.2.2.1=num
 ·rw[amq b];obtain⟨g,i,j⟩:=b;exact .inl ⟨rfl,by rw[<-g,<-i,<-j]⟩
 ·rw[amm b];exact .inr ⟨rfl,b⟩
def EL.yes{a:Bs}{t:TLV}{e:aJ}(h:EL a t e)(c num:Nat)(k:Bool)(b d:Int)(j:b=(c:Int))(l:d=(num:Int))(f:t.1=c)(g:t.2.1=k)(i:t.2.2.1=num):eu e b k d=some true:=by
 subst j l;rw[h.is,amq ⟨f,g,i⟩]
def EL.no{a:Bs}{t:TLV}{e:aJ}(h:EL a t e)(c num:Nat)(k:Bool)(b d:Int)(g:b=(c:Int))(i:d=(num:Int))(f:¬(t.1=c/\t.2.1=k/\t.2.2.1=num)):eu e b k d=some false:=by
 subst g i;rw[h.is,amm f]
def lq{N:Nat}(j:FN N){c num:Nat}(k:c<4)(n:num<31)(a:Bs)(b:List TLV)(e:a=tlv c true num (ax b))(m:∀t∈b,okT t)(o:a.length<10000000)(g i:Int)(d:g=(c:Int))(f:i=(num:Int)):
 ∃l,ba N a g i=some (l,0,0)/\cH (EL a) b l:=by
 subst e d f;have h:(ax b).length<(tlv c true num (ax b)).length:=by rw[lj];omega
 exact Xh j k n b m omq
def ak0{N:Nat}(b:FN N)(a:Bs)(t:TLV)(h:a=aj t)(c:okT t):∃e,cm N a=some (e,0,0)/\EL a t e:=by
 subst h;exact Lm b t c
def PS{T:Type}(ok:T->Bool)(enc:T->Bs)(a:Bs)(r:T×Int×Int):Prop:=(r.2=(0,0)/\ok r.1=true/\enc r.1=a)∨(r.2.1≠0/\0<=r.2.2/\r.2.2<=(a.length:Int))
def yk{T:Type}{ok:T->Bool}{enc:T->Bs}{a:Bs}{v:T}(b:ok v=true)(c:enc v=a):PS ok enc a (v,0,0):=.inl ⟨rfl,b,c⟩
def dV{T:Type}{ok:T->Bool}{enc:T->Bs}{a:Bs}{v:T}{e o:Int}(h:e≠0)(b:0<=o)(c:o<=(a.length:Int)):PS ok enc a (v,e,o):=.inr ⟨h,b,c⟩
noncomputable def bZ(s:Bs):TLV:=(0,false,6,fQ s)
def sg{c num:Nat}{k:Bool}{b:Bs}(a:c<4)(d:num<31)(e:b.length<10000000):okT (c,k,num,b):=⟨a,d,by show b.length<=_;omega⟩
def dq{c num:Nat}{k:Bool}{b:Bs}:b.length<(tlv c k num b).length:=by rw[lj];omega
def dr{c num:Nat}{k:Bool}{b:Bs}(h:b.length<4294967296):(tlv c k num b).length<=b.length+6:=by
 have:=(nY b.length h).2;rw[lj];omega
def KF{N:Nat}(a:FN N)(c num:Nat)(d:c<4)(e:num<31)(k:Bool)(xs:List Bs)(f:xs.length<10000000)(b:xs.flatten.length<=2147483647):cz N (c:Int) k (num:Int) xs=some (tlv c k num xs.flatten,0):=by
 unfold FN at a;exact Ug N omq a.2 k d e xs omq b
def Pv{N:Nat}(a:FN N)(xs:List Bs)(c:xs.length<10000000)(b:xs.flatten.length<=2147483647):eF N xs=some (tlv 0 true 16 xs.flatten,0):=by
 unfold FN at a;exact Uh N omq a.2 xs omq b
def iH{x:Bs}(h:x.length<10000000):cC x=some x:=yT omq
def Lx{N:Nat}(c:FN N)(a:Bs)(d:a.length<10000000):∃v e o,fx N a=some (v,e,o)/\opn N a=(e==0)/\0<=o/\o<=(a.length:Int):=by
 obtain⟨⟨v,e,o⟩,h,f⟩:=ZL c a d;refine⟨v,e,o,h,?_,?_⟩
 ·unfold opn;rw[h]
 ·rcases f with⟨b,_⟩|⟨_,_,b⟩
  ·simp only[amJ]at b;omega
  ·exact b
def afj{N:Nat}(c:FN N){a:Bs}(d:a.length<10000000)(h:opn N a=true):∃t,okT t/\a=aj t:=by
 obtain⟨r,_,e⟩:=ZL c a d;rcases e with⟨_,_,b⟩|⟨_,b,_⟩
 ·exact b
 ·rw[h]at b;cases b
end Go.Fw
namespace Go.Fw
open Go
noncomputable def lV(N:Nat)(v:Bs×Bs):Bool:=gG v.1&&(decide (v.2=[])||opn N v.2)
noncomputable def ig(v:Bs×Bs):Bs:=tlv 0 true 16 (aj (bZ v.1)++v.2)
def Q0{α:Type}(l:List α):(((l.length:Nat):Int)==0)=decide (l=[]):=by
 cases l with
 |nil=>rfl
 |cons a r=>
  rw[amm siq];exact amO.2 (by simp only[amr];omega)
def RX{N:Nat}(a:FN N)(v:Bs×Bs)(b:v.1.length<10000000)(c:v.2.length<10000000):qW N v=some (lV N v):=by
 obtain⟨w,e,o,d,f,_⟩:=Lx a v.2 c;unfold qW lV Bx syv;rw[DW a _ b,amj,Q0,d,f];cases gG v.1
 ·rfl
 ·by_cases h:v.2=[]
  ·rw[amq h];rfl
  ·rw[amm h];rfl
def VP(s:Bs)(h:s.length<10000000):(aj (bZ s)).length<=6*s.length+12:=by
 have a:=tq s;have d:=dr (c:=0) (num:=6) (k:=false) (b:=fQ s) omq;show(tlv 0 false 6 (fQ s)).length<=_;omega
def Bg(s:Bs):(fQ s).length<(aj (bZ s)).length:=dq
def ZM{N:Nat}(a:FN N)(v:Bs×Bs)(b:v.1.length<10000000)(d:v.2.length<10000000):gp N v=some (bif lV N v then(ig v,0) else([],8)):=by
 unfold gp yE syv;rw[RX a v omq omq,amj];cases h:lV N v
 ·rfl
 ·have hO:gG v.1=true:=by unfold lV at h;simp only[amk]at h;exact h.1
  have e:=tq v.1;have f:=VP v.1 b;have c:=KF a 0 6 omq omq false [fQ v.1] siq soq;simp only[am3,amp,F0 a _ (show v.1.length<10000000 by omega),hO,amw,amj,show((0:Int)==0)=true from rfl,show cz N 0 false 6 [fQ v.1]=_ from c,List.flatten_cons,List.flatten_nil,amG,show((0:Int) !=0)=false from rfl];rw[Pv a _ siq (by simp only[List.flatten_cons,List.flatten_nil,amG,amo];show(aj (bZ v.1)).length+_<=_;omega)];simp[ig,aj,bZ]
def al9{α:Type}(x:α):((([x]:List α).length:Nat):Int)=1:=rfl
def aez{α:Type}(x y:α):((([x,y]:List α).length:Nat):Int)=2:=rfl
def ajK{α:Type}(x y z:α):((([x,y,z]:List α).length:Nat):Int)=3:=rfl
def ix0{α:Type}(x:α)(l:List α):ix (x::l) 0=some x:=rfl
def ix1{α:Type}(x y:α)(l:List α):ix (x::y::l) 1=some y:=rfl
def ix2{α:Type}(x y z:α)(l:List α):ix (x::y::z::l) 2=some z:=rfl
def abZ{N:Nat}(b:FN N)(v:Bs×Bs)(h:lV N v=true)(a:Bs)(j:ig v=a)(F:a.length<9000000):cL N a=some (v,0,0):=by
 obtain⟨s,p⟩:=v;unfold lV at h;simp only[amk,anO,amX]at h;obtain⟨hO,B⟩:=h;have z:(aj (bZ s)++p).length<a.length:=by rw[<-j];exact dq
 rw[amo]at z;have E:=Bg s;have u:okT (bZ s):=sg omq omq omq;have r:=QZ b hO omq;unfold cL je syv;by_cases e:p=[]
 ·subst e;obtain⟨l,g,i⟩:=lq b (c:=0) (num:=16) omq omq a [bZ s] (by rw[<-j];simp[ig,ax]) (by simpa using u) omq 0 16 rfl rfl;rw[g];rcases i with _|⟨f,⟨⟩⟩;have m:=f.yes 0 6 false 0 6 rfl rfl rfl rfl rfl;have n:=f.body;simp[ix0,m,n,show(bZ s).2.2.2=fQ s from rfl,r]
 ·have d:opn N p=true:=B.resolve_left e;obtain⟨t,k,rfl⟩:=afj b omq d;obtain⟨l,g,i⟩:=lq b (c:=0) (num:=16) omq omq a [bZ s,t] (by rw[<-j];simp[ig,ax]) (by simp[u,k]) omq 0 16 rfl rfl;obtain⟨w,x,o,y,q,_⟩:=Lx b (aj t) omq;rw[d]at q;have A:x=0:=by simpa using q.symm
  rw[g];rcases i with _|⟨f,_|⟨D,⟨⟩⟩⟩;have m:=f.yes 0 6 false 0 6 rfl rfl rfl rfl rfl;have n:=f.body;have C:=D.whole;simp[ix0,ix1,m,n,C,show(bZ s).2.2.2=fQ s from rfl,r,iH (show(aj t).length<10000000 by omega),y,A]
def ak1(t:TLV):ax [t]=aj t:=by simp[ax]
def H4(t u:TLV):ax [t,u]=aj t++aj u:=by simp[ax]
def SS(t u v:TLV):ax [t,u,v]=aj t++(aj u++aj v):=by simp[ax]
def ajL{N:Nat}(m:FN N)(a:Bs)(T:a.length<9000000):OW (cL N a) (PS (lV N) ig a):=by
 unfold cL je syv;refine ag (jt m a omq 0 16) ?_;rintro⟨l,e,o⟩ (⟨d,C,h,_,_,A,b⟩|⟨h,y,z⟩)
 ·cases d;dsimp only at b⊢;rw[show((0:Int) !=0)=false from rfl,amp];rcases b with _| @⟨t1,e1,C,l,k1,b⟩
  ·exact aa (dV deq omq omq)
  ·obtain⟨p,q,r,f,i,E,G,I,K,b7⟩:=k1.bd;have P:=tm t1;refine aq (λc=>by rw[Q0]at c;cases c) λ_=> ?_;refine aq (λc=> ?_) λc=> ?_
   ·refine ag (xS omq (by simpa using c)) λe O=> ?_;obtain⟨t,_,k⟩:=(cH.cons k1 b).get O.1;obtain⟨p,q,r,f,i,E,G,I,K,b7⟩:=k.bd;exact aa (dV deq (by rw[f];omega) (by rw[f];omega))
   ·rw[ix0,amj];rcases k1.cs 0 6 false 0 6 rfl rfl with⟨v,u⟩|⟨v,_⟩
    ·rw[v,amj,am3,amp,amj,amj,k1.body,amj];refine ag (qr m _ omq) ?_;rintro⟨s,e⟩ (⟨d,j,d2⟩|d)
     ·dsimp only at d j d2;subst d;dsimp only;rw[show((0:Int) !=0)=false from rfl,amp];have B:aj t1=aj (bZ s):=by rw[u];unfold bZ;rw[d2]
      rcases b with _| @⟨t2,e2,C,l,k2,b⟩
      ·rw[al9,show((1:Int)==2)=false from rfl,amp];exact aa (yk (by simp[lV,j]) (by rw[A,ak1,B];simp[ig]))
      ·obtain⟨X,Y,Z,g,D,F,H,J,L,M⟩:=k2.bd;rcases b with _|⟨U,b⟩
       ·have Q:(aj t2).length<9000000:=omq;rw[aez,show((2:Int)==2)=true from rfl,amw,ix1,amj,amj,k2.whole,amj,iH omq,amj];obtain⟨w,x,o,R,S,V,W⟩:=Lx m (aj t2) omq;rw[R,amj];dsimp only;by_cases n:x=0
        ·subst n;exact aa (yk (by simp[lV,j,S]) (by rw[A,H4,B];simp[ig]))
        ·rw[show(x !=0)=true from by simpa using n,cond_true,Option.bind_some];exact aa (dV n (by rw[g,bX omq];omega) (by rw[g,bX omq];omega))
       ·exact absurd c soq
     ·cases d;exact aa (dV deq (by rw[i];omega) (by rw[i];omega))
    ·rw[v,amj,an0,amw,amj];exact aa (dV deq (by rw[f];omega) (by rw[f];omega))
 ·dsimp only at h y z⊢;rw[show(e !=0)=true from by simpa using h];exact aa (dV h y z)
end Go.Fw
namespace Go.Fw
open Go
noncomputable def gZ(N:Nat)(v:Bs×Bs):Bool:=gG v.1&&opn N v.2
noncomputable def cJ(v:Bs×Bs):Bs:=tlv 0 true 16 (aj (bZ v.1)++v.2)
def Zg{N:Nat}(a:FN N)(v:Bs×Bs)(b:v.1.length<10000000)(c:v.2.length<10000000):qX N v=some (gZ N v):=by
 obtain⟨w,e,o,d,f,_⟩:=Lx a v.2 c;unfold qX gZ syv;rw[d,amj,f];dsimp only;rw[DW a _ b,amj];cases gG v.1<;>rfl
def aiO{N:Nat}(a:FN N)(v:Bs×Bs)(b:v.1.length<10000000)(d:v.2.length<10000000):oF N v=some (bif gZ N v then(cJ v,0) else([],8)):=by
 unfold oF syv;rw[Zg a v omq omq,amj];cases h:gZ N v
 ·rfl
 ·have hO:gG v.1=true:=by unfold gZ at h;simp only[amk]at h;exact h.1
  have e:=tq v.1;have f:=VP v.1 b;have c:=KF a 0 6 omq omq false [fQ v.1] siq soq;simp only[am3,amp,F0 a _ (show v.1.length<10000000 by omega),hO,amw,amj,show cz N 0 false 6 [fQ v.1]=_ from c,List.flatten_cons,List.flatten_nil,amG,show((0:Int) !=0)=false from rfl];rw[Pv a _ siq (by simp only[List.flatten_cons,List.flatten_nil,amG,amo];show(aj (bZ v.1)).length+_<=_;omega)];simp[cJ,aj,bZ]
def agk{N:Nat}(d:FN N)(v:Bs×Bs)(h:gZ N v=true)(a:Bs)(g:cJ v=a)(D:a.length<9000000):cK N a=some (v,0,0):=by
 obtain⟨s,p⟩:=v;unfold gZ at h;simp only[amk]at h;obtain⟨hO,b⟩:=h;have q:(aj (bZ s)++p).length<a.length:=by rw[<-g];exact dq
 rw[amo]at q;have C:=Bg s;have x:okT (bZ s):=sg omq omq omq;have r:=QZ d hO omq;unfold cK kN syv;obtain⟨t,e,rfl⟩:=afj d omq b;obtain⟨l,k,m⟩:=lq d (c:=0) (num:=16) omq omq a [bZ s,t] (by rw[<-g];simp[cJ,ax]) (by simp[x,e]) omq 0 16 rfl rfl;obtain⟨w,j,o,n,f,_⟩:=Lx d (aj t) omq;rw[b]at f;have u:j=0:=by simpa using f.symm
 rw[k];rcases m with _|⟨i,_|⟨B,⟨⟩⟩⟩;have y:=i.yes 0 6 false 0 6 rfl rfl rfl rfl rfl;have z:=i.body;have A:=B.whole;simp[ix0,ix1,y,z,A,show(bZ s).2.2.2=fQ s from rfl,r,iH (show(aj t).length<10000000 by omega),n,u]
def agl{N:Nat}(j:FN N)(a:Bs)(T:a.length<9000000):OW (cK N a) (PS (gZ N) cJ a):=by
 unfold cK kN syv;refine ag (jt j a omq 0 16) ?_;rintro⟨l,e,o⟩ (⟨b,v,g,_,_,M,h⟩|⟨g,A,B⟩)
 ·cases b;dsimp only at h⊢;rw[show((0:Int) !=0)=false from rfl,amp];refine aq (λc=>aa (dV deq omq omq)) λx=> ?_;refine aq (λc=> ?_) λc=> ?_
  ·refine ag (xS omq (by simpa using c)) λe P=> ?_;obtain⟨t,_,k⟩:=h.get P.1;obtain⟨p,q,r,d,i,D,F,H,J,b7⟩:=k.bd;exact aa (dV deq (by rw[d];omega) (by rw[d];omega))
  ·rcases h with _| @⟨t1,e1,v,l,k1,_| @⟨t2,e2,v,l,k2,_| @⟨t3,e3,v,l,k3,h⟩⟩⟩
   ·cases x
   ·cases x
   ·obtain⟨p,q,r,d,i,D,F,H,J,b7⟩:=k1.bd;obtain⟨W,X,Y,f,C,E,G,I,K,L⟩:=k2.bd;have Q:=tm t1;rw[ix0,amj];rcases k1.cs 0 6 false 0 6 rfl rfl with⟨u,n⟩|⟨u,_⟩
    ·rw[u,amj,am3,amp,amj,amj,k1.body,amj];refine ag (qr j _ omq) ?_;rintro⟨s,e⟩ (⟨b,y,d2⟩|b)
     ·dsimp only at b y d2;subst b;dsimp only;have O:aj t1=aj (bZ s):=by rw[n];unfold bZ;rw[d2]
      rw[show((0:Int) !=0)=false from rfl,amp,ix1,amj,amj,k2.whole,amj,iH omq,amj];obtain⟨w,z,o,R,S,U,V⟩:=Lx j (aj t2) omq;rw[R,amj];dsimp only;by_cases m:z=0
      ·subst m;exact aa (yk (by simp[gZ,y,S]) (by rw[M,H4,O];simp[cJ]))
      ·rw[show(z !=0)=true from by simpa using m,cond_true,Option.bind_some];exact aa (dV m (by rw[f,bX omq];omega) (by rw[f,bX omq];omega))
     ·cases b;exact aa (dV deq (by rw[i];omega) (by rw[i];omega))
    ·rw[u,amj,an0,amw,amj];exact aa (dV deq (by rw[d];omega) (by rw[d];omega))
   ·exact absurd c soq
 ·dsimp only at g A B⊢;rw[show(e !=0)=true from by simpa using g];exact aa (dV g A B)
def agm{N:Nat}{v:Bs×Bs}(h:gZ N v=true):v.1.length<=21*(cJ v).length/\v.2.length<=(cJ v).length:=by
 unfold gZ at h;simp only[amk]at h;have b:=F1 h.1;have c:=Bg v.1;have a:(aj (bZ v.1)++v.2).length<(cJ v).length:=dq;rw[amo]at a;omega
def aiP{N:Nat}{v:Bs×Bs}(h:lV N v=true):v.1.length<=21*(ig v).length/\v.2.length<=(ig v).length:=by
 unfold lV at h;simp only[amk]at h;have b:=F1 h.1;have c:=Bg v.1;have a:(aj (bZ v.1)++v.2).length<(ig v).length:=dq;rw[amo]at a;omega
end Go.Fw
def ao8:=@Bool.true_and
namespace Go.Fw
open Go
def Zh{T γ:Type}(l:List T)(ok:T->Bool)(enc:T->Bs)(F:Nat->Nat->List Bs->Option (Int⊕γ))(fin:List Bs->γ)(c:Int)
 (step:∀n i x a,l[i]?=some x->a.length=i->F (n+1) i a=if ok x=true then F n (i+1) (a++[enc x]) else some (.inl c))
 (d:∀n a,a.length=l.length->F (n+1) l.length a=some (.inr (fin a)))(N:Nat)(g:l.length<N):
 F N 0 []=if l.all ok=true then some (.inr (fin (l.map enc))) else some (.inl c):=by
 have e:∀(k n i:Nat),l.length-i=k->k<n->i<=l.length->F n i ((l.take i).map enc)=if (l.drop i).all ok=true then some (.inr (fin (l.map enc))) else some (.inl c):=by
  intro k;induction k with
  |zero=>
   intro n i o p j;obtain⟨n,rfl⟩:∃m,n=m+1:=⟨n-1,omq⟩;obtain rfl:i=l.length:=omq;rw[d n _ siq,List.drop_length,an4];rfl
  |succ k q=>
   intro n i o p j;obtain⟨n,rfl⟩:∃m,n=m+1:=⟨n-1,omq⟩;have b:i<l.length:=omq;rw[step n i l[i] _ (aml b) soq,amP b,anJ];cases h:ok l[i]
   ·simp
   ·have f:=q n (i+1) omq omq omq;rw[ans,aml b,anu]at f;simp only[ao8,ano];exact f
 exact e l.length N 0 omq g omq
def ae5{T γ H:Type}(a:Bs)(g:List TLV)(l:List aJ)(D:cH (EL a) g l)(ok:T->Bool)(enc:T->Bs)(p:Bs->Option (T×Int×Int))(F:Nat->Nat->List T->Option (γ⊕H))(fin:List T->H)(x:Int->Int->γ)
 (O:∀t∈g,OW (p (aj t)) (PS ok enc (aj t)))
 (good:∀n i e t b v,l[i]?=some e->EL a t e->g[i]?=some t->b.length=i->p (aj t)=some (v,0,0)->F (n+1) i b=F n (i+1) (b++[v]))
 (bad:∀n i e t b v c o,l[i]?=some e->EL a t e->g[i]?=some t->b.length=i->p (aj t)=some (v,c,o)->c≠0->F (n+1) i b=some (.inl (x c (az .i64 e.2.2.2.1 o))))
 (u:∀n b,b.length=l.length->F (n+1) l.length b=some (.inr (fin b)))(N:Nat)(I:l.length<N)(W:a.length<10000000):
 (∃h,F N 0 []=some (.inr (fin h))/\h.all ok=true/\(h.map enc)=g.map aj)∨(∃c o,F N 0 []=some (.inl (x c o))/\c≠0/\0<=o/\o<=(a.length:Int)):=by
 have B:∀(k n i:Nat)(b:List T),l.length-i=k->k<n->i<=l.length->b.all ok=true->b.map enc=(g.take i).map aj->
  (∃h,F n i b=some (.inr (fin h))/\h.all ok=true/\(h.map enc)=g.map aj)∨(∃c o,F n i b=some (.inl (x c o))/\c≠0/\0<=o/\o<=(a.length:Int)):=by
  have E:=D.length;intro k;induction k with
  |zero=>
   intro n i b L M K y j;obtain⟨n,rfl⟩:∃m,n=m+1:=⟨n-1,omq⟩;obtain rfl:i=l.length:=omq;have z:=amV List.length j;simp only[am7,amT]at z;exact .inl ⟨b,u n b omq,y,by rw[j,amR omq]⟩
  |succ k P=>
   intro n i b L M K y j;obtain⟨n,rfl⟩:∃m,n=m+1:=⟨n-1,omq⟩;have f:i<l.length:=omq;have z:=amV List.length j;simp only[am7,amT]at z;have d:b.length=i:=omq;obtain⟨t,w,A⟩:=D.get (aml f);obtain⟨⟨v,c,o⟩,G,J⟩:=O t (amS w);rcases J with⟨q1,s,q3⟩|⟨q1,s,q3⟩
   ·cases q1;rw[good n i _ t b v (aml f) A w d G];refine P n (i+1) _ omq omq omq (by simp[y,s]) ?_;rw[anu,j,ans,w,anu];simp[q3]
   ·rw[bad n i _ t b v c o (aml f) A w d G q1];obtain⟨p,q,r,C,Q,R,S,U,V,b7⟩:=A.bd;refine .inr ⟨_,_,rfl,q1,?_,?_⟩
    ·rw[C,bX (by dsimp only at s q3;omega)];dsimp only at s;omega
    ·rw[C,bX (by dsimp only at s q3;omega)];dsimp only at q3;omega
 exact B l.length N 0 [] omq I omq rfl siq
def Xi{T γ w:Type}(a:Bs)(g:List TLV)(l:List aJ)(q:cH (EL a) g l)(enc:T->Bs)(p:Bs->Option (T×Int×Int))(F:Nat->Nat->List T->Option (γ⊕w))(fin:List T->w)(vs:List T)(u:vs.map enc=g.map aj)
 (D:∀v∈vs,p (enc v)=some (v,0,0))
 (good:∀n i e t b v,l[i]?=some e->EL a t e->g[i]?=some t->b.length=i->p (aj t)=some (v,0,0)->F (n+1) i b=F n (i+1) (b++[v]))
 (f:∀n b,b.length=l.length->F (n+1) l.length b=some (.inr (fin b)))(N:Nat)(y:l.length<N):F N 0 []=some (.inr (fin vs)):=by
 have r:=q.length;have E:vs.length=g.length:=by have:=amV List.length u;simpa using this
 have h:∀(k n i:Nat),l.length-i=k->k<n->i<=l.length->F n i (vs.take i)=some (.inr (fin vs)):=by
  intro k;induction k with
  |zero=>
   intro n i B C A;obtain⟨n,rfl⟩:∃m,n=m+1:=⟨n-1,omq⟩;obtain rfl:i=l.length:=omq;rw[f n _ soq,amR omq]
  |succ k G=>
   intro n i B C A;obtain⟨n,rfl⟩:∃m,n=m+1:=⟨n-1,omq⟩;have d:i<l.length:=omq;have c:i<vs.length:=omq;obtain⟨t,s,x⟩:=q.get (aml d);have z:enc vs[i]=aj t:=by
    have j:(vs.map enc)[i]?=(g.map aj)[i]? :=by rw[u]
    rw[anq,anq,s,aml c]at j;exact anm j
   rw[good n i _ t _ vs[i] (aml d) x s soq (by rw[<-z];exact D _ (am8 c))];have o:=G n (i+1) omq omq omq;rw[ans,aml c]at o;exact o
 exact h l.length N 0 omq y omq
def aiQ{T γ O:Type}(d:Nat->Bool)(a:Bs)(s:List TLV)(l:List aJ)(L:cH (EL a) s l)(ok:T->Bool)(enc:T->Bs)(p:Bs->Option (T×Int×Int))(F:Nat->Nat->List T->Option (γ⊕O))(fin:List T->O)(D:Int->Int->γ)
 (hp:∀t∈s,OW (p (aj t)) (PS ok enc (aj t)))
 (good:∀n i e t b v,l[i]?=some e->EL a t e->s[i]?=some t->b.length=i->p (aj t)=some (v,0,0)->d i=true->F (n+1) i b=F n (i+1) (b++[v]))
 (x:∀n i e t b v,l[i]?=some e->EL a t e->s[i]?=some t->b.length=i->p (aj t)=some (v,0,0)->d i=false->F (n+1) i b=some (.inl (D 7 e.2.2.2.1)))
 (bad:∀n i e t b v c o,l[i]?=some e->EL a t e->s[i]?=some t->b.length=i->p (aj t)=some (v,c,o)->c≠0->F (n+1) i b=some (.inl (D c (az .i64 e.2.2.2.1 o))))
 (C:∀n b,b.length=l.length->F (n+1) l.length b=some (.inr (fin b)))(N:Nat)(V:l.length<N)(ha:a.length<10000000):
 (∃w,F N 0 []=some (.inr (fin w))/\w.all ok=true/\(w.map enc)=s.map aj/\∀j<l.length,d j=true)∨(∃c o,F N 0 []=some (.inl (D c o))/\c≠0/\0<=o/\o<=(a.length:Int)):=by
 have K:∀(k n i:Nat)(b:List T),l.length-i=k->k<n->i<=l.length->b.all ok=true->b.map enc=(s.take i).map aj->(∀j<i,d j=true)->
  (∃w,F n i b=some (.inr (fin w))/\w.all ok=true/\(w.map enc)=s.map aj/\∀j<l.length,d j=true)∨(∃c o,F n i b=some (.inl (D c o))/\c≠0/\0<=o/\o<=(a.length:Int)):=by
  have M:=L.length;intro k;induction k with
  |zero=>
   intro n i b Y Z X G y u;obtain⟨n,rfl⟩:∃m,n=m+1:=⟨n-1,omq⟩;obtain rfl:i=l.length:=omq;have H:=amV List.length y;simp only[am7,amT]at H;exact .inl ⟨b,C n b omq,G,by rw[y,amR omq],u⟩
  |succ k ih=>
   intro n i b Y Z X G y u;obtain⟨n,rfl⟩:∃m,n=m+1:=⟨n-1,omq⟩;have g:i<l.length:=omq;have H:=amV List.length y;simp only[am7,amT]at H;have f:b.length=i:=omq;obtain⟨t,A,z⟩:=L.get (aml g);obtain⟨⟨v,c,o⟩,J,W⟩:=hp t (amS A);rcases W with⟨q1,B,q3⟩|⟨q1,B,q3⟩
   ·cases q1;cases I:d i
    ·rw[x n i _ t b v (aml g) z A f J I];obtain⟨p,q,r,E,P,Q,R,S,U,b7⟩:=z.bd;exact .inr ⟨_,_,rfl,by decide,omq,omq⟩
    rw[good n i _ t b v (aml g) z A f J I];refine ih n (i+1) _ omq omq omq (by simp[G,B]) ?_ ?_
    ·rw[anu,y,ans,A,anu];simp[q3]
    ·intro j hj;rcases amB j i with h|h
     ·exact u j h
     ·rw[show j=i from omq];exact I
   ·rw[bad n i _ t b v c o (aml g) z A f J q1];obtain⟨p,q,r,E,P,Q,R,S,U,b7⟩:=z.bd;refine .inr ⟨_,_,rfl,q1,?_,?_⟩
    ·rw[E,bX (by dsimp only at B q3;omega)];dsimp only at B;omega
    ·rw[E,bX (by dsimp only at B q3;omega)];dsimp only at q3;omega
 exact K l.length N 0 [] omq V omq rfl siq omq
def adM{T γ y:Type}(d:Nat->Bool)(j:∀i,d i=true)(a:Bs)(h:List TLV)(l:List aJ)(s:cH (EL a) h l)(enc:T->Bs)(p:Bs->Option (T×Int×Int))(F:Nat->Nat->List T->Option (γ⊕y))(fin:List T->y)(vs:List T)(x:vs.map enc=h.map aj)
 (G:∀v∈vs,p (enc v)=some (v,0,0))
 (good:∀n i e t b v,l[i]?=some e->EL a t e->h[i]?=some t->b.length=i->p (aj t)=some (v,0,0)->d i=true->F (n+1) i b=F n (i+1) (b++[v]))
 (g:∀n b,b.length=l.length->F (n+1) l.length b=some (.inr (fin b)))(N:Nat)(A:l.length<N):F N 0 []=some (.inr (fin vs)):=by
 have u:=s.length;have H:vs.length=h.length:=by have:=amV List.length x;simpa using this
 have o:∀(k n i:Nat),l.length-i=k->k<n->i<=l.length->F n i (vs.take i)=some (.inr (fin vs)):=by
  intro k;induction k with
  |zero=>
   intro n i D E C;obtain⟨n,rfl⟩:∃m,n=m+1:=⟨n-1,omq⟩;obtain rfl:i=l.length:=omq;rw[g n _ soq,amR omq]
  |succ k I=>
   intro n i D E C;obtain⟨n,rfl⟩:∃m,n=m+1:=⟨n-1,omq⟩;have f:i<l.length:=omq;have c:i<vs.length:=omq;obtain⟨t,w,z⟩:=s.get (aml f);have B:enc vs[i]=aj t:=by
    have q:(vs.map enc)[i]?=(h.map aj)[i]? :=by rw[x]
    rw[anq,anq,w,aml c]at q;exact anm q
   rw[good n i _ t _ vs[i] (aml f) z w soq (by rw[<-B];exact G _ (am8 c)) (j i)];have r:=I n (i+1) omq omq omq;rw[ans,aml c]at r;exact r
 exact o l.length N 0 omq A omq
def tn{T:Type}(enc:T->Bs):∀(vs:List T)(v:T),v∈vs->(enc v).length<=((vs.map enc).flatten).length
 |[],_,h=>by simp at h
 |a::r,v,h=>by
  simp only[amz,List.flatten_cons,amo];rcases amN.1 h with rfl|h
  ·omega
  ·have:=tn enc r v h;omega
end Go.Fw
namespace Go.Fw
open Go
def HI:Bs->Bs->Int
 |[],[]=>0
 |[],_::_=> -1
 |_::_,[]=>1
 |x::a,y::b=>if x.toNat<y.toNat then-1 else if y.toNat<x.toNat then 1 else HI a b
def adN(x y:UInt8):pw (x.toNat:Int) (y.toNat:Int)=some (if x.toNat<y.toNat then-1 else if y.toNat<x.toNat then 1 else 0):=by
 unfold pw yp BC syv;have h:∀n:Int,(n !=n)=false:=λn=>by simp
 simp only[h,amj,amp];by_cases a:x.toNat<y.toNat
 ·rw[amq (by omega:(x.toNat:Int)<(y.toNat:Int)),amE a];rfl
 ·rw[amm (by omega:¬(x.toNat:Int)<(y.toNat:Int)),am4 a];by_cases b:y.toNat<x.toNat
  ·rw[amq (by omega:(x.toNat:Int)>(y.toNat:Int)),amE b];rfl
  ·rw[amm (by omega:¬(x.toNat:Int)>(y.toNat:Int)),am4 b];rfl
def al3:Int⊕(Bs×Bs)->Int
 |.inl i=>i
 |.inr (a,b)=>if a.length<b.length then-1 else 0
def adO(N:Nat)(a b:Bs)(p:a.length<100000000):∀(k n i:Nat),a.length-i=k->k<n->i<=a.length->i<=b.length->∃y,dE N n (a,b,a,(a.length:Int),(i:Int))=some y/\al3 y=HI (a.drop i) (b.drop i):=by
 intro k;induction k with
 |zero=>
  intro n i j l g f;obtain⟨n,rfl⟩:∃m,n=m+1:=⟨n-1,omq⟩;refine⟨.inr (a,b),?_,?_⟩
  ·show(bif decide ((i:Int)<(a.length:Int)) then _ else _)=_;rw[amm omq];rfl
  ·rw[am1 (show a.length<=i by omega)];show(if a.length<b.length then(-1:Int) else 0)=_;by_cases h:a.length<b.length
   ·rw[amE h,amP (show i<b.length by omega)];rfl
   ·rw[am4 h,am1 (show b.length<=i by omega)];rfl
 |succ k o=>
  intro n i j l g f;obtain⟨n,rfl⟩:∃m,n=m+1:=⟨n-1,omq⟩;have c:i<a.length:=omq;rw[amP c];show ∃y,(bif decide ((i:Int)<(a.length:Int)) then _ else _)=some y/\_;rw[amq omq,amw,aM (aml c),amj];by_cases h:i<b.length
  ·rw[amm (by omega:¬(i:Int)>=(b.length:Int)),amp,aM (aml h),amj,adN,amj,amP h];unfold HI;by_cases d:a[i].toNat<b[i].toNat
   ·rw[amE d,amE d];exact⟨_,rfl,rfl⟩
   ·rw[am4 d,am4 d];by_cases e:b[i].toNat<a[i].toNat
    ·rw[amE e,amE e];exact⟨_,rfl,rfl⟩
    ·rw[am4 e,am4 e,bg omq];exact o n (i+1) omq omq omq omq
  ·rw[amq (by omega:(i:Int)>=(b.length:Int)),amw,am1 (show b.length<=i by omega)];exact⟨_,rfl,rfl⟩
def agn{N:Nat}(e:FN N)(a b:Bs)(f:a.length<100000000):sP N a b=some (HI a b):=by
 unfold FN at e;obtain⟨y,d,c⟩:=adO N a b f a.length N 0 omq omq omq omq;rw[anb,anb]at c;unfold sP gJ syv;rw[show dE N N (a,b,a,(a.length:Int),0)=some y from d,amj,<-c];rcases y with i|⟨x,z⟩
 ·rfl
 ·show Option.bind (bif decide ((x.length:Int)<(z.length:Int)) then _ else _) _=some (if x.length<z.length then(-1:Int) else 0);by_cases h:x.length<z.length
  ·rw[amq (by omega:(x.length:Int)<(z.length:Int)),amE h];rfl
  ·rw[amm (by omega:¬(x.length:Int)<(z.length:Int)),am4 h];rfl
def oa:List Bs->Bool
 |[]=>true
 |a::r=>match r with
  |[]=>true
  |b::_=>decide (HI a b<0)&&oa r
def Km(a b:Bs)(r:List Bs):oa (a::b::r)=(decide (HI a b<0)&&oa (b::r)):=rfl
def RI:∀(l:List Bs)(i:Nat),oa l=true->oa (l.take i)=true
 |_,0,_=>by simp[oa]
 |[],_+1,_=>rfl
 |[a],i+1,_=>by simp[oa]
 |a::b::r,1,_=>rfl
 |a::b::r,i+2,h=>by
  rw[Km,amk]at h;have:=RI (b::r) (i+1) h.2;simp only[aol]at this⊢;rw[Km,h.1,this];rfl
def adP(N:Nat)(e:FN N)(l:List Bs)(q:l.length<100000000)(o:∀x∈l,x.length<100000000):∀(k n i:Nat),l.length-i=k->k<n->1<=i->i<=l.length->ip N n (l,(l.length:Int),(i:Int))=some (bif oa (l.drop (i-1)) then .inr () else .inl false):=by
 intro k;induction k with
 |zero=>
  intro n i g j f d;obtain⟨n,rfl⟩:∃m,n=m+1:=⟨n-1,omq⟩;show(bif decide ((i:Int)<(l.length:Int)) then _ else _)=_;rw[amm omq,amp,amP (show i-1<l.length by omega),am1 (show l.length<=i-1+1 by omega)];rfl
 |succ k p=>
  intro n i g j f d;obtain⟨n,rfl⟩:∃m,n=m+1:=⟨n-1,omq⟩;have b:i<l.length:=omq;have a:i-1<l.length:=omq;show(bif decide ((i:Int)<(l.length:Int)) then _ else _)=_;rw[amq omq,amw,amq (by omega:(i:Int)>0),amw,Yf omq omq,aM (aml a),amj,aM (aml b),amj,agn e _ _ (o _ (am8 a)),amj,bg omq,amP a,amP (show i-1+1<l.length by omega),Km];have c:l[i-1+1]'(by omega)=l[i]:=by congr 1;omega
  rw[c];by_cases h:HI l[i-1] l[i]<0
  ·rw[amm (by omega:¬HI l[i-1] l[i]>=0),amq h,amp,ao8];refine(p n (i+1) omq omq omq omq).trans ?_;rw[Nat.add_sub_cancel,amP b,show i-1+1+1=i+1 from omq]
  ·rw[amq (by omega:HI l[i-1] l[i]>=0),amm h];rfl
def QK{N:Nat}(b:FN N)(l:List Bs)(e:l.length<100000000)(g:∀x∈l,x.length<100000000):qZ N l=some (oa l):=by
 have a:=b;unfold FN at a;unfold qZ syv;cases l with
 |nil=>
  obtain⟨n,rfl⟩:∃m,N=m+1:=⟨N-1,omq⟩;rfl
 |cons x r=>
  have c:ip N N (x::r,((x::r).length:Int),0)=some (bif oa (x::r) then .inr () else .inl false):=by
   obtain⟨n,f⟩:∃m,N=m+1:=⟨N-1,omq⟩;have d:=adP N b (x::r) e g ((x::r).length-1) n 1 rfl omq omq siq;rw[show ip N N=ip N (n+1) from by rw[<-f]];show(bif decide ((0:Int)<((x::r).length:Int)) then _ else _)=_;rw[amq (by simp only[amr];omega),amw];exact d
  rw[c,amj];cases oa (x::r)<;>rfl
end Go.Fw
namespace Go.Fw
open Go
abbrev Rdn:=List (Bs×Bs)
noncomputable def sF(v:Bs×Bs):TLV:=(0,true,16,aj (bZ v.1)++v.2)
def QL(v:Bs×Bs):cJ v=aj (sF v):=rfl
noncomputable def kR(N:Nat)(r:Rdn):Bool:= !r.isEmpty&&(r.all (gZ N)&&oa (r.map cJ))
noncomputable def gP(r:Rdn):Bs:=tlv 0 true 17 ((r.map cJ).flatten)
noncomputable def nB(N:Nat)(n:List Rdn):Bool:=n.all (kR N)
noncomputable def ju(n:List Rdn):Bs:=tlv 0 true 16 ((n.map gP).flatten)
def wA(v:Bs×Bs):Nat:=v.1.length+v.2.length+20
def wR(r:Rdn):Nat:=(r.map wA).sum+20
def wN(n:List Rdn):Nat:=(n.map wR).sum+20
def aa4(v:Bs×Bs)(h:wA v<100000000):(cJ v).length<=6*wA v:=by
 unfold wA at h⊢;have e:=tq v.1;have a:=dr (c:=0) (num:=6) (k:=false) (b:=fQ v.1) omq;have f:(aj (bZ v.1)).length<=(fQ v.1).length+6:=a;have d:=dr (c:=0) (num:=16) (k:=true) (b:=aj (bZ v.1)++v.2) (by rw[amo];omega);rw[amo]at d;show(tlv 0 true 16 (aj (bZ v.1)++v.2)).length<=_;omega
def lm{T:Type}(w:T->Nat):∀(r:List T)(v:T),v∈r->w v<=(r.map w).sum
 |[],_,h=>by simp at h
 |a::r,v,h=>by
  simp only[amz,anK];rcases amN.1 h with rfl|h
  ·omega
  ·have:=lm w r v h;omega
def Ln{T:Type}(w:T->Nat)(e:T->Bs)(c:Nat):∀(r:List T),(∀v∈r,(e v).length<=c*w v)->((r.map e).flatten).length<=c*(r.map w).sum
 |[],_=>by simp
 |a::r,h=>by
  have d:=h a siq;have f:=Ln w e c r λv b=>h v (by simp[b]);simp only[amz,List.flatten_cons,amo,anK,Nat.mul_add];omega
def xT{T:Type}(w:T->Nat)(c:Nat)(b:∀v,c<=w v):∀(r:List T),c*r.length<=(r.map w).sum
 |[]=>by simp
 |a::r=>by
  have d:=b a;have e:=xT w c b r;simp only[amz,anK,amr,Nat.mul_add];omega
def RJ(r:Rdn)(h:wR r<50000000):((r.map cJ).flatten).length+120<=6*wR r:=by
 unfold wR at h⊢;have:=Ln wA cJ 6 r λv a=>aa4 v (by have:=lm wA r v a;omega);omega
def adQ(r:Rdn)(h:wR r<50000000):(gP r).length<=6*wR r:=by
 have a:=RJ r h;have d:=dr (c:=0) (num:=17) (k:=true) (b:=(r.map cJ).flatten) omq;show(tlv 0 true 17 _).length<=_;omega
def aa5{α:Type}(l:List α):(!l.isEmpty)= !((l.length:Int)==0):=by
 rw[Q0];cases l<;>simp
def adR{N:Nat}(e:FN N)(r:Rdn)(h:wR r<10000000)(k:Int)(c:Bool):ku N N (r,(r.length:Int),0,k,c,[])=if r.all (gZ N)=true then some (.inr (k,c,r.map cJ)) else some (.inl 8):=by
 have b:=e;unfold FN at b;have l:=xT wA 20 (λv=>by unfold wA;omega) r;unfold wR at h;refine Zh r (gZ N) cJ (λn i a=>ku N n (r,(r.length:Int),(i:Int),k,c,a)) (λp=>(k,c,p)) 8 (λn i x a d f=> ?_) (λn a f=> ?_) N omq
 ·have g:=ai d;have m:=lm wA r x (amS d);have j:wA x=x.1.length+x.2.length+20:=rfl;show(bif decide ((i:Int)<(r.length:Int)) then(nL N (i:Int) r).bind _ else _)=_;rw[amq omq,amw];unfold nL syv;rw[aM d,amj,aiO e x omq omq];cases gZ N x
  ·rfl
  ·simp only[amw,amj,ano];rw[show((0:Int) !=0)=false from rfl,amp,cQ omq (by simp only[amr,amI];omega),amj,bg omq];rfl
 ·show(bif decide ((r.length:Int)<(r.length:Int)) then _ else _)=_;rw[amm omq];rfl
def ae6{N:Nat}(a:FN N)(r:Rdn)(h:wR r<10000000):uJ N r=some (bif kR N r then(gP r,0) else([],8)):=by
 have b:=a;unfold FN at b;have c:=RJ r omq;have j:=xT wA 20 (λv=>by unfold wA;omega) r;unfold uJ kR syv;rw[aa5];cases g:((r.length:Int)==0)
 ·rw[amp];unfold tw syv;rw[adR a r h];cases i:r.all (gZ N)
  ·simp
  ·rw[amE rfl,amj];dsimp only;unfold wR at h c;rw[amw,QK a _ soq (λx f=>by
    obtain⟨v,d,rfl⟩:=anh.1 f;have:=tn cJ r v d;omega),amj]
   cases hO:oa (r.map cJ)
   ·rfl
   ·have e:=KF a 0 17 omq omq true (r.map cJ) soq omq;rw[am3,amp,show cz N 0 true 17 (r.map cJ)=_ from e];rfl
 ·rfl
def Zi(n:List Rdn)(h:wN n<50000000):((n.map gP).flatten).length+120<=6*wN n:=by
 unfold wN at h⊢;have:=Ln wR gP 6 n λv a=>adQ v (by have:=lm wR n v a;omega);omega
def Vh{N:Nat}(b:FN N)(l:List Rdn)(h:wN l<10000000):BG N l=some (bif nB N l then(ju l,0) else([],8)):=by
 have c:=b;unfold FN at c;have g:=Zi l omq;have o:=xT wR 20 (λv=>by unfold wR;omega) l;unfold wN at h g;have k:=Zh l (kR N) gP (λn i a=>kw N n (l,(l.length:Int),(i:Int),16,false,a)) (λp=>((16:Int),false,p)) 8 (λn i x a d f=>by
  have j:=ai d;have e:=lm wR l x (amS d);show(bif decide ((i:Int)<(l.length:Int)) then(ra N (i:Int) l).bind _ else _)=_;rw[amq omq,amw];unfold ra syv;rw[aM d,amj,ae6 b x omq];cases kR N x
  ·rfl
  ·simp only[amw,amj,ano];rw[show((0:Int) !=0)=false from rfl,amp,cQ omq (by simp only[amr,amI];omega),amj,bg omq];rfl) (λn a f=>by
  show(bif decide ((l.length:Int)<(l.length:Int)) then _ else _)=_;rw[amm omq];rfl) N omq
 unfold BG tA nB syv;rw[show kw N N (l,(l.length:Int),0,16,false,[])=_ from k];cases m:l.all (kR N)
 ·simp
 ·rw[amE rfl,amj];dsimp only;have e:=KF b 0 16 omq omq true (l.map gP) soq omq;rw[amp,show cz N 0 true 16 (l.map gP)=_ from e];rfl
def Zj{N:Nat}(a:FN N)(l:List Rdn)(h:wN l<10000000):Gx N l=some (nB N l):=by
 unfold Gx syv;rw[Vh a l h];cases nB N l<;>rfl
def aa6{N:Nat}(a:FN N)(l:Rdn)(h:wR l<10000000):su N l=some (kR N l):=by
 unfold su syv;rw[ae6 a l h];cases kR N l<;>rfl
end Go.Fw
def apU:=@List.mem_of_mem_take
namespace Go.Fw
open Go
noncomputable def Kn(r:Rdn):TLV:=(0,true,17,(r.map cJ).flatten)
def aa7(r:Rdn):gP r=aj (Kn r):=rfl
noncomputable def Lo(r:List Rdn):TLV:=(0,true,16,(r.map gP).flatten)
def Lp{T:Type}(enc:T->Bs)(tl:T->TLV)(h:∀v,enc v=aj (tl v))(vs:List T):vs.map enc=(vs.map tl).map aj:=by
 rw[List.map_map];exact List.map_congr_left λv _=>h v
def cZ(t:TLV):t.2.2.2.length<(aj t).length:=by have:=tm t;omega
def gh:∀(b:List TLV)(t:TLV),t∈b->(aj t).length<=(ax b).length
 |[],_,h=>by simp at h
 |a::r,t,h=>by
  rw[eG,amo];rcases amN.1 h with rfl|h
  ·omega
  ·have:=gh r t h;omega
def HK{N:Nat}(k:FN N)(a:Bs)(y:a.length<9000000)(b:List TLV)(l:List aJ)(m:cH (EL a) b l)(z:(ax b).length<9000000)(n i:Nat)(e:aJ)(t:TLV)(acc:Rdn)(v:Bs×Bs)(c o:Int)(d:l[i]?=some e)(j:EL a t e)(g:acc.length=i)(w:cK N (aj t)=some (v,c,o))(r:b[i]?=some t):
 bK N (n+1) (a,l,(l.length:Int),(i:Int),0,0,acc,(b.take i).map aj)=bif c !=0 then some (.inl (c,az .i64 e.2.2.2.1 o)) else bif oa ((b.take (i+1)).map aj) then bK N n (a,l,(l.length:Int),((i+1:Nat):Int),0,0,acc++[v],(b.take (i+1)).map aj) else some (.inl (7,e.2.2.2.1)):=by
 have q:=ai d;have h:=m.length;have p:=ez b;have f:(b.take i).map aj++[aj t]=(b.take (i+1)).map aj:=by rw[ans,r,anu];rfl
 show(bif decide ((i:Int)<(l.length:Int)) then _ else _)=_;rw[amq omq,amw,aM d,amj,j.whole,amj,cQ omq soq,amj,amj,w,amj,f];dsimp only;rw[QK k _ soq (λx d=>by
  obtain⟨u,s,rfl⟩:=anh.1 d;have:=gh b u (apU s);omega),amj,cQ omq (by simp only[amr,amI];omega),amj,bg omq]
 cases oa ((b.take (i+1)).map aj)<;>rfl
def aa8{N:Nat}(k:FN N)(a:Bs)(y:a.length<9000000):OW (ed N a) (PS (kR N) gP a):=by
 have x:=k;unfold FN at x;unfold ed syv;refine ag (jt k a omq 0 17) ?_;rintro⟨l,e,o⟩ (⟨L,d,w,_,_,I,j⟩|⟨w,G,H⟩)
 ·cases L;dsimp only at j⊢;rw[show((0:Int) !=0)=false from rfl,amp,Q0];have P:(ax d).length<a.length:=by rw[I];exact dq
  have M:=ez d;have q:=j.length;by_cases g:l=[]
  ·rw[amq g];exact aa (dV deq omq omq)
  ·rw[amm g,amp];have E:=aiQ (λi=>oa ((d.take (i+1)).map aj)) a d l j (gZ N) cJ (cK N) (λn i b=>bK N n (a,l,(l.length:Int),(i:Int),0,0,b,(d.take i).map aj)) (λv=>((0:Int),(0:Int),v)) (λc o=>(c,o))
    (λt h=>agl k _ (by have:=gh d t h;omega))
    (λn i e t b v s m h f r p=>by
      show bK N (n+1) _=_;rw[HK k a y d l j omq n i e t b v 0 0 s m f r h,p];rfl)
    (λn i e t b v s m h f r p=>by
      show bK N (n+1) _=_;rw[HK k a y d l j omq n i e t b v 0 0 s m f r h,p];rfl)
    (λn i e t b v c o s m h f r p=>by
      show bK N (n+1) _=_;rw[HK k a y d l j omq n i e t b v c o s m f r h,show(c !=0)=true from by simpa using p];rfl)
    (λn b J=>by
      show(bif decide ((l.length:Int)<(l.length:Int)) then _ else _)=_;rw[amm omq];rfl) N omq omq
   have O:bK N N (a,l,(l.length:Int),0,0,0,[],[])=bK N N (a,l,(l.length:Int),((0:Nat):Int),0,0,[],(d.take 0).map aj):=rfl;rw[O];rcases E with⟨F,B,C,u,D⟩|⟨c,o,B,C,u,D⟩
   ·rw[B,amj];have z:d≠[]:=λe=>by subst e;exact g (amY (by simpa using q.symm))
    have A:F≠[]:=λe=>by
     subst e;have:=amV List.length u;simp at this;exact z (amY this.symm)
    have hO:oa (F.map cJ)=true:=by
     have K:0<l.length:=by cases l with|nil=>exact absurd rfl g|cons=>simp
     have:=D (l.length-1) omq;rw[show l.length-1+1=d.length from omq,an4]at this;rw[u,this]
    refine aa (yk ?_ ?_)
    ·unfold kR;rw[C,hO];cases F with
     |nil=>exact absurd rfl A
     |cons=>rfl
    ·rw[I];unfold gP;rw[u];rfl
   ·rw[B,amj];exact aa (dV C u D)
 ·dsimp only at w G H⊢;rw[show(e !=0)=true from by simpa using w];exact aa (dV w G H)
def Vi{T:Type}(enc:T->Bs)(tl:T->TLV)(h:∀v,enc v=aj (tl v))(vs:List T):(vs.map enc).flatten=ax (vs.map tl):=by
 rw[Lp enc tl h];rfl
def aiR{N:Nat}(q:FN N)(r:Rdn)(h:kR N r=true)(a:Bs)(p:gP r=a)(G:a.length<9000000):ed N a=some (r,0,0):=by
 have u:=q;unfold FN at u;unfold kR at h;simp only[amk]at h;obtain⟨D,E,F⟩:=h;have M:((r.map cJ).flatten).length<a.length:=by rw[<-p];exact dq
 have j:=Vi cJ sF QL r;have f:∀v∈r,(cJ v).length<9000000:=λv g=>by have:=tn cJ r v g;omega
 have o:∀v∈r,gZ N v=true:=amM.1 E;obtain⟨l,C,s⟩:=lq q (c:=0) (num:=17) omq omq a (r.map sF) (by rw[<-p,<-j];rfl) (λt y=>by
  obtain⟨v,g,rfl⟩:=anh.1 y;have:=f v g;exact sg omq omq (by have:=dq (c:=0) (num:=16) (k:=true) (b:=aj (bZ v.1)++v.2);have e:(tlv 0 true 16 (aj (bZ v.1)++v.2)).length=(cJ v).length:=rfl;omega)) omq 0 17 rfl rfl
 have m:=s.length;have K:(ax (r.map sF)).length<9000000:=by rw[<-j];omega
 have I:=ez (r.map sF);unfold ed syv;rw[C,amj];dsimp only;have x:l≠[]:=λe=>by
  subst e;have:r=[]:=amY (by simpa using m);subst this;cases D
 have B:=Lp cJ sF QL r;have z:=adM (λi=>oa (((r.map sF).take (i+1)).map aj)) (λi=>by
  show oa (((r.map sF).take (i+1)).map aj)=true;rw[List.map_take,<-B];exact RI _ _ F) a (r.map sF) l s cJ (cK N) (λn i d=>bK N n (a,l,(l.length:Int),(i:Int),0,0,d,((r.map sF).take i).map aj)) (γ:=Int×Int) (λv=>((0:Int),(0:Int),v)) r B
  (λv g=>agk q v (o v g) _ rfl (f v g))
  (λn i e t d v L p y w g H=>by
    show bK N (n+1) _=_;rw[HK q a G _ l s K n i e t d v 0 0 L p w g y,H];rfl)
  (λn d A=>by
    show(bif decide ((l.length:Int)<(l.length:Int)) then _ else _)=_;rw[amm omq];rfl) N omq
 have J:bK N N (a,l,(l.length:Int),0,0,0,[],[])=bK N N (a,l,(l.length:Int),((0:Nat):Int),0,0,[],((r.map sF).take 0).map aj):=rfl;rw[show((0:Int) !=0)=false from rfl,amp,Q0,amm x,amp,J,z];rfl
end Go.Fw
namespace Go.Fw
open Go
def ago{r:Rdn}(h:(gP r).length<9000000):okT (Kn r):=by
 have a:((r.map cJ).flatten).length<(gP r).length:=dq;exact sg omq omq omq
def Ko{N:Nat}(q:FN N)(a:Bs)(b:List TLV)(l:List aJ)(j:cH (EL a) b l)(r:(ax b).length<9000000)(n i:Nat)(e:aJ)(t:TLV)(acc:List Rdn)(v:Rdn)(c o:Int)(g:l[i]?=some e)(h:EL a t e)(d:acc.length=i)(p:ed N (aj t)=some (v,c,o)):
 de N (n+1) (a,l,(l.length:Int),(i:Int),0,0,acc)=bif c !=0 then some (.inl (c,az .i64 e.2.2.2.1 o)) else de N n (a,l,(l.length:Int),((i+1:Nat):Int),0,0,acc++[v]):=by
 have m:=ai g;have f:=j.length;have k:=ez b;show(bif decide ((i:Int)<(l.length:Int)) then _ else _)=_;rw[amq omq,amw,aM g,amj,h.whole,amj,p,amj];dsimp only;rw[cQ omq (by simp only[amr,amI];omega),amj,bg omq];rfl
def Xj{N:Nat}(h:FN N)(a:Bs)(H:a.length<9000000):OW (iu N a) (PS (nB N) ju a):=by
 have m:=h;unfold FN at m;unfold iu syv;refine ag (jt h a omq 0 16) ?_;rintro⟨l,e,o⟩ (⟨D,f,j,_,_,A,g⟩|⟨j,y,z⟩)
 ·cases D;dsimp only at g⊢;rw[show((0:Int) !=0)=false from rfl,amp];have I:(ax f).length<a.length:=by rw[A];exact dq
  have F:=ez f;have C:=g.length;have x:=ae5 a f l g (kR N) gP (ed N) (λn i b=>de N n (a,l,(l.length:Int),(i:Int),0,0,b)) (λv=>((0:Int),(0:Int),v)) (λc o=>(c,o))
   (λt p=>aa8 h _ (by have:=gh f t p;omega))
   (λn i e t b v r k p d q=>by
     show de N (n+1) _=_;rw[Ko h a f l g omq n i e t b v 0 0 r k d q];rfl)
   (λn i e t b v c o r k p d q E=>by
     show de N (n+1) _=_;rw[Ko h a f l g omq n i e t b v c o r k d q,show(c !=0)=true from by simpa using E];rfl)
   (λn b B=>by
     show(bif decide ((l.length:Int)<(l.length:Int)) then _ else _)=_;rw[amm omq];rfl) N omq omq
  rw[show de N N (a,l,(l.length:Int),0,0,0,[])=de N N (a,l,(l.length:Int),((0:Nat):Int),0,0,[]) from rfl];rcases x with⟨J,s,u,w⟩|⟨c,o,s,u,w,G⟩
  ·rw[s,amj];refine aa (yk u ?_);rw[A];unfold ju;rw[w];rfl
  ·rw[s,amj];exact aa (dV u w G)
 ·dsimp only at j y z⊢;rw[show(e !=0)=true from by simpa using j];exact aa (dV j y z)
def agp{N:Nat}(m:FN N)(r:List Rdn)(h:nB N r=true)(a:Bs)(k:ju r=a)(D:a.length<9000000):iu N a=some (r,0,0):=by
 have p:=m;unfold FN at p;have E:((r.map gP).flatten).length<a.length:=by rw[<-k];exact dq
 have g:=Vi gP Kn aa7 r;have d:∀v∈r,(gP v).length<9000000:=λv f=>by have:=tn gP r v f;omega
 have j:∀v∈r,kR N v=true:=amM.1 h;obtain⟨l,y,o⟩:=lq m (c:=0) (num:=16) omq omq a (r.map Kn) (by rw[<-k,<-g];rfl) (λt x=>by
  obtain⟨v,f,rfl⟩:=anh.1 x;exact ago (d v f)) omq 0 16 rfl rfl
 have w:=o.length;have B:(ax (r.map Kn)).length<9000000:=by rw[<-g];omega
 have z:=ez (r.map Kn);unfold iu syv;rw[y,amj];dsimp only;have A:=Lp gP Kn aa7 r;have s:=Xi a (r.map Kn) l o gP (ed N) (λn i b=>de N n (a,l,(l.length:Int),(i:Int),0,0,b)) (γ:=Int×Int) (λv=>((0:Int),(0:Int),v)) r A
  (λv f=>aiR m v (j v f) _ rfl (d v f))
  (λn i e t b v C k x q f=>by
    show de N (n+1) _=_;rw[Ko m a _ l o B n i e t b v 0 0 C k q f];rfl)
  (λn b u=>by
    show(bif decide ((l.length:Int)<(l.length:Int)) then _ else _)=_;rw[amm omq];rfl) N omq
 rw[show((0:Int) !=0)=false from rfl,amp,show de N N (a,l,(l.length:Int),0,0,0,[])=de N N (a,l,(l.length:Int),((0:Nat):Int),0,0,[]) from rfl,s];rfl
def aa9{N:Nat}{r:Rdn}(h:kR N r=true):wR r<=32*(gP r).length:=by
 unfold kR at h;simp only[amk]at h;have a:=amM.1 h.2.1;have i:((r.map cJ).flatten).length<(gP r).length:=dq;have b:∀(l:Rdn),(∀v∈l,gZ N v=true)->(l.map wA).sum<=32*((l.map cJ).flatten).length:=by
  intro l;induction l with
  |nil=>simp
  |cons v l g=>
   intro c;have j:=agm (c v siq);have d:=g λx f=>c x (by simp[f]);have e:=Ha (sF v);rw[<-QL]at e;simp only[amz,anK,List.flatten_cons,amo];unfold wA at d⊢;omega
 have:=b r a;unfold wR;omega
def Xk{N:Nat}{n:List Rdn}(h:nB N n=true):wN n<=32*(ju n).length:=by
 have a:=amM.1 h;have f:((n.map gP).flatten).length<(ju n).length:=dq;have b:∀(l:List Rdn),(∀v∈l,kR N v=true)->(l.map wR).sum<=32*((l.map gP).flatten).length:=by
  intro l;induction l with
  |nil=>simp
  |cons v l e=>
   intro c;have g:=aa9 (c v siq);have i:=e λx d=>c x (by simp[d]);simp only[amz,anK,List.flatten_cons,amo];omega
 have:=b n a;unfold wN;omega
end Go.Fw
namespace Go.Fw
open Go
abbrev bE:=Bs×Bool×Bs
def wk:TLV:=(0,false,1,[255])
def iV(b:Bs):TLV:=(0,false,4,b)
noncomputable def gE(v:bE):List TLV:=bZ v.1::((bif v.2.1 then [wk] else [])++[iV v.2.2])
noncomputable def qH(v:bE):Bool:=gG v.1
noncomputable def HM(v:bE):TLV:=(0,true,16,ax (gE v))
noncomputable def fF(v:bE):Bs:=aj (HM v)
def wE(v:bE):Nat:=v.1.length+v.2.2.length+40
def adS(b:Bs)(h:b.length<4000000000):(aj (iV b)).length<=b.length+6:=dr (b:=b) omq
def aba:(aj wk).length=3:=by decide
def Kp(v:bE)(h:wE v<100000000):(ax (gE v)).length+200<=6*wE v:=by
 unfold wE at h⊢;have a:=tq v.1;have d:(aj (bZ v.1)).length<=(fQ v.1).length+6:=dr (c:=0) (num:=6) (k:=false) (b:=fQ v.1) omq;have e:=adS v.2.2 omq;have f:=aba;unfold gE;cases v.2.1
 ·simp only[amp,anc];rw[H4,amo];omega
 ·simp only[amw,apb];rw[SS,amo,amo];omega
def adT(v:bE)(h:wE v<100000000):(fF v).length<=6*wE v:=by
 have a:=Kp v h;have d:(fF v).length<=(ax (gE v)).length+6:=dr (c:=0) (num:=16) (k:=true) (b:=ax (gE v)) (by unfold wE at a h;omega);omega
def qo{N:Nat}(g:FN N)(c num:Nat)(k:Bool)(b:Bs)(e f:Int)(a:e=(c:Int))(d:f=(num:Int))(i:c<4)(j:num<31)(l:b.length<2000000000):cz N e k f [b]=some (aj (c,k,num,b),0):=by
 subst a d;have h:=KF g c num i j k [b] siq soq;rw[h];simp[aj]
def DS{N:Nat}(a:FN N)(xs:List Bs)(b:Bs)(e:xs.flatten=b)(c:xs.length<10000000)(d:b.length<2000000000):eF N xs=some (aj (0,true,16,b),0):=by
 subst e;exact Pv a xs c omq
def akw{N:Nat}(a:FN N)(v:bE)(h:wE v<10000000):oO N v=some (bif qH v then(fF v,0) else([],8)):=by
 have e:=Kp v omq;have d:=h;unfold wE at d e;have f:=tq v.1;unfold oO qH syv;rw[F0 a _ omq];cases hO:gG v.1
 ·rfl
 ·rw[amw,amj];dsimp only;rw[show((0:Int) !=0)=false from rfl,amp,qo a 0 6 false (fQ v.1) 0 6 rfl rfl omq omq omq,amj];dsimp only;rw[cQ omq siq,amj];cases c:v.2.1
  ·have b:[aj (bZ v.1),aj (iV v.2.2)].flatten=ax (gE v):=by
    unfold gE;rw[c];simp[ax]
   rw[amp,amj];dsimp only;rw[qo a 0 4 false v.2.2 0 4 rfl rfl omq omq omq,amj];dsimp only;rw[cQ omq siq,amj,show(gv (gv 0 0) 0 !=0)=false from by rw[jO,jO];rfl,amp];show Option.bind (eF N [aj (bZ v.1),aj (iV v.2.2)]) _=_;rw[DS a _ _ b siq omq];rfl
  ·have b:[aj (bZ v.1),aj wk,aj (iV v.2.2)].flatten=ax (gE v):=by
    unfold gE;rw[c];simp[ax]
   rw[amw,show np true=some [255] from by unfold np syv;rfl,amj,qo a 0 1 false [255] 0 1 rfl rfl omq omq siq,amj];dsimp only;rw[cQ omq siq,amj,amj];dsimp only;rw[qo a 0 4 false v.2.2 0 4 rfl rfl omq omq omq,amj];dsimp only;rw[cQ omq siq,amj,show(gv (gv (gv 0 0) 0) 0 !=0)=false from by rw[jO,jO,jO];rfl,amp];show Option.bind (eF N [aj (bZ v.1),aj wk,aj (iV v.2.2)]) _=_;rw[DS a _ _ b siq omq];rfl
def aiS(c:Bs):∃v e,dY c=some (v,e)/\(e=0->v=true->c=[255]):=by
 obtain⟨v,e,h⟩:=Uo c;refine⟨v,e,h,?_⟩;rintro rfl rfl;unfold dY syv at h
 match c with
 |[]=>cases h
 |x::y::r=>
  rw[show((((x::y::r).length:Nat):Int) !=1)=true from by simp only[aqh,ne_eq,amr];omega]at h;cases h
 |[x]=>
  rw[show((((([x]:Bs)).length:Nat):Int) !=1)=false from rfl]at h;simp only[amp,show ix [x] 0=some x from rfl,amj]at h;by_cases a:x.toNat=0
  ·rw[a]at h;cases h
  ·by_cases b:x.toNat=255
   ·congr 1;exact apu.1 b
   ·rw[show((x.toNat:Int) !=0)=true from by simp;omega,show((x.toNat:Int) !=255)=true from by simp;omega]at h;cases h
def aiT:dY [255]=some (true,0):=by unfold dY syv;rfl
def agq{v:bE}(h:(fF v).length<9000000):okT (HM v):=by
 have a:(ax (gE v)).length<(fF v).length:=dq;exact sg omq omq omq
def aiU{N:Nat}(o:FN N)(v:bE)(h:qH v=true)(a:Bs)(n:fF v=a)(C:a.length<9000000):cM N a=some (v,0,0):=by
 obtain⟨s,c,b⟩:=v;have hO:gG s=true:=h;have D:(ax (gE (s,c,b))).length<a.length:=by rw[<-n];exact dq
 have y:=Bg s;have E:(aj (bZ s)).length<=(ax (gE (s,c,b))).length:=gh _ _ (by simp[gE]);have z:(aj (iV b)).length<=(ax (gE (s,c,b))).length:=gh _ _ (by simp[gE]);have e:=cZ (iV b);have p:b.length<(aj (iV b)).length:=e;have g:okT (bZ s):=sg omq omq omq;have f:okT (iV b):=sg omq omq omq;have q:okT wk:=sg omq omq siq;have d:=QZ o hO omq;unfold cM syv;cases c
 ·obtain⟨l,k,m⟩:=lq o (c:=0) (num:=16) omq omq a [bZ s,iV b] (by rw[<-n];rfl) (by simp[g,f]) omq 0 16 rfl rfl;rw[k];rcases m with _|⟨i,_|⟨j,⟨⟩⟩⟩;have r:=i.yes 0 6 false 0 6 rfl rfl rfl rfl rfl;have t:=i.body;have u:=j.yes 0 4 false 0 4 rfl rfl rfl rfl rfl;have w:=j.body;simp[ix0,ix1,r,t,u,w,show(bZ s).2.2.2=fQ s from rfl,show(iV b).2.2.2=b from rfl,d,iH (show b.length<10000000 by omega),show aC .i64 2 1=1 from rfl]
 ·obtain⟨l,k,m⟩:=lq o (c:=0) (num:=16) omq omq a [bZ s,wk,iV b] (by rw[<-n];rfl) (by simp[g,f,q]) omq 0 16 rfl rfl;rw[k];rcases m with _|⟨i,_|⟨j,_|⟨x,⟨⟩⟩⟩⟩;have r:=i.yes 0 6 false 0 6 rfl rfl rfl rfl rfl;have t:=i.body;have A:=j.yes 0 1 false 0 1 rfl rfl rfl rfl rfl;have B:=j.body;have u:=x.yes 0 4 false 0 4 rfl rfl rfl rfl rfl;have w:=x.body;simp[ix0,ix1,ix2,r,t,A,B,u,w,aiT,show(bZ s).2.2.2=fQ s from rfl,show wk.2.2.2=[255] from rfl,show(iV b).2.2.2=b from rfl,d,iH (show b.length<10000000 by omega),show aC .i64 3 1=2 from rfl]
def aiV{N:Nat}(G:FN N)(a:Bs)(ha:a.length<9000000):OW (cM N a) (PS qH fF a):=by
 unfold cM syv;refine ag (jt G a omq 0 16) ?_;rintro⟨l,e,o⟩ (⟨j,n,m,_,_,F,h⟩|⟨m,D,E⟩)
 ·cases j;dsimp only at h⊢;have b:∀v:bE,PS qH fF a (v,3,0):=λv=>dV deq omq omq;rw[show((0:Int) !=0)=false from rfl,amp];refine aq (λc=>aa (b _)) λC=> ?_;refine aq (λc=>aa (b _)) λc1=> ?_;rcases h with _| @⟨t1,e1,n,l,k1,h⟩
  ·cases C
  obtain⟨p,q,r,b1,B,b3,b4,b5,b6,b7⟩:=k1.bd;have Z:=cZ t1;rw[ix0,amj];rcases k1.cs 0 6 false 0 6 rfl rfl with⟨z,w⟩|⟨z,_⟩
  ·rw[z,amj,am3,amp,amj,amj,k1.body,amj];refine ag (qr G _ omq) ?_;rintro⟨s,e⟩ (⟨j,t,d2⟩|j)
   ·dsimp only at j t d2;subst j;dsimp only;have H:aj t1=aj (bZ s):=by rw[w];unfold bZ;rw[d2]
    rw[show((0:Int) !=0)=false from rfl,amp];rcases h with _| @⟨t2,e2,n,l,k2,h⟩
    ·cases C
    obtain⟨p',q',r',g,I,K,M,P,S,U⟩:=k2.bd;have j3:=cZ t2;rcases h with _| @⟨t3,e3,n,l,k3,h⟩
    ·rw[aez,show((2:Int)==3)=false from rfl,amp,amj];dsimp only;rw[aez,show aC .i64 2 1=1 from rfl,ix1,amj];rcases k2.cs 0 4 false 0 4 rfl rfl with⟨i,f⟩|⟨i,_⟩
     ·rw[i,amj,am3,amp,k2.body,amj,iH omq,amj];refine aa (yk t ?_);rw[F];show aj (0,true,16,ax [bZ s,iV t2.2.2.2])=tlv 0 true 16 (ax [t1,t2]);rw[H4,H4,H,show iV t2.2.2.2=t2 from f.symm];rfl
     ·rw[i,amj,an0,amw];exact aa (dV deq (by rw[g];omega) (by rw[g];omega))
    ·rcases h with _| @⟨t4,e4,n,l,k4,h⟩
     ·obtain⟨p3,q3,r3,k,J,L,O,Q,T,V⟩:=k3.bd;have j4:=cZ t3;have d:OW (some (Sum.inr (([]:Bs),false,(6:Int),e2.2.2.2.1)):Option ((Bs×List (Int×Int×Bool×Int×Int×Int)×Bs×Bool×Int×Int×Bs×Bool)⊕(Bs×Bool×Int×Int))) (λy=>y=Sum.inr ([],false,6,e2.2.2.2.1)∨y=Sum.inl (a,[e1,e2,e3],[],false,0,0,s,true)/\t2=wk):=aa (.inl rfl);rw[ajK,show((3:Int)==3)=true from rfl,amw,ix1,amj,amj,k2.body,amj];obtain⟨bv,be,Y,u⟩:=aiS t2.2.2.2;rw[Y,amj];dsimp only;refine ag (R:=λy=>y=Sum.inr ([],false,6,e2.2.2.2.1)∨y=Sum.inl (a,[e1,e2,e3],[],false,0,0,s,true)/\t2=wk) ?_ ?_
      ·rw[amj];rcases k2.cs 0 1 false 0 1 rfl rfl with⟨i,f⟩|⟨i,_⟩
       ·rw[i,amj,am3,amp];refine aq (λ_=>d) λW=> ?_;refine aq (λ_=>d) λX=> ?_;refine aa (.inr ⟨rfl,?_⟩);rw[f,u (by simpa using W) (by simpa using X)];rfl
       ·rw[i,amj,an0,amw];exact d
      ·rintro y (rfl|⟨rfl,f⟩)
       ·exact aa (dV deq (by rw[g];omega) (by rw[g];omega))
       ·dsimp only;rw[ajK,show aC .i64 3 1=2 from rfl,ix2,amj];rcases k3.cs 0 4 false 0 4 rfl rfl with⟨A,x⟩|⟨A,_⟩
        ·rw[A,amj,am3,amp,k3.body,amj,iH omq,amj];refine aa (yk t ?_);rw[F];show aj (0,true,16,ax [bZ s,wk,iV t3.2.2.2])=tlv 0 true 16 (ax [t1,t2,t3]);rw[SS,SS,H,show iV t3.2.2.2=t3 from x.symm,f];rfl
        ·rw[A,amj,an0,amw];exact aa (dV deq (by rw[k];omega) (by rw[k];omega))
     ·exact absurd c1 soq
   ·cases j;exact aa (dV deq (by rw[B];omega) (by rw[B];omega))
  ·rw[z,amj,an0,amw];exact aa (b _)
 ·dsimp only at m D E⊢;rw[show(e !=0)=true from by simpa using m];exact aa (dV m D E)
end Go.Fw
namespace Go.Fw
open Go
def wL(l:List bE):Nat:=(l.map wE).sum+20
noncomputable def HN:List Bs->List bE->Bool
 |_,[]=>true
 |seen,x::r=> !J6 x.1 seen&&(gG x.1&&HN (Ej x.1 seen) r)
noncomputable def dU(l:List bE):Bool:=HN [] l&& !l.isEmpty
noncomputable def yf(l:List bE):TLV:=(0,true,16,(l.map fF).flatten)
noncomputable def dS(l:List bE):Bs:=aj (yf l)
def NA:∀(l:List bE)(seen:List Bs),HN seen l=true->∀x∈l,gG x.1=true
 |[],_,_,x,b=>by simp at b
 |a::r,seen,h,x,b=>by
  unfold HN at h;simp only[amk]at h;rcases amN.1 b with rfl|b
  ·exact h.2.1
  ·exact NA r _ h.2.2 x b
def RK{N:Nat}(a:FN N)(v:bE)(h:v.1.length<10000000):mB N v=some (gG v.1):=by
 unfold mB syv;rw[DW a _ h];rfl
def abb{N:Nat}(b:FN N)(l:List bE)(h:l.length<10000000)(f:∀x∈l,x.1.length<10000000):∀(k n i:Nat)(seen:List Bs),l.length-i=k->k<n->i<=l.length->
 nl N n (l,l,(l.length:Int),(i:Int),seen)=some (bif HN seen (l.drop i) then .inr l else .inl false):=by
 intro k;induction k with
 |zero=>
  intro n i seen d e c;obtain⟨n,rfl⟩:∃m,n=m+1:=⟨n-1,omq⟩;show(bif decide ((i:Int)<(l.length:Int)) then _ else _)=_;rw[amm omq,amp,am1 omq];rfl
 |succ k g=>
  intro n i seen d e c;obtain⟨n,rfl⟩:∃m,n=m+1:=⟨n-1,omq⟩;have a:i<l.length:=omq;show(bif decide ((i:Int)<(l.length:Int)) then _ else _)=_;rw[amq omq,amw,aM (aml a),amj,RK b _ (f _ (am8 a)),amj,bg omq,amP a];unfold HN;cases J6 l[i].1 seen
  ·cases gG l[i].1
   ·rfl
   ·simp only[amp,am3,an0,ao8];exact g n (i+1) _ omq omq omq
  ·rfl
def HP{N:Nat}(c:FN N)(l:List bE)(d:l.length<10000000)(e:∀x∈l,x.1.length<10000000):pP N l=some (dU l):=by
 have b:=c;unfold FN at b;unfold pP dU syv;have h:=abb c l d e l.length N 0 [] omq omq omq;rw[show nl N N (l,l,(l.length:Int),0,[])=_ from h,amj,anb];cases HN [] l
 ·rfl
 ·simp only[amw,ao8,amn];cases l with
  |nil=>rfl
  |cons a r=>exact amq (by simp only[amr];omega)
def Pc{N:Nat}(a:FN N)(l:List bE)(b:l.length<10000000)(c:∀x∈l,x.1.length<10000000):nn N l=some (dU l):=by
 unfold nn syv;rw[HP a l b c];rfl
def ID(l:List bE)(h:wL l<50000000):((l.map fF).flatten).length+120<=6*wL l:=by
 unfold wL at h⊢;have:=Ln wE fF 6 l λv a=>adT v (by have:=lm wE l v a;omega);omega
def RL(l:List bE)(h:wL l<50000000):(dS l).length<=6*wL l:=by
 have a:=ID l h;have d:(dS l).length<=((l.map fF).flatten).length+6:=dr (c:=0) (num:=16) (k:=true) (b:=(l.map fF).flatten) omq;omega
def Pd(l:List bE):40*l.length+20<=wL l:=by
 have:=xT wE 40 (λv=>by unfold wE;omega) l;unfold wL;omega
def Vj{l:List bE}{x:bE}(h:x∈l):x.1.length+x.2.2.length+60<=wL l:=by
 have a:=lm wE l x h;have b:wE x=x.1.length+x.2.2.length+40:=rfl;unfold wL;omega
def abc{N:Nat}(c:FN N)(l:List bE)(h:wL l<10000000):lc N l=some (bif dU l then(dS l,0) else([],8)):=by
 have d:=c;unfold FN at d;have m:=ID l omq;have o:=Pd l;unfold lc syv;rw[HP c l omq (λx b=>by have:=Vj b;omega),amj];cases f:dU l
 ·rfl
 ·have e:l.all qH=true:=by
   unfold dU at f;rw[amk]at f;exact amM.2 λx b=>NA l [] f.1 x b
  have k:=Zh l qH fF (λn i a=>jz N n (l,(l.length:Int),(i:Int),a)) (λp=>p) 8 (λn i x a b g=>by
   have j:=ai b;have q:=Vj (amS b);show(bif decide ((i:Int)<(l.length:Int)) then _ else _)=_;rw[amq omq,amw,aM b,amj,akw c x (by unfold wE;omega)];cases qH x
   ·rfl
   ·simp only[amw,amj,ano];rw[show((0:Int) !=0)=false from rfl,amp,cQ omq (by simp only[amr,amI];omega),amj,bg omq];rfl) (λn a g=>by
   show(bif decide ((l.length:Int)<(l.length:Int)) then _ else _)=_;rw[amm omq];rfl) N omq
  rw[am3,amp,show jz N N (l,(l.length:Int),0,[])=_ from k,amE e,amj];dsimp only;rw[DS c (l.map fF) _ rfl soq omq];rfl
def Kq{N:Nat}(q:FN N)(a:Bs)(b:List TLV)(l:List aJ)(j:cH (EL a) b l)(r:(ax b).length<9000000)(n i:Nat)(e:aJ)(t:TLV)(acc:List bE)(v:bE)(c o:Int)(g:l[i]?=some e)(h:EL a t e)(d:acc.length=i)(p:cM N (aj t)=some (v,c,o)):
 aO N (n+1) (a,l,(l.length:Int),(i:Int),0,0,acc)=bif c !=0 then some (.inl (c,az .i64 e.2.2.2.1 o)) else aO N n (a,l,(l.length:Int),((i+1:Nat):Int),0,0,acc++[v]):=by
 have m:=ai g;have f:=j.length;have k:=ez b;show(bif decide ((i:Int)<(l.length:Int)) then _ else _)=_;rw[amq omq,amw,aM g,amj,h.whole,amj,p,amj];dsimp only;rw[cQ omq (by simp only[amr,amI];omega),amj,bg omq];rfl
def aiW{v:bE}(h:qH v=true):wE v<=32*(fF v).length:=by
 have a:=F1 h;have b:=Bg v.1;have c:(ax (gE v)).length<(fF v).length:=dq;have d:(aj (bZ v.1)).length+(aj (iV v.2.2)).length<=(ax (gE v)).length:=by
  unfold gE;cases v.2.1
  ·simp only[amp,anc];rw[H4,amo];omega
  ·simp only[amw,apb];rw[SS,amo,amo];omega
 have e:v.2.2.length<(aj (iV v.2.2)).length:=cZ (iV v.2.2);unfold wE;omega
def Lq:∀(l:List bE),l.all qH=true->(l.map wE).sum<=32*((l.map fF).flatten).length
 |[],_=>by simp
 |v::l,h=>by
  rw[anJ,amk]at h;have a:=aiW h.1;have b:=Lq l h.2;simp only[amz,anK,List.flatten_cons,amo];omega
def HQ{l:List bE}(h:dU l=true):l.all qH=true:=by
 unfold dU at h;rw[amk]at h;exact amM.2 λx a=>NA l [] h.1 x a
def agr{l:List bE}(h:dU l=true):wL l<=32*(dS l).length:=by
 have a:=Lq l (HQ h);have b:((l.map fF).flatten).length<(dS l).length:=cZ (yf l);unfold wL;omega
def ags{N:Nat}(g:FN N)(a:Bs)(O:a.length<300000):OW (bB N a) (PS dU dS a):=by
 have s:=g;unfold FN at s;unfold bB syv;refine ag (jt g a omq 0 16) ?_;rintro⟨l,e,o⟩ (⟨F,f,j,_,_,C,k⟩|⟨j,q,B⟩)
 ·cases F;dsimp only at k⊢;rw[show((0:Int) !=0)=false from rfl,amp];have P:(ax f).length<a.length:=by rw[C];exact dq
  have I:=ez f;have E:=k.length;have A:=ae5 a f l k qH fF (cM N) (λn i b=>aO N n (a,l,(l.length:Int),(i:Int),0,0,b)) (λv=>((0:Int),(0:Int),v)) (λc o=>(c,o))
   (λt u=>aiV g _ (by have:=gh f t u;omega))
   (λn i e t b v m r u d w=>by
     show aO N (n+1) _=_;rw[Kq g a f l k omq n i e t b v 0 0 m r d w];rfl)
   (λn i e t b v c o m r u d w G=>by
     show aO N (n+1) _=_;rw[Kq g a f l k omq n i e t b v c o m r d w,show(c !=0)=true from by simpa using G];rfl)
   (λn b D=>by
     show(bif decide ((l.length:Int)<(l.length:Int)) then _ else _)=_;rw[amm omq];rfl) N omq omq
  rw[show aO N N (a,l,(l.length:Int),0,0,0,[])=aO N N (a,l,(l.length:Int),((0:Nat):Int),0,0,[]) from rfl];rcases A with⟨h,y,z,p⟩|⟨c,o,y,z,p,M⟩
  ·rw[y,amj];dsimp only;have H:((h.map fF).flatten).length<300000:=by rw[p];show(ax f).length<_;omega
   have J:=Lq h z;have L:=xT wE 40 (λv=>by unfold wE;omega) h;rw[HP g h omq (λx m=>by
    have j:=lm wE h x m;have q:wE x=x.1.length+x.2.2.length+40:=rfl;omega),amj]
   cases K:dU h
   ·exact aa (dV deq omq omq)
   ·refine aa (yk K ?_);rw[C];unfold dS yf;rw[p];rfl
  ·rw[y,amj];exact aa (dV z p M)
 ·dsimp only at j q B⊢;rw[show(e !=0)=true from by simpa using j];exact aa (dV j q B)
def Xl{N:Nat}(g:FN N)(r:List bE)(h:dU r=true)(a:Bs)(m:dS r=a)(I:a.length<300000):bB N a=some (r,0,0):=by
 have p:=g;unfold FN at p;have J:((r.map fF).flatten).length<a.length:=by rw[<-m];exact cZ (yf r)
 have j:=Vi fF HM (λ_=>rfl) r;have d:∀v∈r,(fF v).length<9000000:=λv f=>by have:=tn fF r v f;omega
 have k:∀v∈r,qH v=true:=amM.1 (HQ h);have E:=Lq r (HQ h);have F:=xT wE 40 (λv=>by unfold wE;omega) r;obtain⟨l,A,o⟩:=lq g (c:=0) (num:=16) omq omq a (r.map HM) (by rw[<-m,<-j];rfl) (λt z=>by
  obtain⟨v,f,rfl⟩:=anh.1 z;exact agq (d v f)) omq 0 16 rfl rfl
 have y:=o.length;have D:(ax (r.map HM)).length<9000000:=by rw[<-j];omega
 have B:=ez (r.map HM);unfold bB syv;rw[A,amj];dsimp only;have C:=Lp fF HM (λ_=>rfl) r;have u:=Xi a (r.map HM) l o fF (cM N) (λn i b=>aO N n (a,l,(l.length:Int),(i:Int),0,0,b)) (γ:=Int×Int) (λv=>((0:Int),(0:Int),v)) r C
  (λv f=>aiU g v (k v f) _ rfl (d v f))
  (λn i e t b v s m z q f=>by
    show aO N (n+1) _=_;rw[Kq g a _ l o D n i e t b v 0 0 s m q f];rfl)
  (λn b w=>by
    show(bif decide ((l.length:Int)<(l.length:Int)) then _ else _)=_;rw[amm omq];rfl) N omq
 rw[show((0:Int) !=0)=false from rfl,amp,show aO N N (a,l,(l.length:Int),0,0,0,[])=aO N N (a,l,(l.length:Int),((0:Nat):Int),0,0,[]) from rfl,u,amj];dsimp only;rw[HP g r omq (λx s=>by
  have G:=lm wE r x s;have H:wE x=x.1.length+x.2.2.length+40:=rfl;omega),h]
 rfl
end Go.Fw
namespace Go.Fw
open Go
def OI(y:Int):Bool:=bif (Int.tmod y 4==0) then(bif (Int.tmod y 100 !=0) then true else(Int.tmod y 400==0)) else false
def acR(y:Int):BI y=some (OI y):=by
 unfold BI OI syv;cases (Int.tmod y 4==0)<;>cases (Int.tmod y 100 !=0)<;>rfl
def OJ(l:Bool):Nat->Int
 |1=>31|2=>(if l then 29 else 28)|3=>31|4=>30|5=>31|6=>30|7=>31|8=>31|9=>30|10=>31|11=>30|12=>31|_=>0
def Hc(y m:Int):Int:=if 0<=y/\y<=9999 then OJ (OI y) m.toNat else 0
def acS(y m:Int):BJ y m=some (Hc y m):=by
 unfold BJ Hc syv;rw[acR];by_cases a:y<0
 ·rw[amq a,am4 omq];rfl
 ·by_cases c:y>9999
  ·rw[amm a,amq c,am4 omq];rfl
  ·rw[amm a,amm c,amE omq];generalize OI y=l;by_cases b:m<1
   ·rw[amq b];have:m.toNat=0:=omq;rw[this];rfl
   ·by_cases d:m>12
    ·rw[amm b,amq d];obtain⟨k,e⟩:∃k,m.toNat=k+13:=⟨m.toNat-13,omq⟩;rw[e];rfl
    ·rw[amm b,amm d];have f:m=1∨m=2∨m=3∨m=4∨m=5∨m=6∨m=7∨m=8∨m=9∨m=10∨m=11∨m=12:=omq;rcases f with rfl|rfl|rfl|rfl|rfl|rfl|rfl|rfl|rfl|rfl|rfl|rfl<;>cases l<;>rfl
abbrev eQ:=Int×Int×Int×Int×Int×Int
def qd(t:eQ):Bool:=decide (t.2.2.2.1>=0)&&(decide (t.2.2.2.1<24)&&(decide (t.2.2.2.2.1>=0)&&(decide (t.2.2.2.2.1<60)&&(decide (t.2.2.2.2.2>=0)&&(decide (t.2.2.2.2.2<60)&&(decide (t.2.2.1>=1)&&decide (t.2.2.1<=Hc t.1 t.2.1)))))))
def yU(t:eQ):li t=some (qd t):=by
 obtain⟨y,b,d,h,a,s⟩:=t;unfold li qd syv;simp only[acS,amj];cases decide (h>=0)<;>cases decide (h<24)<;>cases decide (a>=0)<;>cases decide (a<60)<;>cases decide (s>=0)<;>cases decide (s<60)<;>cases decide (d>=1)<;>rfl
def fB(t:eQ):Bool:=qd t&&decide (t.1>=1950)
def Cp(t:eQ):sQ t=some (fB t):=by
 unfold sQ fB syv;rw[yU];simp only[amj];cases qd t<;>rfl
end Go.Fw
def apj:=@Int.tmod_eq_emod_of_nonneg
def aqc:=@Int.ofNat_inj
namespace Go.Fw
open Go
def dg(d:Nat):UInt8:=UInt8.ofNat (48+d)
def abd{d:Nat}(h:d<=9):(dg d).toNat=48+d:=by unfold dg;rw[anS];omega
def d2(n:Nat):Bs:=[dg (n / 10),dg (n % 10)]
def Lr(b d h a s:Nat):Bs:=d2 b++(d2 d++(d2 h++(d2 a++(d2 s++[90]))))
def HT(y b d h a s:Nat):Bs:=d2 (y % 100)++Lr b d h a s
def CH(y b d h a s:Nat):Bs:=d2 (y / 100)++(d2 (y % 100)++Lr b d h a s)
def adU(y m:Int):Hc y m<=31:=by
 unfold Hc;split
 ·have:∀(l:Bool)(k:Nat),OJ l k<=31:=by
   intro l k;unfold OJ;split<;>first|omega|(split<;>omega)
  exact this _ _
 ·omega
def abe{y m:Int}(h:1<=Hc y m):0<=y/\y<=9999/\1<=m/\m<=12:=by
 unfold Hc at h;split at h
 ·rename_i a;refine⟨a.1,a.2,?_⟩;by_cases b:1<=m/\m<=12
  ·exact b
  ·exfalso;have e:OJ (OI y) m.toNat=0:=by
    rcases amB 12 m.toNat with c|c
    ·obtain⟨k,d⟩:∃k,m.toNat=k+13:=⟨m.toNat-13,omq⟩;rw[d];rfl
    ·have:m.toNat=0:=omq;rw[this];rfl
   omega
 ·omega
def ul{t:eQ}(h:qd t=true):∃y a d h b s:Nat,t=((y:Int),(a:Int),(d:Int),(h:Int),(b:Int),(s:Int))/\y<=9999/\1<=a/\a<=12/\1<=d/\d<=31/\h<24/\b<60/\s<60:=by
 obtain⟨y,a,d,g,b,s⟩:=t;unfold qd at h;simp only[amk,amX]at h;obtain⟨c,j,e,k,f,l,n,o⟩:=h;have p:=adU y a;obtain⟨i,q,r,u⟩:=abe (y:=y) (m:=a) omq;refine⟨y.toNat,a.toNat,d.toNat,g.toNat,b.toNat,s.toNat,?_,omq,omq,omq,omq,omq,omq,omq,omq⟩;rw[an8 i,an8 omq,an8 omq,an8 c,an8 e,an8 f]
def Pe(n:Nat)(h:n<1000):toB (IntKind.wrap .u8 (az .i64 48 (vY .i64 (n:Int) 10)))=some (dg (n / 10)):=by
 have e:vY .i64 (n:Int) 10=((n / 10:Nat):Int):=by
  show IntKind.i64.wrap ((n:Int).tdiv 10)=_;rw[aoO omq,amU _ omq];omega
 rw[e,bX omq,show(48:Int)+((n / 10:Nat):Int)=((48+n / 10:Nat):Int) from omq,mg];unfold dg;rw[show(48+n / 10) % 256=48+n / 10 from omq]
def Pf(n:Nat):toB (IntKind.wrap .u8 (az .i64 48 (Int.tmod (n:Int) 10)))=some (dg (n % 10)):=by
 have e:Int.tmod (n:Int) 10=((n % 10:Nat):Int):=by
  rw[apj omq];omega
 rw[e,bX omq,show(48:Int)+((n % 10:Nat):Int)=((48+n % 10:Nat):Int) from omq,mg];unfold dg;rw[show(48+n % 10) % 256=48+n % 10 from omq]
def Zk{b α:Type}(x:Option b)(K:b->Option α):∀(a:List (Option b)),a≠[]->(∀o∈a,o=x)->agree a K=x.bind K:=by
 intro a c h
 match a with
 |[]=>exact absurd rfl c
 |o::r=>
  have e:o::r=List.replicate (r.length+1) x:=List.eq_replicate_iff.2 ⟨by simp,h⟩;rw[e,nI]
def CI(N n i:Nat)(l:List Int)(x:Nat)(a a2 a3 a4 a5 b:Int)(acc:Bs)(c:l[i]?=some (x:Int))(d:l.length<=1000)(f:x<1000)(g:acc.length<=100000):cO N (n+1) (l,(l.length:Int),(i:Int),a,a2,a3,a4,a5,b,acc)=cO N n (l,(l.length:Int),((i+1:Nat):Int),a,a2,a3,a4,a5,b,acc++d2 x):=by
 have e:=ai c;show(bif decide ((i:Int)<(l.length:Int)) then _ else _)=_;rw[amq omq,amw,aM c,amj,Pe x f,amj,Pf,amj,cQ omq (by simp only[amr,amI];omega),amj,bg omq];rfl
def adV(N n:Nat)(l:List Int)(a a2 a3 a4 a5 b:Int)(acc:Bs):cO N (n+1) (l,(l.length:Int),(l.length:Int),a,a2,a3,a4,a5,b,acc)=some (a,a2,a3,a4,a5,b,acc):=by
 show(bif decide ((l.length:Int)<(l.length:Int)) then _ else _)=_;rw[amm omq];rfl
def abf{N:Nat}(f:FN N)(b d h a s:Nat)(j:b<=99/\d<=99/\h<=99/\a<=99/\s<=99)(c a2 a3 a4 a5 e:Int)(acc:Bs)(i:acc.length<=100):
 cO N N ([(b:Int),(d:Int),(h:Int),(a:Int),(s:Int)],(([(b:Int),(d:Int),(h:Int),(a:Int),(s:Int)].length:Nat):Int),0,c,a2,a3,a4,a5,e,acc)=some (c,a2,a3,a4,a5,e,acc++(d2 b++(d2 d++(d2 h++(d2 a++d2 s))))):=by
 unfold FN at f;obtain⟨n,g⟩:∃n,N=n+6:=⟨N-6,omq⟩;rw[show cO N N=cO N (n+6) from by rw[<-g],show(0:Int)=((0:Nat):Int) from rfl];have L:∀x:Nat,(d2 x).length=2:=λ_=>rfl;rw[CI N (n+5) 0 _ b _ _ _ _ _ _ _ rfl siq omq omq,CI N (n+4) 1 _ d _ _ _ _ _ _ _ rfl siq omq (by simp[L];omega),CI N (n+3) 2 _ h _ _ _ _ _ _ _ rfl siq omq (by simp[L];omega),CI N (n+2) 3 _ a _ _ _ _ _ _ _ rfl siq omq (by simp[L];omega),CI N (n+1) 4 _ s _ _ _ _ _ _ _ rfl siq omq (by simp[L];omega)];refine(adV N n _ _ _ _ _ _ _ _).trans ?_;simp[amL]
def aiX{N:Nat}(f:FN N)(b d h a s:Nat)(i:b<=99/\d<=99/\h<=99/\a<=99/\s<=99)(c a2 a3 a4 a5 e:Int)(acc:Bs)(g:acc.length<=100):
 iy N N ([(b:Int),(d:Int),(h:Int),(a:Int),(s:Int)],(([(b:Int),(d:Int),(h:Int),(a:Int),(s:Int)].length:Nat):Int),0,c,a2,a3,a4,a5,e,acc)=some (c,a2,a3,a4,a5,e,acc++(d2 b++(d2 d++(d2 h++(d2 a++d2 s))))):=abf f b d h a s i c a2 a3 a4 a5 e acc g
def abg(y:Nat):Int.tmod (y:Int) 100=((y % 100:Nat):Int):=by
 rw[apj omq];omega
def aiY(y:Nat)(h:y<100000):vY .i64 (y:Int) 100=((y / 100:Nat):Int):=by
 show IntKind.i64.wrap ((y:Int).tdiv 100)=_;rw[aoO omq,amU _ omq];omega
def agt{N:Nat}(f:FN N)(y b d h a s:Nat)(c:qd ((y:Int),(b:Int),(d:Int),(h:Int),(a:Int),(s:Int))=true)(g:1950<=y)(i:y<=2049):mH N ((y:Int),(b:Int),(d:Int),(h:Int),(a:Int),(s:Int))=some (HT y b d h a s,0):=by
 obtain⟨_,_,_,_,_,_,e,_,_,_,_,_,_,_,_⟩:=ul c;simp only[amJ,aqc]at e;have L:∀x:Nat,(d2 x).length=2:=λ_=>rfl;unfold mH;rw[yU,c,amj,am3,amp,amm (by dsimp only;omega),amp,amm (by dsimp only;omega),amp,nI];simp only[abg];rw[Pe _ omq,amj,Pf,amj,cQ omq siq,amj,nI];rw[abf f b d h a s omq _ _ _ _ _ _ _ siq,amj];dsimp only;rw[cQ omq (by simp[L]),amj];simp[HT,Lr,d2]
def agu{N:Nat}(g:FN N)(y b d h a s:Nat)(f:qd ((y:Int),(b:Int),(d:Int),(h:Int),(a:Int),(s:Int))=true):jo N ((y:Int),(b:Int),(d:Int),(h:Int),(a:Int),(s:Int))=some (CH y b d h a s,0):=by
 obtain⟨_,_,_,_,_,_,e,_,_,_,_,_,_,_,_⟩:=ul f;simp only[amJ,aqc]at e;have L:∀x:Nat,(d2 x).length=2:=λ_=>rfl;unfold jo;rw[yU,f,amj,am3,amp];refine(Zk (some (CH y b d h a s,0)) _ _ siq ?_).trans rfl;have c:∀k:Nat,wg N ((y:Int),(b:Int),(d:Int),(h:Int),(a:Int),(s:Int)) (k+1)=some (CH y b d h a s,0):=by
  intro k;unfold wg;dsimp only;rw[aiY y omq,abg,Pe _ omq,amj,Pf,amj,cQ omq siq,amj,nI,Pe _ omq,amj,Pf,amj,cQ omq siq,amj,nI,aiX g b d h a s omq _ _ _ _ _ _ _ siq,amj];dsimp only;rw[cQ omq (by simp[L]),amj];simp[CH,Lr,d2]
 repeat' first|refine List.forall_mem_cons.2 ⟨c _,?_⟩|exact λ_ h=>absurd h apl
def isD(b:UInt8):Bool:=decide (48<=b.toNat/\b.toNat<=57)
def eH{b:UInt8}(h:isD b=true):∃d,d<=9/\b=dg d:=by
 have a:=amZ h;refine⟨b.toNat-48,omq,?_⟩;unfold dg;rw[show 48+(b.toNat-48)=b.toNat from omq];simp
def abh{d:Nat}(h:d<=9):isD (dg d)=true:=by
 unfold isD;rw[abd h];exact amq omq
def Kr(N:Nat)(k:Int)(s a:Bs)(j:s.length<10000000):∀(m n i:Nat),s.length-i=m->m<n->i<=s.length->
 fZ N n (k,s,(s.length:Int),(i:Int),a,0,0,0,0,0,0)=some (bif (s.drop i).all isD then .inr (k,a,0,0,0,0,0,0) else .inl (false,0,0,0,0,0,0)):=by
 intro m;induction m with
 |zero=>
  intro n i d e c;obtain⟨n,rfl⟩:∃m,n=m+1:=⟨n-1,omq⟩;show(bif decide ((i:Int)<(s.length:Int)) then _ else _)=_;rw[amm omq,amp,am1 omq];rfl
 |succ m f=>
  intro n i d e c;obtain⟨n,rfl⟩:∃m,n=m+1:=⟨n-1,omq⟩;have b:i<s.length:=omq;show(bif decide ((i:Int)<(s.length:Int)) then _ else _)=_;rw[amq omq,amw,aM (aml b),amj,bg omq,amP b,anJ];by_cases g:s[i].toNat<48
  ·rw[amq (by omega:((s[i].toNat:Nat):Int)<48),show isD s[i]=false from amm omq];rfl
  ·rw[amm (by omega:¬((s[i].toNat:Nat):Int)<48),amp];by_cases h:s[i].toNat>57
   ·rw[amq (by omega:((s[i].toNat:Nat):Int)>57),show isD s[i]=false from amm omq];rfl
   ·rw[amm (by omega:¬((s[i].toNat:Nat):Int)>57),show isD s[i]=true from amq omq,amp,ao8];exact f n (i+1) omq omq omq
def dgv{d:Nat}(h:d<=9):IntKind.wrap .i64 (aC .u8 ((dg d).toNat:Int) 48)=(d:Int):=by
 rw[abd h];show IntKind.wrap .i64 (IntKind.u8.wrap (((48+d:Nat):Int)-48))=_;rw[IntKind.wrap_u8,amU _ omq];omega
def xU(d e:Nat)(hd:d<=9)(a:e<=9):az .i64 (iK .i64 (IntKind.wrap .i64 (aC .u8 ((dg d).toNat:Int) 48)) 10) (IntKind.wrap .i64 (aC .u8 ((dg e).toNat:Int) 48))=((10*d+e:Nat):Int):=by
 rw[dgv hd,dgv a];show IntKind.i64.wrap (IntKind.i64.wrap ((d:Int)*10)+(e:Int))=_;rw[amU ((d:Int)*10) omq,amU _ omq];omega
def qI(d e:Nat)(hd:d<=9)(a:e<=9):d2 (10*d+e)=[dg d,dg e]:=by
 unfold d2;rw[show(10*d+e) / 10=d from omq,show(10*d+e) % 10=e from omq]
end Go.Fw
namespace Go.Fw
open Go
def Vk{N:Nat}(U:FN N)(j m g o p q r s t u d f:Nat)(h:j<=9/\m<=9/\g<=9/\o<=9/\p<=9/\q<=9/\r<=9/\s<=9/\t<=9/\u<=9/\d<=9/\f<=9)(y:Nat)(z:y=if 10*j+m<50 then 10*j+m+2000 else 10*j+m+1900):
 eX N [dg j,dg m,dg g,dg o,dg p,dg q,dg r,dg s,dg t,dg u,dg d,dg f,90] 2=some (((y:Int),((10*g+o:Nat):Int),((10*p+q:Nat):Int),((10*r+s:Nat):Int),((10*t+u:Nat):Int),((10*d+f:Nat):Int)),qd ((y:Int),((10*g+o:Nat):Int),((10*p+q:Nat):Int),((10*r+s:Nat):Int),((10*t+u:Nat):Int),((10*d+f:Nat):Int))):=by
 have A:=U;unfold FN at A;obtain⟨G,H,J,L,M,O,P,Q,R,S,w,x⟩:=h;unfold eX;rw[show((([dg j,dg m,dg g,dg o,dg p,dg q,dg r,dg s,dg t,dg u,dg d,dg f,90].length:Nat):Int) !=az .i64 2 11)=false from rfl,amp];rw[show ix [dg j,dg m,dg g,dg o,dg p,dg q,dg r,dg s,dg t,dg u,dg d,dg f,90] (aC .i64 (([dg j,dg m,dg g,dg o,dg p,dg q,dg r,dg s,dg t,dg u,dg d,dg f,90].length:Nat):Int) 1)=some 90 from rfl,amj,show((((90:UInt8).toNat:Nat):Int) !=90)=false from rfl,amp];rw[show slc [dg j,dg m,dg g,dg o,dg p,dg q,dg r,dg s,dg t,dg u,dg d,dg f,90] 0 (aC .i64 (([dg j,dg m,dg g,dg o,dg p,dg q,dg r,dg s,dg t,dg u,dg d,dg f,90].length:Nat):Int) 1)=some [dg j,dg m,dg g,dg o,dg p,dg q,dg r,dg s,dg t,dg u,dg d,dg f] from rfl,amj];have T:=Kr N 2 [dg j,dg m,dg g,dg o,dg p,dg q,dg r,dg s,dg t,dg u,dg d,dg f] [dg j,dg m,dg g,dg o,dg p,dg q,dg r,dg s,dg t,dg u,dg d,dg f,90] siq 12 N 0 rfl omq siq;rw[anb,show([dg j,dg m,dg g,dg o,dg p,dg q,dg r,dg s,dg t,dg u,dg d,dg f]:Bs).all isD=true from by simp[abh,G,H,J,L,M,O,P,Q,R,S,w,x]]at T;rw[show fZ N N (2,[dg j,dg m,dg g,dg o,dg p,dg q,dg r,dg s,dg t,dg u,dg d,dg f],_,0,_,0,0,0,0,0,0)=_ from T,amw,amj];dsimp only;rw[ix0,amj,ix1,amj,show((2:Int)==4)=false from rfl,amp,xU j m G H];have B:∀K:Int->Option ((Int×Int×Int×Int×Int×Int)×Bool),(bif decide (az .i64 ((10*j+m:Nat):Int) 1900<1950) then K (az .i64 (az .i64 ((10*j+m:Nat):Int) 1900) 100) else K (az .i64 ((10*j+m:Nat):Int) 1900))=K (y:Int):=by
  intro K;rw[bX (a:=((10*j+m:Nat):Int)) omq];by_cases v:10*j+m<50
  ·rw[amq omq,amw,bX omq,z,amE v];congr 1
  ·rw[amm omq,amp,z,am4 v];congr 1
 have D:∀(c:Bool)(E F:Int)(l:Bs),((((bif c then some (l,(0:Int),(0:Int),(0:Int),(0:Int),(0:Int),(0:Int),(2:Int),E,(0:Int),(0:Int),(0:Int),(0:Int),(0:Int)) else some (l,(0:Int),(0:Int),(0:Int),(0:Int),(0:Int),(0:Int),(2:Int),F,(0:Int),(0:Int),(0:Int),(0:Int),(0:Int)):Option (Bs×Int×Int×Int×Int×Int×Int×Int×Int×Int×Int×Int×Int×Int)))))=some (l,(0:Int),(0:Int),(0:Int),(0:Int),(0:Int),(0:Int),(2:Int),bif c then E else F,(0:Int),(0:Int),(0:Int),(0:Int),(0:Int)):=by
  intro c E F l;cases c<;>rfl
 have C:(bif decide (az .i64 ((10*j+m:Nat):Int) 1900<1950) then(az .i64 (az .i64 ((10*j+m:Nat):Int) 1900) 100) else(az .i64 ((10*j+m:Nat):Int) 1900))=(y:Int):=by
  rw[bX (a:=((10*j+m:Nat):Int)) omq];by_cases v:10*j+m<50
  ·rw[amq omq,amw,bX omq,z,amE v];omega
  ·rw[amm omq,amp,z,am4 v];omega
 rw[D,C,amj];dsimp only;rw[amj];dsimp only;generalize n:[dg j,dg m,dg g,dg o,dg p,dg q,dg r,dg s,dg t,dg u,dg d,dg f,(90:UInt8)]=cc;have I:∀(i:Int)(k:Nat)(b:UInt8),i=(k:Int)->cc[k]?=some b->ix cc i=some b:=λi k b e V=>by rw[e];exact aM V
 simp only[show az .i64 2 2=4 from rfl,show az .i64 4 2=6 from rfl,show az .i64 6 2=8 from rfl,show az .i64 8 2=10 from rfl,show az .i64 10 2=12 from rfl,show az .i64 12 2=14 from rfl,show aC .i64 4 2=2 from rfl,show aC .i64 4 1=3 from rfl,show aC .i64 6 2=4 from rfl,show aC .i64 6 1=5 from rfl,show aC .i64 8 2=6 from rfl,show aC .i64 8 1=7 from rfl,show aC .i64 10 2=8 from rfl,show aC .i64 10 1=9 from rfl,show aC .i64 12 2=10 from rfl,show aC .i64 12 1=11 from rfl,show aC .i64 14 2=12 from rfl,show aC .i64 14 1=13 from rfl];rw[I 2 2 (dg g) rfl (by rw[<-n];rfl),amj,I 3 3 (dg o) rfl (by rw[<-n];rfl),amj,I 4 4 (dg p) rfl (by rw[<-n];rfl),amj,I 5 5 (dg q) rfl (by rw[<-n];rfl),amj,I 6 6 (dg r) rfl (by rw[<-n];rfl),amj,I 7 7 (dg s) rfl (by rw[<-n];rfl),amj,I 8 8 (dg t) rfl (by rw[<-n];rfl),amj,I 9 9 (dg u) rfl (by rw[<-n];rfl),amj,I 10 10 (dg d) rfl (by rw[<-n];rfl),amj,I 11 11 (dg f) rfl (by rw[<-n];rfl),amj];rw[xU g o J L,xU p q M O,xU r s P Q,xU t u R S,xU d f w x,yU];rfl
def Vl{N:Nat}(Q:FN N)(g j s t f l m n o p q r c d:Nat)(h:g<=9/\j<=9/\s<=9/\t<=9/\f<=9/\l<=9/\m<=9/\n<=9/\o<=9/\p<=9/\q<=9/\r<=9/\c<=9/\d<=9)(y:Nat)(U:y=100*(10*g+j)+(10*s+t)):
 eX N [dg g,dg j,dg s,dg t,dg f,dg l,dg m,dg n,dg o,dg p,dg q,dg r,dg c,dg d,90] 4=some (((y:Int),((10*f+l:Nat):Int),((10*m+n:Nat):Int),((10*o+p:Nat):Int),((10*q+r:Nat):Int),((10*c+d:Nat):Int)),qd ((y:Int),((10*f+l:Nat):Int),((10*m+n:Nat):Int),((10*o+p:Nat):Int),((10*q+r:Nat):Int),((10*c+d:Nat):Int))):=by
 have x:=Q;unfold FN at x;obtain⟨B,C,O,P,D,E,F,G,H,J,K,L,v,w⟩:=h;unfold eX;generalize a:[dg g,dg j,dg s,dg t,dg f,dg l,dg m,dg n,dg o,dg p,dg q,dg r,dg c,dg d,(90:UInt8)]=cc;generalize u:[dg g,dg j,dg s,dg t,dg f,dg l,dg m,dg n,dg o,dg p,dg q,dg r,dg c,dg d]=ss;have I:∀(i:Int)(k:Nat)(b:UInt8),i=(k:Int)->cc[k]?=some b->ix cc i=some b:=λi k b e R=>by rw[e];exact aM R
 have S:((cc.length:Nat):Int)=15:=by rw[<-a];rfl
 have T:ss.length=14:=by rw[<-u];rfl
 have z:slc cc 0 14=some ss:=by rw[<-a,<-u];rfl
 have M:=Kr N 4 ss cc omq 14 N 0 omq omq omq;rw[anb,show ss.all isD=true from by rw[<-u];simp[abh,B,C,O,P,D,E,F,G,H,J,K,L,v,w]]at M;rw[S,show((15:Int) !=az .i64 4 11)=false from rfl,amp,show aC .i64 15 1=14 from rfl,I 14 14 90 rfl (by rw[<-a];rfl),amj,show((((90:UInt8).toNat:Nat):Int) !=90)=false from rfl,amp,z,amj,show fZ N N (4,ss,((ss.length:Nat):Int),0,cc,0,0,0,0,0,0)=_ from M,amw,amj];dsimp only;rw[I 0 0 (dg g) rfl (by rw[<-a];rfl),amj,I 1 1 (dg j) rfl (by rw[<-a];rfl),amj,show((4:Int)==4)=true from rfl,amw,nI,I 2 2 (dg s) rfl (by rw[<-a];rfl),amj,I 3 3 (dg t) rfl (by rw[<-a];rfl),amj,amj];dsimp only;rw[amj];dsimp only;have A:az .i64 (iK .i64 100 ((10*g+j:Nat):Int)) ((10*s+t:Nat):Int)=(y:Int):=by
  show IntKind.i64.wrap (IntKind.i64.wrap (100*((10*g+j:Nat):Int))+_)=_;rw[amU (100*((10*g+j:Nat):Int)) omq,amU _ omq];omega
 simp only[show az .i64 2 2=4 from rfl,show az .i64 4 2=6 from rfl,show az .i64 6 2=8 from rfl,show az .i64 8 2=10 from rfl,show az .i64 10 2=12 from rfl,show az .i64 12 2=14 from rfl,show aC .i64 4 2=2 from rfl,show aC .i64 4 1=3 from rfl,show aC .i64 6 2=4 from rfl,show aC .i64 6 1=5 from rfl,show aC .i64 8 2=6 from rfl,show aC .i64 8 1=7 from rfl,show aC .i64 10 2=8 from rfl,show aC .i64 10 1=9 from rfl,show aC .i64 12 2=10 from rfl,show aC .i64 12 1=11 from rfl,show aC .i64 14 2=12 from rfl,show aC .i64 14 1=13 from rfl];rw[I 4 4 (dg f) rfl (by rw[<-a];rfl),amj,I 5 5 (dg l) rfl (by rw[<-a];rfl),amj,I 6 6 (dg m) rfl (by rw[<-a];rfl),amj,I 7 7 (dg n) rfl (by rw[<-a];rfl),amj,I 8 8 (dg o) rfl (by rw[<-a];rfl),amj,I 9 9 (dg p) rfl (by rw[<-a];rfl),amj,I 10 10 (dg q) rfl (by rw[<-a];rfl),amj,I 11 11 (dg r) rfl (by rw[<-a];rfl),amj,I 12 12 (dg c) rfl (by rw[<-a];rfl),amj,I 13 13 (dg d) rfl (by rw[<-a];rfl),amj];rw[xU g j B C,xU s t O P,xU f l D E,xU m n F G,xU o p H J,xU q r K L,xU c d v w,A,yU];rfl
end Go.Fw
def aqj:=@List.all_nil
namespace Go.Fw
open Go
def Xn{N:Nat}(l:FN N)(c:Bs)(k:Nat)(n:c.length<10000000)(o:k=2∨k=4):(∃s,c=s++[90]/\s.length=k+10/\s.all isD=true)∨eX N c (k:Int)=some ((0,0,0,0,0,0),false):=by
 have f:=l;unfold FN at f;unfold eX;have d:az .i64 (k:Int) 11=((k+11:Nat):Int):=by rw[bX omq];omega
 rw[d];by_cases a:c.length=k+11
 ·obtain⟨s,b,rfl⟩:∃s b,c=s++[b]:=⟨c.dropLast,c.getLast (λe=>by rw[e]at a;simp at a),(anU _).symm⟩;have m:s.length=k+10:=by simp at a;omega
  rw[show(((s++[b]).length:Int) !=((k+11:Nat):Int))=false from by rw[a];simp,amp,Yf omq omq,aM (show(s++[b])[(s++[b]).length-1]?=some b from by rw[a,show k+11-1=s.length from omq];simp),amj];by_cases i:b=90
  ·subst i;by_cases h:s.all isD=true
   ·exact .inl ⟨s,rfl,m,h⟩
   ·right;rw[show((((90:UInt8).toNat:Nat):Int) !=90)=false from rfl,amp];have g:slc (s++[(90:UInt8)]) 0 (((s++[(90:UInt8)]).length-1:Nat):Int)=some s:=by
     unfold slc;rw[amE ⟨omq,omq,omq⟩,anr,a,show k+11-1=s.length from omq];simp
    have j:=Kr N (k:Int) s (s++[90]) omq s.length N 0 omq omq omq;rw[anb,show s.all isD=false from by simpa using h]at j;rw[g,amj,show fZ N N ((k:Int),s,(s.length:Int),0,s++[90],0,0,0,0,0,0)=_ from j,amp];rfl
  ·right;rw[show(((b.toNat:Nat):Int) !=90)=true from by
    simp only[aqh,ne_eq];intro e;exact i (apu.1 (by rw[show b.toNat=90 from omq];rfl))]
   rfl
 ·right;rw[show((c.length:Int) !=((k+11:Nat):Int))=true from by simp only[aqh,ne_eq];omega];rfl
def Ks(t:eQ)(y b d h a s:Nat):Prop:=t=((y:Int),(b:Int),(d:Int),(h:Int),(a:Int),(s:Int))/\qd t=true
def abm{N:Nat}(H:FN N)(c:Bs)(X:c.length<10000000):OW (fc N c) λr=>(r.2=0/\∃y J d h I s,Ks r.1 y J d h I s/\1950<=y/\y<=2049/\c=HT y J d h I s)∨r=((0,0,0,0,0,0),6):=by
 unfold fc syv;rcases Xn H c 2 X omq with⟨s,rfl,Y,t⟩|h
 ·match s,Y,t with
  |[a0,a1,a2,a3,a4,a5,a6,a7,a8,a9,K,L],_,t=>
   simp only[anJ,aqj,aqb,amk]at t;obtain⟨M,O,P,Q,R,S,T,U,V,W,u,v⟩:=t;obtain⟨f,w,rfl⟩:=eH M;obtain⟨g,x,rfl⟩:=eH O;obtain⟨e,z,rfl⟩:=eH P;obtain⟨k,A,rfl⟩:=eH Q;obtain⟨l,B,rfl⟩:=eH R;obtain⟨m,C,rfl⟩:=eH S;obtain⟨n,D,rfl⟩:=eH T;obtain⟨o,E,rfl⟩:=eH U;obtain⟨p,F,rfl⟩:=eH V;obtain⟨q,G,rfl⟩:=eH W;obtain⟨a,i,rfl⟩:=eH u;obtain⟨b,j,rfl⟩:=eH v;have h:=Vk H f g e k l m n o p q a b ⟨w,x,z,A,B,C,D,E,F,G,i,j⟩ _ rfl;rw[show [dg f,dg g,dg e,dg k,dg l,dg m,dg n,dg o,dg p,dg q,dg a,dg b]++[(90:UInt8)]=[dg f,dg g,dg e,dg k,dg l,dg m,dg n,dg o,dg p,dg q,dg a,dg b,90] from rfl,h,amj];dsimp only;refine aq (λZ=>aa (.inl ⟨rfl,_,_,_,_,_,_,⟨rfl,Z⟩,?_,?_,?_⟩)) λ_=>aa (.inr rfl)
   ·split<;>omega
   ·split<;>omega
   ·unfold HT Lr;rw[qI e k z A,qI l m B C,qI n o D E,qI p q F G,qI a b i j,show(if 10*f+g<50 then 10*f+g+2000 else 10*f+g+1900) % 100=10*f+g from by split<;>omega,qI f g w x];rfl
 ·rw[show eX N c 2=_ from h];exact aa (.inr rfl)
def RM{N:Nat}(L:FN N)(c:Bs)(hc:c.length<10000000):OW (dA N c) λr=>(r.2=0/\∃y O d h M s,Ks r.1 y O d h M s/\c=CH y O d h M s)∨r=((0,0,0,0,0,0),6):=by
 unfold dA syv;rcases Xn L c 4 hc omq with⟨s,rfl,hs,v⟩|h
 ·match s,hs,v with
  |[a0,a1,b0,b1,a2,a3,a4,a5,a6,a7,a8,a9,P,Q],_,v=>
   simp only[anJ,aqj,aqb,amk]at v;obtain⟨R,S,k0,k1,T,U,V,W,X,Y,Z,h9,w,x⟩:=v;obtain⟨f,B,rfl⟩:=eH R;obtain⟨g,C,rfl⟩:=eH S;obtain⟨i,z,rfl⟩:=eH k0;obtain⟨j,A,rfl⟩:=eH k1;obtain⟨e,D,rfl⟩:=eH T;obtain⟨m,E,rfl⟩:=eH U;obtain⟨n,F,rfl⟩:=eH V;obtain⟨o,G,rfl⟩:=eH W;obtain⟨p,H,rfl⟩:=eH X;obtain⟨q,I,rfl⟩:=eH Y;obtain⟨t,J,rfl⟩:=eH Z;obtain⟨u,K,rfl⟩:=eH h9;obtain⟨a,k,rfl⟩:=eH w;obtain⟨b,l,rfl⟩:=eH x;have h:=Vl L f g i j e m n o p q t u a b ⟨B,C,z,A,D,E,F,G,H,I,J,K,k,l⟩ _ rfl;rw[show [dg f,dg g,dg i,dg j,dg e,dg m,dg n,dg o,dg p,dg q,dg t,dg u,dg a,dg b]++[(90:UInt8)]=[dg f,dg g,dg i,dg j,dg e,dg m,dg n,dg o,dg p,dg q,dg t,dg u,dg a,dg b,90] from rfl,h,amj];dsimp only;refine aq (λhv=>aa (.inl ⟨rfl,_,_,_,_,_,_,⟨rfl,hv⟩,?_⟩)) λ_=>aa (.inr rfl);unfold CH Lr;rw[qI e m D E,qI n o F G,qI p q H I,qI t u J K,qI a b k l,show(100*(10*f+g)+(10*i+j)) / 100=10*f+g from omq,show(100*(10*f+g)+(10*i+j)) % 100=10*i+j from omq,qI f g B C,qI i j z A];rfl
 ·rw[show eX N c 4=_ from h];exact aa (.inr rfl)
def abn{N:Nat}(f:FN N){t:eQ}{y b d h a s:Nat}(i:Ks t y b d h a s)(j:1950<=y)(k:y<=2049):fc N (HT y b d h a s)=some (t,0):=by
 obtain⟨rfl,c⟩:=i;obtain⟨_,_,_,_,_,_,e,_,_,_,_,_,_,_,_⟩:=ul c;simp only[amJ,aqc]at e;have g:=Vk f (y % 100 / 10) (y % 100 % 10) (b / 10) (b % 10) (d / 10) (d % 10) (h / 10) (h % 10) (a / 10) (a % 10) (s / 10) (s % 10) omq y (by split<;>omega);unfold fc syv;rw[show HT y b d h a s=[dg (y % 100 / 10),dg (y % 100 % 10),dg (b / 10),dg (b % 10),dg (d / 10),dg (d % 10),dg (h / 10),dg (h % 10),dg (a / 10),dg (a % 10),dg (s / 10),dg (s % 10),90] from rfl,g,amj];dsimp only;rw[show 10*(b / 10)+b % 10=b from omq,show 10*(d / 10)+d % 10=d from omq,show 10*(h / 10)+h % 10=h from omq,show 10*(a / 10)+a % 10=a from omq,show 10*(s / 10)+s % 10=s from omq,c];rfl
def abo{N:Nat}(f:FN N){t:eQ}{y b d h a s:Nat}(i:Ks t y b d h a s):dA N (CH y b d h a s)=some (t,0):=by
 obtain⟨rfl,c⟩:=i;obtain⟨_,_,_,_,_,_,e,_,_,_,_,_,_,_,_⟩:=ul c;simp only[amJ,aqc]at e;have g:=Vl f (y / 100 / 10) (y / 100 % 10) (y % 100 / 10) (y % 100 % 10) (b / 10) (b % 10) (d / 10) (d % 10) (h / 10) (h % 10) (a / 10) (a % 10) (s / 10) (s % 10) omq y omq;unfold dA syv;rw[show CH y b d h a s=[dg (y / 100 / 10),dg (y / 100 % 10),dg (y % 100 / 10),dg (y % 100 % 10),dg (b / 10),dg (b % 10),dg (d / 10),dg (d % 10),dg (h / 10),dg (h % 10),dg (a / 10),dg (a % 10),dg (s / 10),dg (s % 10),90] from rfl,g,amj];dsimp only;rw[show 10*(b / 10)+b % 10=b from omq,show 10*(d / 10)+d % 10=d from omq,show 10*(h / 10)+h % 10=h from omq,show 10*(a / 10)+a % 10=a from omq,show 10*(s / 10)+s % 10=s from omq,c];rfl
def adW(t:eQ):Bs:=CH t.1.toNat t.2.1.toNat t.2.2.1.toNat t.2.2.2.1.toNat t.2.2.2.2.1.toNat t.2.2.2.2.2.toNat
def adX(t:eQ):Bs:=HT t.1.toNat t.2.1.toNat t.2.2.1.toNat t.2.2.2.1.toNat t.2.2.2.2.1.toNat t.2.2.2.2.2.toNat
def ia(t:eQ):TLV:=bif decide (t.1>2049) then(0,false,24,adW t) else(0,false,23,adX t)
def gm(t:eQ):Bs:=aj (ia t)
def HU(t:eQ):okT (ia t):=by
 unfold ia;cases decide (t.1>2049)
 ·exact sg omq omq (show 13<10000000 by omega)
 ·exact sg omq omq (show 15<10000000 by omega)
def DT(t:eQ):(gm t).length<=21:=by
 unfold gm ia;cases decide (t.1>2049)
 ·exact anI (dr (c:=0) (num:=23) (k:=false) (b:=adX t) (show 13<_ by omega)) (show 13+6<=21 by omega)
 ·exact anI (dr (c:=0) (num:=24) (k:=false) (b:=adW t) (show 15<_ by omega)) (show 15+6<=21 by omega)
def Vn{N:Nat}(b:FN N)(t:eQ):pS N t=some (bif fB t then(gm t,0) else([],8)):=by
 unfold pS syv;rw[Cp,amj];cases a:fB t
 ·rfl
 ·unfold fB at a;rw[amk,amX]at a;obtain⟨y,e,d,h,c,s,rfl,_⟩:=ul a.1;have f:1950<=y:=by have:=a.2;dsimp only at this;omega
  rw[am3,amp];unfold gm ia;by_cases g:y>2049
  ·rw[amq (show((y:Int))>2049 by omega),amw,agu b y e d h c s a.1,amj];dsimp only;rw[show((0:Int) !=0)=false from rfl,amp,qo b 0 24 false _ 0 24 rfl rfl omq omq (show 15<_ by omega)];rfl
  ·rw[amm (show ¬((y:Int))>2049 by omega),amp,agt b y e d h c s a.1 f omq,amj];dsimp only;rw[show((0:Int) !=0)=false from rfl,amp,qo b 0 23 false _ 0 23 rfl rfl omq omq (show 13<_ by omega)];rfl
def QM{N:Nat}(i:FN N)(t:eQ)(c:fB t=true)(a:Bs)(m:gm t=a):dM N a=some (t,0,0):=by
 obtain⟨e,l,b⟩:=ak0 i a (ia t) m.symm (HU t);unfold fB at c;rw[amk,amX]at c;obtain⟨y,g,d,h,f,s,rfl,_⟩:=ul c.1;have k:1950<=y:=by have:=c.2;dsimp only at this;omega
 unfold dM syv;rw[l,amj];dsimp only;rw[show((0:Int) !=0)=false from rfl,amp,b.body,amj];by_cases n:y>2049
 ·have j:ia ((y:Int),(g:Int),(d:Int),(h:Int),(f:Int),(s:Int))=(0,false,24,CH y g d h f s):=by
   unfold ia;rw[amq (show((y:Int))>2049 by omega)];rfl
  rw[j]at b⊢;rw[b.no 0 23 false 0 23 rfl rfl siq,amj,amp,b.yes 0 24 false 0 24 rfl rfl rfl rfl rfl,amj,amw,abo i ⟨rfl,c.1⟩];simp only[amj];rw[amm (show ¬((y:Int))<=2049 by omega)];rfl
 ·have j:ia ((y:Int),(g:Int),(d:Int),(h:Int),(f:Int),(s:Int))=(0,false,23,HT y g d h f s):=by
   unfold ia;rw[amm (show ¬((y:Int))>2049 by omega)];rfl
  rw[j]at b⊢;rw[b.yes 0 23 false 0 23 rfl rfl rfl rfl rfl,amj,amw,abn i ⟨rfl,c.1⟩ k omq];rfl
def Vo{t:eQ}{y b d h a s:Nat}(c:Ks t y b d h a s):gm t=aj (bif decide (y>2049) then(0,false,24,CH y b d h a s) else(0,false,23,HT y b d h a s)):=by
 obtain⟨rfl,_⟩:=c;unfold gm ia;have:decide (((y:Int))>2049)=decide (y>2049):=apn.2 omq;dsimp only;rw[this];rfl
def agw{N:Nat}(m:FN N)(a:Bs)(I:a.length<10000000):OW (dM N a) (PS fB gm a):=by
 unfold dM syv;refine ag (wj m a I) ?_;rintro⟨v,e,o⟩ (⟨G,t,k,l,i⟩|⟨k,C,D⟩)
 ·cases G;dsimp only at i⊢;obtain⟨p,q,r,P,B,Q,R,S,T,b7⟩:=i.bd;have L:=cZ t;have J:a.length=(aj t).length:=by rw[l]
  rw[show((0:Int) !=0)=false from rfl,amp,i.body,amj];have b:∀(e:Int),e≠0->OW (some (((0:Int),(0:Int),(0:Int),(0:Int),(0:Int),(0:Int)),e,v.2.2.2.2.1):Option (eQ×Int×Int)) (PS fB gm a):=λe K=>aa (dV K (by rw[B];omega) (by rw[B];omega));rcases i.cs 0 23 false 0 23 rfl rfl with⟨z,u⟩|⟨z,_⟩
  ·rw[z,amj,amw];obtain⟨⟨w,c⟩,x,g⟩:=abm m t.2.2.2 omq;rw[x];rcases g with⟨j,y,F,d,h,E,s,f,U,V,n⟩|g
   ·dsimp only at j;subst j;refine aa (yk ?_ ?_)
    ·unfold fB;have:=f.2;obtain⟨rfl,_⟩:=f;dsimp only at this⊢;rw[this];exact amq omq
    ·show gm w=a;rw[Vo f,amm omq,amp,l,u,n]
   ·cases g;exact b 6 deq
  ·rw[z,amj,amp];rcases i.cs 0 24 false 0 24 rfl rfl with⟨A,u⟩|⟨A,_⟩
   ·rw[A,amj,amw];obtain⟨⟨w,c⟩,x,g⟩:=RM m t.2.2.2 omq;rw[x];rcases g with⟨j,y,F,d,h,E,s,f,n⟩|g
    ·dsimp only at j;subst j;have M:=f.2;have H:=Vo f;obtain⟨rfl,_⟩:=f;by_cases O:y>2049
     ·rw[amj];dsimp only;rw[amm (show ¬((y:Int))<=2049 by omega)];refine aa (yk ?_ ?_)
      ·unfold fB;rw[M];exact amq (show((y:Int))>=1950 by omega)
      ·show gm ((y:Int),(F:Int),(d:Int),(h:Int),(E:Int),(s:Int))=a;rw[H,amq O,amw,l,u,n]
     ·rw[amj];dsimp only;rw[amq (show((y:Int))<=2049 by omega)];exact b 6 deq
    ·cases g;exact b 6 deq
   ·rw[A,amj,amp];exact b 3 deq
 ·dsimp only at k C D⊢;rw[show(e !=0)=true from by simpa using k];exact aa (dV k C D)
end Go.Fw
def anP:=@Int.mul_le_mul_of_nonneg_right
namespace Go.Fw
open Go
def sgn(x:UInt8):Int:=if x.toNat<128 then(x.toNat:Int) else(x.toNat:Int)-256
def beI(a:Int)(r:Bs):Int:=r.foldl (λn x=>256*n+(x.toNat:Int)) a
def oT:Bs->Int
 |[]=>0
 |x::r=>beI (sgn x) r
set_option maxRecDepth 100000 in
def agx(x:UInt8):IntKind.wrap .i64 (IntKind.wrap .i8 (x.toNat:Int))=sgn x:=by
 have h:∀n:Fin 256,IntKind.wrap .i64 (IntKind.wrap .i8 (n.val:Int))=if n.val<128 then(n.val:Int) else(n.val:Int)-256:=by decide
 exact h ⟨x.toNat,x.toNat_lt⟩
def Xo(x:UInt8): -128<=sgn x/\sgn x<128:=by
 have:=x.toNat_lt;unfold sgn;split<;>omega
def akx(N:Nat)(r:Bs)(p:r.length<=7):∀(k n i:Nat)(a:Int),r.length-i=k->k<n->i<=r.length->-(128*256 ^ i:Nat)<=a->a<(128*256 ^ i:Nat)->sT N n (a,r,(r.length:Int),(i:Int))=some (beI a (r.drop i)):=by
 intro k;induction k with
 |zero=>
  intro n i a d e c _ _;obtain⟨n,rfl⟩:∃m,n=m+1:=⟨n-1,omq⟩;show(bif decide ((i:Int)<(r.length:Int)) then _ else _)=_;rw[amm omq,amp,am1 omq];rfl
 |succ k g=>
  intro n i a d e c h j;obtain⟨n,rfl⟩:∃m,n=m+1:=⟨n-1,omq⟩;have b:i<r.length:=omq;have l:=r[i].toNat_lt;have o:256 ^ i<=256 ^ 6:=aoA omq omq;have f:256 ^ (i+1)=256*256 ^ i:=by rw[aoz,Nat.mul_comm]
  show(bif decide ((i:Int)<(r.length:Int)) then _ else _)=_;rw[amq omq,amw,aM (aml b),amj,Co,bg omq,Wy omq omq omq omq];refine(g n (i+1) _ omq omq omq omq omq).trans ?_;rw[amP b];rfl
def QN{N:Nat}(e:FN N)(c:Bs)(f:c.length<10000000):so N c=some (bif ft c&&decide (c.length<=8) then(oT c,true) else(0,false)):=by
 unfold FN at e;unfold so syv;rw[gB,amj];cases h:ft c
 ·rfl
 ·by_cases a:c.length<=8
  ·rw[amm (by omega:¬(c.length:Int)>8),amq a];cases c with
   |nil=>cases h
   |cons x r=>
    have d:=Xo x;have b:=akx N r (by simp at a;omega) r.length N 0 (sgn x) omq (by simp at a;omega) omq (by simpa using d.1) (by simpa using d.2);rw[anb]at b;simp only[am3,amp,ix0,amj,qA,agx,ao8,amw];rw[show sT N N (sgn x,r,(r.length:Int),0)=_ from b];rfl
  ·rw[amq (by omega:(c.length:Int)>8),amm a];rfl
def Xp{α:Type}{P:List α->Prop}(b:P [])(c:∀l x,P l->P (l++[x]))(l:List α):P l:=by
 have a:∀m:List α,P m.reverse:=by
  intro m;induction m with
  |nil=>exact b
  |cons x m d=>rw[apd];exact c _ _ d
 have:=a l.reverse;rwa[List.reverse_reverse]at this
def Ku(r:Bs):∀a:Int,beI a r=a*((256 ^ r.length:Nat):Int)+((beN r:Nat):Int):=by
 refine Xp (P:=λr=>∀a:Int,beI a r=a*((256 ^ r.length:Nat):Int)+((beN r:Nat):Int)) ?_ ?_ r
 ·intro a;simp[beI,beN]
 ·intro r x c;intro a;have b:beI a (r++[x])=256*beI a r+(x.toNat:Int):=by simp[beI]
  rw[b,c a,lK,amo,anN,aoz];have:a*((256 ^ r.length*256:Nat):Int)=256*(a*((256 ^ r.length:Nat):Int)):=by
   rw[apV,<-Int.mul_assoc,Int.mul_comm];rfl
  rw[this];omega
def Kv(r:Bs):beN r<256 ^ r.length:=aig r.length r rfl
def agy:∀(r s:Bs),r.length=s.length->beN r=beN s->r=s:=by
 intro r;refine Xp (P:=λr=>∀s,r.length=s.length->beN r=beN s->r=s) ?_ ?_ r
 ·intro s h _;exact(amY h.symm).symm
 ·intro r x c s h b;obtain⟨t,y,rfl⟩:∃t y,s=t++[y]:=⟨s.dropLast,s.getLast (λe=>by rw[e]at h;simp at h),(anU _).symm⟩;rw[lK,lK]at b;have d:=x.toNat_lt;have f:=y.toNat_lt;have a:x.toNat=y.toNat:=omq;rw[c t (by simpa using h) omq,UInt8.toNat_inj.1 a]
def Vp{c:Bs}(h:ft c=true)(o:0<=oT c):oT c<((128*256 ^ (c.length-1):Nat):Int)/\(2<=c.length->((128*256 ^ (c.length-2):Nat):Int)<=oT c):=by
 match c,h with
 |[x],_=>
  have:oT [x]=sgn x:=rfl;have:=Xo x;exact⟨by simp;omega,by simp⟩
 |x::y::r,h=>
  have e:oT (x::y::r)=sgn x*((256 ^ (r.length+1):Nat):Int)+((beN (y::r):Nat):Int):=Ku (y::r) (sgn x);have i:=Kv (y::r);have m:beI (y.toNat:Int) r=(y.toNat:Int)*((256 ^ r.length:Nat):Int)+((beN r:Nat):Int):=Ku r _;have n:((beN (y::r):Nat):Int)=beI (y.toNat:Int) r:=by
   have:=Ku (y::r) 0;rw[Int.zero_mul,Int.zero_add]at this;rw[<-this];show beI 0 (y::r)=_;simp[beI]
  simp only[amr]at i⊢;have j:256 ^ (r.length+1)=256*256 ^ r.length:=by rw[aoz,Nat.mul_comm]
  have k:0<256 ^ r.length:=Nat.pow_pos omq;have q:=x.toNat_lt;have s:=y.toNat_lt;rw[show r.length+1+1-1=r.length+1 from rfl,show r.length+1+1-2=r.length from rfl];generalize p:(256 ^ r.length:Nat)=P at*;rw[j]at e i⊢;have a:0<=sgn x:=by
   rcases Int.lt_or_le (sgn x) 0 with g|g
   ·exfalso;have:sgn x*((256*P:Nat):Int)<=-1*((256*P:Nat):Int):=anP omq omq;omega
   ·exact g
  have b:sgn x=(x.toNat:Int)/\x.toNat<128:=by
   unfold sgn at a⊢;split at a
   ·rename_i h;rw[amE h];exact⟨rfl,h⟩
   ·omega
  have t:sgn x*((256*P:Nat):Int)<=127*((256*P:Nat):Int):=anP omq omq;refine⟨omq,λ_=> ?_⟩;by_cases d:x.toNat=0
  ·have l:128<=y.toNat:=by
    have f:(!(x.toNat==0&&decide (y.toNat<128))&& !(x.toNat==255&& !decide (y.toNat<128)))=true:=h;rw[d]at f;simp at f;omega
   have u:128*(P:Int)<=(y.toNat:Int)*(P:Int):=anP omq omq;rw[b.1,d]at e;omega
  ·have v:1*((256*P:Nat):Int)<=sgn x*((256*P:Nat):Int):=anP omq omq;omega
def adY{c d:Bs}(g:ft c=true)(hd:ft d=true)(n:0<=oT c)(h:oT c=oT d):c=d:=by
 obtain⟨c1,k⟩:=Vp g n;obtain⟨q,d2⟩:=Vp hd omq;have a:c.length=d.length:=by
  rcases ap9 c.length d.length with b|b|b
  ·have o:=d2 (by have:=Um g;have:0<c.length:=aoI.2 this;omega);have:256 ^ (c.length-1)<=256 ^ (d.length-2):=aoA omq omq;omega
  ·exact b
  ·have o:=k (by have:=Um hd;have:0<d.length:=aoI.2 this;omega);have:256 ^ (d.length-1)<=256 ^ (c.length-2):=aoA omq omq;omega
 match c,d,a,g,hd with
 |x::r,y::s,a,g,hd=>
  have b:r.length=s.length:=by simpa using a
  have l:oT (x::r)=_:=Ku r (sgn x);have m:oT (y::s)=_:=Ku s (sgn y);have j:=Kv r;have p:=Kv s;rw[l,m,b]at h;rw[b]at j;generalize (256 ^ s.length:Nat)=P at*;have t:=x.toNat_lt;have u:=y.toNat_lt;have e:sgn x=sgn y:=by
   rcases Int.lt_trichotomy (sgn x) (sgn y) with i|i|i
   ·have:(sgn x+1)*(P:Int)<=sgn y*(P:Int):=anP omq omq;rw[Int.add_mul]at this;omega
   ·exact i
   ·have:(sgn y+1)*(P:Int)<=sgn x*(P:Int):=anP omq omq;rw[Int.add_mul]at this;omega
  have f:x=y:=by
   apply apu.1;unfold sgn at e;split at e<;>split at e<;>omega
  rw[f]at h⊢;rw[agy r s b omq]
def wl:Bs->Bs
 |[]=>[]
 |x::r=>match r with
  |[]=>[x]
  |_::_=>bif ft (x::r) then x::r else wl r
def Vq:∀(c:Bs),c≠[]->ft (wl c)=true
 |[],h=>absurd rfl h
 |[x],_=>rfl
 |x::y::r,_=>by
  unfold wl;cases h:ft (x::y::r)
  ·exact Vq (y::r) siq
  ·exact h
def Xq:∀(c:Bs),oT (wl c)=oT c
 |[]=>rfl
 |[x]=>rfl
 |x::y::r=>by
  unfold wl;cases h:ft (x::y::r)
  ·rw[amp,Xq (y::r)];have a:(!(x.toNat==0&&decide (y.toNat<128))&& !(x.toNat==255&& !decide (y.toNat<128)))=false:=h;show beI (sgn y) r=beI (sgn x) (y::r);have e:beI (sgn x) (y::r)=beI (256*sgn x+(y.toNat:Int)) r:=rfl;rw[e];congr 1;unfold sgn;by_cases b:y.toNat<128
   ·rw[amE b];simp[b]at a;rw[a,amE omq];omega
   ·rw[am4 b];simp[b]at a;rw[a,am4 omq];omega
  ·rfl
def RN:∀(c:Bs),(wl c).length<=c.length
 |[]=>amt _
 |[x]=>amt _
 |x::y::r=>by
  unfold wl;cases ft (x::y::r)
  ·have:=RN (y::r);simp only[amp,amr]at this⊢;omega
  ·exact amt _
def ae7(N:Nat):∀(c:Bs)(n:Nat),c.length<n->c.length<1000->vn N n c=some (wl c)
 |[],n,h,_=>by
  obtain⟨n,rfl⟩:∃m,n=m+1:=⟨n-1,omq⟩;rfl
 |[x],n,h,_=>by
  obtain⟨n,rfl⟩:∃m,n=m+1:=⟨n-1,omq⟩;rfl
 |x::y::r,n,h,a=>by
  obtain⟨n,rfl⟩:∃m,n=m+1:=⟨n-1,omq⟩;show(bif decide (((x::y::r).length:Int)>1) then _ else _)=_;rw[amq (by simp only[amr];omega),amw,gB,amj,qA];unfold wl;cases ft (x::y::r)
  ·exact ae7 N (y::r) n (by simp at h⊢;omega) (by simp at a⊢;omega)
  ·rfl
def um(N n:Nat)(v i:Nat)(acc:Bs)(f:i<=63)(d:acc.length<=1000):eN N (n+1) ((v:Int),(i:Int),acc)=eN N n ((v:Int),(i:Int)-8,acc++[UInt8.ofNat (v / 2 ^ i % 256)]):=by
 have e:xO .i64 (v:Int) (i:Int)=((v / 2 ^ i:Nat):Int):=by
  show(v:Int).fdiv (2 ^ min ((i:Int)).toNat 64)=_;rw[anr,show min i 64=i from omq,ape _ (by exact Int.le_of_lt (Int.pow_pos deq))];simp
 have b:aC .i64 (i:Int) 8=(i:Int)-8:=qc omq;show(bif decide ((i:Int)>=0) then(bif decide (0<=(i:Int)) then(toB (IntKind.wrap .u8 (xO .i64 (v:Int) (i:Int)))).bind (λa=>(app 1 acc [a]).bind λc=>eN N n ((v:Int),aC .i64 (i:Int) 8,c)) else none) else some acc)=_;rw[amq (show 0<=(i:Int) by omega),amw,amw,e,mg,amj,cQ omq (by simp only[amr,amI];omega),amj,b]
def Es(v:Nat):Bs:=[UInt8.ofNat (v / 2 ^ 56 % 256),UInt8.ofNat (v / 2 ^ 48 % 256),UInt8.ofNat (v / 2 ^ 40 % 256),UInt8.ofNat (v / 2 ^ 32 % 256),UInt8.ofNat (v / 2 ^ 24 % 256),UInt8.ofNat (v / 2 ^ 16 % 256),UInt8.ofNat (v / 2 ^ 8 % 256),UInt8.ofNat (v / 2 ^ 0 % 256)]
def agz(n:Nat):(UInt8.ofNat (n % 256)).toNat=n % 256:=by rw[anS];omega
def aiZ(v:Nat)(h:v<2147483648):oT (Es v)=(v:Int):=by
 show beI (sgn _) _=_;unfold beI sgn;simp only[aqk,List.foldl_nil,agz];rw[amE omq];omega
def kH(v:Nat):Bs:=wl (Es v)
def Xr(v:Nat):ft (kH v)=true:=Vq _ (by simp[Es])
def abp(v:Nat)(h:v<2147483648):oT (kH v)=(v:Int):=by unfold kH;rw[Xq,aiZ v h]
def ND(v:Nat):(kH v).length<=8:=RN (Es v)
def agA{c:Bs}{v:Nat}(h:v<2147483648)(a:ft c=true)(b:oT c=(v:Int)):c=kH v:=adY a (Xr v) omq (by rw[b,abp v h])
def adZ{N:Nat}(b:FN N)(v:Nat):mG N (v:Int)=some (kH v):=by
 unfold FN at b;obtain⟨n,c⟩:∃n,N=n+9:=⟨N-9,omq⟩;have a:eN N N ((v:Int),56,[])=some (Es v):=by
  rw[show eN N N=eN N (n+9) from by rw[<-c]];rw[show(56:Int)=((56:Nat):Int) from rfl,um N (n+8) v 56 [] omq siq,show((56:Nat):Int)-8=((48:Nat):Int) from rfl,um N (n+7) v 48 _ omq siq,show((48:Nat):Int)-8=((40:Nat):Int) from rfl,um N (n+6) v 40 _ omq siq,show((40:Nat):Int)-8=((32:Nat):Int) from rfl,um N (n+5) v 32 _ omq siq,show((32:Nat):Int)-8=((24:Nat):Int) from rfl,um N (n+4) v 24 _ omq siq,show((24:Nat):Int)-8=((16:Nat):Int) from rfl,um N (n+3) v 16 _ omq siq,show((16:Nat):Int)-8=((8:Nat):Int) from rfl,um N (n+2) v 8 _ omq siq,show((8:Nat):Int)-8=((0:Nat):Int) from rfl,um N (n+1) v 0 _ omq siq];rfl
 unfold mG syv;rw[a,amj,show decide ((((Es v).length:Nat):Int)>1)=true from rfl,amw,gB,amj];unfold kH;show(bif !ft (Es v) then(slc (Es v) 1 ((Es v).length:Int)).bind _ else _)=_;unfold Es;rw[qA];unfold wl;cases ft _
 ·rw[an0,amw,amj,ae7 N _ N soq siq];rfl
 ·rfl
end Go.Fw
