/- A framework for proofs about Go programs in this model: part ZC. Everything is proved; no condition is added. -/
import Derived.Test.YtfjfjojmeookfaaGreatDoorFwZB
set_option linter.unusedVariables false
set_option linter.unusedSimpArgs false
set_option linter.defProp false
namespace Go.Fw
open Go
noncomputable def QW(e:Ent):TLV:=(0,true,16,mr e)
noncomputable def oe(es:List Ent):Bs:=(es.map rF).flatten
noncomputable def AW(es:List Ent):Bs:=tlv 0 true 16 (oe es)
def Pn(es:List Ent):ax (es.map QW)=oe es:=by unfold ax oe;rw[List.map_map];rfl
def VE(es:List Ent):Prop:=∀e∈es,e.1.length<=20/\XB e.2.2
def VE.nil:VE []:=λ_ h=>by cases h
def VE.snoc{es:List Ent}{e:Ent}(h:VE es)(b:e.1.length<=20)(c:XB e.2.2):VE (es++[e]):=λx a=>by
 rcases am6.1 a with a|a
 ·exact h x a
 ·rw[anl.1 a];exact⟨b,c⟩
def LPS(a:Bs)(r:List Ent×Int×Int):Prop:=((r.2=(0,0)/\r.1.all rG=true/\r.1≠[]/\AW r.1=a)∨(r.2.1≠0/\0<=r.2.2/\r.2.2<=(a.length:Int)))/\VE r.1/\r.1.length<=a.length
def LI(a:Bs)(g:List TLV)(L i:Nat)(st:Bs×List aJ×Int×Int×List Ent):Prop:=∃b e o c,st=(a,b,e,o,c)/\c.length=i/\VE c/\(IN a b/\i+b.length=L)/\((e=0/\o=0/\∃d f,g=d++f/\cH (EL a) f b/\ax d=oe c/\c.all rG=true)∨(e≠0/\0<=o/\o<=(a.length:Int)))
def akO{b:Type}{Q:b->Prop}(c:FN NN){a:Bs}{f:Ent×Int×Int->Option b}(d:a.length<190000)(k:∀s t x e o,EPS a ((s,t,x),e,o)->OW (f ((s,t,x),e,o)) Q):OW ((bz NN a).bind f) Q:=
 ag (ajf c a d) λr g=>k r.1.1 r.1.2.1 r.1.2.2 r.2.1 r.2.2 g
def abE(y:FN NN)(a:Bs)(Q:a.length<190000)(v:List TLV)(l:List aJ)(L:Nat)(P:L<190000)(s0:Bs×List aJ×Int×Int×List Ent)(C:LI a v L 0 s0):OW (dF NN NN s0) λr=>∃i,LI a v L i r/\(r.2.2.1=0->r.2.1=[]):=by
 have m:=y;unfold FN at m;unfold dF syv;refine cV _ L (λi F=>LI a v L i F) ?_ NN 0 _ omq omq C;rintro G i _ R ⟨A,e,o,B,rfl,f,g,⟨c,k⟩,D⟩ rec;dsimp only;rcases D with⟨rfl,rfl,d,J,q1,u,q3,z⟩|⟨q1,u,q3⟩
 ·refine tp ?_;cases u with
  |nil=>exact aa ⟨i,⟨_,_,_,_,rfl,f,g,⟨c,k⟩,.inl ⟨rfl,rfl,d,[],q1,.nil,q3,z⟩⟩,λ_=>rfl⟩
  | @cons t x I r w n=>
    have E:i+(r.length+1)=L:=k;obtain⟨M,N,O⟩:=w.lb;refine lU ?_;refine eK (eA (Kz (bx ?_)));dsimp only;refine eA (k_z (eK (AV (eK (Pl (eK (FT w (eK ?_))))))));refine akO y omq λs H K e o b=> ?_;dsimp only;refine eA (tp (eK (eA (od (λj=> ?_) λj=> ?_))))
    ·refine bx (bx ?_);dsimp only;rw[cQ omq soq];refine bx (rec _ omq ⟨_,_,_,_,rfl,by simp[f],g.snoc b.2.1 b.2.2,⟨n.inn,omq⟩,.inr ⟨j,?_,?_⟩⟩)
     ·rcases b.1 with⟨p1,_⟩|⟨_,p2,p⟩
      ·cases p1;exact absurd rfl j
      ·dsimp only at p2 p;exact cE
     ·exact cE
    ·subst j;refine bx (bx ?_);dsimp only;rw[cQ omq soq];rcases b.1 with⟨p1,p2,p⟩|⟨p1,_⟩
     ·refine bx (rec _ omq ⟨_,_,_,_,rfl,by simp[f],g.snoc b.2.1 b.2.2,⟨n.inn,omq⟩,.inl ⟨rfl,rfl,d++[t],I,by rw[q1];simp,n,?_,?_⟩⟩)
      ·have q:rF (s,H,K)=aj t:=p;unfold oe at q3⊢;simp only[ax,anu,aoU,amz,anG,List.flatten_cons,List.flatten_nil,amG]at q3⊢;rw[q3,q]
      ·rw[aoP,z];simpa using p2
     ·exact absurd rfl p1
 ·refine wo q1 (aa ⟨i,⟨_,_,_,_,rfl,f,g,⟨c,k⟩,.inr ⟨q1,u,q3⟩⟩,λh=>absurd h q1⟩)
def agN(D:FN NN)(a:Bs)(P:a.length<190000):OW (cn NN a) (LPS a):=by
 unfold cn syv;have m:∀(b:List aJ)(e o:Int)(c:List Ent)(j:List TLV),(e=0->b=[]/\o=0/\c.all rG=true/\AW c=a)->(e≠0->0<=o/\o<=(a.length:Int))->VE c->c.length<=a.length->IN a b->
  OW ((bif decide (((b.length:Nat):Int)>0) then
   (ix b 0).bind λA=>bif (e==0) then some (decide (((c.length:Nat):Int)>0),a,b,(2:Int),rD A.2.2.2.1 (a.length:Int),c) else some (decide (((c.length:Nat):Int)>0),a,b,e,o,c)
   else some (decide (((c.length:Nat):Int)>0),a,b,e,o,c)).bind λx=>match x with
   |(z,g,r,q,t,s)=>(bif (!z) then bif (q==0) then some (g,r,(6:Int),rD 0 (g.length:Int),s) else some (g,r,q,t,s) else some (g,r,q,t,s)).bind λx=>match x with
    |(V,W,F,G,H)=>some (H,F,G)) (LPS a):=by
  intro b e o c j K v p k w;by_cases f:e=0
  ·subst f;obtain⟨rfl,rfl,q1,d⟩:=K rfl;refine eA (nC (bx ?_));dsimp only;refine eA (gF (aN (λh=> ?_) λh=> ?_))
   ·refine bx (aa ⟨.inl ⟨rfl,q1,?_,d⟩,p,k⟩);intro B;rw[show c=[] from B]at h;simp at h
   ·have X:0<=rD 0 (a.length:Int):=VD (aqq _) omq;have p1:rD 0 (a.length:Int)<=(a.length:Int):=Xw;exact eA (tp (bx (aa ⟨.inr ⟨by show(6:Int)≠0;decide,X,p1⟩,p,k⟩)))
  ·obtain⟨q1,d⟩:=v f;refine eA (aN (λh=> ?_) λ_=>bx ?_)
   ·refine eK (zA w omq omq λx _ _ _ _ _=>eA (wo f (bx ?_)));dsimp only;exact eA (gF (k_c _ (bx (aa ⟨.inr ⟨f,q1,d⟩,p,k⟩)) (eA (wo f (bx (aa ⟨.inr ⟨f,q1,d⟩,p,k⟩))))))
   ·dsimp only;exact eA (gF (k_c _ (bx (aa ⟨.inr ⟨f,q1,d⟩,p,k⟩)) (eA (wo f (bx (aa ⟨.inr ⟨f,q1,d⟩,p,k⟩))))))
 refine ag (AT (jt D a omq 0 16) (qK NN a _ _)) ?_;rintro⟨l,e,o⟩ ⟨⟨T,j,u,_,_,O,y⟩|⟨u,M,N⟩,U⟩
 ·cases T;dsimp only at y⊢;have L:j.length=l.length:=y.length;have Q:=ez j;have R:(ax j).length<a.length:=by rw[O];exact dq
  refine ag (abE D a P j l l.length omq _ ⟨l,0,0,[],rfl,rfl,VE.nil,⟨y.inn,omq⟩,.inl ⟨rfl,rfl,[],j,rfl,y,rfl,rfl⟩⟩) ?_;rintro⟨a',b,e,o,c⟩ ⟨i,⟨I,e',o',J,B,K,v,⟨C,p⟩,k⟩,w⟩;cases B;dsimp only at w⊢;rcases k with⟨rfl,rfl,Z,j3,q1,d,q3,Y⟩|⟨q1,d,q3⟩
  ·obtain rfl:=w rfl;cases d;refine m [] 0 0 c j (λ_=>⟨rfl,rfl,Y,?_⟩) (λh=>absurd rfl h) v omq (λ_ h=>by cases h);unfold AW;rw[O,<-q3,q1,amG]
  ·refine m b e o c j (λh=>absurd h q1) (λ_=>⟨d,q3⟩) v omq C
 ·obtain rfl:l=[]:=U u;dsimp only at u M N⊢;unfold FN at D;obtain⟨n,S⟩:∃n,NN=n+1:=⟨NN-1,omq⟩;have E:dF NN NN (a,[],e,o,[])=some (a,[],e,o,[]):=by
   rw[S];show(bif (e==0) then _ else some _)=_;rw[amO.2 u,amp]
  rw[E];exact m [] e o [] [] (λh=>absurd h u) (λ_=>⟨M,N⟩) VE.nil siq (λ_ h=>by cases h)
end Go.Fw
namespace Go.Fw
open Go
def agO{es:List Ent}(h:(oe es).length<9000000):∀t∈es.map QW,okT t:=by
 intro t b;obtain⟨e,a,rfl⟩:=anh.1 b;have c:=tn rF es e a;have d:(mr e).length<(rF e).length:=dq;have f:((es.map rF).flatten).length=(oe es).length:=rfl;exact⟨by show 0<4;omega,by show 16<31;omega,by show(mr e).length<=_;omega⟩
def agP(g:FN NN)(es:List Ent)(h:es.all rG=true)(m:es≠[])(a:Bs)(p:AW es=a)(A:a.length<190000):cn NN a=some (es,0,0):=by
 have j:=g;unfold FN at j;have s:(oe es).length<a.length:=by rw[<-p];exact dq
 obtain⟨l,u,q⟩:=lq g (c:=0) (num:=16) omq omq a (es.map QW) (by rw[Pn];exact p.symm) (agO omq) omq 0 16 rfl rfl;have f:=q.length;rw[am7]at f;have k:=ez (es.map QW);rw[Pn,am7]at k;suffices OW (cn NN a) λr=>r=(es,0,0) by
  obtain⟨r,e,rfl⟩:=this;exact e
 unfold cn syv;rw[u,amj];dsimp only;refine ag (R:=λr=>r=(a,[],0,0,es)) ?_ ?_
 ·unfold dF syv;refine cV _ es.length (λi v=>∃d,v=(a,d,0,0,es.take i)/\cH (EL a) ((es.drop i).map QW) d) ?_ NN 0 _ omq omq ⟨l,rfl,q⟩;rintro G i _ B ⟨d,rfl,e⟩ rec;dsimp only;refine tp ?_;by_cases b:i<es.length
  ·rw[amP b,amz]at e;cases e with
   | @cons t x C r n e=>
     obtain⟨w,y,z⟩:=n.lb;refine lU ?_;refine eK (eA (Kz (bx ?_)));dsimp only;refine eA (k_z (eK (AV (eK (Pl (eK (FT n (eK ?_))))))));have o:rG es[i]=true:=amM.1 h _ (am8 b);refine bF (aje g es[i] o (aj (QW es[i])) rfl omq) ?_;dsimp only;refine eA (tp (eK (eA (k_z (bx (bx ?_))))));dsimp only;rw[cQ omq soq];refine bx (rec _ b ⟨r,?_,e⟩);rw[ans,aml b];rfl
  ·rw[an5 omq]at e;cases e;rw[amR omq];exact aa rfl
 ·rintro _ rfl;dsimp only;have o:0<es.length:=by cases es with
   |nil=>exact absurd rfl m
   |cons=>simp
  refine eA (nC (bx ?_));dsimp only;rw[amq omq];exact eA (gF (k_t (bx (aa rfl))))
abbrev iN:=Int×(Bs×Bs)×List Rdn×eQ×Bool×eQ×List Ent×List bE
noncomputable def zl(N:Nat)(ver:Int)(e:Ent):Bool:=decide (e.1.length<=20)&&(ft e.1&&(fB e.2.1&&(Ky N e.2.2&&(decide (ver>0)||((e.2.2.length:Int)==0)))))
def agQ(a:FN NN)(ver:Int)(e:Ent)(h:XB e.2.2):mb NN e ver=some (zl NN ver e):=by
 unfold mb zl syv;rw[gB,Cp,QU a _ h];simp only[amj];rw[show decide ((e.1.length:Int)<=20)=decide (e.1.length<=20) from apn.2 omq];generalize decide (e.1.length<=20)=c1;generalize ft e.1=c2;generalize fB e.2.1=c3;generalize Ky NN e.2.2=c4;generalize decide (ver>0)=c5;generalize ((e.2.2.length:Int)==0)=c6;cases c1<;>cases c2<;>cases c3<;>cases c4<;>cases c5<;>rfl
noncomputable def Et(N:Nat)(ver:Int):List Bs->List Ent->Bool
 |_,[]=>true
 |seen,e::r=> !J6 e.1 seen&&(zl N ver e&&Et N ver (Ej e.1 seen) r)
def RR(N:Nat)(ver:Int)(seen:List Bs)(e:Ent)(r:List Ent):Et N ver seen (e::r)=(!J6 e.1 seen&&(zl N ver e&&Et N ver (Ej e.1 seen) r)):=rfl
def aek(o:FN NN)(es:List Ent)(z:es.length<10000000)(v:∀e∈es,XB e.2.2)(ver:Int)(s:Bs)(p:Bs)(n:List Rdn)(f t2 t3 t4 t5 g:Int)(b:Bool)(k u2 u3 u4 u5 l:Int)(a:List Ent)(x:List bE):
 hZ NN NN (es,(es.length:Int),0,ver,s,p,n,f,t2,t3,t4,t5,g,b,k,u2,u3,u4,u5,l,a,x,[])=some (bif Et NN ver [] es then .inr (ver,s,p,n,f,t2,t3,t4,t5,g,b,k,u2,u3,u4,u5,l,a,x) else .inl ()):=by
 have m:=o;unfold FN at m;suffices OW (hZ NN NN (es,(es.length:Int),0,ver,s,p,n,f,t2,t3,t4,t5,g,b,k,u2,u3,u4,u5,l,a,x,[])) λr=>r=bif Et NN ver [] es then .inr (ver,s,p,n,f,t2,t3,t4,t5,g,b,k,u2,u3,u4,u5,l,a,x) else .inl () by
  obtain⟨r,u,rfl⟩:=this;exact u
 unfold hZ syv;refine cV _ es.length (λi w=>∃j seen,w=(es,(es.length:Int),j,ver,s,p,n,f,t2,t3,t4,t5,g,b,k,u2,u3,u4,u5,l,a,x,seen)/\j=(i:Int)/\Et NN ver [] es=Et NN ver seen (es.drop i)) ?_ NN 0 _ omq omq ⟨_,_,rfl,rfl,rfl⟩;rintro G i _ y ⟨j,seen,rfl,rfl,c⟩ rec;dsimp only;refine aN (λh=> ?_) λh=> ?_
 ·have d:i<es.length:=omq;rw[amP d]at c;rw[RR]at c;rw[aM (aml d)];refine bx ?_;cases t:J6 es[i].1 seen
  ·rw[t]at c;refine k_f (bF (agQ o ver es[i] (v _ (am8 d))) ?_);cases q:zl NN ver es[i]
   ·rw[q]at c;refine gF (k_f (aa ?_));rw[c];rfl
   ·rw[q]at c;refine gF (k_t (rec _ d ⟨_,_,rfl,bg omq,?_⟩));rw[c];rfl
  ·rw[t]at c;refine k_t (aa ?_);rw[c];rfl
 ·rw[an5 omq]at c;refine aa ?_;rw[c];rfl
def Po(t:eQ):Bool:=(t.1==0)&&((t.2.1==0)&&((t.2.2.1==0)&&((t.2.2.2.1==0)&&((t.2.2.2.2.1==0)&&(t.2.2.2.2.2==0)))))
noncomputable def iF(N:Nat)(v:iN):Bool:= !(v.1 !=0&&v.1 !=1)&&(lV N v.2.1&&(!((v.2.2.1.length:Int)==0)&&(nB N v.2.2.1&&(fB v.2.2.2.1&&((bif v.2.2.2.2.1 then fB v.2.2.2.2.2.1 else Po v.2.2.2.2.2.1)&&(Et N v.1 [] v.2.2.2.2.2.2.1&&(Ky N v.2.2.2.2.2.2.2&&(decide (v.1>0)||((v.2.2.2.2.2.2.2.length:Int)==0)))))))))
def LB(v:iN):Prop:=v.2.1.1.length<10000000/\v.2.1.2.length<10000000/\wN v.2.2.1<10000000/\v.2.2.2.2.2.2.1.length<10000000/\(∀e∈v.2.2.2.2.2.2.1,XB e.2.2)/\XB v.2.2.2.2.2.2.2
def AX(a:FN NN)(v:iN)(h:LB v):me NN v=some (iF NN v):=by
 obtain⟨b,c,d,e,f,g⟩:=h;unfold me iF syv;simp only[RX a v.2.1 b c,Zj a v.2.2.1 d,Cp,aek a v.2.2.2.2.2.2.1 e f,amj];have i:=QU a _ g;have j:((v.2.2.2.2.2.1.1==0)&&((v.2.2.2.2.2.1.2.1==0)&&((v.2.2.2.2.2.1.2.2.1==0)&&((v.2.2.2.2.2.1.2.2.2.1==0)&&((v.2.2.2.2.2.1.2.2.2.2.1==0)&&(v.2.2.2.2.2.1.2.2.2.2.2==0))))))=Po v.2.2.2.2.2.1:=rfl;rw[j];generalize lV NN v.2.1=c1;generalize ((v.2.2.1.length:Int)==0)=c2;generalize nB NN v.2.2.1=c3;generalize fB v.2.2.2.1=c4;generalize v.2.2.2.2.1=c5;generalize fB v.2.2.2.2.2.1=c6;generalize Po v.2.2.2.2.2.1=c7;generalize Et NN v.1 [] v.2.2.2.2.2.2.1=c8;generalize (v.1 !=0)=d1;generalize (v.1 !=1)=d2;cases d1<;>cases d2<;>(try rfl)<;>cases c1<;>(try rfl)<;>cases c2<;>(try rfl)<;>cases c3<;>(try rfl)<;>cases c4<;>(try rfl)<;>cases c5<;>cases c6<;>(try rfl)<;>cases c7<;>(try rfl)<;>cases c8<;>(try rfl)<;>simp only[amw,amp,am3,an0,ao8,aqb,aqr,i,amj]<;>cases Ky NN v.2.2.2.2.2.2.2<;>(try rfl)<;>cases decide (v.1>0)<;>rfl
end Go.Fw
namespace Go.Fw
open Go
noncomputable def rH(ver:Int):Bs:=bif decide (ver>0) then aj (0,false,2,kH 1) else []
noncomputable def wq(b:Bool)(u:eQ):Bs:=bif b then gm u else []
noncomputable def sH(es:List Ent):Bs:=bif decide (((es.length:Nat):Int)>0) then AW es else []
noncomputable def yh(x:List bE):Bs:=bif decide (((x.length:Nat):Int)>0) then aj (2,true,0,dS x) else []
noncomputable def clB(v:iN):Bs:=rH v.1++(ig v.2.1++(ju v.2.2.1++(gm v.2.2.2.1++(wq v.2.2.2.2.1 v.2.2.2.2.2.1++(sH v.2.2.2.2.2.2.1++yh v.2.2.2.2.2.2.2)))))
noncomputable def clE(v:iN):Bs:=aj (0,true,16,clB v)
def Xx(g:FN NN){ver:Int}{e:Ent}(i:XB e.2.2)(h:zl NN ver e=true):rG e=true:=by
 unfold zl at h;simp only[amk,amX]at h;obtain⟨b,c,d,f,_⟩:=h;unfold rG;rcases VC g i f with a|a
 ·simp[b,c,d,a]
 ·simp[b,c,d,a]
def NI{N:Nat}{ver:Int}:∀(es:List Ent)(seen:List Bs),Et N ver seen es=true->∀e∈es,zl N ver e=true
 |[],_,_,_,h=>by cases h
 |a::r,seen,h,e,b=>by
  rw[RR]at h;simp only[amk]at h;rcases amN.1 b with rfl|b
  ·exact h.2.1
  ·exact NI r _ h.2.2 e b
def ZB(o:FN NN)(es:List Ent)(y:es.length<10000000)(u:∀e∈es,XB e.2.2)(q:∀e∈es,rG e=true)(ver:Int)(s:Bs)(p:Bs)(n:List Rdn)(f t2 t3 t4 t5 g:Int)(b:Bool)(k u2 u3 u4 u5 l:Int)(a:List Ent)(x:List bE)(i0:Int)(d:List Bs):
 gj NN NN (es,(es.length:Int),0,ver,s,p,n,f,t2,t3,t4,t5,g,b,k,u2,u3,u4,u5,l,a,x,i0,d,0,[])=some (ver,s,p,n,f,t2,t3,t4,t5,g,b,k,u2,u3,u4,u5,l,a,x,i0,d,0,es.map rF):=by
 have m:=o;unfold FN at m;suffices OW (gj NN NN (es,(es.length:Int),0,ver,s,p,n,f,t2,t3,t4,t5,g,b,k,u2,u3,u4,u5,l,a,x,i0,d,0,[])) λr=>r=(ver,s,p,n,f,t2,t3,t4,t5,g,b,k,u2,u3,u4,u5,l,a,x,i0,d,0,es.map rF) by
  obtain⟨r,t,rfl⟩:=this;exact t
 unfold gj syv;refine cV _ es.length (λi v=>∃j,v=(es,(es.length:Int),j,ver,s,p,n,f,t2,t3,t4,t5,g,b,k,u2,u3,u4,u5,l,a,x,i0,d,0,(es.take i).map rF)/\j=(i:Int)) ?_ NN 0 _ omq omq ⟨_,rfl,rfl⟩;rintro G i _ w ⟨j,rfl,rfl⟩ rec;dsimp only;refine aN (λh=> ?_) λh=> ?_
 ·have c:i<es.length:=omq;rw[aM (aml c)];refine bx (bF (akN o es[i] (q _ (am8 c)) (u _ (am8 c)).1) ?_);dsimp only;rw[cQ omq soq,jO];refine bx (rec _ c ⟨_,?_,bg omq⟩);rw[ans,aml c,anu];rfl
 ·rw[amR omq];exact aa rfl
def qp{a α:Type}{Q:a->Prop}{w:Nat}{l:List α}{x:α}{f:List α->Option a}(b:w<=200)(h:l.length<=100)(k:OW (f (l++[x])) Q):OW ((app w l [x]).bind f) Q:=by
 rw[cQ b soq];exact k
def RS(l:List Bs)(x:Bs):(l++[x]).flatten=l.flatten++x:=by simp
def abF(d:FN NN)(v:iN)(h:LB v)(J:(clB v).length<100000000):cr NN v=some (bif iF NN v then(clE v,0) else([],8)):=by
 have N:=AX d v h;cases y:iF NN v
 ·unfold cr syv;rw[N,y];rfl
 ·rw[y]at N;unfold iF at y;simp only[amk]at y;obtain⟨_,X,_,Y,Z,k6,k7,k8,_⟩:=y;obtain⟨S,T,U,V,z,u⟩:=h;obtain⟨a,⟨s,p⟩,n,⟨j,k,l,m,o,q⟩,b,⟨g,u2,u3,u4,u5,i⟩,c,x⟩:=v;dsimp only at X Y Z k6 k7 k8 S T U V z u;have B:=ZM d (s,p) S T;rw[X]at B;have F:=Vh d n U;rw[Y]at F;have K:=Vn d (j,k,l,m,o,q);rw[Z]at K;simp only[amw]at B F K;have G:∀e∈c,rG e=true:=λe W=>Xx d (z e W) (NI c [] k7 e W);have H:=adZ d 1;have I:mG NN 1=some (kH 1):=H;suffices OW (cr NN (a,(s,p),n,(j,k,l,m,o,q),b,(g,u2,u3,u4,u5,i),c,x)) λr=>r=(clE (a,(s,p),n,(j,k,l,m,o,q),b,(g,u2,u3,u4,u5,i),c,x),0) by
   obtain⟨r,H,rfl⟩:=this;exact H
  unfold cr syv;rw[N];refine bx (gF (k_t ?_));dsimp only;refine ag (R:=λr=>∃L:List Bs,r=(a,s,p,n,j,k,l,m,o,q,b,g,u2,u3,u4,u5,i,c,x,0,L)/\L.length<=1/\L.flatten=rH a) ?_ ?_
  ·unfold rH;refine aN (λf=> ?_) λf=> ?_
   ·rw[amq f];refine bF I (bF (qo d 0 2 false (kH 1) 0 2 rfl rfl omq omq (by have:=ND 1;omega)) ?_);dsimp only;refine qp omq siq (aa ⟨[]++[aj (0,false,2,kH 1)],by rw[jO],by simp,?_⟩);simp only[amw,anc,List.flatten_cons,List.flatten_nil,amG]
   ·rw[amm f];exact aa ⟨_,rfl,by simp,by simp⟩
  ·rintro _ ⟨L1,rfl,j3,w⟩;dsimp only;refine bF B ?_;dsimp only;refine qp omq omq (bF F ?_);dsimp only;refine qp omq soq (bF K ?_);dsimp only;refine qp omq soq ?_;simp only[jO];refine ag (R:=λr=>∃L:List Bs,r=(a,s,p,n,j,k,l,m,o,q,b,g,u2,u3,u4,u5,i,c,x,0,L)/\L.length<=5/\L.flatten=rH a++(ig (s,p)++(ju n++(gm (j,k,l,m,o,q)++wq b (g,u2,u3,u4,u5,i))))) ?_ ?_
   ·unfold wq;cases b
    ·refine k_f (aa ⟨_,rfl,by simp;omega,?_⟩);simp only[aoU,List.flatten_cons,List.flatten_nil,w,amL,amp,amG]
    ·have M:=Vn d (g,u2,u3,u4,u5,i);have P:fB (g,u2,u3,u4,u5,i)=true:=k6;rw[P]at M;simp only[amw]at M;refine k_t (bF M ?_);dsimp only;refine qp omq soq ?_;simp only[jO];refine aa ⟨_,rfl,by simp;omega,?_⟩;simp only[aoU,List.flatten_cons,List.flatten_nil,amG,w,amL,amw]
   ·rintro _ ⟨Q,rfl,j4,C⟩;dsimp only;refine ag (R:=λr=>∃L:List Bs,r=(a,s,p,n,j,k,l,m,o,q,b,g,u2,u3,u4,u5,i,c,x,0,L)/\L.length<=6/\L.flatten=Q.flatten++sH c) ?_ ?_
    ·unfold sH;refine aN (λf=> ?_) λf=> ?_
     ·rw[amq f];refine bF (ZB d c V z G a s p n j k l m o q b g u2 u3 u4 u5 i c x 0 Q) ?_;dsimp only;refine k_z (bF (DS d _ (oe c) rfl (by rw[am7];omega) ?_) ?_)
      ·unfold clB sH at J;rw[amq f]at J;simp only[amo,amw]at J;have:(oe c).length<(AW c).length:=dq;omega
      ·dsimp only;refine qp omq omq ?_;simp only[jO];refine aa ⟨_,rfl,by simp;omega,?_⟩;rw[RS,amw];rfl
     ·rw[amm f];exact aa ⟨_,rfl,omq,by simp⟩
    ·rintro _ ⟨L3,rfl,j5,D⟩;dsimp only;refine ag (R:=λr=>∃L:List Bs,r=(0,L)/\L.length<=7/\L.flatten=L3.flatten++yh x) ?_ ?_
     ·unfold yh;refine aN (λf=> ?_) λf=> ?_
      ·rw[amq f];have O:dU x=true:=by
        rcases VC d u k8 with A|A
        ·rw[A]at f;simp at f
        ·exact A
       have t:=abc d x u.1;rw[O]at t;simp only[amw]at t;refine bF t (bF (qo d 2 0 true (dS x) 2 0 rfl rfl omq omq ?_) ?_)
       ·have h9:=RL x (by have:=u.1;omega);have:=u.1;omega
       ·dsimp only;refine qp omq omq ?_;simp only[jO];refine aa ⟨_,rfl,by simp;omega,?_⟩;rw[RS,amw]
      ·rw[amm f];exact aa ⟨_,rfl,omq,by simp⟩
     ·rintro _ ⟨L4,rfl,j6,E⟩;dsimp only;refine k_z (bF (DS d _ (clB (a,(s,p),n,(j,k,l,m,o,q),b,(g,u2,u3,u4,u5,i),c,x)) ?_ omq omq) (aa rfl));rw[E,D,C];unfold clB;simp only[amL]
end Go.Fw
namespace Go.Fw
open Go
def ajg(N:Nat)(a:Bs):OP (cL N a) λr=>r.2.1≠0->r.1=([],[]):=by
 unfold cL je syv;refine aB (cU _) λr _=>aF (λ_=>ay λ_=>rfl) λ_=> ?_;refine aF (λ_=>aB (cU _) λ_ _=>ay λ_=>rfl) λ_=> ?_;refine aF (λ_=>aB (cU _) λ_ _=>aB (cU _) λ_ _=>ay λ_=>rfl) λ_=> ?_;refine aB (cU _) λ_ _=>aB (cU _) λ_ _=>aF (λ_=>aB (cU _) λ_ _=>aB (cU _) λ_ _=>ay λ_=>rfl) λ_=> ?_;refine aB (cU _) λ_ _=>aB (cU _) λ_ _=>aB (cU _) λ_ _=>aB (cU _) λ_ _=> ?_;refine aF (λ_=>aB (cU _) λ_ _=>aB (cU _) λ_ _=>ay λ_=>rfl) λ_=> ?_;refine aB (R:=λy=>match y with
  |.inl (_,_,_,_,_)=>True
  |.inr (s,_,_)=>s=[]) ?_ ?_
 ·refine aF (λ_=> ?_) λ_=>ay trivial;refine aB (cU _) λ_ _=>aB (cU _) λ_ _=>aB (cU _) λ_ _=>aB (cU _) λ_ _=>aB (cU _) λ_ _=> ?_;exact aF (λ_=>aB (cU _) λ_ _=>aB (cU _) λ_ _=>ay rfl) λ_=>ay trivial
 ·rintro(⟨s,i,j,t,l⟩|⟨s,i,j⟩) h
  ·exact ay λh=>absurd rfl h
  ·refine ay λ_=> ?_;rw[show s=[] from h]
def agR(N:Nat)(a:Bs):OP (iu N a) λr=>r.2.1≠0->r.1=[]:=by
 unfold iu syv;refine aB (cU _) λr _=>aF (λ_=>ay λ_=>rfl) λ_=> ?_;refine aB (cU _) ?_;rintro(⟨i,j⟩|l) _
 ·exact ay λ_=>rfl
 ·exact ay λh=>absurd rfl h
section
variable {β:Type}{Q:β→Prop}
def afe(l:FN NN){a:Bs}{f:(Bs×Bs)×Int×Int->Option β}(q:a.length<400000)(m:∀e o,e≠0->0<=o->o<=(a.length:Int)->OW (f (([],[]),e,o)) Q)(n:∀s p,lV NN (s,p)=true->ig (s,p)=a->s.length<10000000->p.length<10000000->OW (f ((s,p),0,0)) Q):OW ((cL NN a).bind f) Q:=by
 refine ag (AT (ajL l a omq) (ajg NN a)) ?_;rintro⟨⟨s,p⟩,e,o⟩ ⟨⟨d,b,c⟩|⟨b,c,g⟩,h⟩
 ·cases d;have i:=aiP b;have j:ig (s,p)=a:=c;have k:s.length<=21*(ig (s,p)).length/\p.length<=(ig (s,p)).length:=i;rw[j]at k;exact n s p b c omq omq
 ·cases h b;exact m e o b c g
def abG(k:FN NN){a:Bs}{f:List Rdn×Int×Int->Option β}(p:a.length<300000)(l:∀e o,e≠0->0<=o->o<=(a.length:Int)->OW (f ([],e,o)) Q)(m:∀n,nB NN n=true->ju n=a->wN n<10000000->OW (f (n,0,0)) Q):OW ((iu NN a).bind f) Q:=by
 refine ag (AT (Xj k a omq) (agR NN a)) ?_;rintro⟨n,e,o⟩ ⟨⟨d,b,c⟩|⟨b,c,g⟩,h⟩
 ·cases d;have i:wN n<=32*(ju n).length:=Xk b;have j:ju n=a:=c;rw[j]at i;exact m n b c omq
 ·cases h b;exact l e o b c g
def akP(i:FN NN)(a:Bs)(m:a.length<10000000):OW (aW NN a 2) λr=>(r=(1,0,0)/\a=aj (0,false,2,kH 1))∨(r.1=0/\r.2.1≠0/\0<=r.2.2/\r.2.2<=(a.length:Int)):=by
 unfold aW nT syv;refine ag (wj i a m) ?_;rintro⟨v,e,o⟩ (⟨n,t,g,d,f⟩|⟨g,d,f⟩)
 ·cases n;dsimp only;rw[show((0:Int) !=0)=false from rfl,amp];have k:t.2.2.2.length<=a.length:=by rw[d];exact ap0 (cZ t)
  rcases EL.cs f 0 2 false 0 2 rfl rfl with⟨b,h⟩|⟨b,h⟩
  ·rw[b,amj,am3,amp,f.body,amj,QN i _ omq,amj];have c:OW (some ((0:Int),(6:Int),(0:Int))) λr=>(r=(1,0,0)/\a=aj (0,false,2,kH 1))∨(r.1=0/\r.2.1≠0/\0<=r.2.2/\r.2.2<=(a.length:Int)):=aa (.inr ⟨rfl,by decide,by show(0:Int)<=0;omega,by show(0:Int)<=_;omega⟩);cases j:(ft t.2.2.2&&decide (t.2.2.2.length<=8))
   ·exact c
   ·simp only[amk,amX]at j;simp only[amw,am3,amp];by_cases b:oT t.2.2.2=1
    ·rw[b,show((1:Int) !=1)=false from rfl,amp];refine aa (.inl ⟨rfl,?_⟩);rw[d,h];have l:=agA (v:=1) omq j.1 b;rw[<-l]
    ·rw[show(oT t.2.2.2 !=1)=true from by simpa using b];exact c
  ·rw[b,amj];exact aa (.inr ⟨rfl,by decide,by show(0:Int)<=0;omega,by show(0:Int)<=_;omega⟩)
 ·dsimp only;rw[mq g];exact aa (.inr ⟨rfl,g,d,f⟩)
def akQ(b:FN NN):aW NN (aj (0,false,2,kH 1)) 2=some (1,0,0):=by
 have d:=ND 1;obtain⟨e,c,a⟩:=Lm b (0,false,2,kH 1) ⟨omq,by show 2<31;omega,by show(kH 1).length<=_;omega⟩;unfold aW nT syv;rw[c,amj];dsimp only;rw[show((0:Int) !=0)=false from rfl,amp,a.yes 0 2 false 0 2 rfl rfl rfl rfl rfl,amj,am3,amp,a.body,amj,QN b _ (by show(kH 1).length<_;omega),amj];dsimp only;rw[Xr,amq omq,abp 1 omq];rfl
def aff(i:FN NN){a:Bs}{f:Int×Int×Int->Option β}(j:a.length<10000000)(k:∀e o,e≠0->0<=o->o<=(a.length:Int)->OW (f (0,e,o)) Q)(l:a=aj (0,false,2,kH 1)->OW (f (1,0,0)) Q):OW ((aW NN a 2).bind f) Q:=by
 refine ag (akP i a j) ?_;rintro⟨n,e,o⟩ (⟨c,b⟩|⟨b,d,g,h⟩)
 ·cases c;exact l b
 ·cases b;exact k e o d g h
def ajh(m:FN NN)(a:Bs)(H:a.length<190000):OW (cB NN a) λr=>(r.2=(0,0)/\dU r.1=true/\XB r.1/\a=aj (2,true,0,dS r.1))∨(r.1=[]/\r.2.1≠0/\0<=r.2.2/\r.2.2<=(a.length:Int)):=by
 unfold cB syv;refine ag (wj m a omq) ?_;have c:OW (some (([]:List bE),(3:Int),(0:Int))) λr=>(r.2=(0,0)/\dU r.1=true/\XB r.1/\a=aj (2,true,0,dS r.1))∨(r.1=[]/\r.2.1≠0/\0<=r.2.2/\r.2.2<=(a.length:Int)):=aa (.inr ⟨rfl,by decide,by show(0:Int)<=0;omega,by show(0:Int)<=_;omega⟩);rintro⟨v,e,o⟩ (⟨y,t,w,h,b⟩|⟨w,h,b⟩)
 ·cases y;dsimp only at b⊢;rw[show((0:Int) !=0)=false from rfl,amp];have u:t.2.2.2.length<a.length:=by rw[h];exact cZ t
  rcases EL.cs b 2 0 true 2 0 rfl rfl with⟨d,k⟩|⟨d,k⟩
  ·rw[d,amj,am3,amp,b.body,amj];refine Pm m omq (λe o s G d=> ?_) λl q1 z q3=> ?_
   ·dsimp only;obtain⟨p,q,r,A,B,C,D,E,F,b7⟩:=b.bd;have n:slc a v.2.2.2.2.1 v.2.2.2.2.2=some t.2.2.2:=b.body;obtain⟨I,f,g⟩:=HH (l:=a) (i:=v.2.2.2.2.1) (j:=v.2.2.2.2.2) omq omq omq;rw[f]at n;cases n;have x:t.2.2.2.length=r-q:=by rw[g,anj,amT];omega
    refine eA (VG s (bx (aa (.inr ⟨rfl,s,?_,?_⟩))))
    ·show(0:Int)<=az .i64 o v.2.2.2.2.1;rw[bX ⟨omq,omq⟩];omega
    ·show az .i64 o v.2.2.2.2.1<=_;rw[bX ⟨omq,omq⟩];omega
   ·dsimp only;refine eA (k_z (bx (aa (.inl ⟨rfl,q1,q3,?_⟩))));rw[h,k,<-z]
  ·rw[d,amj];exact c
 ·dsimp only;rw[mq w];exact c
def aji(b:FN NN)(x:List bE)(h:dU x=true)(d:(dS x).length<190000):cB NN (aj (2,true,0,dS x))=some (x,0,0):=by
 obtain⟨e,c,a⟩:=Lm b (2,true,0,dS x) ⟨omq,by show 0<31;omega,by show(dS x).length<=_;omega⟩;unfold cB syv;rw[c,amj];dsimp only;rw[show((0:Int) !=0)=false from rfl,amp,a.yes 2 0 true 2 0 rfl rfl rfl rfl rfl,amj,am3,amp,a.body,amj,Xl b x h _ rfl omq];rfl
def abH(i:FN NN){a:Bs}{f:List bE×Int×Int->Option β}(j:a.length<190000)(k:∀e o,e≠0->0<=o->o<=(a.length:Int)->OW (f ([],e,o)) Q)(l:∀x,dU x=true->XB x->a=aj (2,true,0,dS x)->OW (f (x,0,0)) Q):OW ((cB NN a).bind f) Q:=by
 refine ag (ajh i a j) ?_;rintro⟨n,e,o⟩ (⟨g,b,c,d⟩|⟨b,c,d,h⟩)
 ·cases g;exact l n b c d
 ·cases b;exact k e o c d h
def abI(k:FN NN){a:Bs}{f:List Ent×Int×Int->Option β}(l:a.length<190000)(m:∀b e o,e≠0->0<=o->o<=(a.length:Int)->VE b->b.length<10000000->OW (f (b,e,o)) Q)(n:∀b,b≠[]->AW b=a->VE b->b.length<10000000->OW (f (b,0,0)) Q):OW ((cn NN a).bind f) Q:=by
 refine ag (agN k a l) ?_;rintro⟨b,e,o⟩ ⟨⟨j,g,c,d⟩|⟨g,c,d⟩,h,i⟩
 ·cases j;dsimp only at i;exact n b c d h omq
 ·dsimp only at i;exact m b e o g c d h omq
end
end Go.Fw
namespace Go.Fw
open Go
noncomputable def isB(x:aJ)(k:Bool)(n:Int):Bool:=(eu x 0 k n).getD false
def SR(x:aJ)(k:Bool)(n:Int):eu x 0 k n=some (isB x k n):=by
 obtain⟨c,h,_⟩:=sG x 0 n k;unfold isB;rw[h];rfl
def Lw{a:Bs}{t:TLV}{x:aJ}(h:EL a t x)(k:Bool)(n:Nat)(b:t.1=0)(c:t.2.1=k)(d:t.2.2.1=n):isB x k (n:Int)=true:=by
 unfold isB;rw[h.yes 0 n k 0 n rfl rfl b c d];rfl
def Pp{a:Bs}{t:TLV}{x:aJ}(h:EL a t x)(k:Bool)(n:Nat)(b:¬(t.1=0/\t.2.1=k/\t.2.2.1=n)):isB x k (n:Int)=false:=by
 unfold isB;rw[h.no 0 n k 0 n rfl rfl b];rfl
def ZC(c:FN NN)(a:Bs)(x:aJ)(r:List aJ)(e o:Int):dO NN NN ([2],(([2]:List Int).length:Int),0,a,x::r,e,o)=some (bif isB x false 2 then .inl (0,a,x::r,e,o) else .inr (a,x::r,e,o)):=by
 unfold FN at c;suffices OW (dO NN NN ([2],(([2]:List Int).length:Int),0,a,x::r,e,o)) λy=>y=bif isB x false 2 then .inl (0,a,x::r,e,o) else .inr (a,x::r,e,o) by
  obtain⟨y,d,rfl⟩:=this;exact d
 unfold dO syv;refine cV _ 1 (λi f=>f=([2],1,(i:Int),a,x::r,e,o)/\(i=1->isB x false 2=false)) ?_ NN 0 _ omq omq ⟨rfl,λh=>omq⟩;rintro G i _ g ⟨rfl,b⟩ rec;dsimp only;rcases (by omega:i=0∨i=1) with rfl|rfl
 ·refine aN (λ_=> ?_) λh=>absurd deq h;refine bF (show ix [2] ((0:Nat):Int)=some 2 from rfl) (AV (bF (SR x false 2) ?_));refine aq (λh=>aa (by rw[h];rfl)) λh=> ?_;exact(by rw[bg omq];exact rec _ omq ⟨rfl,λ_=>h⟩)
 ·refine aN (λh=>absurd h deq) λ_=>aa ?_;rw[b rfl];rfl
def ZD(j:FN NN)(a:Bs)(x:aJ)(r:List aJ)(e o ver:Int)(s p:Bs)(n:List Rdn)(b t2 t3 t4 t5 c:Int):∃i:Int,0<=i/\dP NN NN ([23,24],(([23,24]:List Int).length:Int),0,a,x::r,e,o,ver,s,p,n,b,t2,t3,t4,t5,c)=some (bif isB x false 23||isB x false 24 then .inl (i,a,x::r,e,o,ver,s,p,n,b,t2,t3,t4,t5,c) else .inr (a,x::r,e,o,ver,s,p,n,b,t2,t3,t4,t5,c)):=by
 unfold FN at j;suffices OW (dP NN NN ([23,24],(([23,24]:List Int).length:Int),0,a,x::r,e,o,ver,s,p,n,b,t2,t3,t4,t5,c)) λy=>∃i:Int,0<=i/\y=bif isB x false 23||isB x false 24 then .inl (i,a,x::r,e,o,ver,s,p,n,b,t2,t3,t4,t5,c) else .inr (a,x::r,e,o,ver,s,p,n,b,t2,t3,t4,t5,c) by
  obtain⟨y,k,i,f,rfl⟩:=this;exact⟨i,f,k⟩
 unfold dP syv;refine cV _ 2 (λi l=>l=([23,24],2,(i:Int),a,x::r,e,o,ver,s,p,n,b,t2,t3,t4,t5,c)/\(1<=i->isB x false 23=false)/\(i=2->isB x false 24=false)) ?_ NN 0 _ omq omq ⟨rfl,λh=>omq,λh=>omq⟩;rintro G i _ f ⟨rfl,d,g⟩ rec;dsimp only;rcases (by omega:i=0∨i=1∨i=2) with rfl|rfl|rfl
 ·refine aN (λ_=> ?_) λh=>absurd deq h;refine bF (show ix [23,24] ((0:Nat):Int)=some 23 from rfl) (AV (bF (SR x false 23) ?_));refine aq (λh=>aa ⟨((0:Nat):Int),omq,by rw[h];rfl⟩) λh=> ?_;exact(by rw[bg omq];exact rec _ omq ⟨rfl,λ_=>h,λh=>omq⟩)
 ·refine aN (λ_=> ?_) λh=>absurd deq h;refine bF (show ix [23,24] ((1:Nat):Int)=some 24 from rfl) (AV (bF (SR x false 24) ?_));refine aq (λh=>aa ⟨((1:Nat):Int),omq,by rw[h,Bool.or_true];rfl⟩) λh=> ?_;exact(by rw[bg omq];exact rec _ omq ⟨rfl,λ_=>d omq,λ_=>h⟩)
 ·refine aN (λh=>absurd h deq) λ_=>aa ⟨0,omq,?_⟩;rw[d omq,g rfl];rfl
def ZE(k:FN NN)(a:Bs)(x:aJ)(r:List aJ)(e o ver:Int)(s p:Bs)(n:List Rdn)(c t2 t3 t4 t5 d:Int)(b:Bool)(f u2 u3 u4 u5 g:Int):dQ NN NN ([16],(([16]:List Int).length:Int),0,a,x::r,e,o,ver,s,p,n,c,t2,t3,t4,t5,d,b,f,u2,u3,u4,u5,g)=some (bif isB x true 16 then .inl (0,a,x::r,e,o,ver,s,p,n,c,t2,t3,t4,t5,d,b,f,u2,u3,u4,u5,g) else .inr (a,x::r,e,o,ver,s,p,n,c,t2,t3,t4,t5,d,b,f,u2,u3,u4,u5,g)):=by
 unfold FN at k;suffices OW (dQ NN NN ([16],(([16]:List Int).length:Int),0,a,x::r,e,o,ver,s,p,n,c,t2,t3,t4,t5,d,b,f,u2,u3,u4,u5,g)) λy=>y=bif isB x true 16 then .inl (0,a,x::r,e,o,ver,s,p,n,c,t2,t3,t4,t5,d,b,f,u2,u3,u4,u5,g) else .inr (a,x::r,e,o,ver,s,p,n,c,t2,t3,t4,t5,d,b,f,u2,u3,u4,u5,g) by
  obtain⟨y,l,rfl⟩:=this;exact l
 unfold dQ syv;refine cV _ 1 (λi m=>m=([16],1,(i:Int),a,x::r,e,o,ver,s,p,n,c,t2,t3,t4,t5,d,b,f,u2,u3,u4,u5,g)/\(i=1->isB x true 16=false)) ?_ NN 0 _ omq omq ⟨rfl,λh=>omq⟩;rintro G i _ q ⟨rfl,j⟩ rec;dsimp only;rcases (by omega:i=0∨i=1) with rfl|rfl
 ·refine aN (λ_=> ?_) λh=>absurd deq h;refine bF (show ix [16] ((0:Nat):Int)=some 16 from rfl) (AV (bF (SR x true 16) ?_));refine aq (λh=>aa (by rw[h];rfl)) λh=> ?_;exact(by rw[bg omq];exact rec _ omq ⟨rfl,λ_=>h⟩)
 ·refine aN (λh=>absurd h deq) λ_=>aa ?_;rw[j rfl];rfl
end Go.Fw
namespace Go.Fw
open Go
abbrev zCL:iN:=(0,([],[]),[],(0,0,0,0,0,0),false,(0,0,0,0,0,0),[],[])
noncomputable def KA(v:Bs×Bs):TLV:=(0,true,16,aj (bZ v.1)++v.2)
noncomputable def VI(ver:Int):List TLV:=bif decide (ver>0) then [(0,false,2,kH 1)] else []
noncomputable def AY(b:Bool)(u:eQ):List TLV:=bif b then [ia u] else []
noncomputable def og(es:List Ent):List TLV:=bif decide (((es.length:Nat):Int)>0) then [(0,true,16,oe es)] else []
noncomputable def mO(x:List bE):List TLV:=bif decide (((x.length:Nat):Int)>0) then [(2,true,0,dS x)] else []
noncomputable def CQ(v:iN):List TLV:=VI v.1++(KA v.2.1::Lo v.2.2.1::ia v.2.2.2.1::(AY v.2.2.2.2.1 v.2.2.2.2.2.1++(og v.2.2.2.2.2.2.1++mO v.2.2.2.2.2.2.2)))
def H0(x y:List TLV):ax (x++y)=ax x++ax y:=by simp[ax]
def ajm(ver:Int):ax (VI ver)=rH ver:=by unfold VI rH;cases decide (ver>0)<;>simp[ax]
def agU(b:Bool)(u:eQ):ax (AY b u)=wq b u:=by unfold AY wq;cases b<;>simp[ax,gm]
def agV(es:List Ent):ax (og es)=sH es:=by
 unfold og sH;cases decide (((es.length:Nat):Int)>0)
 ·rfl
 ·simp only[amw,ax,amz,anG,List.flatten_cons,List.flatten_nil,amG];rfl
def agW(x:List bE):ax (mO x)=yh x:=by unfold mO yh;cases decide (((x.length:Nat):Int)>0)<;>simp[ax]
def NM(v:iN):ax (CQ v)=clB v:=by
 unfold CQ clB;rw[H0,eG,eG,eG,H0,H0,ajm,agU,agV,agW];rfl
def agX(v:iN)(h:(clB v).length<10000000):∀t∈CQ v,okT t:=by
 have e:∀t∈CQ v,t.1<4/\t.2.2.1<31:=by
  unfold CQ VI AY og mO;intro t a;have c:=(HU v.2.2.2.1);have d:=(HU v.2.2.2.2.2.1);simp only[am6,amN]at a;rcases a with a|rfl|rfl|rfl|a|a|a
  ·cases b:decide (v.1>0)
   ·rw[b]at a;cases a
   ·rw[b]at a;rw[anl.1 a];exact⟨by decide,by show 2<31;decide⟩
  ·exact⟨by show 0<4;decide,by show 16<31;decide⟩
  ·exact⟨by show 0<4;decide,by show 16<31;decide⟩
  ·exact⟨c.1,c.2.1⟩
  ·cases b:v.2.2.2.2.1
   ·rw[b]at a;cases a
   ·rw[b]at a;rw[anl.1 a];exact⟨d.1,d.2.1⟩
  ·cases b:decide (((v.2.2.2.2.2.2.1.length:Nat):Int)>0)
   ·rw[b]at a;cases a
   ·rw[b]at a;rw[anl.1 a];exact⟨by show 0<4;decide,by show 16<31;decide⟩
  ·cases b:decide (((v.2.2.2.2.2.2.2.length:Nat):Int)>0)
   ·rw[b]at a;cases a
   ·rw[b]at a;rw[anl.1 a];exact⟨by show 2<4;decide,by show 0<31;decide⟩
 intro t a;have f:=gh _ t a;rw[NM]at f;have g:=cZ t;exact⟨(e t a).1,(e t a).2,omq⟩
set_option maxHeartbeats 2000000 in
def akR(A:FN NN)(v:iN)(hB:LB v)(h:iF NN v=true)(a:Bs)(hE:clE v=a)(ha:a.length<190000):bR NN a=some (v,0,0):=by
 have j9:(clB v).length<a.length:=by rw[<-hE];exact dq
 obtain⟨l,hp,f⟩:=lq A (c:=0) (num:=16) omq omq a (CQ v) (by rw[NM];exact hE.symm) (agX v omq) omq 0 16 rfl rfl;have hv:=AX A v hB;rw[h]at hv;unfold iF at h;simp only[amk]at h;obtain⟨k1,k2,_,k4,k5,S,k7,k8,_⟩:=h;obtain⟨T,N,h3,h4,h5,h6⟩:=hB;obtain⟨j,⟨s,p⟩,n,⟨C,D,E,F,G,H⟩,b,⟨u,u2,u3,u4,u5,w⟩,o,x⟩:=v;dsimp only at k1 k2 k4 k5 S k7 k8 T N h3 h4 h5 h6;have M:j=0∨j=1:=by
  simp only[bne,anH,Bool.and_eq_false_iff,Bool.not_eq_false',anR]at k1;exact k1
 have K:∀t∈CQ (j,(s,p),n,(C,D,E,F,G,H),b,(u,u2,u3,u4,u5,w),o,x),(aj t).length<190000:=λt Q=>by
  have:=gh _ t Q;rw[NM]at this;omega
 have j6:=abZ A (s,p) k2 (aj (KA (s,p))) rfl (by have:=K (KA (s,p)) (by unfold CQ;simp);omega);have W:=agp A n k4 (aj (Lo n)) rfl (by have:=K (Lo n) (by unfold CQ;simp);omega);have Y:=QM A (C,D,E,F,G,H) k5 (aj (ia (C,D,E,F,G,H))) rfl;have j8:=akQ A;suffices OW (bR NN a) λr=>r=((j,(s,p),n,(C,D,E,F,G,H),b,(u,u2,u3,u4,u5,w),o,x),0,0) by
  obtain⟨r,U,rfl⟩:=this;exact U
 have I:cH (EL a) (VI j++(KA (s,p)::Lo n::ia (C,D,E,F,G,H)::(AY b (u,u2,u3,u4,u5,w)++(og o++mO x)))) l:=f;clear f;unfold bR ey syv;refine eK (bF hp (bx ?_));dsimp only;refine ag (R:=λr=>r=(decide (j>0),a,l,0,0)) ?_ ?_
 ·refine tp ?_;rcases M with rfl|rfl
  ·cases I with
   |cons z f=>
    refine lU (bF (ZC A _ _ _ _ _) ?_);rw[show isB _ false 2=false from Pp z false 2 (λh=>by cases h.2.1)];exact aa rfl
  ·cases I with
   |cons z f=>
    refine lU (bF (ZC A _ _ _ _ _) ?_);rw[show isB _ false 2=true from Lw z false 2 rfl rfl rfl];exact aa rfl
 rintro _ rfl;dsimp only;refine ag (R:=λr=>∃d,r=(a,d,0,0,j)/\cH (EL a) (KA (s,p)::Lo n::ia (C,D,E,F,G,H)::(AY b (u,u2,u3,u4,u5,w)++(og o++mO x))) d) ?_ ?_
 ·rcases M with rfl|rfl
  ·exact aa ⟨l,rfl,I⟩
  ·cases I with
   |cons z f=>
    refine aq (λ_=> ?_) (λh=>by cases h)
    (have zz:∀(P:Prop)(h:P:=by exact aa ⟨_,rfl,f⟩),P:= @id;exact jv)
 clear I hp;rintro _ ⟨d,rfl,f⟩;dsimp only;refine ag (R:=λr=>∃d,r=(a,d,0,0,j,s,p)/\cH (EL a) (Lo n::ia (C,D,E,F,G,H)::(AY b (u,u2,u3,u4,u5,w)++(og o++mO x))) d) ?_ ?_
 ·cases f with
  |cons z f=>(have zz:∀(P:Prop)(h:P:=by exact aa ⟨_,rfl,f⟩),P:= @id;exact jv)
 clear f;rintro _ ⟨d,rfl,f⟩;dsimp only;refine ag (R:=λr=>∃d,r=(n,a,d,0,0,j,s,p)/\cH (EL a) (ia (C,D,E,F,G,H)::(AY b (u,u2,u3,u4,u5,w)++(og o++mO x))) d) ?_ ?_
 ·cases f with
  |cons z f=>(have zz:∀(P:Prop)(h:P:=by exact aa ⟨_,rfl,f⟩),P:= @id;exact jv)
 clear f;rintro _ ⟨d,rfl,f⟩;dsimp only;refine ag (R:=λr=>∃d,r=(a,d,0,0,j,s,p,n,C,D,E,F,G,H)/\cH (EL a) (AY b (u,u2,u3,u4,u5,w)++(og o++mO x)) d) ?_ ?_
 ·cases f with
  |cons z f=>(have zz:∀(P:Prop)(h:P:=by exact aa ⟨_,rfl,f⟩),P:= @id;exact jv)
 clear f;rintro _ ⟨d,rfl,f⟩;dsimp only;have O:∀(k:Bool)(m:Nat),(k=false/\(m=23∨m=24))->b=false->∀y r,d=y::r->isB y k (m:Int)=false:=by
  rintro _ m ⟨rfl,L⟩ rfl y r rfl;have B:cH (EL a) (og o++mO x) (y::r):=f;unfold og mO at B;cases T:decide (((o.length:Nat):Int)>0)
  ·rw[T]at B;cases N:decide (((x.length:Nat):Int)>0)
   ·rw[N]at B;cases B
   ·rw[N]at B;cases B with
    |cons g _=>exact Pp g false m λh=>by cases h.1
  ·rw[T]at B;cases B with
   |cons g _=>exact Pp g false m λh=>by cases h.2.1
 refine ag (R:=λr=>r=(b,a,d,0,0,j,s,p,n,C,D,E,F,G,H)) ?_ ?_
 ·refine tp ?_;cases q:b
  ·cases U:d with
   |nil=>exact nC (aa rfl)
   |cons y r=>
    obtain⟨i,hi,J⟩:=ZD A a y r 0 0 j s p n C D E F G H;rw[show isB y false 23=false from O false 23 ⟨rfl,.inl rfl⟩ q y r U,show isB y false 24=false from O false 24 ⟨rfl,.inr rfl⟩ q y r U]at J;exact lU (bF J (aa rfl))
  ·rw[q]at f;cases f with
   | @cons t y tr r z f=>
     obtain⟨i,hi,J⟩:=ZD A a y r 0 0 j s p n C D E F G H;have hc:(isB y false 23||isB y false 24)=true:=by
      have:(ia (u,u2,u3,u4,u5,w))=(0,false,24,adW (u,u2,u3,u4,u5,w))∨(ia (u,u2,u3,u4,u5,w))=(0,false,23,adX (u,u2,u3,u4,u5,w)):=by
       unfold ia;cases decide ((u,u2,u3,u4,u5,w).1>2049)
       ·exact .inr rfl
       ·exact .inl rfl
      rcases this with h|h
      ·rw[show isB y false 24=true from Lw z false 24 (by rw[h]) (by rw[h]) (by rw[h]),Bool.or_true]
      ·rw[show isB y false 23=true from Lw z false 23 (by rw[h]) (by rw[h]) (by rw[h]),Bool.true_or]
     rw[hc]at J;refine lU (bF J (aa ?_));rw[amq hi]
 rintro _ rfl;dsimp only;refine ag (R:=λr=>∃d,r=(a,d,0,0,j,s,p,n,C,D,E,F,G,H,b,u,u2,u3,u4,u5,w)/\cH (EL a) (og o++mO x) d) ?_ ?_
 ·cases q:b
  ·rw[q]at f S;have hz:Po (u,u2,u3,u4,u5,w)=true:=S;unfold Po at hz;simp only[amk,anR]at hz;obtain⟨rfl,rfl,rfl,rfl,rfl,rfl⟩:=hz;exact k_f (aa ⟨_,rfl,f⟩)
  ·rw[q]at f S;have j5:fB (u,u2,u3,u4,u5,w)=true:=S;have X:=QM A (u,u2,u3,u4,u5,w) j5 (aj (ia (u,u2,u3,u4,u5,w))) rfl;cases f with
   |cons z f=>
    (have zz:∀(P:Prop)(h:P:=by exact aa ⟨_,rfl,f⟩),P:= @id;exact jv)
 clear O f;rintro _ ⟨d,rfl,f⟩;dsimp only;refine ag (R:=λr=>r=(decide (((o.length:Nat):Int)>0),a,d,0,0,j,s,p,n,C,D,E,F,G,H,b,u,u2,u3,u4,u5,w)) ?_ ?_
 ·refine tp ?_;unfold og mO at f;cases q:decide (((o.length:Nat):Int)>0)
  ·rw[q]at f;cases N:decide (((x.length:Nat):Int)>0)
   ·rw[N]at f;cases f;exact nC (aa rfl)
   ·rw[N]at f;cases f with
    |cons z f=>
     refine lU (bF (ZE A _ _ _ _ _ _ _ _ _ _ _ _ _ _ _ _ _ _ _ _ _ _) ?_);rw[show isB _ true 16=false from Pp z true 16 (λh=>by cases h.1)];exact aa rfl
  ·rw[q]at f;cases f with
   |cons z f=>
    refine lU (bF (ZE A _ _ _ _ _ _ _ _ _ _ _ _ _ _ _ _ _ _ _ _ _ _) ?_);rw[show isB _ true 16=true from Lw z true 16 rfl rfl rfl];exact aa rfl
 rintro _ rfl;dsimp only;refine ag (R:=λr=>∃d,r=(a,d,0,0,j,s,p,n,C,D,E,F,G,H,b,u,u2,u3,u4,u5,w,o)/\cH (EL a) (mO x) d) ?_ ?_
 ·have L:∀t∈og o,(aj t).length<190000:=λt Q=>K t (by unfold CQ;simp[Q]);unfold og at f L;cases q:decide (((o.length:Nat):Int)>0)
  ·rw[q]at f;have:o=[]:=List.length_eq_zero_iff.1 (by have:=aod q;omega);subst this;exact k_f (aa ⟨_,rfl,f⟩)
  ·rw[q]at f L;have j3:o≠[]:=λh=>by rw[h]at q;simp at q
   have V:=agP A o (amM.2 λe he=>Xx A (h5 e he) (NI o [] k7 e he)) j3 (aj (0,true,16,oe o)) rfl (L _ siq);cases f with
   |cons z f=>
    (have zz:∀(P:Prop)(h:P:=by exact aa ⟨_,rfl,f⟩),P:= @id;exact jv)
 clear f;rintro _ ⟨d,rfl,f⟩;dsimp only;refine ag (R:=λr=>r=(a,[],0,0,j,s,p,n,C,D,E,F,G,H,b,u,u2,u3,u4,u5,w,o,x)) ?_ ?_
 ·have L:∀t∈mO x,(aj t).length<190000:=λt Q=>K t (by unfold CQ;simp[Q]);unfold mO at f L;cases q:decide (((x.length:Nat):Int)>0)
  ·rw[q]at f;have:x=[]:=List.length_eq_zero_iff.1 (by have:=aod q;omega);subst this;cases f;exact nC (aa rfl)
  ·rw[q]at f L;have j4:dU x=true:=by
    rcases VC A h6 k8 with Z|Z
    ·rw[Z]at q;simp at q
    ·exact Z
   have j7:=aji A x j4 (by have:=L (2,true,0,dS x) (by simp);have:=cZ (2,true,0,dS x);dsimp only at this;omega);cases f with
   |cons z f=>
    cases f
    (have zz:∀(P:Prop)(h:P:=by exact aa rfl),P:= @id;exact jv)
 clear f;rintro _ rfl;dsimp only;refine bF hv ?_
 (have zz:∀(P:Prop)(h:P:=by exact aa rfl),P:= @id;exact jv)
end Go.Fw
namespace Go.Fw
open Go
abbrev Crl:=iN×(Bs×Bs)×Bs×Int
noncomputable def ws(x:qC):Bool:=(eZ x).getD false
def KB(x:qC)(a:x.1.length<1000000000):eZ x=some (ws x):=by
 obtain⟨c,h,_⟩:=xH x omq;unfold ws;rw[h];rfl
noncomputable def kS(N:Nat)(v:Crl):Bool:=(v.2.1.1==v.1.2.1.1&&v.2.1.2==v.1.2.1.2)&&(ws v.2.2&&iF N v.1)
noncomputable def gQ(v:Crl):Bs:=clE v.1++(ig v.2.1++aj (0,false,3,fq v.2.2))
noncomputable def bQ(v:Crl):Bs:=aj (0,true,16,gQ v)
def CB(v:Crl):Prop:=LB v.1/\v.2.1.1.length<10000000/\v.2.1.2.length<10000000/\v.2.2.1.length<10000000
def DX(b:FN NN)(v:Crl)(h:CB v):gS NN v=some (kS NN v):=by
 obtain⟨a,c,d,e⟩:=h;unfold gS my si kS syv;rw[KB _ omq,AX b _ a];simp only[amj];cases (v.2.1.1==v.1.2.1.1)<;>cases (v.2.1.2==v.1.2.1.2)<;>cases ws v.2.2<;>rfl
def QX{N:Nat}{v:Crl}(h:kS N v=true):v.2.1=v.1.2.1/\ws v.2.2=true/\iF N v.1=true:=by
 unfold kS at h;simp only[amk,anR]at h;exact⟨Prod.ext h.1.1 h.1.2,h.2.1,h.2.2⟩
def H2{N:Nat}{v:iN}(h:iF N v=true):lV N v.2.1=true:=by
 unfold iF at h;simp only[amk]at h;exact h.2.1
def akU(a:FN NN)(v:Crl)(h:CB v)(e:(gQ v).length<100000000):fM NN v=some (bif kS NN v then(bQ v,0) else([],8)):=by
 have f:=DX a v h;cases c:kS NN v
 ·unfold fM syv;rw[f,c];rfl
 ·obtain⟨g,q,i⟩:=QX c;obtain⟨j,k,l,s⟩:=h;have n:(clB v.1).length<100000000:=by
   unfold gQ at e;rw[amo]at e;have:(clB v.1).length<(clE v.1).length:=dq;omega
  have d:=abF a v.1 j n;rw[i]at d;have b:=ZM a v.2.1 k l;rw[g,H2 i,<-g]at b;have m:=Uk NN (by unfold FN at a;omega) (by unfold FN at a;omega) v.2.2 omq (by rw[KB _ omq,q]);have p:(fq v.2.2).length<2000000000:=by unfold fq;simp only[amr];omega
  simp only[amw]at d b;suffices OW (fM NN v) λr=>r=(bQ v,0) by
   obtain⟨r,o,rfl⟩:=this;exact o
  unfold fM syv;rw[f,c];refine bx (gF (k_t (bF d ?_)));dsimp only;refine qp omq siq (bF b ?_);dsimp only;refine qp omq siq (bF m (bF (qo a 0 3 false (fq v.2.2) 0 3 rfl rfl omq omq p) ?_));dsimp only;refine qp omq siq ?_;simp only[jO];refine k_z (bF (DS a _ (gQ v) ?_ siq omq) (aa rfl));unfold gQ;simp
def ajn(n:FN NN)(a:Bs)(p:a.length<10000000):OW (aI NN a 3) λr=>(r.2=(0,0)/\ws r.1=true/\r.1.1.length<a.length/\a=aj (0,false,3,fq r.1))∨(r.2.1≠0/\0<=r.2.2/\r.2.2<=(a.length:Int)):=by
 unfold aI syv;refine ag (wj n a p) ?_;rintro⟨v,e,o⟩ (⟨q,t,f,b,c⟩|⟨f,b,c⟩)
 ·cases q;dsimp only;rw[show((0:Int) !=0)=false from rfl,amp];have j:t.2.2.2.length<a.length:=by rw[b];exact cZ t
  rcases EL.cs c 0 3 false 0 3 rfl rfl with⟨d,g⟩|⟨d,g⟩
  ·rw[d,amj,am3,amp,c.body,amj];obtain⟨x,e,k,l⟩:=Ul t.2.2.2 omq;rw[k,amj];by_cases i:e=0
   ·subst i;obtain⟨h,m⟩:=l rfl;have s:t.2.2.2.length=x.1.length+1:=by rw[h];rfl
    refine aa (.inl ⟨rfl,?_,by show x.1.length<_;omega,?_⟩)
    ·have:=KB x omq;rw[m]at this;exact(anm this).symm
    ·rw[b,g,h]
   ·exact aa (.inr ⟨i,by show(0:Int)<=0;omega,by show(0:Int)<=_;omega⟩)
  ·rw[d,amj];exact aa (.inr ⟨by decide,by show(0:Int)<=0;omega,by show(0:Int)<=_;omega⟩)
 ·dsimp only;rw[mq f];exact aa (.inr ⟨f,b,c⟩)
def ajo(c:FN NN)(x:qC)(h:ws x=true)(d:x.1.length<9000000):aI NN (aj (0,false,3,fq x)) 3=some (x,0,0):=by
 have f:(fq x).length<=9000000:=by unfold fq;simp only[amr];omega
 obtain⟨e,b,a⟩:=Lm c (0,false,3,fq x) ⟨omq,by show 3<31;omega,by show(fq x).length<=_;omega⟩;unfold aI syv;rw[b,amj];dsimp only;rw[show((0:Int) !=0)=false from rfl,amp,a.yes 0 3 false 0 3 rfl rfl rfl rfl rfl,amj,am3,amp,a.body,amj,acQ x omq (by rw[KB _ omq,h])];rfl
def ajp{g:Type}{Q:g->Prop}(k:FN NN){a:Bs}{f:qC×Int×Int->Option g}(p:a.length<9000000)(l:∀b n e o,e≠0->0<=o->o<=(a.length:Int)->OW (f ((b,n),e,o)) Q)(m:∀b n,ws (b,n)=true->b.length<9000000->aj (0,false,3,fq (b,n))=a->OW (f ((b,n),0,0)) Q):OW ((aI NN a 3).bind f) Q:=by
 refine ag (ajn k a omq) ?_;rintro⟨⟨b,n⟩,e,o⟩ (⟨h,i,c,d⟩|⟨c,d,j⟩)
 ·cases h;exact m b n i (by dsimp only at c;omega) d.symm
 ·exact l b n e o c d j
end Go.Fw
namespace Go.Fw
open Go
noncomputable def clT(v:iN):TLV:=(0,true,16,clB v)
def VK(x:qC):TLV:=(0,false,3,fq x)
noncomputable def yj(v:Crl):List TLV:=[clT v.1,KA v.2.1,VK v.2.2]
def KD(v:Crl):ax (yj v)=gQ v:=by
 unfold yj gQ;rw[eG,eG,eG];simp only[ax,anG,List.flatten_nil,amG];rfl
def aem(v:Crl)(h:(gQ v).length<10000000):∀t∈yj v,okT t:=by
 intro t b;have c:=gh _ t b;rw[KD]at c;have d:=cZ t;have a:t.1<4/\t.2.2.1<31:=by
  unfold yj at b;simp only[amN,apl,or_false]at b;rcases b with rfl|rfl|rfl
  ·exact⟨by show 0<4;decide,by show 16<31;decide⟩
  ·exact⟨by show 0<4;decide,by show 16<31;decide⟩
  ·exact⟨by show 0<4;decide,by show 3<31;decide⟩
 exact⟨a.1,a.2,omq⟩
set_option maxHeartbeats 4000000 in
def Pr(g:FN NN)(v:Crl)(J:CB v)(h:kS NN v=true)(a:Bs)(C:bQ v=a)(X:a.length<190000):cu NN a=some (v,0,0):=by
 have K:(gQ v).length<a.length:=by rw[<-C];exact dq
 obtain⟨l,L,d⟩:=lq g (c:=0) (num:=16) omq omq a (yj v) (by rw[KD];exact C.symm) (aem v omq) omq 0 16 rfl rfl;obtain⟨m,O,D⟩:=QX h;have e:∀t∈yj v,(aj t).length<190000:=λt N=>by
  have:=gh _ t N;rw[KD]at this;omega
 have I:=akR g v.1 J.1 D (aj (clT v.1)) rfl (e _ (by unfold yj;simp));have G:=abZ g v.2.1 (by rw[m];exact H2 D) (aj (KA v.2.1)) rfl (by have:=e (KA v.2.1) (by unfold yj;simp);omega);have H:aI NN (aj (VK v.2.2)) 3=some (v.2.2,0,0):=ajo g v.2.2 O (by
  have U:=e (VK v.2.2) (by unfold yj;simp);have V:=cZ (VK v.2.2);have W:(VK v.2.2).2.2.2.length=v.2.2.1.length+1:=rfl;omega)
 suffices OW (cu NN a) λr=>r=(v,0,0) by
  obtain⟨r,M,rfl⟩:=this;exact M
 unfold cu eB my si syv;refine eK (bF L (bx ?_));obtain⟨⟨f,⟨s,p⟩,n,⟨o,q,u,w,y,z⟩,b,⟨A,u2,u3,u4,u5,B⟩,i,x⟩,⟨Y,p2⟩,E,F⟩:=v;dsimp only at m;cases m;unfold yj at d;dsimp only at d I G H;have k:(s==s)=true:=by simp
 have j:(p==p)=true:=by simp
 cases d with
 |cons Q d=>cases d with
  |cons S d=>cases d with
   |cons T d=>
    cases d;dsimp only;refine ag (R:=λr=>r=(a,_,0,0,f,s,p,n,o,q,u,w,y,z,b,A,u2,u3,u4,u5,B,i,x)) (by(have zz:∀(P:Prop)(h:P:=by exact aa rfl),P:= @id;exact jv)) ?_;rintro _ rfl;dsimp only;refine ag (R:=λr=>r=(a,_,0,0,f,s,p,n,o,q,u,w,y,z,b,A,u2,u3,u4,u5,B,i,x,s,p)) (by(have zz:∀(P:Prop)(h:P:=by exact aa rfl),P:= @id;exact jv)) ?_;rintro _ rfl;dsimp only;refine bx ?_;refine ag (R:=λr=>r=(a,_,0,0,f,s,p,n,o,q,u,w,y,z,b,A,u2,u3,u4,u5,B,i,x,s,p,E,F)) (by(have zz:∀(P:Prop)(h:P:=by exact aa rfl),P:= @id;exact jv)) ?_;rintro _ rfl;dsimp only;rw[k,j]
    (have zz:∀(P:Prop)(h:P:=by exact aa rfl),P:= @id;exact jv)
def RPS(N:Nat)(a:Bs)(r:Crl×Int×Int):Prop:=(r.2=(0,0)/\kS N r.1=true/\bQ r.1=a/\CB r.1)∨(r.1=(zCL,([],[]),[],0)/\r.2.1≠0/\0<=r.2.2/\r.2.2<=(a.length:Int))
end Go.Fw
namespace Go.Fw
open Go
def afg:jZ [49,46,50,46,51] [1,2,3]:=⟨by decide,by decide,krq⟩
def abN:jZ [50,46,53,46,52,46,51] [2,5,4,3]:=⟨by decide,by decide,krq⟩
def al6:fQ [49,46,50,46,51]=[42,3]:=by rw[Bf afg];kernel_rfl
def akV:fQ [50,46,53,46,52,46,51]=[85,4,3]:=by rw[Bf abN];kernel_rfl
def akW(n:Nat):opn (n+300) [12,2,65,98]=true:=krq
def ag2(n:Nat):Ky (n+300) []=true:=krq
abbrev Ev:Crl:=((0,([49,46,50,46,51],[]),[[([50,46,53,46,52,46,51],[12,2,65,98])]],(2000,1,1,0,0,0),false,(0,0,0,0,0,0),[],[]),([49,46,50,46,51],[]),[],0)
def ajr(n:Nat):kS (n+300) Ev=true:=by
 unfold kS iF lV nB;dsimp only;simp only[anJ,aqj];unfold kR gZ;simp only[anJ,aqj,lT.2 ⟨_,afg⟩,lT.2 ⟨_,abN⟩,akW,ag2];kernel_rfl
def akX:(bQ Ev).length=49/\(bQ Ev).take 10=[48,47,48,36,48,4,6,2,42,3]:=by
 unfold bQ gQ clE clB ig ju gP;simp only[amz,anG];unfold cJ bZ;dsimp only;rw[al6,akV];exact⟨krq,krq⟩
def VL:CB Ev:=⟨⟨by decide,by decide,by decide,by decide,(λ_ h=>by cases h),XB.nil⟩,by decide,by decide,by decide⟩
def ag3(b:FN NN):iS NN=some true:=by
 have d:=b;unfold FN at d;obtain⟨n,o⟩:∃n,NN=n+300:=⟨NN-300,omq⟩;obtain⟨c,m⟩:=akX;have a:=ajr n;rw[<-o]at a;have q:(gQ Ev).length<49:=by rw[<-c];exact dq
 have h:=akU b Ev VL omq;rw[a]at h;have p:=Pr b Ev VL a (bQ Ev) rfl omq;have k:=DX b Ev VL;rw[a]at k;unfold iS fH syv;rw[h];refine(?_:_=_);simp only[amw,amj];rw[p,k];simp only[amj];rw[c];obtain⟨s,e,f⟩:=HH (l:=bQ Ev) (i:=0) (j:=10) omq omq (by rw[c];decide);rw[e];have g:s=[48,47,48,36,48,4,6,2,42,3]:=by rw[f];exact m
 rw[g];rfl
end Go.Fw
namespace Go.Fw
open Go
def FV(n:Nat):1<=(Lib.decDigits n).length:=by
 have:=aoI.2 (abl n);omega
def RT{n:Nat}(h:n<10):(Lib.decDigits n).length=1:=by
 rw[Lib.decDigits,dif_pos h];rfl
def FW{n:Nat}(h:10<=n):(Lib.decDigits n).length=(Lib.decDigits (n / 10)).length+1:=by
 rw[Lib.decDigits,dif_neg omq,amo];rfl
def NO:∀(b a:Nat),a<=b->(Lib.decDigits a).length<=(Lib.decDigits b).length:=by
 intro b;induction b using Nat.strongRecOn with
 |ind b d=>
  intro a h;by_cases c:a<10
  ·rw[RT c];exact FV b
  ·rw[FW omq,FW (by omega:10<=b)];have:=d (b / 10) omq (a / 10) omq;omega
def abO:∀(f n m:Nat),n*128<=m->(b7 f n).length+1<=(Lib.decDigits m).length
 |0,n,m,_=>by simpa[b7] using FV m
 |f+1,n,m,h=>by
  unfold b7;split
  ·simpa using FV m
  ·rename_i b;have c:=abO f (n / 128) n omq;have a:n<=m / 10:=omq;have d:=NO (m / 10) n a;rw[FW (by omega:10<=m),amr];omega
def VM(n:Nat):(dd n).length<=(Lib.decDigits n).length:=by
 unfold dd hi7;rw[amo,List.length_reverse];exact abO 5 (n / 128) n omq
def aen(a b:Nat)(f:a<=2):(dd (40*a+b)).length<=(Lib.decDigits b).length+1:=by
 have d:=VM (40*a+b);by_cases g:b<10
 ·have c:=NO 99 (40*a+b) omq;have e:(Lib.decDigits 99).length=2:=by rw[FW omq,RT omq]
  have:=FV b;omega
 ·have c:=NO (10*b+9) (40*a+b) omq;rw[FW (by omega:10<=10*b+9),show(10*b+9) / 10=b from omq]at c;omega
def VN:∀(r:List Nat)(x:Nat),((Lib.decDigits x).length:Nat)+((r.map dd).flatten).length<=(Lib.join ((x::r).map Lib.decDigits) [46]).length
 |[],x=>by simp[Lib.join]
 |y::r,x=>by
  have a:=VN r y;have b:=VM y;show _<=(Lib.join (Lib.decDigits x::Lib.decDigits y::r.map Lib.decDigits) [46]).length;rw[qJ,amo,amr];simp only[amz,List.flatten_cons,amo]at a⊢;omega
def abP{a b:Nat}{r:List Nat}(h:wn (a::b::r)=true):a<=2:=by
 unfold wn at h;simp only[amX]at h;exact h.1
def ag4(s:Bs):(fQ s).length<=s.length:=by
 unfold fQ;split
 ·rename_i h;obtain⟨c,e,d⟩:=anz (un.1 h);generalize Classical.choose (un.1 h)=L at c e d
  match L,c with
  |a::b::r,c=>
   have f:=aen a b (abP c);have g:=VN r b;have i:=FV a;rw[d,amz,amz,qJ,amo,amr,<-amz];show(dd (40*a+b)++(r.map dd).flatten).length<=_;rw[amo];omega
 ·simp
end Go.Fw
namespace Go.Fw
open Go
def Ps{α:Type}(f g:α->Nat):∀(l:List α),(∀x∈l,f x<=g x)->(l.map f).sum<=(l.map g).sum
 |[],_=>by simp
 |a::r,h=>by
  have c:=h a siq;have d:=Ps f g r λx b=>h x (by simp[b]);simp only[amz,anK];omega
def CR{α:Type}(f:α->Bs):∀(l:List α),((l.map f).flatten).length=(l.map λx=>(f x).length).sum
 |[]=>rfl
 |a::r=>by
  have:=CR f r;simp only[amz,List.flatten_cons,amo,anK];omega
def DY{α:Type}(f:α->Nat)(B:Nat):∀(l:List α),(∀x∈l,f x<=B)->(l.map f).sum<=l.length*B
 |[],_=>by simp
 |a::r,h=>by
  have c:=h a siq;have d:=DY f B r λx b=>h x (by simp[b]);simp only[amz,anK,amr,aoK];omega
def QY(s:Bs)(h:s.length<100000000):(aj (bZ s)).length<=s.length+6:=by
 have a:=ag4 s;have d:(aj (bZ s)).length<=(fQ s).length+6:=dr (c:=0) (k:=false) (num:=6) (b:=fQ s) omq;omega
def ag5(v:Bs×Bs)(h:wA v<100000000):(cJ v).length<=wA v:=by
 unfold wA at h⊢;have d:=QY v.1 omq;have a:=dr (c:=0) (k:=true) (num:=16) (b:=aj (bZ v.1)++v.2) (by rw[amo];omega);rw[amo]at a;show(tlv 0 true 16 (aj (bZ v.1)++v.2)).length<=_;omega
def ajs(r:Rdn)(h:wR r<100000000):(gP r).length<=wR r:=by
 unfold wR at h⊢;have d:((r.map cJ).flatten).length<=(r.map wA).sum:=by
  rw[CR];exact Ps _ _ r λx a=>ag5 x (by have:=lm wA r x a;omega)
 have e:=dr (c:=0) (k:=true) (num:=17) (b:=(r.map cJ).flatten) omq;show(tlv 0 true 17 ((r.map cJ).flatten)).length<=_;omega
def ag6(n:List Rdn)(h:wN n<100000000):(ju n).length<=wN n:=by
 unfold wN at h⊢;have d:((n.map gP).flatten).length<=(n.map wR).sum:=by
  rw[CR];exact Ps _ _ n λx a=>ajs x (by have:=lm wR n x a;omega)
 have e:=dr (c:=0) (k:=true) (num:=16) (b:=(n.map gP).flatten) omq;show(tlv 0 true 16 ((n.map gP).flatten)).length<=_;omega
def ajt(v:bE)(h:wE v<100000000):(fF v).length<=wE v:=by
 unfold wE at h⊢;have a:=QY v.1 omq;have d:(aj (iV v.2.2)).length<=v.2.2.length+6:=dr (c:=0) (k:=false) (num:=4) (b:=v.2.2) omq;have e:(ax (gE v)).length<=(aj (bZ v.1)).length+3+(aj (iV v.2.2)).length:=by
  have f:(aj wk).length=3:=krq;unfold gE;cases v.2.1
  ·simp[ax]
  ·simp[ax];omega
 have g:(fF v).length<=(ax (gE v)).length+6:=dr (c:=0) (k:=true) (num:=16) (b:=ax (gE v)) omq;omega
def XA(l:List bE)(h:wL l<100000000):(dS l).length<=wL l:=by
 unfold wL at h⊢;have d:((l.map fF).flatten).length<=(l.map wE).sum:=by
  rw[CR];exact Ps _ _ l λx a=>ajt x (by have:=lm wE l x a;omega)
 have e:(dS l).length<=((l.map fF).flatten).length+6:=dr (c:=0) (k:=true) (num:=16) (b:=(l.map fF).flatten) omq;omega
def abQ(v:Bs×Bs)(h:v.1.length<100000000)(d:v.2.length<100000000):(ig v).length<=v.1.length+v.2.length+12:=by
 have e:=QY v.1 omq;have a:=dr (c:=0) (k:=true) (num:=16) (b:=aj (bZ v.1)++v.2) (by rw[amo];omega);rw[amo]at a;show(tlv 0 true 16 (aj (bZ v.1)++v.2)).length<=_;omega
def Pt(e:Ent):Prop:=e.1.length<=100/\wL e.2.2<=3500
def ZG(n:List Rdn):Prop:=n.length<=10/\∀r∈n,r.length<=8/\∀a∈r,a.1.length<=200/\a.2.length<=1000
def ZH(v:iN):Prop:=v.2.2.2.2.2.2.1.length<=6/\(∀e∈v.2.2.2.2.2.2.1,Pt e)/\v.2.1.1.length<=200/\v.2.1.2.length<=1000/\ZG v.2.2.1/\wL v.2.2.2.2.2.2.2<=3500
def aeo(v:Crl):Prop:=ZH v.1/\v.2.1.1.length<=200/\v.2.1.2.length<=1000/\v.2.2.1.length<=500
def abR{l:List bE}(h:wL l<=3500):XB l:=⟨omq,λv a=>by have:=Pk a;omega⟩
def XC{n:List Rdn}(h:ZG n):wN n<=97820:=by
 obtain⟨c,d⟩:=h;have e:∀r∈n,wR r<=9780:=by
  intro r i;obtain⟨b,f⟩:=d r i;have j:=DY wA 1220 r λa g=>by have:=f a g;unfold wA;omega
  unfold wR;have:r.length*1220<=8*1220:=ank _ b;omega
 have b:=DY wR 9780 n e;have:n.length*9780<=10*9780:=ank _ c;unfold wN;omega
def ag7{v:iN}(h:ZH v):LB v:=by
 obtain⟨f,a,g,i,b,c⟩:=h;have:=XC b;exact⟨omq,omq,omq,omq,λe d=>abR (a e d).2,abR c⟩
def aep{v:iN}(h:ZH v):(clE v).length<=130000:=by
 obtain⟨g,j,C,D,l,E⟩:=h;have F:=XC l;have p:=abQ v.2.1 omq omq;have q:=ag6 v.2.2.1 omq;have r:=DT v.2.2.2.1;have s:(wq v.2.2.2.2.1 v.2.2.2.2.2.1).length<=21:=by
  have:=DT v.2.2.2.2.2.1;unfold wq;cases v.2.2.2.2.1
  ·simp
  ·exact this
 have t:(rH v.1).length<=14:=by
  have m:=ND 1;have a:(aj (0,false,2,kH 1)).length<=(kH 1).length+6:=dr (c:=0) (k:=false) (num:=2) (b:=kH 1) omq;unfold rH;cases decide (v.1>0)
  ·simp
  ·simp only[amw];omega
 have u:(sH v.2.2.2.2.2.2.1).length<=21906:=by
  have m:=DY (λe=>(rF e).length) 3650 v.2.2.2.2.2.2.1 λe o=>by
   obtain⟨a,n⟩:=j e o;have d:=XA e.2.2 omq;have f:=DT e.2.1;have z:(aj (0,false,2,e.1)).length<=e.1.length+6:=dr (c:=0) (k:=false) (num:=2) (b:=e.1) omq;have A:(mr e).length<=e.1.length+6+21+3500:=by
    unfold mr;rw[amo,amo];cases e.2.2.isEmpty
    ·simp only[amp];omega
    ·simp only[amw,amI];omega
   have B:(rF e).length<=(mr e).length+6:=dr (c:=0) (k:=true) (num:=16) (b:=mr e) omq;show(rF e).length<=3650;omega
  have a:v.2.2.2.2.2.2.1.length*3650<=6*3650:=ank _ g;have n:(oe v.2.2.2.2.2.2.1).length<=21900:=by
   unfold oe;rw[CR];omega
  have i:(AW v.2.2.2.2.2.2.1).length<=(oe v.2.2.2.2.2.2.1).length+6:=dr (c:=0) (k:=true) (num:=16) omq;unfold sH;cases decide (((v.2.2.2.2.2.2.1.length:Nat):Int)>0)
  ·simp
  ·simp only[amw];omega
 have w:(yh v.2.2.2.2.2.2.2).length<=3506:=by
  have d:=XA v.2.2.2.2.2.2.2 omq;have f:(aj (2,true,0,dS v.2.2.2.2.2.2.2)).length<=(dS v.2.2.2.2.2.2.2).length+6:=dr (c:=2) (k:=true) (num:=0) (b:=dS v.2.2.2.2.2.2.2) omq;unfold yh;cases decide (((v.2.2.2.2.2.2.2.length:Nat):Int)>0)
  ·simp
  ·simp only[amw];omega
 have x:(clB v).length<=14+(1212+(97820+(21+(21+(21906+3506))))):=by
  unfold clB;simp only[amo];omega
 have y:(clE v).length<=(clB v).length+6:=dr (c:=0) (k:=true) (num:=16) (b:=clB v) omq;omega
def ag8{v:Crl}(h:aeo v):CB v:=by
 obtain⟨a,b,c,d⟩:=h;exact⟨ag7 a,omq,omq,omq⟩
def aeq{v:Crl}(h:aeo v):(bQ v).length<=140000:=by
 obtain⟨a,l,m,n⟩:=h;have d:=aep a;have e:=abQ v.2.1 omq omq;have f:(fq v.2.2).length=v.2.2.1.length+1:=rfl;have g:(aj (0,false,3,fq v.2.2)).length<=(fq v.2.2).length+6:=dr (c:=0) (k:=false) (num:=3) (b:=fq v.2.2) omq;have i:(gQ v).length<=130000+(1212+510):=by
  unfold gQ;simp only[amo];omega
 have j:(bQ v).length<=(gQ v).length+6:=dr (c:=0) (k:=true) (num:=16) (b:=gQ v) omq;omega
end Go.Fw
namespace Go.Fw
open Go
def okX(l:List bE):Prop:=∀x∈l,x.1.length<=140737488351232/\x.2.2.length<=140737488351232
def XD{a b:Nat}(h:a+b<4611686018427387904):az .i64 (a:Int) (b:Int)=((a+b:Nat):Int):=by
 rw[bX ⟨omq,omq⟩];omega
def XE(m:FN NN)(l:List bE)(p:okX l):OW (sZ NN l) λb=>b=true->wL l<=3500:=by
 have g:=m;unfold FN at g;unfold sZ syv;refine ag (R:=λr=>∃c:Nat,r=(l,(c:Int))/\(l.length<=20->c=(l.map λx=>x.1.length+x.2.2.length).sum)) ?_ ?_
 ·unfold wV syv;refine cV _ 20 (λi s=>i<=20/\∃c:Nat,s=(l,(c:Int),(i:Int))/\c=((l.take i).map λx=>x.1.length+x.2.2.length).sum/\c<=i*281474976702464) ?_ NN 0 _ omq omq ⟨omq,0,rfl,by simp,omq⟩;rintro G i _ v ⟨o,c,rfl,e,k⟩ rec;dsimp only;refine aN (λh=>aN (λj=> ?_) λj=> ?_) λh=> ?_
  ·have d:i<l.length:=omq;obtain⟨t,u⟩:=p _ (am8 d);refine bF (aM (aml d)) (bF (aM (aml d)) ?_);rw[XD omq,XD omq,bg omq];refine rec _ omq ⟨omq,_,rfl,?_,omq⟩;rw[ans,aml d,anu,aqn,<-e];simp;omega
  ·refine aa ⟨c,rfl,λf=> ?_⟩;rw[e,amR omq]
  ·refine aa ⟨c,rfl,λf=> ?_⟩;rw[e,amR omq]
 ·rintro _ ⟨c,rfl,e⟩;dsimp only;refine aN (λh=>aa λn=> ?_) λ_=>aa λh=>by cases h
  have k:=amZ n;have j:=e omq;have f:∀l:List bE,(l.map wE).sum=(l.map λx=>x.1.length+x.2.2.length).sum+40*l.length:=by
   intro l;induction l with
   |nil=>rfl
   |cons a r q=>simp only[amz,anK,amr,q];unfold wE;omega
  unfold wL;rw[f];omega
def al7(es:List Ent):Prop:=∀e∈es,okX e.2.2/\e.2.2.length<=140737488351232
def aer(c:FN NN)(e:Ent)(f:okX e.2.2):OW (ry NN e) λb=>b=true->Pt e:=by
 unfold ry syv;refine aN (λh=>ag (XE c e.2.2 f) λb d=>aa λa=>⟨omq,d a⟩) λ_=>aa λh=>by cases h
def ag9(x:Bs×Bs):OW (B8 x) λb=>b=true->x.1.length<=200/\x.2.length<=1000:=by
 unfold B8 syv;exact aN (λh=>aa λa=>⟨omq,by have:=amZ a;omega⟩) λ_=>aa λh=>by cases h
def XF(x:Bs×Bs):OW (B7 x) λb=>b=true->x.1.length<=200/\x.2.length<=1000:=by
 unfold B7 syv;exact aN (λh=>aa λa=>⟨omq,by have:=amZ a;omega⟩) λ_=>aa λh=>by cases h
def ZI(r:Rdn):Prop:=r.length<=8/\∀a∈r,a.1.length<=200/\a.2.length<=1000
def xV{α:Type}{P:α->Prop}{l:List α}{i:Nat}(h:∀j<i,∀x,l[j]?=some x->P x)(c:l.length<=i):∀x∈l,P x:=by
 intro x b;obtain⟨j,a,rfl⟩:=List.getElem_of_mem b;exact h j omq _ (aml a)
def KE{α:Type}{P:α->Prop}{l:List α}{i:Nat}(h:∀j<i,∀x,l[j]?=some x->P x){y:α}(d:l[i]?=some y)(k:P y):∀j<i+1,∀x,l[j]?=some x->P x:=by
 intro j c x a;rcases Nat.lt_succ_iff_lt_or_eq.1 c with b|rfl
 ·exact h j b x a
 ·rw[d]at a;cases a;exact k
def aes(l:FN NN)(r:Rdn)(v:∀a∈r,a.2.length<=140737488351232):OW (vu NN r) λb=>b=true->ZI r:=by
 have d:=l;unfold FN at d;unfold vu syv;refine ag (R:=λy=>y=.inl ()∨∃s:Int,y=.inr (r,s)/\(r.length<=10->∀a∈r,a.1.length<=200/\a.2.length<=1000)) ?_ ?_
 ·unfold yP syv;refine cV _ 10 (λi p=>i<=10/\∃s:Int,p=(r,s,(i:Int))/\∀j<i,∀x,r[j]?=some x->x.1.length<=200/\x.2.length<=1000) ?_ NN 0 _ omq omq ⟨omq,_,rfl,λj u=>omq⟩;rintro G i _ t ⟨o,s,rfl,c⟩ rec;dsimp only;refine aN (λh=>aN (λg=> ?_) λg=> ?_) λh=> ?_
  ·have f:i<r.length:=omq;have e:=aml f;refine bF (aM e) (ag (ag9 _) λb m=> ?_);refine aq (λ_=>aa (.inl rfl)) λn=>bF (aM e) ?_;exact rec _ omq ⟨omq,_,by rw[bg omq],KE c e (m (by simpa using n))⟩
  ·exact aa (.inr ⟨s,rfl,λk=>xV c omq⟩)
  ·exact aa (.inr ⟨s,rfl,λk=>xV c omq⟩)
 ·rintro _ (rfl|⟨s,rfl,h⟩)
  ·exact aa λh=>by cases h
  ·dsimp only;exact aN (λq=>aa λ_=>⟨omq,h omq⟩) λ_=>aa λh=>by cases h
def aha(q:FN NN)(n:List Rdn)(I:n.length<=140737488351232)(B:∀r∈n,r.length<=140737488351232/\∀a∈r,a.2.length<=140737488351232):OW (B9 NN n) λb=>b=true->ZG n:=by
 have l:=q;unfold FN at l;unfold B9 syv;refine ag (R:=λy=>y=.inl ()∨∃s:Int,y=.inr (n,s)/\(n.length<=20->∀r∈n,ZI r)) ?_ ?_
 ·unfold Dz syv;refine cV _ 20 (λi p=>i<=20/\∃s:Int,p=(n,s,(i:Int))/\∀j<i,∀x,n[j]?=some x->ZI x) ?_ NN 0 _ omq omq ⟨omq,_,rfl,λj F=>omq⟩;rintro G i _ E ⟨A,s,rfl,g⟩ rec;dsimp only;refine aN (λh=>aN (λt=> ?_) λt=> ?_) λh=> ?_
  ·have d:i<n.length:=omq;have f:=aml d;have o:=B _ (am8 d);refine bF (aM f) (ag (aes q _ o.2) λb w=> ?_);refine aq (λ_=>aa (.inl rfl)) λz=> ?_;have m:ZI n[i]:=w (by simpa using z);refine ag (R:=λy=>∃s:Int,y=(n,s,(i:Int))) ?_ ?_
   ·unfold Dx syv;refine cV _ n[i].length (λk p=>∃s:Int,p=(n,s,(i:Int),(k:Int))) ?_ NN 0 _ omq (by have:=m.1;omega) ⟨_,rfl⟩;rintro C k _ H ⟨s,rfl⟩ e;dsimp only;refine bF (aM f) (aN (λv=> ?_) λv=>aa ⟨_,rfl⟩);have c:k<n[i].length:=omq;refine bF (aM f) (bF (aM (aml c)) ?_);exact e _ c ⟨_,by rw[bg (by have:=m.1;omega)]⟩
   ·rintro _ ⟨s,rfl⟩;dsimp only;exact rec _ omq ⟨omq,_,by rw[bg omq],KE g f m⟩
  ·exact aa (.inr ⟨s,rfl,λu=>xV g omq⟩)
  ·exact aa (.inr ⟨s,rfl,λu=>xV g omq⟩)
 ·rintro _ (rfl|⟨s,rfl,h⟩)
  ·exact aa λh=>by cases h
  ·dsimp only;exact aN (λD=>aa λ_=>⟨omq,h omq⟩) λ_=>aa λh=>by cases h
def okN(n:List Rdn):Prop:=n.length<=140737488351232/\∀r∈n,r.length<=140737488351232/\∀a∈r,a.2.length<=140737488351232
def okL(v:iN):Prop:=okN v.2.2.1/\al7 v.2.2.2.2.2.2.1/\okX v.2.2.2.2.2.2.2
def abS(m:FN NN)(v:iN)(Z:okL v):OW (ta NN v) λb=>b=true->ZH v:=by
 have E:=m;unfold FN at E;obtain⟨J,N,O⟩:=Z;obtain⟨d,⟨s,p⟩,n,⟨r,t,u,w,z,A⟩,c,⟨B,u2,u3,u4,u5,C⟩,a,x⟩:=v;dsimp only at J N O;unfold ta syv;dsimp only;refine ag (R:=λy=>y=.inl ()∨∃q:Int,y=.inr (q,d,s,p,n,r,t,u,w,z,A,c,B,u2,u3,u4,u5,C,a,x)/\(a.length<=10->∀e∈a,Pt e)) ?_ ?_
 ·unfold wZ syv;refine cV _ 10 (λi K=>i<=10/\∃q:Int,K=(q,(i:Int),d,s,p,n,r,t,u,w,z,A,c,B,u2,u3,u4,u5,C,a,x)/\∀j<i,∀y,a[j]?=some y->Pt y) ?_ NN 0 _ omq omq ⟨omq,_,rfl,λj hj=>omq⟩;rintro G i _ hi ⟨Y,q,rfl,D⟩ rec;dsimp only;refine aN (λh=>aN (λS=> ?_) λS=> ?_) λh=> ?_
  ·have g:i<a.length:=omq;have o:=aml g;refine bF (aM o) (ag (aer m _ (N _ (am8 g)).1) λb V=> ?_);refine aq (λ_=>aa (.inl rfl)) λW=> ?_;have M:Pt a[i]:=V (by simpa using W);have hw:=Pd a[i].2.2;have X:=M.2;refine ag (R:=λy=>∃q:Int,y=(q,(i:Int),d,s,p,n,r,t,u,w,z,A,c,B,u2,u3,u4,u5,C,a,x)) ?_ ?_
   ·unfold wX syv;refine cV _ a[i].2.2.length (λk K=>∃q:Int,K=(q,(i:Int),(k:Int),d,s,p,n,r,t,u,w,z,A,c,B,u2,u3,u4,u5,C,a,x)) ?_ NN 0 _ omq omq ⟨_,rfl⟩;rintro G2 k _ hk ⟨q,rfl⟩ l;dsimp only;refine bF (aM o) (aN (λU=> ?_) λU=>aa ⟨_,rfl⟩);have f:k<a[i].2.2.length:=omq;refine bF (aM o) (bF (aM (aml f)) ?_);exact l _ f ⟨_,by rw[bg omq]⟩
   ·rintro _ ⟨q,rfl⟩;dsimp only;exact rec _ omq ⟨omq,_,by rw[bg omq],KE D o M⟩
  ·exact aa (.inr ⟨q,rfl,λT=>xV D omq⟩)
  ·exact aa (.inr ⟨q,rfl,λT=>xV D omq⟩)
 ·rintro _ (rfl|⟨q,rfl,h⟩)
  ·exact aa λh=>by cases h
  ·dsimp only;refine aN (λh2=>aN (λ_=> ?_) λ_=>aa λh=>by cases h) λ_=>aa λh=>by cases h
   refine ag (XF _) λb1 F=>aq (λc1=> ?_) λ_=>aa λh=>by cases h
   refine ag (aha m _ J.1 J.2) λb2 H=>aq (λP=> ?_) λ_=>aa λh=>by cases h
   refine ag (XE m _ O) λb3 I=>aa λQ=> ?_;have L:=F c1;exact⟨by dsimp only;omega,h omq,L.1,L.2,H P,I Q⟩
end Go.Fw
namespace Go.Fw
open Go
abbrev NnP{α:Type}(r:α×Int×Int):Prop:=0<=r.2.1
abbrev NN1{α:Type}(r:α×Int):Prop:=0<=r.2
abbrev NS{β:Type}(y:(Int×Int)⊕β):Prop:=∀e o,y=.inl (e,o)->0<=e
def sf{σ β:Type}{Q:β->Prop}(b:(σ->Option β)->σ->Option β)(I:σ->Prop)
 (step:∀(G:σ->Option β) s,I s->(∀a,I a->OP (G a) Q)->OP (b G s) Q):∀n s,I s->OP (Nat.rec (motive:=λ_=>σ->Option β) (λ_=>none) (λ_ G=>b G) n s) Q:=by
 intro n;induction n with
 |zero=>exact λs _=>FO
 |succ n d=>exact λs c=>step _ s c d
section
variable {β:Type}{Q:β→Prop}
def FY{α:Type}{x:α}{f:α->Option β}(h:OP (f x) Q):OP ((some x).bind f) Q:=h
def FZ{α γ:Type}{x:Option α}{g:α->Option γ}{f:γ->Option β}(h:OP (x.bind λa=>(g a).bind f) Q):OP ((x.bind g).bind f) Q:=by
 rw[Option.bind_assoc];exact h
def abV{α:Type}{c:Bool}{x y:Option α}{f:α->Option β}(a:OP (x.bind f) Q)(b:OP (y.bind f) Q):OP ((bif c then x else y).bind f) Q:=by
 cases c
 ·exact b
 ·exact a
def ZJ{γ:Type}{x:Option ((Int×Int)⊕γ)}{f:(Int×Int)⊕γ->Option β}(h:OP x NS)(b:∀e o,0<=e->OP (f (.inl (e,o))) Q)(c:∀a,OP (f (.inr a)) Q):OP (x.bind f) Q:=aB h λa k=>by
 cases a with
 |inl y=>exact b y.1 y.2 (k _ _ rfl)
 |inr y=>exact c y
def pn{α:Type}{x:Option (α×Int×Int)}{f:α×Int×Int->Option β}(h:OP x NnP)(k:∀v e o,0<=e->OP (f (v,e,o)) Q):OP (x.bind f) Q:=aB h λa b=>k a.1 a.2.1 a.2.2 b
def ajw{α:Type}{x:Option (α×Int)}{f:α×Int->Option β}(h:OP x NN1)(k:∀v e,0<=e->OP (f (v,e)) Q):OP (x.bind f) Q:=aB h λa b=>k a.1 a.2 b
def gH{α:Type}{x:Option α}{f:α->Option β}(k:∀v,OP (f v) Q):OP (x.bind f) Q:=aB (cU x) λa _=>k a
def ahc{α:Type}{x:Option α}{f:α->Option β}(h:OP (x.bind f) Q):OP (agree (List.replicate 2 x) f) Q:=by
 rw[show List.replicate 2 x=List.replicate (1+1) x from rfl,nI];exact h
def afh{γ:Type}{e o:Int}(h:0<=e):OP (some (Sum.inl (e,o)):Option ((Int×Int)⊕γ)) NS:=ay λ_ _ k=>by cases k;exact h
def afi{γ:Type}{x:γ}:OP (some (Sum.inr x):Option ((Int×Int)⊕γ)) NS:=ay λ_ _ k=>by cases k
end
def aet(x:Int):OP (dH x) λr=>0<=r.2.2.2:=by
 unfold dH syv;exact aF (λ_=>ay (by show(0:Int)<=_;dsimp only;omega)) λ_=>ay (by show(0:Int)<=0;decide)
class NC{α:Type}(x:Option (α×Int×Int)):Prop where
 h:OP x NnP
class NC1{α:Type}(x:Option (α×Int)):Prop where
 h:OP x NN1
def bW{P:Prop}(h:P:=by repeat ((try dsimp only);first|with_reducible exact FO|with_reducible exact afi|with_reducible exact ih _ trivial|with_reducible exact afh (by first|assumption|omega)|with_reducible exact ay (by show(0:Int)<=_;(try dsimp only);first|assumption|omega)|with_reducible refine aF (λ_=> ?_) (λ_=> ?_)|with_reducible refine FY ?_|with_reducible refine FZ ?_|with_reducible refine abV ?_ ?_|with_reducible refine ahc ?_|with_reducible refine pn NC.h (λ_ _ _ _=> ?_)|with_reducible refine ajw NC1.h (λ_ _ _=> ?_)|with_reducible refine gH (λ_=> ?_))):P:=h
def ajx(N:Nat)(a:Bs):OP (dK N a) λr=>0<=r.2.2.1:=by
 unfold dK lu syv;exact bW
def RU(N:Nat)(a:Bs):OP (cb N a) NnP:=by
 unfold cb syv;refine aF (λ_=>ay (by show(0:Int)<=_;dsimp only;omega)) λ_=>gH λb=> ?_;refine aB (aet _) λr d=>aF (λ_=>ay d) λ_=>gH λs=> ?_;exact aB (ajx N s) λq c=>aF (λ_=>ay c) λ_=>ay (by show(0:Int)<=0;decide)
def XG(N:Nat)(a:Bs)(i j:Int):OP (cA N a i j) NnP:=by
 unfold cA syv;refine aF (λ_=>gH λs=>pn (RU N s) λv e o b=> ?_) λ_=>FO;exact bW
def ajy(N:Nat)(a:Bs):OP (cm N a) NnP:=by
 unfold cm syv;refine pn (XG N a _ _) λv e o b=> ?_;exact bW
instance(N:Nat)(a:Bs):NC (cm N a):=⟨ajy N a⟩
def ahd(N:Nat)(a:Bs)(i j:Int):OP (bT N a i j) NnP:=by
 unfold bT syv;have c:∀s,OP (dX N N s) NS:=λs=>by
  unfold dX syv;refine sf _ (λ_=>True) ?_ N s trivial;rintro G ⟨a,i,j,k,l,m⟩ _ d;dsimp only;refine aF (λ_=>pn (XG N a _ _) λv e o b=> ?_) λ_=>afi;dsimp only;exact aF (λ_=>afh b) λ_=>gH λl=>d _ trivial
 refine aF (λ_=>ay (by show(0:Int)<=_;dsimp only;omega)) λ_=>aF (λ_=>ay (by show(0:Int)<=_;dsimp only;omega)) λ_=>aF (λ_=>ay (by show(0:Int)<=_;dsimp only;omega)) λ_=> ?_;exact ZJ (c _) (λe o b=>ay b) λa=>ay (by show(0:Int)<=_;dsimp only;omega)
instance(N:Nat)(a:Bs)(i j:Int):NC (bT N a i j):=⟨ahd N a i j⟩
def qq(N:Nat)(a:Bs)(c n:Int):OP (ba N a c n) NnP:=by
 unfold ba syv;exact bW
instance(N:Nat)(a:Bs)(c n:Int):NC (ba N a c n):=⟨qq N a c n⟩
def ahe(N:Nat)(a:Bs):OP (dj N a) NN1:=by
 have b:∀s,OP (bM N N s) λy=>∀t e,y=.inl (t,e)->0<=e:=λs=>by
  unfold bM syv;refine sf _ (λ_=>True) ?_ N s trivial;rintro G ⟨a,i,j,k,l,m⟩ _ g;dsimp only;have d:OP (some (Sum.inl (([]:Bs),(6:Int))):Option ((Bs×Int)⊕(Bool×List Int))) λy=>∀t e,y=.inl (t,e)->0<=e:=ay λ_ _ h=>by cases h;decide
  have f:∀x,OP (some (Sum.inr x):Option ((Bs×Int)⊕(Bool×List Int))) λy=>∀t e,y=.inl (t,e)->0<=e:=λx=>ay λ_ _ h=>by cases h
  repeat (first|with_reducible exact d|with_reducible exact f _|exact g _ trivial|with_reducible refine aF (λ_=> ?_) (λ_=> ?_)|with_reducible refine FY ?_|with_reducible refine FZ ?_|with_reducible refine abV ?_ ?_|with_reducible refine gH (λ_=> ?_))
 unfold dj syv;refine aB (b _) ?_;rintro(⟨s,e⟩|⟨c,l⟩) h
 ·exact ay (h s e rfl)
 ·exact bW
instance(N:Nat)(a:Bs):NC1 (dj N a):=⟨ahe N a⟩
end Go.Fw
namespace Go.Fw
open Go
def aeu(N:Nat):∀(n:Nat)(a:Bs)(i j k:Int),OP (cR N n a i j k) NnP:=by
 intro n;induction n with
 |zero=>exact λ_ _ _ _=>FO
 |succ n c=>
  intro a i j k;have d:∀R:Bs->Int->Int->Int->Option (Fw.Spot×(Int×Int)),(∀a i j k,OP (R a i j k) NnP)->∀m s,OP (ep N R m s) λy=>∀f g l p q e o,y=.inl (f,g,l,p,q,e,o)->0<=e:=by
   intro R u m s;unfold ep;refine sf _ (λ_=>True) ?_ m s trivial;rintro G ⟨K,w,x,z,A,B,C,r,L,D,E,M,O,F,H,I,J,t⟩ _ c;dsimp only;refine aF (λ_=>pn (u _ _ _ _) λv e o b=> ?_) λ_=>ay λ_ _ _ _ _ _ _ h=>by cases h
   dsimp only;refine aF (λ_=>ay λ_ _ _ _ _ _ _ h=>by cases h;exact b) λ_=> ?_;exact gH λ_=>gH λ_=>c _ trivial
  show OP (bif (k==0) then _ else _) NnP;unfold iI syv;refine aF (λ_=>ay (by show(0:Int)<=5;omega)) λ_=>aF (λ_=> ?_) λ_=>FO;refine gH λs=>pn (RU N s) λv e o b=> ?_;refine aF (λ_=>ay b) λ_=>aF (λ_=>ay (by show(0:Int)<=1;omega)) λ_=> ?_;refine aF (λ_=>gH λ_=>gH λ_=>ay (by show(0:Int)<=0;omega)) λ_=> ?_;refine aB (d (cR N n) c N _) ?_;rintro(⟨f,g,l,p,q,e,o⟩|⟨W,X,Y,Z,y5,y6,y7,y8,y9,P,Q,S,T,U,V⟩) h
  ·exact ay (h _ _ _ _ _ _ _ rfl)
  ·exact ay (by show(0:Int)<=0;omega)
def abW(N:Nat)(a:Bs):OP (fx N a) NnP:=by
 unfold fx uC syv;refine FZ (pn (aeu N N a _ _ _) λv e o b=> ?_);exact bW
instance(N:Nat)(a:Bs):NC (fx N a):=⟨abW N a⟩
def ahf(N:Nat)(a:Bs):OP (cK N a) NnP:=by
 unfold cK kN syv;exact bW
instance(N:Nat)(a:Bs):NC (cK N a):=⟨ahf N a⟩
def ahg(N:Nat)(a:Bs):OP (ed N a) NnP:=by
 have c:∀s,OP (bK N N s) NS:=λs=>by
  unfold bK syv;refine sf _ (λ_=>True) ?_ N s trivial;rintro G ⟨k,l,f,g,h,i,m,d⟩ _ ih;exact bW
 unfold ed syv;refine pn (qq _ _ _ _) λv e o b=>aF (λ_=>ay b) λ_=>aF (λ_=>ay (by show(0:Int)<=1;omega)) λ_=> ?_;refine ZJ (c _) (λe o b=>ay b) λ_=>ay (by show(0:Int)<=0;omega)
instance(N:Nat)(a:Bs):NC (ed N a):=⟨ahg N a⟩
def aev(N:Nat)(a:Bs):OP (iu N a) NnP:=by
 have c:∀s,OP (de N N s) NS:=λs=>by
  unfold de syv;refine sf _ (λ_=>True) ?_ N s trivial;rintro G ⟨j,k,d,f,g,h,l⟩ _ ih;exact bW
 unfold iu syv;refine pn (qq _ _ _ _) λv e o b=>aF (λ_=>ay b) λ_=> ?_;refine ZJ (c _) (λe o b=>ay b) λ_=>ay (by show(0:Int)<=0;omega)
instance(N:Nat)(a:Bs):NC (iu N a):=⟨aev N a⟩
def ajz(N:Nat)(a:Bs):OP (cL N a) NnP:=by
 unfold cL je syv;exact bW
instance(N:Nat)(a:Bs):NC (cL N a):=⟨ajz N a⟩
def ajA(N:Nat)(a:Bs):OP (cM N a) NnP:=by
 unfold cM syv;exact bW
instance(N:Nat)(a:Bs):NC (cM N a):=⟨ajA N a⟩
def ahh(N:Nat)(a:Bs):OP (bB N a) NnP:=by
 have c:∀s,OP (aO N N s) NS:=λs=>by
  unfold aO syv;refine sf _ (λ_=>True) ?_ N s trivial;rintro G ⟨j,k,d,f,g,h,l⟩ _ ih;exact bW
 unfold bB syv;refine pn (qq _ _ _ _) λv e o b=>aF (λ_=>ay b) λ_=> ?_;refine ZJ (c _) (λe o b=>ay b) λ_=> ?_;exact bW
instance(N:Nat)(a:Bs):NC (bB N a):=⟨ahh N a⟩
def ajB(N:Nat)(a:Bs):OP (dA N a) NN1:=by
 unfold dA syv;refine gH λ_=>aF (λ_=>ay (by show(0:Int)<=0;omega)) λ_=>ay (by show(0:Int)<=6;omega)
instance(N:Nat)(a:Bs):NC1 (dA N a):=⟨ajB N a⟩
def ajC(N:Nat)(a:Bs):OP (fc N a) NN1:=by
 unfold fc syv;refine gH λ_=>aF (λ_=>ay (by show(0:Int)<=0;omega)) λ_=>ay (by show(0:Int)<=6;omega)
instance(N:Nat)(a:Bs):NC1 (fc N a):=⟨ajC N a⟩
def ahi(N:Nat)(a:Bs):OP (dM N a) NnP:=by
 unfold dM syv;exact bW
instance(N:Nat)(a:Bs):NC (dM N a):=⟨ahi N a⟩
def ahj(a:Bs):OP (dI a) NN1:=by
 unfold dI syv;exact bW
instance(a:Bs):NC1 (dI a):=⟨ahj a⟩
def ahk(N:Nat)(a:Bs):OP (aW N a 2) NnP:=by
 unfold aW nT syv;exact bW
instance(N:Nat)(a:Bs):NC (aW N a 2):=⟨ahk N a⟩
def ajD(N:Nat)(a:Bs):OP (aS N a 2) NnP:=by
 unfold aS kO syv;exact bW
instance(N:Nat)(a:Bs):NC (aS N a 2):=⟨ajD N a⟩
def ahl(N:Nat)(a:Bs):OP (aI N a 3) NnP:=by
 unfold aI syv;exact bW
instance(N:Nat)(a:Bs):NC (aI N a 3):=⟨ahl N a⟩
def ahm(N:Nat)(a:Bs):OP (cB N a) NnP:=by
 unfold cB syv;exact bW
instance(N:Nat)(a:Bs):NC (cB N a):=⟨ahm N a⟩
def ajE(N:Nat)(a:Bs):OP (bz N a) NnP:=by
 unfold bz dT syv;refine pn (qq _ _ _ _) λv e o j=>FY ?_;dsimp only;refine aB (R:=λr=>0<=r.2.2.2.1) (by exact bW) ?_;rintro⟨b,c,d,f,g⟩ h;dsimp only at h⊢;refine aB (R:=λr=>0<=r.2.2.1) (by exact bW) ?_;rintro⟨b,c,d,f,g,i⟩ h;dsimp only at h⊢;refine aB (R:=λr=>0<=r.2.2.1) (by exact bW) ?_;rintro⟨b,c,d,f,g,i⟩ h;dsimp only at h⊢;exact bW
instance(N:Nat)(a:Bs):NC (bz N a):=⟨ajE N a⟩
def ahn(N:Nat)(a:Bs):OP (cn N a) NnP:=by
 have b:∀s:Bs×List aJ×Int×Int×List Ent,0<=s.2.2.1->OP (dF N N s) λr=>0<=r.2.2.1:=λs k=>by
  unfold dF syv;refine sf _ (λs=>0<=s.2.2.1) ?_ N s k;rintro G ⟨q,t,n,p,u⟩ h l;dsimp only at h⊢;refine aF (λ_=>aF (λ_=> ?_) λ_=>ay h) λ_=>ay h;refine aB (R:=λr=>0<=r.2.2.1) (by exact bW) ?_;rintro⟨c,d,f,g,i,m⟩ h;dsimp only at h⊢;exact gH λ_=>l _ h
 unfold cn syv;refine pn (qq _ _ _ _) λv e o j=> ?_;dsimp only;refine aB (b _ j) ?_;rintro⟨c,d,f,g,i⟩ h;dsimp only at h⊢;refine aB (R:=λr=>0<=r.2.2.2.1) (by exact bW) ?_;rintro⟨c,d,f,g,i,m⟩ h;dsimp only at h⊢;exact bW
instance(N:Nat)(a:Bs):NC (cn N a):=⟨ahn N a⟩
end Go.Fw
namespace Go.Fw
open Go
def ajF(N:Nat)(s:List Int×Int×Int×Bs×List aJ×Int×Int)(a:0<=s.2.2.2.2.2.1):OP (dO N N s) λy=>match y with
 |.inl (_,_,_,e,_)=>0<=e
 |.inr (_,_,e,_)=>0<=e:=by
 unfold dO syv;refine sf _ (λs=>0<=s.2.2.2.2.2.1) ?_ N s a;rintro G ⟨c,d,f,g,i,j,k⟩ h b;dsimp only at h⊢;exact aF (λ_=>gH λ_=>gH λ_=>gH λ_=>aF (λ_=>ay h) λ_=>b _ h) λ_=>ay h
def ajG(N:Nat)(s:List Int×Int×Int×Bs×List aJ×Int×Int×Int×Bs×Bs×List Rdn×Int×Int×Int×Int×Int×Int)(a:0<=s.2.2.2.2.2.1):OP (dP N N s) λy=>match y with
 |.inl (_,_,_,e,_)=>0<=e
 |.inr (_,_,e,_)=>0<=e:=by
 unfold dP syv;refine sf _ (λs=>0<=s.2.2.2.2.2.1) ?_ N s a;rintro G ⟨m,n,o,p,q,r,t,u,v,c,d,f,g,i,j,k,l⟩ h b;dsimp only at h⊢;exact aF (λ_=>gH λ_=>gH λ_=>gH λ_=>aF (λ_=>ay h) λ_=>b _ h) λ_=>ay h
def ajH(N:Nat)(s:List Int×Int×Int×Bs×List aJ×Int×Int×Int×Bs×Bs×List Rdn×Int×Int×Int×Int×Int×Int×Bool×Int×Int×Int×Int×Int×Int)(a:0<=s.2.2.2.2.2.1):OP (dQ N N s) λy=>match y with
 |.inl (_,_,_,e,_)=>0<=e
 |.inr (_,_,e,_)=>0<=e:=by
 unfold dQ syv;refine sf _ (λs=>0<=s.2.2.2.2.2.1) ?_ N s a;rintro G ⟨u,v,w,x,z,A,B,C,D,c,d,f,g,i,j,k,l,m,n,o,p,q,r,t⟩ h b;dsimp only at h⊢;exact aF (λ_=>gH λ_=>gH λ_=>gH λ_=>aF (λ_=>ay h) λ_=>b _ h) λ_=>ay h
set_option maxHeartbeats 4000000 in
def akZ(N:Nat)(a:Bs):OP (bR N a) NnP:=by
 unfold bR ey syv;refine FZ (pn (qq _ _ _ _) λl e o w=>FY ?_);dsimp only;refine aB (R:=λr=>0<=r.2.2.2.1) ?_ ?_
 ·refine aF (λ_=>aF (λ_=>aB (ajF N _ w) ?_) λ_=>ay w) λ_=>ay w;rintro(⟨f,g,i,j,A⟩|⟨f,g,i,j⟩) h
  ·exact ay h
  ·exact ay h
 clear w;rintro⟨f,g,i,j,A⟩ h;dsimp only at h⊢;refine aB (R:=λr=>0<=r.2.2.1) (by exact bW) ?_;clear h;rintro⟨f,g,i,j,d⟩ h;dsimp only at h⊢;refine aB (R:=λr=>0<=r.2.2.1) (by exact bW) ?_;clear h;rintro⟨f,g,i,j,d,s,p⟩ h;dsimp only at h⊢;refine aB (R:=λr=>0<=r.2.2.2.1) (by exact bW) ?_;clear h;rintro⟨n,f,g,i,j,d,s,p⟩ h;dsimp only at h⊢;refine aB (R:=λr=>0<=r.2.2.1) (by exact bW) ?_;clear h;rintro⟨f,g,i,j,d,s,p,n,k,m,q,t,u,v⟩ h;dsimp only at h⊢;refine aB (R:=λr=>0<=r.2.2.2.1) ?_ ?_
 ·refine aF (λ_=>aF (λ_=>aB (ajG N _ h) ?_) λ_=>ay h) λ_=>ay h;rintro(⟨f,g,i,j,A⟩|⟨f,g,i,j⟩) h
  ·exact ay h
  ·exact ay h
 clear h;rintro⟨c,f,g,i,j,d,s,p,n,k,m,q,t,u,v⟩ h;dsimp only at h⊢;refine aB (R:=λr=>0<=r.2.2.1) (by exact bW) ?_;clear h;rintro⟨f,g,i,j,d,s,p,n,k,m,q,t,u,v,b,y,u2,u3,u4,u5,z⟩ h;dsimp only at h⊢;refine aB (R:=λr=>0<=r.2.2.2.1) ?_ ?_
 ·refine aF (λ_=>aF (λ_=>aB (ajH N _ h) ?_) λ_=>ay h) λ_=>ay h;rintro(⟨f,g,i,j,A⟩|⟨f,g,i,j⟩) h
  ·exact ay h
  ·exact ay h
 clear h;rintro⟨c,f,g,i,j,d,s,p,n,k,m,q,t,u,v,b,y,u2,u3,u4,u5,z⟩ h;dsimp only at h⊢;refine aB (R:=λr=>0<=r.2.2.1) (by exact bW) ?_;clear h;rintro⟨f,g,i,j,d,s,p,n,k,m,q,t,u,v,b,y,u2,u3,u4,u5,z,B⟩ h;dsimp only at h⊢;refine aB (R:=λr=>0<=r.2.2.1) (by exact bW) ?_;clear h;rintro⟨f,g,i,j,d,s,p,n,k,m,q,t,u,v,b,y,u2,u3,u4,u5,z,B,x⟩ h;dsimp only at h⊢;refine gH λc=> ?_;exact bW
instance(N:Nat)(a:Bs):NC (bR N a):=⟨akZ N a⟩
set_option maxHeartbeats 4000000 in
def ajI(N:Nat)(a:Bs):OP (cu N a) NnP:=by
 unfold cu eB syv;refine FZ (pn (qq _ _ _ _) λl e o A=>FY ?_);dsimp only;refine aB (R:=λr=>0<=r.2.2.1) (by exact bW) ?_;clear A;rintro⟨v,w,y,z,d,s,p,n,g,i,j,k,m,q,b,t,u2,u3,u4,u5,u,f,x⟩ h;dsimp only at h⊢;refine aB (R:=λr=>0<=r.2.2.1) (by exact bW) ?_;clear h;rintro⟨v,w,y,z,d,s,p,n,g,i,j,k,m,q,b,t,u2,u3,u4,u5,u,f,x,B,p2⟩ h;dsimp only at h⊢;refine FY ?_;refine aB (R:=λr=>0<=r.2.2.1) (by exact bW) ?_;clear h;rintro⟨v,w,y,z,d,s,p,n,g,i,j,k,m,q,b,t,u2,u3,u4,u5,u,f,x,B,p2,C,D⟩ h;dsimp only at h⊢;refine gH λc=> ?_;exact bW
end Go.Fw
namespace Go.Fw
open Go
def CS(a:Bs)(f:List TLV)(B:Bs)(b:List aJ)(e o:Int):Prop:=IN a b/\((e=0/\o=0/\∃c d,f=c++d/\cH (EL a) d b/\ax c=B)∨(e≠0/\0<=o/\o<=(a.length:Int)))
def IN.nil(a:Bs):IN a []:=λ_ h=>by cases h
def IN.tail{a:Bs}{x:aJ}{r:List aJ}(h:IN a (x::r)):IN a r:=λe b=>h e (amF _ b)
variable{Z:List aJ}{Y:List TLV}
def VJ{a:Bs}{B:Bs}{e o:Int}(b:IN a Z)(f:e≠0)(c:0<=o)(d:o<=(a.length:Int)):CS a Y B Z e o:=⟨b,.inr ⟨f,c,d⟩⟩
def yi{a:Bs}{e b c:List TLV}{t:TLV}{B E:Bs}(q1:e=b++t::c)(d:cH (EL a) c Z)(q3:ax b=B)(f:E=aj t):CS a e (B++E) Z 0 0:=
 ⟨d.inn,.inl ⟨rfl,rfl,b++[t],c,by rw[q1];simp,d,by rw[H0,q3,f];simp[ax]⟩⟩
def FU{a:Bs}{B E:Bs}{e o:Int}(h:CS a Y B Z e o)(b:E=[]):CS a Y (B++E) Z e o:=by
 rw[b,amG];exact h
def akS:rH 1=aj (0,false,2,kH 1):=rfl
def agY(u:eQ):wq true u=gm u:=rfl
def agZ{es:List Ent}(h:es≠[]):sH es=AW es:=by
 unfold sH;cases es with
 |nil=>exact absurd rfl h
 |cons x r=>rw[amq (by simp only[amr];omega)];rfl
def ag0{x:List bE}(h:dU x=true):yh x=aj (2,true,0,dS x):=by
 have a:=QV h;unfold yh;cases x with
 |nil=>cases a
 |cons x r=>rw[amq (by simp only[amr];omega)];rfl
def CPS(N:Nat)(a:Bs)(r:iN×Int×Int):Prop:=(r.2=(0,0)/\iF N r.1=true/\clE r.1=a/\LB r.1)∨(r.1=zCL/\r.2.1≠0/\0<=r.2.2/\r.2.2<=(a.length:Int))
def eI{P:Prop}(h:P:=by repeat ((try dsimp only);first|with_reducible exact(zz _)|with_reducible refine bx ?_|with_reducible refine k_z ?_|with_reducible refine tp ?_|with_reducible refine VG (by first|assumption|decide) ?_|with_reducible refine wo (by first|assumption|decide) ?_|with_reducible refine k_t ?_|with_reducible refine k_f ?_|with_reducible refine gF ?_|with_reducible refine Kz ?_|with_reducible refine VF ?_|with_reducible refine lU ?_|with_reducible refine nC ?_|with_reducible refine FR ?_|with_reducible refine eK ?_|with_reducible refine eA ?_|with_reducible refine AV ?_|with_reducible refine Pl ?_|with_reducible refine FT asq ?_|with_reducible refine bF asq ?_|with_reducible refine NH asq omq (λ_ _ _ _ _=> ?_) (λ_ _ _ _=> ?_)|with_reducible refine VH asq omq (λ_ _ _ _ _ _=> ?_) (λ_ _ _=> ?_)|with_reducible refine Pm asq omq (λ_ _ _ _ _=> ?_) (λ_ _ _ _=> ?_)|with_reducible refine ST omq omq (λ_ _=> ?_)|with_reducible refine PB omq omq omq omq (λ_ _ _=> ?_)|with_reducible refine SU asq omq (λ_ _ _ _=> ?_)|with_reducible refine KG asq omq omq omq omq (λ_ _ _=> ?_) (λ_ _ _ _=> ?_)|with_reducible refine PC (λ_ _=> ?_)|with_reducible refine Ly asq omq (λ_ _=> ?_)|with_reducible refine afe asq omq (λ_ _ _ _ _=> ?_) (λ_ _ _ _ _ _=> ?_)|with_reducible refine abG asq omq (λ_ _ _ _ _=> ?_) (λ_ _ _ _=> ?_)|with_reducible refine aff asq omq (λ_ _ _ _ _=> ?_) (λ_=> ?_)|with_reducible refine abH asq omq (λ_ _ _ _ _=> ?_) (λ_ _ _ _=> ?_)|with_reducible refine abI asq omq (λ_ _ _ _ _ _ _ _=> ?_) (λ_ _ _ _ _=> ?_)|exact(zz _))):P:=h
def eW{P:Prop}(h:P:=by exact VJ (by first|assumption|exact IN.nil _|exact IN.tail asq|exact cH.inn asq) (by first|assumption|decide) cE cE):P:=h
set_option maxHeartbeats 4000000 in
def akT(U:FN NN)(a:Bs)(ha:a.length<190000):OW (bR NN a) (CPS NN a):=by
 unfold bR ey syv;refine eK (ag (R:=λr=>∃q,CS a q [] r.1 r.2.1 r.2.2/\(r.2.1=0->a=tlv 0 true 16 (ax q))) ?_ ?_)
 ·refine xR (AT (jt U a omq 0 16) (qK NN a _ _)) ?_;rintro⟨l,e,o⟩ ⟨⟨k0,q,V,_,_,k4,C⟩|⟨V,k2,k3⟩,k6⟩
  ·cases k0;exact⟨q,⟨C.inn,.inl ⟨rfl,rfl,[],q,rfl,C,rfl⟩⟩,λ_=>k4⟩
  ·obtain rfl:l=[]:=k6 V;exact⟨[],VJ (IN.nil _) V k2 k3,λh=>absurd h V⟩
 rintro⟨l,e,o⟩ ⟨q,f,g⟩;dsimp only at f g⊢;refine bx ?_;dsimp only;refine ag (R:=λr=>∃c,r=(c,a,l,e,o)) ?_ ?_
 ·by_cases B:e=0
  ·rw[B];refine tp ?_;cases l with
   |nil=>exact nC (aa ⟨_,rfl⟩)
   |cons x r=>
    refine lU (bF (ZC U _ _ _ _ _) ?_);cases isB x false 2<;>exact aa ⟨_,rfl⟩
  ·exact wo B (aa ⟨_,rfl⟩)
 rintro _ ⟨c,rfl⟩;dsimp only;refine ag (R:=λr=>∃d k m j,r=(a,d,k,m,j)/\CS a q ([]++rH j) d k m/\(k=0->a=tlv 0 true 16 (ax q))) ?_ ?_
 ·cases c
  ·exact k_f (aa ⟨_,_,_,_,rfl,FU f rfl,g⟩)
  ·obtain⟨E,⟨rfl,rfl,G,H,q1,F,q3⟩|⟨B,T,N⟩⟩:=f
   ·cases F with
    |nil=>(have zz:∀(P:Prop)(h:P:=by exact aa ⟨_,_,_,_,rfl,by exact eW,λh=>absurd h (by first|assumption|decide)⟩),P:= @id;exact eI)
    |cons D C=>
     obtain⟨O,Q,S⟩:=D.lb
     (have zz:∀(P:Prop)(h:P:=by exact by first|exact aa ⟨_,_,_,_,rfl,by exact eW,λh=>absurd h (by first|assumption|decide)⟩|exact aa ⟨_,_,_,_,rfl,yi q1 C q3 (akS.trans (Eq.symm asq)),g⟩),P:= @id;exact eI)
   ·cases l with
    |nil=>(have zz:∀(P:Prop)(h:P:=by exact aa ⟨_,_,_,_,rfl,by exact eW,λh=>absurd h (by first|assumption|decide)⟩),P:= @id;exact eI)
    |cons x r=>(have zz:∀(P:Prop)(h:P:=by exact aa ⟨_,_,_,_,rfl,by exact eW,λh=>absurd h (by first|assumption|decide)⟩),P:= @id;exact eI)
 clear f g;rintro _ ⟨d,e,o,j,rfl,f,g⟩;dsimp only;refine ag (R:=λr=>∃d k m s p,r=(a,d,k,m,j,s,p)/\CS a q ([]++rH j++ig (s,p)) d k m/\(k=0->a=tlv 0 true 16 (ax q))/\s.length<10000000/\p.length<10000000) ?_ ?_
 ·obtain⟨E,⟨rfl,rfl,G,H,q1,F,q3⟩|⟨B,T,N⟩⟩:=f
  ·cases F with
   |nil=>(have zz:∀(P:Prop)(h:P:=by exact aa ⟨_,_,_,_,_,rfl,by exact eW,λh=>absurd h (by first|assumption|decide),by simp,by simp⟩),P:= @id;exact eI)
   |cons D C=>
    obtain⟨O,Q,S⟩:=D.lb
    (have zz:∀(P:Prop)(h:P:=by exact by first|exact aa ⟨_,_,_,_,_,rfl,yi q1 C q3 asq,g,by assumption,by assumption⟩|exact aa ⟨_,_,_,_,_,rfl,by exact eW,λh=>absurd h (by first|assumption|decide),by simp,by simp⟩),P:= @id;exact eI)
  ·cases d<;>(have zz:∀(P:Prop)(h:P:=by exact aa ⟨_,_,_,_,_,rfl,by exact eW,λh=>absurd h (by first|assumption|decide),by simp,by simp⟩),P:= @id;exact eI)
 clear f g;rintro _ ⟨d,e,o,s,p,rfl,f,g,hs,hp⟩;dsimp only;refine ag (R:=λr=>∃n d k m,r=(n,a,d,k,m,j,s,p)/\CS a q ([]++rH j++ig (s,p)++ju n) d k m/\(k=0->a=tlv 0 true 16 (ax q))/\wN n<10000000) ?_ ?_
 ·obtain⟨E,⟨rfl,rfl,G,H,q1,F,q3⟩|⟨B,T,N⟩⟩:=f
  ·cases F with
   |nil=>(have zz:∀(P:Prop)(h:P:=by exact aa ⟨_,_,_,_,rfl,by exact eW,λh=>absurd h (by first|assumption|decide),by decide⟩),P:= @id;exact eI)
   |cons D C=>
    obtain⟨O,Q,S⟩:=D.lb
    (have zz:∀(P:Prop)(h:P:=by exact by first|exact aa ⟨_,_,_,_,rfl,yi q1 C q3 asq,g,by assumption⟩|exact aa ⟨_,_,_,_,rfl,by exact eW,λh=>absurd h (by first|assumption|decide),by decide⟩),P:= @id;exact eI)
  ·cases d<;>(have zz:∀(P:Prop)(h:P:=by exact aa ⟨_,_,_,_,rfl,by exact eW,λh=>absurd h (by first|assumption|decide),by decide⟩),P:= @id;exact eI)
 clear f g;rintro _ ⟨n,d,e,o,rfl,f,g,hn⟩;dsimp only;refine ag (R:=λr=>∃d k m t u v w z A,r=(a,d,k,m,j,s,p,n,t,u,v,w,z,A)/\CS a q ([]++rH j++ig (s,p)++ju n++gm (t,u,v,w,z,A)) d k m/\(k=0->a=tlv 0 true 16 (ax q))) ?_ ?_
 ·obtain⟨E,⟨rfl,rfl,G,H,q1,F,q3⟩|⟨B,T,N⟩⟩:=f
  ·cases F with
   |nil=>(have zz:∀(P:Prop)(h:P:=by exact aa ⟨_,_,_,_,_,_,_,_,_,rfl,by exact eW,λh=>absurd h (by first|assumption|decide)⟩),P:= @id;exact eI)
   |cons D C=>
    obtain⟨O,Q,S⟩:=D.lb
    (have zz:∀(P:Prop)(h:P:=by exact by first|exact aa ⟨_,_,_,_,_,_,_,_,_,rfl,yi q1 C q3 asq,g⟩|exact aa ⟨_,_,_,_,_,_,_,_,_,rfl,by exact eW,λh=>absurd h (by first|assumption|decide)⟩),P:= @id;exact eI)
  ·cases d<;>(have zz:∀(P:Prop)(h:P:=by exact aa ⟨_,_,_,_,_,_,_,_,_,rfl,by exact eW,λh=>absurd h (by first|assumption|decide)⟩),P:= @id;exact eI)
 clear f g;rintro _ ⟨d,e,o,t,u,v,w,z,A,rfl,f,g⟩;dsimp only;refine ag (R:=λr=>∃c,r=(c,a,d,e,o,j,s,p,n,t,u,v,w,z,A)) ?_ ?_
 ·by_cases B:e=0
  ·rw[B];refine tp ?_;cases d with
   |nil=>exact nC (aa ⟨_,rfl⟩)
   |cons x r=>
    obtain⟨i,_,X⟩:=ZD U a x r 0 o j s p n t u v w z A;refine lU (bF X ?_);cases (isB x false 23||isB x false 24)<;>exact aa ⟨_,rfl⟩
  ·exact wo B (aa ⟨_,rfl⟩)
 rintro _ ⟨c,rfl⟩;dsimp only;refine ag (R:=λr=>∃d k m b I u2 u3 u4 u5 J,r=(a,d,k,m,j,s,p,n,t,u,v,w,z,A,b,I,u2,u3,u4,u5,J)/\CS a q ([]++rH j++ig (s,p)++ju n++gm (t,u,v,w,z,A)++wq b (I,u2,u3,u4,u5,J)) d k m/\(k=0->a=tlv 0 true 16 (ax q))) ?_ ?_
 ·cases c
  ·exact k_f (aa ⟨_,_,_,_,_,_,_,_,_,_,rfl,FU f rfl,g⟩)
  ·obtain⟨E,⟨rfl,rfl,G,H,q1,F,q3⟩|⟨B,T,N⟩⟩:=f
   ·cases F with
    |nil=>(have zz:∀(P:Prop)(h:P:=by exact aa ⟨_,_,_,_,_,_,_,_,_,_,rfl,by exact eW,λh=>absurd h (by first|assumption|decide)⟩),P:= @id;exact eI)
    |cons D C=>
     obtain⟨O,Q,S⟩:=D.lb
     (have zz:∀(P:Prop)(h:P:=by exact by first|exact aa ⟨_,_,_,_,_,_,_,_,_,_,rfl,yi q1 C q3 ((agY _).trans asq),g⟩|exact aa ⟨_,_,_,_,_,_,_,_,_,_,rfl,by exact eW,λh=>absurd h (by first|assumption|decide)⟩),P:= @id;exact eI)
   ·cases d<;>(have zz:∀(P:Prop)(h:P:=by exact aa ⟨_,_,_,_,_,_,_,_,_,_,rfl,by exact eW,λh=>absurd h (by first|assumption|decide)⟩),P:= @id;exact eI)
 clear f g;rintro _ ⟨d,e,o,b,I,u2,u3,u4,u5,J,rfl,f,g⟩;dsimp only;refine ag (R:=λr=>∃c,r=(c,a,d,e,o,j,s,p,n,t,u,v,w,z,A,b,I,u2,u3,u4,u5,J)) ?_ ?_
 ·by_cases B:e=0
  ·rw[B];refine tp ?_;cases d with
   |nil=>exact nC (aa ⟨_,rfl⟩)
   |cons x r=>
    refine lU (bF (ZE U _ _ _ _ _ _ _ _ _ _ _ _ _ _ _ _ _ _ _ _ _ _) ?_);cases isB x true 16<;>exact aa ⟨_,rfl⟩
  ·exact wo B (aa ⟨_,rfl⟩)
 rintro _ ⟨c,rfl⟩;dsimp only;refine ag (R:=λr=>∃d k m K,r=(a,d,k,m,j,s,p,n,t,u,v,w,z,A,b,I,u2,u3,u4,u5,J,K)/\CS a q ([]++rH j++ig (s,p)++ju n++gm (t,u,v,w,z,A)++wq b (I,u2,u3,u4,u5,J)++sH K) d k m/\(k=0->a=tlv 0 true 16 (ax q))/\VE K/\K.length<10000000) ?_ ?_
 ·cases c
  ·exact k_f (aa ⟨_,_,_,_,rfl,FU f rfl,g,VE.nil,by simp⟩)
  ·obtain⟨E,⟨rfl,rfl,G,H,q1,F,q3⟩|⟨B,T,N⟩⟩:=f
   ·cases F with
    |nil=>(have zz:∀(P:Prop)(h:P:=by exact aa ⟨_,_,_,_,rfl,by exact eW,λh=>absurd h (by first|assumption|decide),VE.nil,by simp⟩),P:= @id;exact eI)
    |cons D C=>
     obtain⟨O,Q,S⟩:=D.lb
     (have zz:∀(P:Prop)(h:P:=by exact by first|exact aa ⟨_,_,_,_,rfl,yi q1 C q3 ((agZ asq).trans asq),g,by assumption,by assumption⟩|exact aa ⟨_,_,_,_,rfl,by exact eW,λh=>absurd h (by first|assumption|decide),by first|assumption|exact VE.nil,by first|assumption|simp⟩),P:= @id;exact eI)
   ·cases d<;>(have zz:∀(P:Prop)(h:P:=by exact aa ⟨_,_,_,_,rfl,by exact eW,λh=>absurd h (by first|assumption|decide),VE.nil,by simp⟩),P:= @id;exact eI)
 clear f g;rintro _ ⟨d,e,o,K,rfl,f,g,Y,W⟩;dsimp only;refine ag (R:=λr=>∃d k m x,r=(a,d,k,m,j,s,p,n,t,u,v,w,z,A,b,I,u2,u3,u4,u5,J,K,x)/\CS a q ([]++rH j++ig (s,p)++ju n++gm (t,u,v,w,z,A)++wq b (I,u2,u3,u4,u5,J)++sH K++yh x) d k m/\(k=0->a=tlv 0 true 16 (ax q))/\XB x) ?_ ?_
 ·have L:=f;obtain⟨E,⟨rfl,rfl,G,H,q1,F,q3⟩|⟨B,T,N⟩⟩:=f
  ·cases F with
   |nil=>exact nC (aa ⟨_,_,_,_,rfl,FU L rfl,g,XB.nil⟩)
   |cons D C=>
    obtain⟨O,Q,S⟩:=D.lb
    (have zz:∀(P:Prop)(h:P:=by exact by first|exact aa ⟨_,_,_,_,rfl,yi q1 C q3 ((ag0 asq).trans (Eq.symm asq)),g,by assumption⟩|exact aa ⟨_,_,_,_,rfl,by exact eW,λh=>absurd h (by first|assumption|decide),XB.nil⟩),P:= @id;exact eI)
  ·cases d with
   |nil=>exact nC (aa ⟨_,_,_,_,rfl,FU L rfl,g,XB.nil⟩)
   |cons y r=>(have zz:∀(P:Prop)(h:P:=by exact aa ⟨_,_,_,_,rfl,by exact eW,λh=>absurd h (by first|assumption|decide),XB.nil⟩),P:= @id;exact eI)
 clear f g;rintro _ ⟨d,e,o,x,rfl,f,g,hx⟩;dsimp only;have hB:LB (j,(s,p),n,(t,u,v,w,z,A),b,(I,u2,u3,u4,u5,J),K,x):=⟨hs,hp,hn,W,λy hy=>(Y y hy).2,hx⟩;refine bF (AX U _ hB) ?_;have M:∀e o,e≠0->0<=o->o<=(a.length:Int)->OW (some (zCL,e,o)) (CPS NN a):=λe o N h2 h3=>aa (.inr ⟨rfl,N,h2,h3⟩);have L:=f;obtain⟨E,⟨rfl,rfl,G,H,q1,F,q3⟩|⟨B,T,N⟩⟩:=f
 ·cases F with
  |nil=>
   cases hk:iF NN (j,(s,p),n,(t,u,v,w,z,A),b,(I,u2,u3,u4,u5,J),K,x)
   ·(have zz:∀(P:Prop)(h:P:=by exact M _ _ deq cE cE),P:= @id;exact eI)
   ·have hE:clE (j,(s,p),n,(t,u,v,w,z,A),b,(I,u2,u3,u4,u5,J),K,x)=a:=by
     rw[g rfl];show tlv 0 true 16 (clB _)=_;rw[q1,amG,q3];unfold clB;simp only[amL,anc]
    have Z:OW (some ((j,(s,p),n,(t,u,v,w,z,A),b,(I,u2,u3,u4,u5,J),K,x),(0:Int),(0:Int))) (CPS NN a):=aa (.inl ⟨rfl,hk,hE,hB⟩)
    (have zz:∀(P:Prop)(h:P:=by exact Z),P:= @id;exact eI)
  |cons D C=>
   obtain⟨O,Q,S⟩:=D.lb;cases iF NN (j,(s,p),n,(t,u,v,w,z,A),b,(I,u2,u3,u4,u5,J),K,x)<;>(have zz:∀(P:Prop)(h:P:=by exact M _ _ deq cE cE),P:= @id;exact eI)
 ·cases d with
  |nil=>cases iF NN (j,(s,p),n,(t,u,v,w,z,A),b,(I,u2,u3,u4,u5,J),K,x)<;>(have zz:∀(P:Prop)(h:P:=by exact M _ _ B cE cE),P:= @id;exact eI)
  |cons y r=>cases iF NN (j,(s,p),n,(t,u,v,w,z,A),b,(I,u2,u3,u4,u5,J),K,x)<;>(have zz:∀(P:Prop)(h:P:=by exact M _ _ B cE cE),P:= @id;exact eI)
end Go.Fw
namespace Go.Fw
open Go
def ag1{y:Type}{Q:y->Prop}(z:FN NN){a:Bs}{f:iN×Int×Int->Option y}(A:a.length<190000)(B:∀e o,e≠0->0<=o->o<=(a.length:Int)->OW (f (zCL,e,o)) Q)(C:∀c s p n g h i j k l b m u2 u3 u4 u5 q d x,iF NN (c,(s,p),n,(g,h,i,j,k,l),b,(m,u2,u3,u4,u5,q),d,x)=true->clE (c,(s,p),n,(g,h,i,j,k,l),b,(m,u2,u3,u4,u5,q),d,x)=a->LB (c,(s,p),n,(g,h,i,j,k,l),b,(m,u2,u3,u4,u5,q),d,x)->OW (f ((c,(s,p),n,(g,h,i,j,k,l),b,(m,u2,u3,u4,u5,q),d,x),0,0)) Q):OW ((bR NN a).bind f) Q:=by
 refine ag (akT z a A) ?_;rintro⟨v,e,o⟩ (⟨r,t,u,w⟩|⟨r,t,u,w⟩)
 ·cases r;obtain⟨c,⟨s,p⟩,n,⟨g,h,i,j,k,l⟩,b,⟨m,u2,u3,u4,u5,q⟩,d,x⟩:=v;exact C _ _ _ _ _ _ _ _ _ _ _ _ _ _ _ _ _ _ _ t u w
 ·cases r;exact B e o t u w
end Go.Fw
namespace Go.Fw
open Go
def kJ{P:Prop}(h:P:=by repeat ((try dsimp only);first|with_reducible exact(zz _)|with_reducible refine bx ?_|with_reducible refine k_z ?_|with_reducible refine tp ?_|with_reducible refine VG (by first|assumption|decide) ?_|with_reducible refine wo (by first|assumption|decide) ?_|with_reducible refine k_t ?_|with_reducible refine k_f ?_|with_reducible refine gF ?_|with_reducible refine Kz ?_|with_reducible refine VF ?_|with_reducible refine lU ?_|with_reducible refine nC ?_|with_reducible refine FR ?_|with_reducible refine eK ?_|with_reducible refine eA ?_|with_reducible refine AV ?_|with_reducible refine Pl ?_|with_reducible refine FT asq ?_|with_reducible refine bF asq ?_|with_reducible refine NH asq omq (λ_ _ _ _ _=> ?_) (λ_ _ _ _=> ?_)|with_reducible refine VH asq omq (λ_ _ _ _ _ _=> ?_) (λ_ _ _=> ?_)|with_reducible refine Pm asq omq (λ_ _ _ _ _=> ?_) (λ_ _ _ _=> ?_)|with_reducible refine ST omq omq (λ_ _=> ?_)|with_reducible refine PB omq omq omq omq (λ_ _ _=> ?_)|with_reducible refine SU asq omq (λ_ _ _ _=> ?_)|with_reducible refine KG asq omq omq omq omq (λ_ _ _=> ?_) (λ_ _ _ _=> ?_)|with_reducible refine PC (λ_ _=> ?_)|with_reducible refine Ly asq omq (λ_ _=> ?_)|with_reducible refine afe asq omq (λ_ _ _ _ _=> ?_) (λ_ _ _ _ _ _=> ?_)|with_reducible refine abG asq omq (λ_ _ _ _ _=> ?_) (λ_ _ _ _=> ?_)|with_reducible refine aff asq omq (λ_ _ _ _ _=> ?_) (λ_=> ?_)|with_reducible refine abH asq omq (λ_ _ _ _ _=> ?_) (λ_ _ _ _=> ?_)|with_reducible refine abI asq omq (λ_ _ _ _ _ _ _ _=> ?_) (λ_ _ _ _ _=> ?_)|with_reducible refine ajp asq omq (λ_ _ _ _ _ _ _=> ?_) (λ_ _ _ _ _=> ?_)|with_reducible refine ag1 asq omq (λ_ _ _ _ _=> ?_) (λ_ _ _ _ _ _ _ _ _ _ _ _ _ _ _ _ _ _ _ _ _ _=> ?_)|exact(zz _))):P:=h
set_option maxHeartbeats 4000000 in
def ajq(hN:FN NN)(a:Bs)(ha:a.length<190000):OW (cu NN a) (RPS NN a):=by
 unfold cu eB my si syv;refine eK (ag (R:=λr=>∃z,CS a z [] r.1 r.2.1 r.2.2/\(r.2.1=0->a=tlv 0 true 16 (ax z))) ?_ ?_)
 ·refine xR (AT (jt hN a omq 0 16) (qK NN a _ _)) ?_;rintro⟨l,e,o⟩ ⟨⟨k0,z,O,_,_,k4,D⟩|⟨O,k2,k3⟩,k6⟩
  ·cases k0;exact⟨z,⟨D.inn,.inl ⟨rfl,rfl,[],z,rfl,D,rfl⟩⟩,λ_=>k4⟩
  ·obtain rfl:l=[]:=k6 O;exact⟨[],VJ (IN.nil _) O k2 k3,λh=>absurd h O⟩
 rintro⟨c,e,o⟩ ⟨z,f,g⟩;dsimp only at f g⊢;refine bx ?_;dsimp only;refine ag (R:=λr=>∃c i F d s p n m q t u v w b A u2 u3 u4 u5 B k x,r=(a,c,i,F,d,s,p,n,m,q,t,u,v,w,b,A,u2,u3,u4,u5,B,k,x)/\CS a z ([]++clE (d,(s,p),n,(m,q,t,u,v,w),b,(A,u2,u3,u4,u5,B),k,x)) c i F/\(i=0->a=tlv 0 true 16 (ax z))/\(i=0->iF NN (d,(s,p),n,(m,q,t,u,v,w),b,(A,u2,u3,u4,u5,B),k,x)=true)/\(i=0->LB (d,(s,p),n,(m,q,t,u,v,w),b,(A,u2,u3,u4,u5,B),k,x))) ?_ ?_
 ·obtain⟨I,⟨rfl,rfl,K,L,q1,J,q3⟩|⟨N,U,M⟩⟩:=f
  ·cases J with
   |nil=>(have zz:∀(P:Prop)(h:P:=by exact aa ⟨_,_,_,_,_,_,_,_,_,_,_,_,_,_,_,_,_,_,_,_,_,_,rfl,by exact eW,λh=>absurd h (by first|assumption|decide),λh=>absurd h (by first|assumption|decide),λh=>absurd h (by first|assumption|decide)⟩),P:= @id;exact kJ)
   |cons H D=>
    obtain⟨Q,S,T⟩:=H.lb
    (have zz:∀(P:Prop)(h:P:=by exact by first|exact aa ⟨_,_,_,_,_,_,_,_,_,_,_,_,_,_,_,_,_,_,_,_,_,_,rfl,yi q1 D q3 asq,g,λ_=>by assumption,λ_=>by assumption⟩|exact aa ⟨_,_,_,_,_,_,_,_,_,_,_,_,_,_,_,_,_,_,_,_,_,_,rfl,by exact eW,λh=>absurd h (by first|assumption|decide),λh=>absurd h (by first|assumption|decide),λh=>absurd h (by first|assumption|decide)⟩),P:= @id;exact kJ)
  ·cases c<;>(have zz:∀(P:Prop)(h:P:=by exact aa ⟨_,_,_,_,_,_,_,_,_,_,_,_,_,_,_,_,_,_,_,_,_,_,rfl,by exact eW,λh=>absurd h (by first|assumption|decide),λh=>absurd h (by first|assumption|decide),λh=>absurd h (by first|assumption|decide)⟩),P:= @id;exact kJ)
 clear f g;rintro _ ⟨c,e,o,d,s,p,n,m,q,t,u,v,w,b,A,u2,u3,u4,u5,B,k,x,rfl,f,g,j3,Z⟩;dsimp only;refine ag (R:=λr=>∃c i F j p2,r=(a,c,i,F,d,s,p,n,m,q,t,u,v,w,b,A,u2,u3,u4,u5,B,k,x,j,p2)/\CS a z ([]++clE (d,(s,p),n,(m,q,t,u,v,w),b,(A,u2,u3,u4,u5,B),k,x)++ig (j,p2)) c i F/\(i=0->a=tlv 0 true 16 (ax z))/\(i=0->e=0)/\j.length<10000000/\p2.length<10000000) ?_ ?_
 ·obtain⟨I,⟨rfl,rfl,K,L,q1,J,q3⟩|⟨N,U,M⟩⟩:=f
  ·cases J with
   |nil=>(have zz:∀(P:Prop)(h:P:=by exact aa ⟨_,_,_,_,_,rfl,by exact eW,λh=>absurd h (by first|assumption|decide),λ_=>rfl,by simp,by simp⟩),P:= @id;exact kJ)
   |cons H D=>
    obtain⟨Q,S,T⟩:=H.lb
    (have zz:∀(P:Prop)(h:P:=by exact by first|exact aa ⟨_,_,_,_,_,rfl,yi q1 D q3 asq,g,λ_=>rfl,by assumption,by assumption⟩|exact aa ⟨_,_,_,_,_,rfl,by exact eW,λh=>absurd h (by first|assumption|decide),λ_=>rfl,by simp,by simp⟩),P:= @id;exact kJ)
  ·cases c<;>(have zz:∀(P:Prop)(h:P:=by exact aa ⟨_,_,_,_,_,rfl,by exact eW,λh=>absurd h (by first|assumption|decide),λh=>absurd h (by first|assumption|decide),by simp,by simp⟩),P:= @id;exact kJ)
 clear f g;rintro _ ⟨c,e2,o,j,p2,rfl,f,g,X,j5,j4⟩;dsimp only;refine bx ?_;refine ag (R:=λr=>∃c i F E G,r=(a,c,i,F,d,s,p,n,m,q,t,u,v,w,b,A,u2,u3,u4,u5,B,k,x,j,p2,E,G)/\CS a z ([]++clE (d,(s,p),n,(m,q,t,u,v,w),b,(A,u2,u3,u4,u5,B),k,x)++ig (j,p2)++aj (0,false,3,fq (E,G))) c i F/\(i=0->a=tlv 0 true 16 (ax z))/\(i=0->e2=0)/\(i=0->ws (E,G)=true)/\(i=0->E.length<9000000)) ?_ ?_
 ·obtain⟨I,⟨rfl,rfl,K,L,q1,J,q3⟩|⟨N,U,M⟩⟩:=f
  ·cases J with
   |nil=>(have zz:∀(P:Prop)(h:P:=by exact aa ⟨_,_,_,_,_,rfl,by exact eW,λh=>absurd h (by first|assumption|decide),λ_=>rfl,λh=>absurd h (by first|assumption|decide),λh=>absurd h (by first|assumption|decide)⟩),P:= @id;exact kJ)
   |cons H D=>
    obtain⟨Q,S,T⟩:=H.lb
    (have zz:∀(P:Prop)(h:P:=by exact by first|exact aa ⟨_,_,_,_,_,rfl,yi q1 D q3 asq,g,λ_=>rfl,λ_=>by assumption,λ_=>by assumption⟩|exact aa ⟨_,_,_,_,_,rfl,by exact eW,λh=>absurd h (by first|assumption|decide),λ_=>rfl,λh=>absurd h (by first|assumption|decide),λh=>absurd h (by first|assumption|decide)⟩),P:= @id;exact kJ)
  ·cases c<;>(have zz:∀(P:Prop)(h:P:=by exact aa ⟨_,_,_,_,_,rfl,by exact eW,λh=>absurd h (by first|assumption|decide),λh=>absurd h (by first|assumption|decide),λh=>absurd h (by first|assumption|decide),λh=>absurd h (by first|assumption|decide)⟩),P:= @id;exact kJ)
 clear f g;rintro _ ⟨c,e3,o,E,G,rfl,f,g,Y,W,V⟩;dsimp only;have C:∀e o,e≠0->0<=o->o<=(a.length:Int)->OW (some ((zCL,(([]:Bs),([]:Bs)),([]:Bs),(0:Int)),e,o)) (RPS NN a):=λe o M h2 h3=>aa (.inr ⟨rfl,M,h2,h3⟩);obtain⟨I,⟨rfl,rfl,K,L,q1,J,q3⟩|⟨N,U,M⟩⟩:=f
 ·cases J with
  |nil=>
   cases hs:(j==s)
   ·(have zz:∀(P:Prop)(h:P:=by exact C _ _ deq cE cE),P:= @id;exact kJ)
   ·cases hp:(p2==p)
    ·(have zz:∀(P:Prop)(h:P:=by exact C _ _ deq cE cE),P:= @id;exact kJ)
    ·have e0:e=0:=X (Y rfl);have hE:bQ ((d,(s,p),n,(m,q,t,u,v,w),b,(A,u2,u3,u4,u5,B),k,x),(j,p2),E,G)=a:=by
      rw[g rfl];show tlv 0 true 16 (gQ _)=_;rw[q1,amG,q3];unfold gQ;simp only[amL,anc]
     have hc:kS NN ((d,(s,p),n,(m,q,t,u,v,w),b,(A,u2,u3,u4,u5,B),k,x),(j,p2),E,G)=true:=by
      unfold kS;dsimp only;rw[hs,hp,W rfl,j3 e0];rfl
     have j6:OW (some (((d,(s,p),n,(m,q,t,u,v,w),b,(A,u2,u3,u4,u5,B),k,x),(j,p2),E,G),(0:Int),(0:Int))) (RPS NN a):=aa (.inl ⟨rfl,hc,hE,Z e0,j5,j4,by have:=V rfl;dsimp only;omega⟩)
     (have zz:∀(P:Prop)(h:P:=by exact j6),P:= @id;exact kJ)
  |cons H D=>
   obtain⟨Q,S,T⟩:=H.lb;cases (j==s)<;>cases (p2==p)<;>(have zz:∀(P:Prop)(h:P:=by exact C _ _ deq cE cE),P:= @id;exact kJ)
 ·cases c with
  |nil=>cases (j==s)<;>cases (p2==p)<;>(have zz:∀(P:Prop)(h:P:=by exact C _ _ N cE cE),P:= @id;exact kJ)
  |cons y r=>cases (j==s)<;>cases (p2==p)<;>(have zz:∀(P:Prop)(h:P:=by exact C _ _ N cE cE),P:= @id;exact kJ)
end Go.Fw
namespace Go.Fw
open Go
def ahq(b:FN NN){v w:Crl}(g:kS NN v=true)(d:CB v)(i:kS NN w=true)(e:CB w)(h:bQ v=bQ w)(c:(bQ v).length<190000):v=w:=by
 have f:=Pr b v d g (bQ v) rfl c;have a:=Pr b w e i (bQ v) h.symm c;rw[f]at a;cases a;rfl
def ama(l:FN NN)(v:Crl)(n:CB v)(r:(bQ v).length<=140000)(p:kS NN v=true)(i:Nat)(m:i<(bQ v).length)(x:UInt8):
 ∃w e o,cu NN ((bQ v).set i x)=some (w,e,o)/\((0<e/\x≠(bQ v)[i]/\w=(zCL,([],[]),[],0)/\0<=o/\o<=((bQ v).length:Int))∨(e=0/\kS NN w=true/\CB w/\bQ w=(bQ v).set i x/\(w=v↔x=(bQ v)[i]))):=by
 have a:x=(bQ v)[i]->(bQ v).set i x=bQ v:=λh=>by rw[h];exact List.set_getElem_self m
 have c:(bQ v).set i x=bQ v->x=(bQ v)[i]:=λh=>by
  have b:((bQ v).set i x)[i]?=(bQ v)[i]? :=by rw[h]
  rw[ana m,aml m]at b;exact anm b
 obtain⟨⟨w,e,o⟩,b,⟨k,j,d,g⟩|⟨k,j,d,g⟩⟩:=ajq l ((bQ v).set i x) (by rw[anF];omega)
 ·cases k;refine⟨w,0,0,b,.inr ⟨rfl,j,g,d,λf=>by subst f;exact c d.symm,λf=> ?_⟩⟩;exact ahq l j g p n (d.trans (a f)) (by rw[show bQ w=_ from d,anF];omega)
 ·have f:0<=e:=ajI NN _ _ b;have q:e≠0:=j;rw[anF]at g;refine⟨w,e,o,b,.inl ⟨omq,λf=> ?_,k,d,g⟩⟩;rw[a f,Pr l v n p (bQ v) rfl omq]at b;cases b;exact q rfl
end Go.Fw
namespace Go.Fw
open Go
def EQ(x:Option Bool)(P:Prop):Prop:=OW x λc=>(c=true↔P)
def ab0{α:Type}[BEq α][LawfulBEq α](a b:α):EQ (some (a==b)) (a=b):=aa anR
def F2{x:Option Bool}{y:Option Bool}{P Q R:Prop}(h:EQ x P)(k:P->EQ y Q)(e:R↔P/\Q):EQ (x.bind λc=>bif c then y else some false) R:=by
 refine ag h λc b=>aq (λa=>xR (k (b.1 a)) λd f=> ?_) λa=>aa ?_
 ·rw[f,e];exact⟨λq=>⟨b.1 a,q⟩,λq=>q.2⟩
 ·rw[e];refine⟨λh=>(by cases h),λq=> ?_⟩;rw[b.2 q.1]at a;cases a
def VQ{x:Option Bool}{y:Option Bool}{P Q R:Prop}(h:EQ x P)(k:P->EQ y Q)(e:R↔P/\Q):EQ (x.bind λc=>bif !c then some false else y) R:=by
 refine ag h λc a=> ?_;have:=F2 (x:=some c) (y:=y) (aa a) k e;cases c<;>exact this
def VS{c:Bool}{y:Option Bool}{P Q R:Prop}(h:c=true↔P)(k:P->EQ y Q)(e:R↔P/\Q):EQ (bif c then y else some false) R:=F2 (x:=some c) (aa h) k e
def aeB{c:Bool}{y:Option Bool}{P Q R:Prop}(h:c=true↔P)(k:P->EQ y Q)(e:R↔P/\Q):EQ (bif !c then some false else y) R:=VQ (x:=some c) (aa h) k e
def Px{x:Option Bool}{P:Prop}(h:EQ x P):EQ (x.bind λc=>some c) P:=by
 obtain⟨c,rfl,a⟩:=h;exact aa a
def VT{α:Type}(N:Nat)(n:FN N)(F:Nat->List α×List α×Int->Option (Unit⊕(List α×List α)))(b:(List α×List α×Int->Option (Unit⊕(List α×List α)))->List α×List α×Int->Option (Unit⊕(List α×List α)))(k:F N=Nat.rec (motive:=λ_=>List α×List α×Int->Option (Unit⊕(List α×List α))) (λ_=>none) (λ_ G=>b G) N)(l m:List α)(r:l.length<10000000)
 (o:∀G (i:Nat) x y (Q:Unit⊕(List α×List α)->Prop),l[i]?=some x->m[i]?=some y->(x≠y->Q (.inl ()))->(x=y->OW (G (l,m,((i+1:Nat):Int))) Q)->OW (b G (l,m,(i:Int))) Q)
 (d:∀G (i:Nat),¬(i<l.length/\i<m.length)->b G (l,m,(i:Int))=some (.inr (l,m))):
 OW (F N (l,m,0)) λy=>(y=.inl ()/\l≠m)∨(y=.inr (l,m)/\(l.length=m.length->l=m)):=by
 unfold FN at n;rw[k];refine cV _ l.length (λi p=>p=(l,m,(i:Int))/\∀j<i,l[j]?=m[j]?) ?_ N 0 _ omq omq ⟨rfl,λj c=>omq⟩;rintro G i _ q ⟨rfl,g⟩ rec;by_cases a:i<l.length/\i<m.length
 ·refine o G i l[i] m[i] _ (aml a.1) (aml a.2) (λf=>.inl ⟨rfl,λe=>f ?_⟩) λd=>rec _ a.1 ⟨rfl,λj c=> ?_⟩
  ·subst e;rfl
  ·rcases Nat.lt_succ_iff_lt_or_eq.1 c with h|rfl
   ·exact g j h
   ·rw[aml a.1,aml a.2,d]
 ·rw[d G i a];refine aa (.inr ⟨rfl,λe=>anQ λj=> ?_⟩);by_cases c:j<i
  ·exact g j c
  ·rw[amC omq,amC omq]
def Py{α:Type}{l m:List α}{x:Option (Unit⊕(List α×List α))}{k:Unit⊕(List α×List α)->Option Bool}(h:OW x λy=>(y=.inl ()/\l≠m)∨(y=.inr (l,m)/\(l.length=m.length->l=m)))(b:k (.inl ())=some false)(c:k (.inr (l,m))=some ((l.length:Int)==(m.length:Int))):EQ (x.bind k) (l=m):=by
 refine ag h ?_;rintro _ (⟨rfl,a⟩|⟨rfl,a⟩)
 ·rw[b];exact aa ⟨λh=>(by cases h),λh=>absurd h a⟩
 ·rw[c];refine aa ?_;rw[anR];exact⟨λh=>a omq,λh=>by rw[h]⟩
def eqB{α:Type}(A:α->α->Option Bool)(G:List α×List α×Int->Option (Unit⊕(List α×List α)))(s:List α×List α×Int):Option (Unit⊕(List α×List α)):=
 bif decide (s.2.2<(s.1.length:Int)) then(bif decide (s.2.2<(s.2.1.length:Int)) then((ix s.1 s.2.2).bind λa=>(ix s.2.1 s.2.2).bind λb=>(A a b).bind λc=>bif !c then some (.inl ()) else G (s.1,s.2.1,az .i64 s.2.2 1)) else some (.inr (s.1,s.2.1))) else some (.inr (s.1,s.2.1))
def VU{α:Type}(N:Nat)(n:FN N)(A:α->α->Option Bool)(F:Nat->List α×List α×Int->Option (Unit⊕(List α×List α)))(k:F N=Nat.rec (motive:=λ_=>List α×List α×Int->Option (Unit⊕(List α×List α))) (λ_=>none) (λ_ G=>eqB A G) N)(l m:List α)(o:l.length<10000000)(j:∀x∈l,∀y,EQ (A x y) (x=y)):
 OW (F N (l,m,0)) λy=>(y=.inl ()/\l≠m)∨(y=.inr (l,m)/\(l.length=m.length->l=m)):=by
 refine VT N n F (eqB A) k l m o ?_ ?_
 ·intro G i x y Q a f b g;have p:=(ant.1 a).1;have q:=(ant.1 f).1;unfold eqB;dsimp only;refine aN (λ_=>aN (λ_=>bF (aM a) (bF (aM f) (ag (j x (amS a) y) λc d=> ?_))) λh=>absurd h omq) λh=>absurd h omq;cases c
  ·exact aa (b λe=>by cases d.2 e)
  ·rw[bg omq];exact g (d.1 rfl)
 ·intro G i h;unfold eqB;dsimp only;by_cases b:i<l.length
  ·rw[amq omq,amm omq];rfl
  ·rw[amm omq];rfl
end Go.Fw
def anY:=@Prod.ext_iff
namespace Go.Fw
open Go
def Bh(a b:Bs):EQ (fH a b) (a=b):=by
 unfold fH syv;exact ab0 a b
def afk(a b:Bs×Bs):EQ (rA a b) (a=b):=by
 unfold rA syv;exact VS anR (λ_=>Px (Bh _ _)) anY
def ak5(a b:Bs×Bs):EQ (mI a b) (a=b):=by
 unfold mI syv;exact VS anR (λ_=>Px (Bh _ _)) anY
def ak6(a b:bE):EQ (mJ a b) (a=b):=by
 unfold mJ syv;exact VS anR (λ_=>VS anR (λ_=>Px (Bh _ _)) anY) anY
def ajN(a b:qC):EQ (Ce a b) (a=b):=by
 unfold Ce syv;exact F2 (Bh _ _) (λ_=>ab0 _ _) anY
def ak7(a:FN NN)(l m:Rdn)(b:l.length<10000000):EQ (xY NN l m) (l=m):=by
 unfold xY syv;exact Py (VU NN a mI (xD NN) (by unfold xD syv;rfl) l m b λx _ y=>ak5 x y) rfl rfl
def Pz{α:Type}(f:α->Nat)(h:∀x,1<=f x):∀l:List α,l.length<=(l.map f).sum/\∀x∈l,f x<=(l.map f).sum
 |[]=>⟨by simp,λ_ h=>by cases h⟩
 |a::r=>by
  obtain⟨e,b⟩:=Pz f h r;have:=h a;refine⟨by simp only[amr,amz,anK];omega,λx d=> ?_⟩;simp only[amz,anK];rcases amN.1 d with rfl|c
  ·omega
  ·have:=b x c;omega
def ajO(a:FN NN)(l m:List Rdn)(c:wN l<10000000):EQ (Cc NN l m) (l=m):=by
 unfold wN at c;obtain⟨e,b⟩:=Pz wR (λx=>by unfold wR;omega) l;unfold Cc syv;refine Py (VU NN a (xY NN) (vz NN) (by unfold vz syv;rfl) l m omq λx d y=>ak7 a x y ?_) rfl rfl;have f:=b x d;have g:=(Pz wA (λx=>by unfold wA;omega) x).1;have h:wR x=(x.map wA).sum+20:=rfl;omega
def ab1(b:FN NN)(l m:List bE)(c:XB l):EQ (pZ NN l m) (l=m):=by
 have a:=c.1;unfold wL at a;have d:=(Pz wE (λx=>by unfold wE;omega) l).1;unfold pZ syv;exact Py (VU NN b mJ (nt NN) (by unfold nt syv;rfl) l m omq λx _ y=>ak6 x y) rfl rfl
def PA{a b:eQ}:((a.1==b.1)&&((a.2.1==b.2.1)&&((a.2.2.1==b.2.2.1)&&((a.2.2.2.1==b.2.2.2.1)&&((a.2.2.2.2.1==b.2.2.2.2.1)&&(a.2.2.2.2.2==b.2.2.2.2.2))))))=true↔a=b:=by
 simp only[amk,anR,anY]
def ajP(f:FN NN)(l m:List Ent)(k:l.length<10000000)(p:∀e∈l,XB e.2.2):EQ (vB NN l m) (l=m):=by
 unfold vB syv;refine Py (VT NN f (qa NN) _ (by unfold qa syv;rfl) l m k ?_ ?_) rfl rfl
 ·intro G i x y Q a d b n;have q:=(ant.1 a).1;have r:=(ant.1 d).1;dsimp only;refine aN (λ_=>aN (λ_=>bF (aM a) (bF (aM d) (ag (Bh x.1 y.1) λc g=> ?_))) λh=>absurd h omq) λh=>absurd h omq;cases c
  ·exact aa (b λe=>by cases g.2 (amV _ e))
  refine bF (aM a) (bF (aM d) ?_);refine aq (λh=>aa (b λe=> ?_)) λh=> ?_
  ·rw[PA.2 (by rw[e])]at h;cases h
  have o:x.2.1=y.2.1:=PA.1 (by simpa using h);refine bF (aM a) (bF (aM d) (ag (ab1 f x.2.2 y.2.2 (p x (amS a))) λc j=> ?_));cases c
  ·exact aa (b λe=>by cases j.2 (by rw[e]))
  rw[bg omq];exact n (Prod.ext (g.1 rfl) (Prod.ext o (j.1 rfl)))
 ·intro G i h;dsimp only;by_cases b:i<l.length
  ·rw[amq omq,amm omq];rfl
  ·rw[amm omq];rfl
def ajQ(c:FN NN)(a b:iN)(h:LB a):EQ (Cd NN a b) (a=b):=by
 obtain⟨_,_,d,e,f,g⟩:=h;unfold Cd syv;exact aeB anR (λ_=>VQ (afk _ _) (λ_=>VQ (ajO c _ _ d) (λ_=>aeB PA (λ_=>aeB anR (λ_=>VS PA (λ_=>F2 (ajP c _ _ e f) (λ_=>Px (ab1 c _ _ g)) anY) anY) anY) anY) anY) anY) anY
def afl(c:FN NN)(a b:Crl)(h:CB a):EQ (ii NN a b) (a=b):=by
 unfold ii syv;exact F2 (ajQ c _ _ h.1) (λ_=>F2 (afk _ _) (λ_=>Px (ajN _ _)) anY) anY
end Go.Fw
