/- A framework for proofs about Go programs in this model: part ZA. Everything is proved; no condition is added. -/
import Derived.ChangeArms
import GoSem.ClaimJoined
import Derived.ChangeSame
import Derived.WideShapes
import Derived.WideKeyArgs
import Derived.Stop.LaidErr
import Derived.Lib.LaidTab
import Derived.Lib.LaidU8
import Derived.Shelf.Vars
import Derived.Test.YtfjfjojmeookfaaGreatDoorFwZ
set_option linter.unusedVariables false
set_option linter.unusedSimpArgs false
set_option linter.defProp false
namespace Go.Fw
open Go
section
variable {β:Type}{Q:β→Prop}
def uu{α:Type}{x:α}{r:List α}{f:α->Option β}(k:OW (f x) Q):OW ((ix (x::r) 0).bind f) Q:=k
def Fj{α:Type}{x:α}{r:List α}{f:List α->Option β}(k:OW (f r) Q):OW ((slc (x::r) 1 (((x::r).length:Nat):Int)).bind f) Q:=by
 have:slc (x::r) 1 (((x::r).length:Nat):Int)=some r:=by
  unfold slc;rw[ahY (by simp only[ahL];omega)];simp
 rw[this];exact k
def vV{a:Bs}{t:TLV}{e:bU}{f:Bs->Option β}(h:EL a t e)(k:OW (f (am t)) Q):OW ((slc a e.2.2.2.1 e.2.2.2.2.2).bind f) Q:=by rw[h.whole];exact k
def At{α:Type}{x:α}{r:List α}{A B:Option β}(h:OW B Q):OW (bif (((x::r).length:Nat):Int)==0 then A else B) Q:=by
 have:((((x::r).length:Nat):Int)==0)=false:=aic.2 (by simp only[ahL];omega);rw[this];exact h
def Dt{α:Type}{A B:Option β}(h:OW A Q):OW (bif ((([]:List α).length:Nat):Int)==0 then A else B) Q:=h
def oz{α:Type}{x:α}{r:List α}{A B:Option β}(h:OW A Q):OW (bif decide ((((x::r).length:Nat):Int)>0) then A else B) Q:=by
 rw[ahK (by simp only[ahL];omega)];exact h
def rt{α:Type}{A B:Option β}(h:OW B Q):OW (bif decide (((([]:List α).length:Nat):Int)>0) then A else B) Q:=h
def eD{α:Type}{x:Option α}{v:α}{f:α->Option β}(h:x=some v)(k:OW (f v) Q):OW (x.bind f) Q:=by rw[h];exact k
def k_z{A B:Option β}(h:OW B Q):OW (bif ((0:Int) !=0) then A else B) Q:=h
def Au{A B:Option β}(h:OW A Q):OW (bif ((0:Int)==0) then A else B) Q:=h
def KN{e:Int}{A B:Option β}(a:e≠0)(h:OW A Q):OW (bif (e !=0) then A else B) Q:=by rw[qj a];exact h
def IJ{e:Int}{A B:Option β}(a:e≠0)(h:OW B Q):OW (bif (e==0) then A else B) Q:=by rw[aic.2 a];exact h
end
def abI{P:Prop}(h:P:=by repeat (first|(dsimp only;first|with_reducible exact(zz _)|with_reducible refine gq ?_|with_reducible refine k_z ?_|with_reducible refine Au ?_|with_reducible refine KN (by first|assumption|decide) ?_|with_reducible refine IJ (by first|assumption|decide) ?_|with_reducible refine k_t ?_|with_reducible refine k_f ?_|with_reducible refine jO ?_|with_reducible refine At ?_|with_reducible refine Dt ?_|with_reducible refine oz ?_|with_reducible refine rt ?_|with_reducible refine sY ?_|with_reducible refine jQ ?_|with_reducible refine lM ?_|with_reducible refine uu ?_|with_reducible refine Fj ?_|with_reducible refine vV (by assumption) ?_|with_reducible refine eD (by assumption) ?_)|with_reducible exact(zz _)|with_reducible refine gq ?_|with_reducible refine k_z ?_|with_reducible refine Au ?_|with_reducible refine KN (by first|assumption|decide) ?_|with_reducible refine IJ (by first|assumption|decide) ?_|with_reducible refine k_t ?_|with_reducible refine k_f ?_|with_reducible refine jO ?_|with_reducible refine At ?_|with_reducible refine Dt ?_|with_reducible refine oz ?_|with_reducible refine rt ?_|with_reducible refine sY ?_|with_reducible refine jQ ?_|with_reducible refine lM ?_|with_reducible refine uu ?_|with_reducible refine Fj ?_|with_reducible refine vV (by assumption) ?_|with_reducible refine eD (by assumption) ?_|exact(zz _))):P:=h
def afj(g:FN NN)(v:Ent)(h:B8 v=true)(a:Bs)(n:xq v=a)(D:a.length<190000):gH NN a=some (v,0,0):=by
 have b:(oO v).length<a.length:=by rw[<-n];exact gS
 have C:=h;unfold B8 at h;simp only[ahF,ai1,aij]at h;obtain⟨j,k,m,i⟩:=h;have u:∀t∈II v,okT t:=by
  unfold II;intro t e;simp only[ah8]at e;rcases e with rfl|rfl|e
  ·exact⟨by omega,by show 2<31;omega,by show v.1.length<=_;omega⟩
  ·exact Fe _
  ·unfold oO at b;cases o:v.2.2.isEmpty
   ·rw[o]at e b;rw[aiF.1 e];simp only[ahJ,ahM]at b;have:=lu (Fc v.2.2);have q:(am (Fc v.2.2)).length=(lh v.2.2).length:=rfl;exact⟨by show 0<4;omega,by show 16<31;omega,by omega⟩
   ·rw[o]at e;cases e
 obtain⟨l,w,d⟩:=m8 g (c:=0) (num:=16) (by omega) (by omega) a (II v) (by rw[Yh];exact n.symm) u (by omega) 0 16 rfl rfl;have z:=aaV g v.1 j k;have e:=NP g v.2.1 m (am (kP v.2.1)) rfl;suffices OW (gH NN a) λr=>r=(v,0,0) by
  obtain⟨r,y,rfl⟩:=this;exact y
 unfold gH je syv;rw[w,ahE];obtain⟨s,t,x⟩:=v;dsimp only at j k m i z e;unfold II at d;dsimp only at d;cases f:x.isEmpty
 ·rw[f]at d;simp only[ahM]at d;rw[f]at i;have p:lj x=true:=by simpa using i
  have E:=T6 g x p (am (Fc x)) rfl (by
   unfold oO at b;rw[f]at b;simp only[ahJ,ahM]at b;have q:(am (Fc x)).length=(lh x).length:=rfl;omega)
  cases d with
  |cons A d=>cases d with
   |cons B d=>cases d with
    |cons F d=>
     cases d
     (have zz:∀(P:Prop)(h:P:=by exact aa rfl),P:=λ_ h=>h;exact abI)
 ·rw[f]at d;simp only[ahS]at d;obtain rfl:x=[]:=alp.1 f;cases d with
  |cons A d=>cases d with
   |cons B d=>
    cases d
    (have zz:∀(P:Prop)(h:P:=by exact aa rfl),P:=λ_ h=>h;exact abI)
end Go.Fw
namespace Go.Fw
open Go
def EL.lb{a:Bs}{t:TLV}{e:bU}(h:EL a t e):0<=e.2.2.2.1/\e.2.2.2.1<=(a.length:Int)/\(am t).length<=a.length:=by
 obtain⟨p,q,r,b,c,d,f,g,i,b7⟩:=h.bd;rw[b];omega
end Go.Fw
namespace Go.Fw
open Go
noncomputable def NX(e:Ent):TLV:=(0,true,16,oO e)
noncomputable def qy(es:List Ent):Bs:=(es.map xq).flatten
noncomputable def PR(es:List Ent):Bs:=tlv 0 true 16 (qy es)
def Mz(es:List Ent):aA (es.map NX)=qy es:=by unfold aA qy;rw[List.map_map];rfl
end Go.Fw
namespace Go.Fw
open Go
def adg{es:List Ent}(h:(qy es).length<9000000):∀t∈es.map NX,okT t:=by
 intro t b;obtain⟨e,a,rfl⟩:=aiz.1 b;have c:=vQ xq es e a;have d:(oO e).length<(xq e).length:=gS;have f:((es.map xq).flatten).length=(qy es).length:=rfl;exact⟨by show 0<4;omega,by show 16<31;omega,by show(oO e).length<=_;omega⟩
def adh(g:FN NN)(es:List Ent)(h:es.all B8=true)(m:es≠[])(a:Bs)(p:PR es=a)(A:a.length<190000):iC NN a=some (es,0,0):=by
 have j:=g;unfold FN at j;have s:(qy es).length<a.length:=by rw[<-p];exact gS
 obtain⟨l,u,q⟩:=m8 g (c:=0) (num:=16) (by omega) (by omega) a (es.map NX) (by rw[Mz];exact p.symm) (adg (by omega)) (by omega) 0 16 rfl rfl;have f:=q.length;rw[aiq]at f;have k:=iV (es.map NX);rw[Mz,aiq]at k;suffices OW (iC NN a) λr=>r=(es,0,0) by
  obtain⟨r,e,rfl⟩:=this;exact e
 unfold iC;rw[u,ahE];dsimp only;refine ai (R:=λr=>r=(a,[],0,0,es)) ?_ ?_
 ·unfold jz;refine gE _ es.length (λi v=>∃d,v=(a,d,0,0,es.take i)/\gz (EL a) ((es.drop i).map NX) d) ?_ NN 0 _ (by omega) (by omega) ⟨l,rfl,q⟩;rintro G i _ B ⟨d,rfl,e⟩ rec;dsimp only;refine Au ?_;by_cases b:i<es.length
  ·rw[ah9 b,ahU]at e;cases e with
   | @cons t x C r n e=>
     obtain⟨w,y,z⟩:=n.lb;refine oz ?_;refine jQ (lM (At (gq ?_)));dsimp only;refine lM (k_z (jQ (uu (jQ (Fj (jQ (vV n (jQ ?_))))))));have o:B8 es[i]=true:=ah7.1 h _ (ais b);refine eD (afj g es[i] o (am (NX es[i])) rfl (by omega)) ?_;dsimp only;refine lM (Au (jQ (lM (k_z (gq (gq ?_))))));dsimp only;rw[fY (by omega) (by simp;omega)];refine gq (rec _ b ⟨r,?_,e⟩);rw[aiM,ahG b];rfl
  ·rw[aji (by omega)]at e;cases e;rw[aib (by omega)];exact aa rfl
 ·rintro _ rfl;dsimp only;have o:0<es.length:=by cases es with
   |nil=>exact absurd rfl m
   |cons=>simp
  refine lM (rt (gq ?_));dsimp only;rw[ahK (by omega)];exact lM (jO (k_t (gq (aa rfl))))
abbrev mQ:=Int×(Bs×Bs)×List Rdn×kJ×Bool×kJ×List Ent×List eS
noncomputable def xf(N:Nat)(ver:Int)(e:Ent):Bool:=decide (e.1.length<=20)&&(mN e.1&&(me e.2.1&&(HW N e.2.2&&(decide (ver>0)||((e.2.2.length:Int)==0)))))
def adi(a:FN NN)(ver:Int)(e:Ent)(h:XB e.2.2):iM NN e ver=some (xf NN ver e):=by
 unfold iM xf syv;rw[kX,z8,NW a _ h];simp only[ahE];rw[show decide ((e.1.length:Int)<=20)=decide (e.1.length<=20) from ak0.2 (by omega)];generalize decide (e.1.length<=20)=c1;generalize mN e.1=c2;generalize me e.2.1=c3;generalize HW NN e.2.2=c4;generalize decide (ver>0)=c5;generalize ((e.2.2.length:Int)==0)=c6;cases c1<;>cases c2<;>cases c3<;>cases c4<;>cases c5<;>rfl
noncomputable def B9(N:Nat)(ver:Int):List Bs->List Ent->Bool
 |_,[]=>true
 |seen,e::r=> !Hn e.1 seen&&(xf N ver e&&B9 N ver (BX e.1 seen) r)
def OU(N:Nat)(ver:Int)(seen:List Bs)(e:Ent)(r:List Ent):B9 N ver seen (e::r)=(!Hn e.1 seen&&(xf N ver e&&B9 N ver (BX e.1 seen) r)):=rfl
def aaW(q:FN NN)(es:List Ent)(A:es.length<10000000)(w:∀e∈es,XB e.2.2)(ver:Int)(s:Bs)(p:Bs)(n:List Rdn)(f t2 t3 t4 t5 g:Int)(b:Bool)(k u2 u3 u4 l m:Int)(a:List Ent)(x:List eS):
 fT NN NN (es,(es.length:Int),0,ver,s,p,n,f,t2,t3,t4,t5,g,b,k,u2,u3,u4,l,m,a,x,[])=some (bif B9 NN ver [] es then .inr (ver,s,p,n,f,t2,t3,t4,t5,g,b,k,u2,u3,u4,l,m,a,x) else .inl ()):=by
 have o:=q;unfold FN at o;suffices OW (fT NN NN (es,(es.length:Int),0,ver,s,p,n,f,t2,t3,t4,t5,g,b,k,u2,u3,u4,l,m,a,x,[])) λr=>r=bif B9 NN ver [] es then .inr (ver,s,p,n,f,t2,t3,t4,t5,g,b,k,u2,u3,u4,l,m,a,x) else .inl () by
  obtain⟨r,v,rfl⟩:=this;exact v
 unfold fT syv;refine gE _ es.length (λi y=>∃j seen,y=(es,(es.length:Int),j,ver,s,p,n,f,t2,t3,t4,t5,g,b,k,u2,u3,u4,l,m,a,x,seen)/\j=(i:Int)/\B9 NN ver [] es=B9 NN ver seen (es.drop i)) ?_ NN 0 _ (by omega) (by omega) ⟨_,_,rfl,rfl,rfl⟩;rintro G i _ z ⟨j,seen,rfl,rfl,c⟩ rec;dsimp only;refine bM (λh=> ?_) λh=> ?_
 ·have d:i<es.length:=by omega
  rw[ah9 d]at c;rw[OU]at c;rw[cr (ahG d)];refine gq ?_;cases u:Hn es[i].1 seen
  ·rw[u]at c;refine k_f (eD (adi q ver es[i] (w _ (ais d))) ?_);cases t:xf NN ver es[i]
   ·rw[t]at c;refine jO (k_f (aa ?_));rw[c];rfl
   ·rw[t]at c;refine jO (k_t (rec _ d ⟨_,_,rfl,cC (by omega),?_⟩));rw[c];rfl
  ·rw[u]at c;refine k_t (aa ?_);rw[c];rfl
 ·rw[aji (by omega)]at c;refine aa ?_;rw[c];rfl
def MA(t:kJ):Bool:=(t.1==0)&&((t.2.1==0)&&((t.2.2.1==0)&&((t.2.2.2.1==0)&&((t.2.2.2.2.1==0)&&(t.2.2.2.2.2==0)))))
noncomputable def oV(N:Nat)(v:mQ):Bool:= !(v.1 !=0&&v.1 !=1)&&(uw N v.2.1&&(!((v.2.2.1.length:Int)==0)&&(oU N v.2.2.1&&(me v.2.2.2.1&&((bif v.2.2.2.2.1 then me v.2.2.2.2.2.1 else MA v.2.2.2.2.2.1)&&(B9 N v.1 [] v.2.2.2.2.2.2.1&&(HW N v.2.2.2.2.2.2.2&&(decide (v.1>0)||((v.2.2.2.2.2.2.2.length:Int)==0)))))))))
def LB(v:mQ):Prop:=v.2.1.1.length<10000000/\v.2.1.2.length<10000000/\wN v.2.2.1<10000000/\v.2.2.2.2.2.2.1.length<10000000/\(∀e∈v.2.2.2.2.2.2.1,XB e.2.2)/\XB v.2.2.2.2.2.2.2
def Fk(a:FN NN)(v:mQ)(h:LB v):f9 NN v=some (oV NN v):=by
 obtain⟨b,c,d,e,f,g⟩:=h;unfold f9 oV syv;simp only[O0 a v.2.1 b c,VV a v.2.2.1 d,z8,aaW a v.2.2.2.2.2.2.1 e f,ahE];have i:=NW a _ g;have j:((v.2.2.2.2.2.1.1==0)&&((v.2.2.2.2.2.1.2.1==0)&&((v.2.2.2.2.2.1.2.2.1==0)&&((v.2.2.2.2.2.1.2.2.2.1==0)&&((v.2.2.2.2.2.1.2.2.2.2.1==0)&&(v.2.2.2.2.2.1.2.2.2.2.2==0))))))=MA v.2.2.2.2.2.1:=rfl;rw[j];generalize uw NN v.2.1=c1;generalize ((v.2.2.1.length:Int)==0)=c2;generalize oU NN v.2.2.1=c3;generalize me v.2.2.2.1=c4;generalize v.2.2.2.2.1=c5;generalize me v.2.2.2.2.2.1=c6;generalize MA v.2.2.2.2.2.1=c7;generalize B9 NN v.1 [] v.2.2.2.2.2.2.1=c8;generalize (v.1 !=0)=d1;generalize (v.1 !=1)=d2;cases d1<;>cases d2<;>(try rfl)<;>cases c1<;>(try rfl)<;>cases c2<;>(try rfl)<;>cases c3<;>(try rfl)<;>cases c4<;>(try rfl)<;>cases c5<;>cases c6<;>(try rfl)<;>cases c7<;>(try rfl)<;>cases c8<;>(try rfl)<;>simp only[ahS,ahM,aiK,aj7,akk,Bool.and_true,alz,i,ahE]<;>cases HW NN v.2.2.2.2.2.2.2<;>(try rfl)<;>cases decide (v.1>0)<;>rfl
end Go.Fw
namespace Go.Fw
open Go
noncomputable def HY(ver:Int):Bs:=bif decide (ver>0) then am (0,false,2,pn 1) else []
noncomputable def Fl(b:Bool)(u:kJ):Bs:=bif b then rH u else []
noncomputable def BB(es:List Ent):Bs:=bif decide (((es.length:Nat):Int)>0) then PR es else []
noncomputable def Fm(x:List eS):Bs:=bif decide (((x.length:Nat):Int)>0) then am (2,true,0,lh x) else []
noncomputable def clB(v:mQ):Bs:=HY v.1++(Cc v.2.1++(rG v.2.2.1++(rH v.2.2.2.1++(Fl v.2.2.2.2.1 v.2.2.2.2.2.1++(BB v.2.2.2.2.2.2.1++Fm v.2.2.2.2.2.2.2)))))
noncomputable def clE(v:mQ):Bs:=am (0,true,16,clB v)
def Ue(g:FN NN){ver:Int}{e:Ent}(i:XB e.2.2)(h:xf NN ver e=true):B8 e=true:=by
 unfold xf at h;simp only[ahF,aij]at h;obtain⟨b,c,d,f,_⟩:=h;unfold B8;rcases Sn g i f with a|a
 ·simp[b,c,d,a]
 ·simp[b,c,d,a]
def KP{N:Nat}{ver:Int}:∀(es:List Ent)(seen:List Bs),B9 N ver seen es=true->∀e∈es,xf N ver e=true
 |[],_,_,_,h=>by cases h
 |a::r,seen,h,e,b=>by
  rw[OU]at h;simp only[ahF]at h;rcases ah8.1 b with rfl|b
  ·exact h.2.1
  ·exact KP r _ h.2.2 e b
def V8(q:FN NN)(es:List Ent)(z:es.length<10000000)(v:∀e∈es,XB e.2.2)(t:∀e∈es,B8 e=true)(ver:Int)(s:Bs)(p:Bs)(n:List Rdn)(f t2 t3 t4 t5 g:Int)(b:Bool)(k u2 u3 u4 l m:Int)(a:List Ent)(x:List eS)(i0:Int)(d:List Bs):
 eg NN NN (es,(es.length:Int),0,ver,s,p,n,f,t2,t3,t4,t5,g,b,k,u2,u3,u4,l,m,a,x,i0,d,0,[])=some (ver,s,p,n,f,t2,t3,t4,t5,g,b,k,u2,u3,u4,l,m,a,x,i0,d,0,es.map xq):=by
 have o:=q;unfold FN at o;suffices OW (eg NN NN (es,(es.length:Int),0,ver,s,p,n,f,t2,t3,t4,t5,g,b,k,u2,u3,u4,l,m,a,x,i0,d,0,[])) λr=>r=(ver,s,p,n,f,t2,t3,t4,t5,g,b,k,u2,u3,u4,l,m,a,x,i0,d,0,es.map xq) by
  obtain⟨r,u,rfl⟩:=this;exact u
 unfold eg;refine gE _ es.length (λi w=>∃j,w=(es,(es.length:Int),j,ver,s,p,n,f,t2,t3,t4,t5,g,b,k,u2,u3,u4,l,m,a,x,i0,d,0,(es.take i).map xq)/\j=(i:Int)) ?_ NN 0 _ (by omega) (by omega) ⟨_,rfl,rfl⟩;rintro G i _ y ⟨j,rfl,rfl⟩ rec;dsimp only;refine bM (λh=> ?_) λh=> ?_
 ·have c:i<es.length:=by omega
  rw[cr (ahG c)];refine gq (eD (agq q es[i] (t _ (ais c)) (v _ (ais c)).1) ?_);dsimp only;rw[fY (by omega) (by simp;omega),rq];refine gq (rec _ c ⟨_,?_,cC (by omega)⟩);rw[aiM,ahG c,aiN];rfl
 ·rw[aib (by omega)];exact aa rfl
def ru{a α:Type}{Q:a->Prop}{w:Nat}{l:List α}{x:α}{f:List α->Option a}(b:w<=200)(h:l.length<=100)(k:OW (f (l++[x])) Q):OW ((app w l [x]).bind f) Q:=by
 rw[fY b (by simp;omega)];exact k
def OV(l:List Bs)(x:Bs):(l++[x]).flatten=l.flatten++x:=by simp
def afk(d:FN NN)(v:mQ)(h:LB v)(K:(clB v).length<100000000):eA NN v=some (bif oV NN v then(clE v,0) else([],8)):=by
 have O:=Fk d v h;cases z:oV NN v
 ·unfold eA;rw[O,z];rfl
 ·rw[z]at O;unfold oV at z;simp only[ahF]at z;obtain⟨_,Y,_,Z,k5,k6,k7,k8,_⟩:=z;obtain⟨T,U,V,W,A,w⟩:=h;obtain⟨a,⟨s,p⟩,n,⟨k,l,m,o,q,t⟩,b,⟨g,u2,u3,u4,i,j⟩,c,x⟩:=v;dsimp only at Y Z k5 k6 k7 k8 T U V W A w;have C:=abP d (s,p) T U;rw[Y]at C;have G:=R5 d n V;rw[Z]at G;have M:=Sc d (k,l,m,o,q,t);rw[k5]at M;simp only[ahS]at C G M;have H:∀e∈c,B8 e=true:=λe X=>Ue d (A e X) (KP c [] k7 e X);have I:=aaE d 1;have J:iT NN 1=some (pn 1):=I;suffices OW (eA NN (a,(s,p),n,(k,l,m,o,q,t),b,(g,u2,u3,u4,i,j),c,x)) λr=>r=(clE (a,(s,p),n,(k,l,m,o,q,t),b,(g,u2,u3,u4,i,j),c,x),0) by
   obtain⟨r,I,rfl⟩:=this;exact I
  unfold eA;rw[O];refine gq (jO (k_t ?_));dsimp only;refine ai (R:=λr=>∃L:List Bs,r=(a,s,p,n,k,l,m,o,q,t,b,g,u2,u3,u4,i,j,c,x,0,L)/\L.length<=1/\L.flatten=HY a) ?_ ?_
  ·unfold HY;refine bM (λf=> ?_) λf=> ?_
   ·rw[ahK f];refine eD J (eD (qi d 0 2 false (pn 1) 0 2 rfl rfl (by omega) (by omega) (by have:=KJ 1;omega)) ?_);dsimp only;refine ru (by omega) (by simp) (aa ⟨[]++[am (0,false,2,pn 1)],by rw[rq],by simp,?_⟩);simp only[ahS,ait,List.flatten_cons,List.flatten_nil,ah4]
   ·rw[ahH f];exact aa ⟨_,rfl,by simp,by simp⟩
  ·rintro _ ⟨L1,rfl,f7,y⟩;dsimp only;refine eD C ?_;dsimp only;refine ru (by omega) (by omega) (eD G ?_);dsimp only;refine ru (by omega) (by simp;omega) (eD M ?_);dsimp only;refine ru (by omega) (by simp;omega) ?_;simp only[rq];refine ai (R:=λr=>∃L:List Bs,r=(a,s,p,n,k,l,m,o,q,t,b,g,u2,u3,u4,i,j,c,x,0,L)/\L.length<=5/\L.flatten=HY a++(Cc (s,p)++(rG n++(rH (k,l,m,o,q,t)++Fl b (g,u2,u3,u4,i,j))))) ?_ ?_
   ·unfold Fl;cases b
    ·refine k_f (aa ⟨_,rfl,by simp;omega,?_⟩);simp only[akC,List.flatten_cons,List.flatten_nil,y,ah6,ahM,ah4]
    ·have N:=Sc d (g,u2,u3,u4,i,j);have Q:me (g,u2,u3,u4,i,j)=true:=k6;rw[Q]at N;simp only[ahS]at N;refine k_t (eD N ?_);dsimp only;refine ru (by omega) (by simp;omega) ?_;simp only[rq];refine aa ⟨_,rfl,by simp;omega,?_⟩;simp only[akC,List.flatten_cons,List.flatten_nil,ah4,y,ah6,ahS]
   ·rintro _ ⟨S,rfl,f8,D⟩;dsimp only;refine ai (R:=λr=>∃L:List Bs,r=(a,s,p,n,k,l,m,o,q,t,b,g,u2,u3,u4,i,j,c,x,0,L)/\L.length<=6/\L.flatten=S.flatten++BB c) ?_ ?_
    ·unfold BB;refine bM (λf=> ?_) λf=> ?_
     ·rw[ahK f];refine eD (V8 d c W A H a s p n k l m o q t b g u2 u3 u4 i j c x 0 S) ?_;dsimp only;refine k_z (eD (Bx d _ (qy c) rfl (by rw[aiq];omega) ?_) ?_)
      ·unfold clB BB at K;rw[ahK f]at K;simp only[ahJ,ahS]at K;have:(qy c).length<(PR c).length:=gS;omega
      ·dsimp only;refine ru (by omega) (by omega) ?_;simp only[rq];refine aa ⟨_,rfl,by simp;omega,?_⟩;rw[OV,ahS];rfl
     ·rw[ahH f];exact aa ⟨_,rfl,by omega,by simp⟩
    ·rintro _ ⟨L3,rfl,f9,E⟩;dsimp only;refine ai (R:=λr=>∃L:List Bs,r=(0,L)/\L.length<=7/\L.flatten=L3.flatten++Fm x) ?_ ?_
     ·unfold Fm;refine bM (λf=> ?_) λf=> ?_
      ·rw[ahK f];have P:lj x=true:=by
        rcases Sn d w k8 with B|B
        ·rw[B]at f;simp at f
        ·exact B
       have u:=XP d x w.1;rw[P]at u;simp only[ahS]at u;refine eD u (eD (qi d 2 0 true (lh x) 2 0 rfl rfl (by omega) (by omega) ?_) ?_)
       ·have h9:=OO x (by have:=w.1;omega);have:=w.1;omega
       ·dsimp only;refine ru (by omega) (by omega) ?_;simp only[rq];refine aa ⟨_,rfl,by simp;omega,?_⟩;rw[OV,ahS]
      ·rw[ahH f];exact aa ⟨_,rfl,by omega,by simp⟩
     ·rintro _ ⟨L4,rfl,j3,F⟩;dsimp only;refine k_z (eD (Bx d _ (clB (a,(s,p),n,(k,l,m,o,q,t),b,(g,u2,u3,u4,i,j),c,x)) ?_ (by omega) (by omega)) (aa rfl));rw[F,E,D];unfold clB;simp only[ah6]
end Go.Fw
namespace Go.Fw
open Go
section
variable {β:Type}{Q:β→Prop}
def agr(b:FN NN):fD NN (am (0,false,2,pn 1)) 2=some (1,0,0):=by
 have d:=KJ 1;obtain⟨e,c,a⟩:=IA b (0,false,2,pn 1) ⟨by omega,by show 2<31;omega,by show(pn 1).length<=_;omega⟩;unfold fD oG syv;rw[c,ahE];dsimp only;rw[show((0:Int) !=0)=false from rfl,ahM,a.yes 0 2 false 0 2 rfl rfl rfl rfl rfl,ahE,aiK,ahM,a.body,ahE,T8 b _ (by show(pn 1).length<_;omega),ahE];dsimp only;rw[ac5,ahK (by omega),ae4 1 (by omega)];rfl
def afl(b:FN NN)(x:List eS)(h:lj x=true)(d:(lh x).length<190000):kn NN (am (2,true,0,lh x))=some (x,0,0):=by
 obtain⟨e,c,a⟩:=IA b (2,true,0,lh x) ⟨by omega,by show 0<31;omega,by show(lh x).length<=_;omega⟩;unfold kn syv;rw[c,ahE];dsimp only;rw[show((0:Int) !=0)=false from rfl,ahM,a.yes 2 0 true 2 0 rfl rfl rfl rfl rfl,ahE,aiK,ahM,a.body,ahE,T6 b x h _ rfl (by omega)];rfl
end
end Go.Fw
namespace Go.Fw
open Go
noncomputable def isB(x:bU)(k:Bool)(n:Int):Bool:=(bA x 0 k n).getD false
def PT(x:bU)(k:Bool)(n:Int):bA x 0 k n=some (isB x k n):=by
 obtain⟨c,h,_⟩:=rI x 0 n k;unfold isB;rw[h];rfl
def IL{a:Bs}{t:TLV}{x:bU}(h:EL a t x)(k:Bool)(n:Nat)(b:t.1=0)(c:t.2.1=k)(d:t.2.2.1=n):isB x k (n:Int)=true:=by
 unfold isB;rw[h.yes 0 n k 0 n rfl rfl b c d];rfl
def MB{a:Bs}{t:TLV}{x:bU}(h:EL a t x)(k:Bool)(n:Nat)(b:¬(t.1=0/\t.2.1=k/\t.2.2.1=n)):isB x k (n:Int)=false:=by
 unfold isB;rw[h.no 0 n k 0 n rfl rfl b];rfl
def abJ(c:FN NN)(a:Bs)(x:bU)(r:List bU)(e o:Int):fU NN NN ([2],(([2]:List Int).length:Int),0,a,x::r,e,o)=some (bif isB x false 2 then .inl (0,a,x::r,e,o) else .inr (a,x::r,e,o)):=by
 unfold FN at c;suffices OW (fU NN NN ([2],(([2]:List Int).length:Int),0,a,x::r,e,o)) λy=>y=bif isB x false 2 then .inl (0,a,x::r,e,o) else .inr (a,x::r,e,o) by
  obtain⟨y,d,rfl⟩:=this;exact d
 unfold fU;refine gE _ 1 (λi f=>f=([2],1,(i:Int),a,x::r,e,o)/\(i=1->isB x false 2=false)) ?_ NN 0 _ (by omega) (by omega) ⟨rfl,λh=>by omega⟩;rintro G i _ g ⟨rfl,b⟩ rec;dsimp only;rcases (by omega:i=0∨i=1) with rfl|rfl
 ·refine bM (λ_=> ?_) λh=>absurd (by decide) h;refine eD (show ix [2] ((0:Nat):Int)=some 2 from rfl) (uu (eD (PT x false 2) ?_));refine ax (λh=>aa (by rw[h];rfl)) λh=> ?_;exact(by rw[cC (by omega)];exact rec _ (by omega) ⟨rfl,λ_=>h⟩)
 ·refine bM (λh=>absurd h (by decide)) λ_=>aa ?_;rw[b rfl];rfl
def abK(j:FN NN)(a:Bs)(x:bU)(r:List bU)(e o ver:Int)(s p:Bs)(n:List Rdn)(b t2 t3 t4 t5 c:Int):∃i:Int,0<=i/\fV NN NN ([23,24],(([23,24]:List Int).length:Int),0,a,x::r,e,o,ver,s,p,n,b,t2,t3,t4,t5,c)=some (bif isB x false 23||isB x false 24 then .inl (i,a,x::r,e,o,ver,s,p,n,b,t2,t3,t4,t5,c) else .inr (a,x::r,e,o,ver,s,p,n,b,t2,t3,t4,t5,c)):=by
 unfold FN at j;suffices OW (fV NN NN ([23,24],(([23,24]:List Int).length:Int),0,a,x::r,e,o,ver,s,p,n,b,t2,t3,t4,t5,c)) λy=>∃i:Int,0<=i/\y=bif isB x false 23||isB x false 24 then .inl (i,a,x::r,e,o,ver,s,p,n,b,t2,t3,t4,t5,c) else .inr (a,x::r,e,o,ver,s,p,n,b,t2,t3,t4,t5,c) by
  obtain⟨y,k,i,f,rfl⟩:=this;exact⟨i,f,k⟩
 unfold fV;refine gE _ 2 (λi l=>l=([23,24],2,(i:Int),a,x::r,e,o,ver,s,p,n,b,t2,t3,t4,t5,c)/\(1<=i->isB x false 23=false)/\(i=2->isB x false 24=false)) ?_ NN 0 _ (by omega) (by omega) ⟨rfl,λh=>by omega,λh=>by omega⟩;rintro G i _ f ⟨rfl,d,g⟩ rec;dsimp only;rcases (by omega:i=0∨i=1∨i=2) with rfl|rfl|rfl
 ·refine bM (λ_=> ?_) λh=>absurd (by decide) h;refine eD (show ix [23,24] ((0:Nat):Int)=some 23 from rfl) (uu (eD (PT x false 23) ?_));refine ax (λh=>aa ⟨((0:Nat):Int),by omega,by rw[h];rfl⟩) λh=> ?_;exact(by rw[cC (by omega)];exact rec _ (by omega) ⟨rfl,λ_=>h,λh=>by omega⟩)
 ·refine bM (λ_=> ?_) λh=>absurd (by decide) h;refine eD (show ix [23,24] ((1:Nat):Int)=some 24 from rfl) (uu (eD (PT x false 24) ?_));refine ax (λh=>aa ⟨((1:Nat):Int),by omega,by rw[h,Bool.or_true];rfl⟩) λh=> ?_;exact(by rw[cC (by omega)];exact rec _ (by omega) ⟨rfl,λ_=>d (by omega),λ_=>h⟩)
 ·refine bM (λh=>absurd h (by decide)) λ_=>aa ⟨0,by omega,?_⟩;rw[d (by omega),g rfl];rfl
def abL(l:FN NN)(a:Bs)(x:bU)(r:List bU)(e o ver:Int)(s p:Bs)(n:List Rdn)(c t2 t3 t4 t5 d:Int)(b:Bool)(f u2 u3 u4 g j:Int):fW NN NN ([16],(([16]:List Int).length:Int),0,a,x::r,e,o,ver,s,p,n,c,t2,t3,t4,t5,d,b,f,u2,u3,u4,g,j)=some (bif isB x true 16 then .inl (0,a,x::r,e,o,ver,s,p,n,c,t2,t3,t4,t5,d,b,f,u2,u3,u4,g,j) else .inr (a,x::r,e,o,ver,s,p,n,c,t2,t3,t4,t5,d,b,f,u2,u3,u4,g,j)):=by
 unfold FN at l;suffices OW (fW NN NN ([16],(([16]:List Int).length:Int),0,a,x::r,e,o,ver,s,p,n,c,t2,t3,t4,t5,d,b,f,u2,u3,u4,g,j)) λy=>y=bif isB x true 16 then .inl (0,a,x::r,e,o,ver,s,p,n,c,t2,t3,t4,t5,d,b,f,u2,u3,u4,g,j) else .inr (a,x::r,e,o,ver,s,p,n,c,t2,t3,t4,t5,d,b,f,u2,u3,u4,g,j) by
  obtain⟨y,m,rfl⟩:=this;exact m
 unfold fW;refine gE _ 1 (λi q=>q=([16],1,(i:Int),a,x::r,e,o,ver,s,p,n,c,t2,t3,t4,t5,d,b,f,u2,u3,u4,g,j)/\(i=1->isB x true 16=false)) ?_ NN 0 _ (by omega) (by omega) ⟨rfl,λh=>by omega⟩;rintro G i _ t ⟨rfl,k⟩ rec;dsimp only;rcases (by omega:i=0∨i=1) with rfl|rfl
 ·refine bM (λ_=> ?_) λh=>absurd (by decide) h;refine eD (show ix [16] ((0:Nat):Int)=some 16 from rfl) (uu (eD (PT x true 16) ?_));refine ax (λh=>aa (by rw[h];rfl)) λh=> ?_;exact(by rw[cC (by omega)];exact rec _ (by omega) ⟨rfl,λ_=>h⟩)
 ·refine bM (λh=>absurd h (by decide)) λ_=>aa ?_;rw[k rfl];rfl
end Go.Fw
namespace Go.Fw
open Go
noncomputable def H0(v:Bs×Bs):TLV:=(0,true,16,am (fZ v.1)++v.2)
noncomputable def So(ver:Int):List TLV:=bif decide (ver>0) then [(0,false,2,pn 1)] else []
noncomputable def yB(b:Bool)(u:kJ):List TLV:=bif b then [kP u] else []
noncomputable def oP(es:List Ent):List TLV:=bif decide (((es.length:Nat):Int)>0) then [(0,true,16,qy es)] else []
noncomputable def nS(x:List eS):List TLV:=bif decide (((x.length:Nat):Int)>0) then [(2,true,0,lh x)] else []
noncomputable def Aw(v:mQ):List TLV:=So v.1++(H0 v.2.1::ID v.2.2.1::kP v.2.2.2.1::(yB v.2.2.2.2.1 v.2.2.2.2.2.1++(oP v.2.2.2.2.2.2.1++nS v.2.2.2.2.2.2.2)))
def KS(x y:List TLV):aA (x++y)=aA x++aA y:=by simp[aA]
def afp(ver:Int):aA (So ver)=HY ver:=by unfold So HY;cases decide (ver>0)<;>simp[aA]
def adl(b:Bool)(u:kJ):aA (yB b u)=Fl b u:=by unfold yB Fl;cases b<;>simp[aA,rH]
def adm(es:List Ent):aA (oP es)=BB es:=by
 unfold oP BB;cases decide (((es.length:Nat):Int)>0)
 ·rfl
 ·simp only[ahS,aA,ahU,ai0,List.flatten_cons,List.flatten_nil,ah4];rfl
def adn(x:List eS):aA (nS x)=Fm x:=by unfold nS Fm;cases decide (((x.length:Nat):Int)>0)<;>simp[aA]
def KT(v:mQ):aA (Aw v)=clB v:=by
 unfold Aw clB;rw[KS,iq,iq,iq,KS,KS,afp,adl,adm,adn];rfl
def ado(v:mQ)(h:(clB v).length<10000000):∀t∈Aw v,okT t:=by
 have e:∀t∈Aw v,t.1<4/\t.2.2.1<31:=by
  unfold Aw So yB oP nS;intro t a;have c:=(Fe v.2.2.2.1);have d:=(Fe v.2.2.2.2.2.1);simp only[air,ah8]at a;rcases a with a|rfl|rfl|rfl|a|a|a
  ·cases b:decide (v.1>0)
   ·rw[b]at a;cases a
   ·rw[b]at a;rw[aiF.1 a];exact⟨by decide,by show 2<31;decide⟩
  ·exact⟨by show 0<4;decide,by show 16<31;decide⟩
  ·exact⟨by show 0<4;decide,by show 16<31;decide⟩
  ·exact⟨c.1,c.2.1⟩
  ·cases b:v.2.2.2.2.1
   ·rw[b]at a;cases a
   ·rw[b]at a;rw[aiF.1 a];exact⟨d.1,d.2.1⟩
  ·cases b:decide (((v.2.2.2.2.2.2.1.length:Nat):Int)>0)
   ·rw[b]at a;cases a
   ·rw[b]at a;rw[aiF.1 a];exact⟨by show 0<4;decide,by show 16<31;decide⟩
  ·cases b:decide (((v.2.2.2.2.2.2.2.length:Nat):Int)>0)
   ·rw[b]at a;cases a
   ·rw[b]at a;rw[aiF.1 a];exact⟨by show 2<4;decide,by show 0<31;decide⟩
 intro t a;have f:=kO _ t a;rw[KT]at f;have g:=lu t;exact⟨(e t a).1,(e t a).2,by omega⟩
def BC{P:Prop}(h:P:=by repeat (first|(dsimp only;first|with_reducible exact(zz _)|with_reducible refine gq ?_|with_reducible refine k_z ?_|with_reducible refine Au ?_|with_reducible refine KN (by first|assumption|decide) ?_|with_reducible refine IJ (by first|assumption|decide) ?_|with_reducible refine k_t ?_|with_reducible refine k_f ?_|with_reducible refine jO ?_|with_reducible refine At ?_|with_reducible refine Dt ?_|with_reducible refine oz ?_|with_reducible refine rt ?_|with_reducible refine sY ?_|with_reducible refine jQ ?_|with_reducible refine lM ?_|with_reducible refine uu ?_|with_reducible refine Fj ?_|with_reducible refine vV (by assumption) ?_|with_reducible refine eD (by assumption) ?_)|with_reducible exact(zz _)|with_reducible refine gq ?_|with_reducible refine k_z ?_|with_reducible refine Au ?_|with_reducible refine KN (by first|assumption|decide) ?_|with_reducible refine IJ (by first|assumption|decide) ?_|with_reducible refine k_t ?_|with_reducible refine k_f ?_|with_reducible refine jO ?_|with_reducible refine At ?_|with_reducible refine Dt ?_|with_reducible refine oz ?_|with_reducible refine rt ?_|with_reducible refine sY ?_|with_reducible refine jQ ?_|with_reducible refine lM ?_|with_reducible refine uu ?_|with_reducible refine Fj ?_|with_reducible refine vV (by assumption) ?_|with_reducible refine eD (by assumption) ?_|exact(zz _))):P:=h
set_option maxHeartbeats 2000000 in
def ags(B:FN NN)(v:mQ)(hB:LB v)(h:oV NN v=true)(a:Bs)(hE:clE v=a)(ha:a.length<190000):gQ NN a=some (v,0,0):=by
 have j6:(clB v).length<a.length:=by rw[<-hE];exact gS
 obtain⟨l,hp,f⟩:=m8 B (c:=0) (num:=16) (by omega) (by omega) a (Aw v) (by rw[KT];exact hE.symm) (ado v (by omega)) (by omega) 0 16 rfl rfl;have hv:=Fk B v hB;rw[h]at hv;unfold oV at h;simp only[ahF]at h;obtain⟨k1,k2,_,k4,k5,T,k7,k8,_⟩:=h;obtain⟨U,O,h3,h4,h5,h6⟩:=hB;obtain⟨j,⟨s,p⟩,n,⟨D,E,F,G,H,I⟩,b,⟨u,u2,u3,u4,w,z⟩,o,x⟩:=v;dsimp only at k1 k2 k4 k5 T k7 k8 U O h3 h4 h5 h6;have N:j=0∨j=1:=by
  simp only[bne,aja,Bool.and_eq_false_iff,Bool.not_eq_false',ajY]at k1;exact k1
 have L:∀t∈Aw (j,(s,p),n,(D,E,F,G,H,I),b,(u,u2,u3,u4,w,z),o,x),(am t).length<190000:=λt S=>by
  have:=kO _ t S;rw[KT]at this;omega
 have j3:=Yx B (s,p) k2 (am (H0 (s,p))) rfl (by have:=L (H0 (s,p)) (by unfold Aw;simp);omega);have X:=acV B n k4 (am (ID n)) rfl (by have:=L (ID n) (by unfold Aw;simp);omega);have Z:=NP B (D,E,F,G,H,I) k5 (am (kP (D,E,F,G,H,I))) rfl;have j5:=agr B;suffices OW (gQ NN a) λr=>r=((j,(s,p),n,(D,E,F,G,H,I),b,(u,u2,u3,u4,w,z),o,x),0,0) by
  obtain⟨r,V,rfl⟩:=this;exact V
 have J:gz (EL a) (So j++(H0 (s,p)::ID n::kP (D,E,F,G,H,I)::(yB b (u,u2,u3,u4,w,z)++(oP o++nS x)))) l:=f;clear f;unfold gQ ie syv;refine jQ (eD hp (gq ?_));dsimp only;refine ai (R:=λr=>r=(decide (j>0),a,l,0,0)) ?_ ?_
 ·refine Au ?_;rcases N with rfl|rfl
  ·cases J with
   |cons A f=>
    refine oz (eD (abJ B _ _ _ _ _) ?_);rw[show isB _ false 2=false from MB A false 2 (λh=>by cases h.2.1)];exact aa rfl
  ·cases J with
   |cons A f=>
    refine oz (eD (abJ B _ _ _ _ _) ?_);rw[show isB _ false 2=true from IL A false 2 rfl rfl rfl];exact aa rfl
 rintro _ rfl;dsimp only;refine ai (R:=λr=>∃d,r=(a,d,0,0,j)/\gz (EL a) (H0 (s,p)::ID n::kP (D,E,F,G,H,I)::(yB b (u,u2,u3,u4,w,z)++(oP o++nS x))) d) ?_ ?_
 ·rcases N with rfl|rfl
  ·exact aa ⟨l,rfl,J⟩
  ·cases J with
   |cons A f=>
    refine ax (λ_=> ?_) (λh=>by cases h)
    (have zz:∀(P:Prop)(h:P:=by exact aa ⟨_,rfl,f⟩),P:=λ_ h=>h;exact BC)
 clear J hp;rintro _ ⟨d,rfl,f⟩;dsimp only;refine ai (R:=λr=>∃d,r=(a,d,0,0,j,s,p)/\gz (EL a) (ID n::kP (D,E,F,G,H,I)::(yB b (u,u2,u3,u4,w,z)++(oP o++nS x))) d) ?_ ?_
 ·cases f with
  |cons A f=>(have zz:∀(P:Prop)(h:P:=by exact aa ⟨_,rfl,f⟩),P:=λ_ h=>h;exact BC)
 clear f;rintro _ ⟨d,rfl,f⟩;dsimp only;refine ai (R:=λr=>∃d,r=(n,a,d,0,0,j,s,p)/\gz (EL a) (kP (D,E,F,G,H,I)::(yB b (u,u2,u3,u4,w,z)++(oP o++nS x))) d) ?_ ?_
 ·cases f with
  |cons A f=>(have zz:∀(P:Prop)(h:P:=by exact aa ⟨_,rfl,f⟩),P:=λ_ h=>h;exact BC)
 clear f;rintro _ ⟨d,rfl,f⟩;dsimp only;refine ai (R:=λr=>∃d,r=(a,d,0,0,j,s,p,n,D,E,F,G,H,I)/\gz (EL a) (yB b (u,u2,u3,u4,w,z)++(oP o++nS x)) d) ?_ ?_
 ·cases f with
  |cons A f=>(have zz:∀(P:Prop)(h:P:=by exact aa ⟨_,rfl,f⟩),P:=λ_ h=>h;exact BC)
 clear f;rintro _ ⟨d,rfl,f⟩;dsimp only;have Q:∀(k:Bool)(m:Nat),(k=false/\(m=23∨m=24))->b=false->∀y r,d=y::r->isB y k (m:Int)=false:=by
  rintro _ m ⟨rfl,M⟩ rfl y r rfl;have C:gz (EL a) (oP o++nS x) (y::r):=f;unfold oP nS at C;cases U:decide (((o.length:Nat):Int)>0)
  ·rw[U]at C;cases O:decide (((x.length:Nat):Int)>0)
   ·rw[O]at C;cases C
   ·rw[O]at C;cases C with
    |cons g _=>exact MB g false m λh=>by cases h.1
  ·rw[U]at C;cases C with
   |cons g _=>exact MB g false m λh=>by cases h.2.1
 refine ai (R:=λr=>r=(b,a,d,0,0,j,s,p,n,D,E,F,G,H,I)) ?_ ?_
 ·refine Au ?_;cases q:b
  ·cases V:d with
   |nil=>exact rt (aa rfl)
   |cons y r=>
    obtain⟨i,hi,K⟩:=abK B a y r 0 0 j s p n D E F G H I;rw[show isB y false 23=false from Q false 23 ⟨rfl,.inl rfl⟩ q y r V,show isB y false 24=false from Q false 24 ⟨rfl,.inr rfl⟩ q y r V]at K;exact oz (eD K (aa rfl))
  ·rw[q]at f;cases f with
   | @cons t y tr r A f=>
     obtain⟨i,hi,K⟩:=abK B a y r 0 0 j s p n D E F G H I;have hc:(isB y false 23||isB y false 24)=true:=by
      have:(kP (u,u2,u3,u4,w,z))=(0,false,24,aaC (u,u2,u3,u4,w,z))∨(kP (u,u2,u3,u4,w,z))=(0,false,23,aaD (u,u2,u3,u4,w,z)):=by
       unfold kP;cases decide ((u,u2,u3,u4,w,z).1>2049)
       ·exact .inr rfl
       ·exact .inl rfl
      rcases this with h|h
      ·rw[show isB y false 24=true from IL A false 24 (by rw[h]) (by rw[h]) (by rw[h]),Bool.or_true]
      ·rw[show isB y false 23=true from IL A false 23 (by rw[h]) (by rw[h]) (by rw[h]),Bool.true_or]
     rw[hc]at K;refine oz (eD K (aa ?_));rw[ahK hi]
 rintro _ rfl;dsimp only;refine ai (R:=λr=>∃d,r=(a,d,0,0,j,s,p,n,D,E,F,G,H,I,b,u,u2,u3,u4,w,z)/\gz (EL a) (oP o++nS x) d) ?_ ?_
 ·cases q:b
  ·rw[q]at f T;have hz:MA (u,u2,u3,u4,w,z)=true:=T;unfold MA at hz;simp only[ahF,ajY]at hz;obtain⟨rfl,rfl,rfl,rfl,rfl,rfl⟩:=hz;exact k_f (aa ⟨_,rfl,f⟩)
  ·rw[q]at f T;have f9:me (u,u2,u3,u4,w,z)=true:=T;have Y:=NP B (u,u2,u3,u4,w,z) f9 (am (kP (u,u2,u3,u4,w,z))) rfl;cases f with
   |cons A f=>
    (have zz:∀(P:Prop)(h:P:=by exact aa ⟨_,rfl,f⟩),P:=λ_ h=>h;exact BC)
 clear Q f;rintro _ ⟨d,rfl,f⟩;dsimp only;refine ai (R:=λr=>r=(decide (((o.length:Nat):Int)>0),a,d,0,0,j,s,p,n,D,E,F,G,H,I,b,u,u2,u3,u4,w,z)) ?_ ?_
 ·refine Au ?_;unfold oP nS at f;cases q:decide (((o.length:Nat):Int)>0)
  ·rw[q]at f;cases O:decide (((x.length:Nat):Int)>0)
   ·rw[O]at f;cases f;exact rt (aa rfl)
   ·rw[O]at f;cases f with
    |cons A f=>
     refine oz (eD (abL B _ _ _ _ _ _ _ _ _ _ _ _ _ _ _ _ _ _ _ _ _ _) ?_);rw[show isB _ true 16=false from MB A true 16 (λh=>by cases h.1)];exact aa rfl
  ·rw[q]at f;cases f with
   |cons A f=>
    refine oz (eD (abL B _ _ _ _ _ _ _ _ _ _ _ _ _ _ _ _ _ _ _ _ _ _) ?_);rw[show isB _ true 16=true from IL A true 16 rfl rfl rfl];exact aa rfl
 rintro _ rfl;dsimp only;refine ai (R:=λr=>∃d,r=(a,d,0,0,j,s,p,n,D,E,F,G,H,I,b,u,u2,u3,u4,w,z,o)/\gz (EL a) (nS x) d) ?_ ?_
 ·have M:∀t∈oP o,(am t).length<190000:=λt S=>L t (by unfold Aw;simp[S]);unfold oP at f M;cases q:decide (((o.length:Nat):Int)>0)
  ·rw[q]at f;have:o=[]:=List.length_eq_zero_iff.1 (by have:=ajq q;omega);subst this;exact k_f (aa ⟨_,rfl,f⟩)
  ·rw[q]at f M;have f7:o≠[]:=λh=>by rw[h]at q;simp at q
   have W:=adh B o (ah7.2 λe he=>Ue B (h5 e he) (KP o [] k7 e he)) f7 (am (0,true,16,qy o)) rfl (M _ (by simp));cases f with
   |cons A f=>
    (have zz:∀(P:Prop)(h:P:=by exact aa ⟨_,rfl,f⟩),P:=λ_ h=>h;exact BC)
 clear f;rintro _ ⟨d,rfl,f⟩;dsimp only;refine ai (R:=λr=>r=(a,[],0,0,j,s,p,n,D,E,F,G,H,I,b,u,u2,u3,u4,w,z,o,x)) ?_ ?_
 ·have M:∀t∈nS x,(am t).length<190000:=λt S=>L t (by unfold Aw;simp[S]);unfold nS at f M;cases q:decide (((x.length:Nat):Int)>0)
  ·rw[q]at f;have:x=[]:=List.length_eq_zero_iff.1 (by have:=ajq q;omega);subst this;cases f;exact rt (aa rfl)
  ·rw[q]at f M;have f8:lj x=true:=by
    rcases Sn B h6 k8 with h7|h7
    ·rw[h7]at q;simp at q
    ·exact h7
   have j4:=afl B x f8 (by have:=M (2,true,0,lh x) (by simp);have:=lu (2,true,0,lh x);dsimp only at this;omega);cases f with
   |cons A f=>
    cases f
    (have zz:∀(P:Prop)(h:P:=by exact aa rfl),P:=λ_ h=>h;exact BC)
 clear f;rintro _ rfl;dsimp only;refine eD hv ?_
 (have zz:∀(P:Prop)(h:P:=by exact aa rfl),P:=λ_ h=>h;exact BC)
end Go.Fw
namespace Go.Fw
open Go
abbrev Crl:=mQ×(Bs×Bs)×Bs×Int
noncomputable def Du(x:uc):Bool:=(ba x).getD false
def Sq(x:uc)(a:x.1.length<1000000000):ba x=some (Du x):=by
 obtain⟨c,h,_⟩:=vC x (by omega);unfold Du;rw[h];rfl
noncomputable def we(N:Nat)(v:Crl):Bool:=(v.2.1.1==v.1.2.1.1&&v.2.1.2==v.1.2.1.2)&&(Du v.2.2&&oV N v.1)
noncomputable def oQ(v:Crl):Bs:=clE v.1++(Cc v.2.1++am (0,false,3,lB v.2.2))
noncomputable def oA(v:Crl):Bs:=am (0,true,16,oQ v)
def CB(v:Crl):Prop:=LB v.1/\v.2.1.1.length<10000000/\v.2.1.2.length<10000000/\v.2.2.1.length<10000000
def OX(b:FN NN)(v:Crl)(h:CB v):io NN v=some (we NN v):=by
 obtain⟨a,c,d,e⟩:=h;unfold io bD dG we syv;rw[Sq _ (by omega),Fk b _ a];simp only[ahE];cases (v.2.1.1==v.1.2.1.1)<;>cases (v.2.1.2==v.1.2.1.2)<;>cases Du v.2.2<;>rfl
def Uh{N:Nat}{v:Crl}(h:we N v=true):v.2.1=v.1.2.1/\Du v.2.2=true/\oV N v.1=true:=by
 unfold we at h;simp only[ahF,ajY]at h;exact⟨Prod.ext h.1.1 h.1.2,h.2.1,h.2.2⟩
def MD{N:Nat}{v:mQ}(h:oV N v=true):uw N v.2.1=true:=by
 unfold oV at h;simp only[ahF]at h;exact h.2.1
def abM(a:FN NN)(v:Crl)(h:CB v)(e:(oQ v).length<100000000):eB NN v=some (bif we NN v then(oA v,0) else([],8)):=by
 have f:=OX a v h;cases c:we NN v
 ·unfold eB;rw[f,c];rfl
 ·obtain⟨g,q,i⟩:=Uh c;obtain⟨j,k,l,s⟩:=h;have n:(clB v.1).length<100000000:=by
   unfold oQ at e;rw[ahJ]at e;have:(clB v.1).length<(clE v.1).length:=gS;omega
  have d:=afk a v.1 j n;rw[i]at d;have b:=abP a v.2.1 k l;rw[g,MD i,<-g]at b;have m:=Zu NN (by unfold FN at a;omega) (by unfold FN at a;omega) v.2.2 (by omega) (by rw[Sq _ (by omega),q]);have p:(lB v.2.2).length<2000000000:=by unfold lB;simp only[ahL];omega
  simp only[ahS]at d b;suffices OW (eB NN v) λr=>r=(oA v,0) by
   obtain⟨r,o,rfl⟩:=this;exact o
  unfold eB;rw[f,c];refine gq (jO (k_t (eD d ?_)));dsimp only;refine ru (by omega) (by simp) (eD b ?_);dsimp only;refine ru (by omega) (by simp) (eD m (eD (qi a 0 3 false (lB v.2.2) 0 3 rfl rfl (by omega) (by omega) p) ?_));dsimp only;refine ru (by omega) (by simp) ?_;simp only[rq];refine k_z (eD (Bx a _ (oQ v) ?_ (by simp) (by omega)) (aa rfl));unfold oQ;simp
def afq(c:FN NN)(x:uc)(h:Du x=true)(d:x.1.length<9000000):fE NN (am (0,false,3,lB x)) 3=some (x,0,0):=by
 have f:(lB x).length<=9000000:=by unfold lB;simp only[ahL];omega
 obtain⟨e,b,a⟩:=IA c (0,false,3,lB x) ⟨by omega,by show 3<31;omega,by show(lB x).length<=_;omega⟩;unfold fE syv;rw[b,ahE];dsimp only;rw[show((0:Int) !=0)=false from rfl,ahM,a.yes 0 3 false 0 3 rfl rfl rfl rfl rfl,ahE,aiK,ahM,a.body,ahE,Zv x (by omega) (by rw[Sq _ (by omega),h])];rfl
end Go.Fw
namespace Go.Fw
open Go
noncomputable def clT(v:mQ):TLV:=(0,true,16,clB v)
def Sr(x:uc):TLV:=(0,false,3,lB x)
noncomputable def wg(v:Crl):List TLV:=[clT v.1,H0 v.2.1,Sr v.2.2]
def H2(v:Crl):aA (wg v)=oQ v:=by
 unfold wg oQ;rw[iq,iq,iq];simp only[aA,ai0,List.flatten_nil,ah4];rfl
def aaY(v:Crl)(h:(oQ v).length<10000000):∀t∈wg v,okT t:=by
 intro t b;have c:=kO _ t b;rw[H2]at c;have d:=lu t;have a:t.1<4/\t.2.2.1<31:=by
  unfold wg at b;simp only[ah8,akx,or_false]at b;rcases b with rfl|rfl|rfl
  ·exact⟨by show 0<4;decide,by show 16<31;decide⟩
  ·exact⟨by show 0<4;decide,by show 16<31;decide⟩
  ·exact⟨by show 0<4;decide,by show 3<31;decide⟩
 exact⟨a.1,a.2,by omega⟩
def IM{P:Prop}(h:P:=by repeat (first|(dsimp only;first|with_reducible exact(zz _)|with_reducible refine gq ?_|with_reducible refine k_z ?_|with_reducible refine Au ?_|with_reducible refine KN (by first|assumption|decide) ?_|with_reducible refine IJ (by first|assumption|decide) ?_|with_reducible refine k_t ?_|with_reducible refine k_f ?_|with_reducible refine jO ?_|with_reducible refine At ?_|with_reducible refine Dt ?_|with_reducible refine oz ?_|with_reducible refine rt ?_|with_reducible refine sY ?_|with_reducible refine jQ ?_|with_reducible refine lM ?_|with_reducible refine uu ?_|with_reducible refine Fj ?_|with_reducible refine vV (by assumption) ?_|with_reducible refine eD (by assumption) ?_)|with_reducible exact(zz _)|with_reducible refine gq ?_|with_reducible refine k_z ?_|with_reducible refine Au ?_|with_reducible refine KN (by first|assumption|decide) ?_|with_reducible refine IJ (by first|assumption|decide) ?_|with_reducible refine k_t ?_|with_reducible refine k_f ?_|with_reducible refine jO ?_|with_reducible refine At ?_|with_reducible refine Dt ?_|with_reducible refine oz ?_|with_reducible refine rt ?_|with_reducible refine sY ?_|with_reducible refine jQ ?_|with_reducible refine lM ?_|with_reducible refine uu ?_|with_reducible refine Fj ?_|with_reducible refine vV (by assumption) ?_|with_reducible refine eD (by assumption) ?_|exact(zz _))):P:=h
set_option maxHeartbeats 4000000 in
def Ym(g:FN NN)(v:Crl)(K:CB v)(h:we NN v=true)(a:Bs)(D:oA v=a)(Y:a.length<190000):fk NN a=some (v,0,0):=by
 have L:(oQ v).length<a.length:=by rw[<-D];exact gS
 obtain⟨l,M,d⟩:=m8 g (c:=0) (num:=16) (by omega) (by omega) a (wg v) (by rw[H2];exact D.symm) (aaY v (by omega)) (by omega) 0 16 rfl rfl;obtain⟨m,Q,E⟩:=Uh h;have e:∀t∈wg v,(am t).length<190000:=λt O=>by
  have:=kO _ t O;rw[H2]at this;omega
 have J:=ags g v.1 K.1 E (am (clT v.1)) rfl (e _ (by unfold wg;simp));have H:=Yx g v.2.1 (by rw[m];exact MD E) (am (H0 v.2.1)) rfl (by have:=e (H0 v.2.1) (by unfold wg;simp);omega);have I:fE NN (am (Sr v.2.2)) 3=some (v.2.2,0,0):=afq g v.2.2 Q (by
  have V:=e (Sr v.2.2) (by unfold wg;simp);have W:=lu (Sr v.2.2);have X:(Sr v.2.2).2.2.2.length=v.2.2.1.length+1:=rfl;omega)
 suffices OW (fk NN a) λr=>r=(v,0,0) by
  obtain⟨r,N,rfl⟩:=this;exact N
 unfold fk ga bD dG syv;refine jQ (eD M (gq ?_));obtain⟨⟨f,⟨s,p⟩,n,⟨o,q,u,w,y,z⟩,b,⟨A,u2,u3,u4,B,C⟩,i,x⟩,⟨Z,p2⟩,F,G⟩:=v;dsimp only at m;cases m;unfold wg at d;dsimp only at d J H I;have k:(s==s)=true:=by simp
 have j:(p==p)=true:=by simp
 cases d with
 |cons S d=>cases d with
  |cons T d=>cases d with
   |cons U d=>
    cases d;dsimp only;refine ai (R:=λr=>r=(a,_,0,0,f,s,p,n,o,q,u,w,y,z,b,A,u2,u3,u4,B,C,i,x)) (by(have zz:∀(P:Prop)(h:P:=by exact aa rfl),P:=λ_ h=>h;exact IM)) ?_;rintro _ rfl;dsimp only;refine ai (R:=λr=>r=(a,_,0,0,f,s,p,n,o,q,u,w,y,z,b,A,u2,u3,u4,B,C,i,x,s,p)) (by(have zz:∀(P:Prop)(h:P:=by exact aa rfl),P:=λ_ h=>h;exact IM)) ?_;rintro _ rfl;dsimp only;refine gq ?_;refine ai (R:=λr=>r=(a,_,0,0,f,s,p,n,o,q,u,w,y,z,b,A,u2,u3,u4,B,C,i,x,s,p,F,G)) (by(have zz:∀(P:Prop)(h:P:=by exact aa rfl),P:=λ_ h=>h;exact IM)) ?_;rintro _ rfl;dsimp only;rw[k,j]
    (have zz:∀(P:Prop)(h:P:=by exact aa rfl),P:=λ_ h=>h;exact IM)
end Go.Fw
namespace Go.Fw
open Go
def abN:mr [49,46,50,46,51] [1,2,3]:=⟨by decide,by decide,by kernel_rfl⟩
def Yn:mr [50,46,53,46,52,46,51] [2,5,4,3]:=⟨by decide,by decide,by kernel_rfl⟩
def ahv:jx [49,46,50,46,51]=[42,3]:=by rw[yT abN];kernel_rfl
def agt:jx [50,46,53,46,52,46,51]=[85,4,3]:=by rw[yT Yn];kernel_rfl
def agu(n:Nat):opn (n+300) [12,2,65,98]=true:=by kernel_rfl
def adp(n:Nat):HW (n+300) []=true:=by kernel_rfl
abbrev Cb:Crl:=((0,([49,46,50,46,51],[]),[[([50,46,53,46,52,46,51],[12,2,65,98])]],(2000,1,1,0,0,0),false,(0,0,0,0,0,0),[],[]),([49,46,50,46,51],[]),[],0)
def afr(n:Nat):we (n+300) Cb=true:=by
 unfold we oV uw oU;dsimp only;simp only[ai3,List.all_nil];unfold mP ky;simp only[ai3,List.all_nil,nw.2 ⟨_,abN⟩,nw.2 ⟨_,Yn⟩,agu,adp];kernel_rfl
def agv:(oA Cb).length=49/\(oA Cb).take 10=[48,47,48,36,48,4,6,2,42,3]:=by
 unfold oA oQ clE clB Cc rG kg;simp only[ahU,ai0];unfold fK fZ;dsimp only;rw[ahv,agt];exact⟨by kernel_rfl,by kernel_rfl⟩
def St:CB Cb:=⟨⟨by decide,by decide,by decide,by decide,(λ_ h=>by cases h),XB.nil⟩,by decide,by decide,by decide⟩
def adq(b:FN NN):n9 NN=some true:=by
 have d:=b;unfold FN at d;obtain⟨n,o⟩:∃n,NN=n+300:=⟨NN-300,by omega⟩;obtain⟨c,m⟩:=agv;have a:=afr n;rw[<-o]at a;have q:(oQ Cb).length<49:=by rw[<-c];exact gS
 have h:=abM b Cb St (by omega);rw[a]at h;have p:=Ym b Cb St a (oA Cb) rfl (by omega);have k:=OX b Cb St;rw[a]at k;unfold n9 xo syv;rw[h];refine(?_:_=_);simp only[ahS,ahE];rw[p,k];simp only[ahE];rw[c];obtain⟨s,e,f⟩:=E8 (l:=oA Cb) (i:=0) (j:=10) (by omega) (by omega) (by rw[c];decide);rw[e];have g:s=[48,47,48,36,48,4,6,2,42,3]:=by rw[f];exact m
 rw[g];rfl
end Go.Fw
namespace Go.Fw
open Go
def Dv(n:Nat):1<=(Lib.decDigits n).length:=by
 have:=akA.2 (X0 n);omega
def OY{n:Nat}(h:n<10):(Lib.decDigits n).length=1:=by
 rw[Lib.decDigits,dif_pos h];rfl
def Dw{n:Nat}(h:10<=n):(Lib.decDigits n).length=(Lib.decDigits (n / 10)).length+1:=by
 rw[Lib.decDigits,dif_neg (by omega),ahJ];rfl
def KU:∀(b a:Nat),a<=b->(Lib.decDigits a).length<=(Lib.decDigits b).length:=by
 intro b;induction b using Nat.strongRecOn with
 |ind b d=>
  intro a h;by_cases c:a<10
  ·rw[OY c];exact Dv b
  ·rw[Dw (by omega),Dw (by omega:10<=b)];have:=d (b / 10) (by omega) (a / 10) (by omega);omega
def Yo:∀(f n m:Nat),n*128<=m->(b7 f n).length+1<=(Lib.decDigits m).length
 |0,n,m,_=>by simpa[b7] using Dv m
 |f+1,n,m,h=>by
  unfold b7;split
  ·simpa using Dv m
  ·rename_i b;have c:=Yo f (n / 128) n (by omega);have a:n<=m / 10:=by omega
   have d:=KU (m / 10) n a;rw[Dw (by omega:10<=m),ahL];omega
def Su(n:Nat):(gh n).length<=(Lib.decDigits n).length:=by
 unfold gh hi7;rw[ahJ,List.length_reverse];exact Yo 5 (n / 128) n (by omega)
def aaZ(a b:Nat)(f:a<=2):(gh (40*a+b)).length<=(Lib.decDigits b).length+1:=by
 have d:=Su (40*a+b);by_cases g:b<10
 ·have c:=KU 99 (40*a+b) (by omega);have e:(Lib.decDigits 99).length=2:=by rw[Dw (by omega),OY (by omega)]
  have:=Dv b;omega
 ·have c:=KU (10*b+9) (40*a+b) (by omega);rw[Dw (by omega:10<=10*b+9),show(10*b+9) / 10=b from by omega]at c;omega
def Sv:∀(r:List Nat)(x:Nat),((Lib.decDigits x).length:Nat)+((r.map gh).flatten).length<=(Lib.join ((x::r).map Lib.decDigits) [46]).length
 |[],x=>by simp[Lib.join]
 |y::r,x=>by
  have a:=Sv r y;have b:=Su y;show _<=(Lib.join (Lib.decDigits x::Lib.decDigits y::r.map Lib.decDigits) [46]).length;rw[qw,ahJ,ahL];simp only[ahU,List.flatten_cons,ahJ]at a⊢;omega
def Yp{a b:Nat}{r:List Nat}(h:ut (a::b::r)=true):a<=2:=by
 unfold ut at h;simp only[aij]at h;exact h.1
def adr(s:Bs):(jx s).length<=s.length:=by
 unfold jx;split
 ·rename_i h;obtain⟨c,e,d⟩:=aiZ (sX.1 h);generalize Classical.choose (sX.1 h)=L at c e d
  match L,c with
  |a::b::r,c=>
   have f:=aaZ a b (Yp c);have g:=Sv r b;have i:=Dv a;rw[d,ahU,ahU,qw,ahJ,ahL,<-ahU];show(gh (40*a+b)++(r.map gh).flatten).length<=_;rw[ahJ];omega
 ·simp
end Go.Fw
namespace Go.Fw
open Go
def ME{α:Type}(f g:α->Nat):∀(l:List α),(∀x∈l,f x<=g x)->(l.map f).sum<=(l.map g).sum
 |[],_=>by simp
 |a::r,h=>by
  have c:=h a (by simp);have d:=ME f g r λx b=>h x (by simp[b]);simp only[ahU,ai6];omega
def Ax{α:Type}(f:α->Bs):∀(l:List α),((l.map f).flatten).length=(l.map λx=>(f x).length).sum
 |[]=>rfl
 |a::r=>by
  have:=Ax f r;simp only[ahU,List.flatten_cons,ahJ,ai6];omega
def BD{α:Type}(f:α->Nat)(B:Nat):∀(l:List α),(∀x∈l,f x<=B)->(l.map f).sum<=l.length*B
 |[],_=>by simp
 |a::r,h=>by
  have c:=h a (by simp);have d:=BD f B r λx b=>h x (by simp[b]);simp only[ahU,ai6,ahL,ajV];omega
def NY(s:Bs)(h:s.length<100000000):(am (fZ s)).length<=s.length+6:=by
 have a:=adr s;have d:(am (fZ s)).length<=(jx s).length+6:=gr (c:=0) (k:=false) (num:=6) (b:=jx s) (by omega);omega
def ads(v:Bs×Bs)(h:wA v<100000000):(fK v).length<=wA v:=by
 unfold wA at h⊢;have d:=NY v.1 (by omega);have a:=gr (c:=0) (k:=true) (num:=16) (b:=am (fZ v.1)++v.2) (by rw[ahJ];omega);rw[ahJ]at a;show(tlv 0 true 16 (am (fZ v.1)++v.2)).length<=_;omega
def afs(r:Rdn)(h:wR r<100000000):(kg r).length<=wR r:=by
 unfold wR at h⊢;have d:((r.map fK).flatten).length<=(r.map wA).sum:=by
  rw[Ax];exact ME _ _ r λx a=>ads x (by have:=ou wA r x a;omega)
 have e:=gr (c:=0) (k:=true) (num:=17) (b:=(r.map fK).flatten) (by omega);show(tlv 0 true 17 ((r.map fK).flatten)).length<=_;omega
def adt(n:List Rdn)(h:wN n<100000000):(rG n).length<=wN n:=by
 unfold wN at h⊢;have d:((n.map kg).flatten).length<=(n.map wR).sum:=by
  rw[Ax];exact ME _ _ n λx a=>afs x (by have:=ou wR n x a;omega)
 have e:=gr (c:=0) (k:=true) (num:=16) (b:=(n.map kg).flatten) (by omega);show(tlv 0 true 16 ((n.map kg).flatten)).length<=_;omega
def aft(v:eS)(h:wE v<100000000):(lw v).length<=wE v:=by
 unfold wE at h⊢;have a:=NY v.1 (by omega);have d:(am (oN v.2.2)).length<=v.2.2.length+6:=gr (c:=0) (k:=false) (num:=4) (b:=v.2.2) (by omega);have e:(aA (lg v)).length<=(am (fZ v.1)).length+3+(am (oN v.2.2)).length:=by
  have f:(am Bw).length=3:=by kernel_rfl
  unfold lg;cases v.2.1
  ·simp[aA]
  ·simp[aA];omega
 have g:(lw v).length<=(aA (lg v)).length+6:=gr (c:=0) (k:=true) (num:=16) (b:=aA (lg v)) (by omega);omega
def Ui(l:List eS)(h:wL l<100000000):(lh l).length<=wL l:=by
 unfold wL at h⊢;have d:((l.map lw).flatten).length<=(l.map wE).sum:=by
  rw[Ax];exact ME _ _ l λx a=>aft x (by have:=ou wE l x a;omega)
 have e:(lh l).length<=((l.map lw).flatten).length+6:=gr (c:=0) (k:=true) (num:=16) (b:=(l.map lw).flatten) (by omega);omega
def Yq(v:Bs×Bs)(h:v.1.length<100000000)(d:v.2.length<100000000):(Cc v).length<=v.1.length+v.2.length+12:=by
 have e:=NY v.1 (by omega);have a:=gr (c:=0) (k:=true) (num:=16) (b:=am (fZ v.1)++v.2) (by rw[ahJ];omega);rw[ahJ]at a;show(tlv 0 true 16 (am (fZ v.1)++v.2)).length<=_;omega
def MF(e:Ent):Prop:=e.1.length<=100/\wL e.2.2<=3500
def Wa(n:List Rdn):Prop:=n.length<=10/\∀r∈n,r.length<=8/\∀a∈r,a.1.length<=200/\a.2.length<=1000
def Wb(v:mQ):Prop:=v.2.2.2.2.2.2.1.length<=6/\(∀e∈v.2.2.2.2.2.2.1,MF e)/\v.2.1.1.length<=200/\v.2.1.2.length<=1000/\Wa v.2.2.1/\wL v.2.2.2.2.2.2.2<=3500
def Wc(v:Crl):Prop:=Wb v.1/\v.2.1.1.length<=200/\v.2.1.2.length<=1000/\v.2.2.1.length<=500
def Yr{l:List eS}(h:wL l<=3500):XB l:=⟨by omega,λv a=>by have:=My a;omega⟩
def Uj{n:List Rdn}(h:Wa n):wN n<=97820:=by
 obtain⟨c,d⟩:=h;have e:∀r∈n,wR r<=9780:=by
  intro r i;obtain⟨b,f⟩:=d r i;have j:=BD wA 1220 r λa g=>by have:=f a g;unfold wA;omega
  unfold wR;have:r.length*1220<=8*1220:=aiD _ b;omega
 have b:=BD wR 9780 n e;have:n.length*9780<=10*9780:=aiD _ c;unfold wN;omega
def adu{v:mQ}(h:Wb v):LB v:=by
 obtain⟨f,a,g,i,b,c⟩:=h;have:=Uj b;exact⟨by omega,by omega,by omega,by omega,λe d=>Yr (a e d).2,Yr c⟩
def aa0{v:mQ}(h:Wb v):(clE v).length<=130000:=by
 obtain⟨g,j,C,D,l,E⟩:=h;have F:=Uj l;have p:=Yq v.2.1 (by omega) (by omega);have q:=adt v.2.2.1 (by omega);have r:=By v.2.2.2.1;have s:(Fl v.2.2.2.2.1 v.2.2.2.2.2.1).length<=21:=by
  have:=By v.2.2.2.2.2.1;unfold Fl;cases v.2.2.2.2.1
  ·simp
  ·exact this
 have t:(HY v.1).length<=14:=by
  have m:=KJ 1;have a:(am (0,false,2,pn 1)).length<=(pn 1).length+6:=gr (c:=0) (k:=false) (num:=2) (b:=pn 1) (by omega);unfold HY;cases decide (v.1>0)
  ·simp
  ·simp only[ahS];omega
 have u:(BB v.2.2.2.2.2.2.1).length<=21906:=by
  have m:=BD (λe=>(xq e).length) 3650 v.2.2.2.2.2.2.1 λe o=>by
   obtain⟨a,n⟩:=j e o;have d:=Ui e.2.2 (by omega);have f:=By e.2.1;have z:(am (0,false,2,e.1)).length<=e.1.length+6:=gr (c:=0) (k:=false) (num:=2) (b:=e.1) (by omega);have A:(oO e).length<=e.1.length+6+21+3500:=by
    unfold oO;rw[ahJ,ahJ];cases e.2.2.isEmpty
    ·simp only[ahM];omega
    ·simp only[ahS,ah1];omega
   have B:(xq e).length<=(oO e).length+6:=gr (c:=0) (k:=true) (num:=16) (b:=oO e) (by omega);show(xq e).length<=3650;omega
  have a:v.2.2.2.2.2.2.1.length*3650<=6*3650:=aiD _ g;have n:(qy v.2.2.2.2.2.2.1).length<=21900:=by
   unfold qy;rw[Ax];omega
  have i:(PR v.2.2.2.2.2.2.1).length<=(qy v.2.2.2.2.2.2.1).length+6:=gr (c:=0) (k:=true) (num:=16) (by omega);unfold BB;cases decide (((v.2.2.2.2.2.2.1.length:Nat):Int)>0)
  ·simp
  ·simp only[ahS];omega
 have w:(Fm v.2.2.2.2.2.2.2).length<=3506:=by
  have d:=Ui v.2.2.2.2.2.2.2 (by omega);have f:(am (2,true,0,lh v.2.2.2.2.2.2.2)).length<=(lh v.2.2.2.2.2.2.2).length+6:=gr (c:=2) (k:=true) (num:=0) (b:=lh v.2.2.2.2.2.2.2) (by omega);unfold Fm;cases decide (((v.2.2.2.2.2.2.2.length:Nat):Int)>0)
  ·simp
  ·simp only[ahS];omega
 have x:(clB v).length<=14+(1212+(97820+(21+(21+(21906+3506))))):=by
  unfold clB;simp only[ahJ];omega
 have y:(clE v).length<=(clB v).length+6:=gr (c:=0) (k:=true) (num:=16) (b:=clB v) (by omega);omega
def adv{v:Crl}(h:Wc v):CB v:=by
 obtain⟨a,b,c,d⟩:=h;exact⟨adu a,by omega,by omega,by omega⟩
def aa1{v:Crl}(h:Wc v):(oA v).length<=140000:=by
 obtain⟨a,l,m,n⟩:=h;have d:=aa0 a;have e:=Yq v.2.1 (by omega) (by omega);have f:(lB v.2.2).length=v.2.2.1.length+1:=rfl;have g:(am (0,false,3,lB v.2.2)).length<=(lB v.2.2).length+6:=gr (c:=0) (k:=false) (num:=3) (b:=lB v.2.2) (by omega);have i:(oQ v).length<=130000+(1212+510):=by
  unfold oQ;simp only[ahJ];omega
 have j:(oA v).length<=(oQ v).length+6:=gr (c:=0) (k:=true) (num:=16) (b:=oQ v) (by omega);omega
end Go.Fw
namespace Go.Fw
open Go
def okX(l:List eS):Prop:=∀x∈l,x.1.length<=140737488351232/\x.2.2.length<=140737488351232
def Uk{a b:Nat}(h:a+b<4611686018427387904):aq .i64 (a:Int) (b:Int)=((a+b:Nat):Int):=by
 rw[gb ⟨by omega,by omega⟩];omega
def Ul(m:FN NN)(l:List eS)(p:okX l):OW (rS NN l) λb=>b=true->wL l<=3500:=by
 have g:=m;unfold FN at g;unfold rS syv;refine ai (R:=λr=>∃c:Nat,r=(l,(c:Int))/\(l.length<=20->c=(l.map λx=>x.1.length+x.2.2.length).sum)) ?_ ?_
 ·unfold uT syv;refine gE _ 20 (λi s=>i<=20/\∃c:Nat,s=(l,(c:Int),(i:Int))/\c=((l.take i).map λx=>x.1.length+x.2.2.length).sum/\c<=i*281474976702464) ?_ NN 0 _ (by omega) (by omega) ⟨by omega,0,rfl,by simp,by omega⟩;rintro G i _ v ⟨o,c,rfl,e,k⟩ rec;dsimp only;refine bM (λh=>bM (λj=> ?_) λj=> ?_) λh=> ?_
  ·have d:i<l.length:=by omega
   obtain⟨t,u⟩:=p _ (ais d);refine eD (cr (ahG d)) (eD (cr (ahG d)) ?_);rw[Uk (by omega),Uk (by omega),cC (by omega)];refine rec _ (by omega) ⟨by omega,_,rfl,?_,by omega⟩;rw[aiM,ahG d,aiN,alw,<-e];simp;omega
  ·refine aa ⟨c,rfl,λf=> ?_⟩;rw[e,aib (by omega)]
  ·refine aa ⟨c,rfl,λf=> ?_⟩;rw[e,aib (by omega)]
 ·rintro _ ⟨c,rfl,e⟩;dsimp only;refine bM (λh=>aa λn=> ?_) λ_=>aa λh=>by cases h
  have k:=aih n;have j:=e (by omega);have f:∀l:List eS,(l.map wE).sum=(l.map λx=>x.1.length+x.2.2.length).sum+40*l.length:=by
   intro l;induction l with
   |nil=>rfl
   |cons a r q=>simp only[ahU,ai6,ahL,q];unfold wE;omega
  unfold wL;rw[f];omega
def ahw(es:List Ent):Prop:=∀e∈es,okX e.2.2/\e.2.2.length<=140737488351232
def aa2(c:FN NN)(e:Ent)(f:okX e.2.2):OW (qQ NN e) λb=>b=true->MF e:=by
 unfold qQ syv;refine bM (λh=>ai (Ul c e.2.2 f) λb d=>aa λa=>⟨by omega,d a⟩) λ_=>aa λh=>by cases h
def adw(x:Bs×Bs):OW (zO x) λb=>b=true->x.1.length<=200/\x.2.length<=1000:=by
 unfold zO syv;exact bM (λh=>aa λa=>⟨by omega,by have:=aih a;omega⟩) λ_=>aa λh=>by cases h
def Um(x:Bs×Bs):OW (zN x) λb=>b=true->x.1.length<=200/\x.2.length<=1000:=by
 unfold zN syv;exact bM (λh=>aa λa=>⟨by omega,by have:=aih a;omega⟩) λ_=>aa λh=>by cases h
def Wd(r:Rdn):Prop:=r.length<=8/\∀a∈r,a.1.length<=200/\a.2.length<=1000
def vW{α:Type}{P:α->Prop}{l:List α}{i:Nat}(h:∀j<i,∀x,l[j]?=some x->P x)(c:l.length<=i):∀x∈l,P x:=by
 intro x b;obtain⟨j,a,rfl⟩:=List.getElem_of_mem b;exact h j (by omega) _ (ahG a)
def H3{α:Type}{P:α->Prop}{l:List α}{i:Nat}(h:∀j<i,∀x,l[j]?=some x->P x){y:α}(d:l[i]?=some y)(k:P y):∀j<i+1,∀x,l[j]?=some x->P x:=by
 intro j c x a;rcases Nat.lt_succ_iff_lt_or_eq.1 c with b|rfl
 ·exact h j b x a
 ·rw[d]at a;cases a;exact k
def aa3(l:FN NN)(r:Rdn)(v:∀a∈r,a.2.length<=140737488351232):OW (tR NN r) λb=>b=true->Wd r:=by
 have d:=l;unfold FN at d;unfold tR syv;refine ai (R:=λy=>y=.inl ()∨∃s:Int,y=.inr (r,s)/\(r.length<=10->∀a∈r,a.1.length<=200/\a.2.length<=1000)) ?_ ?_
 ·unfold wJ syv;refine gE _ 10 (λi p=>i<=10/\∃s:Int,p=(r,s,(i:Int))/\∀j<i,∀x,r[j]?=some x->x.1.length<=200/\x.2.length<=1000) ?_ NN 0 _ (by omega) (by omega) ⟨by omega,_,rfl,λj u=>by omega⟩;rintro G i _ t ⟨o,s,rfl,c⟩ rec;dsimp only;refine bM (λh=>bM (λg=> ?_) λg=> ?_) λh=> ?_
  ·have f:i<r.length:=by omega
   have e:=ahG f;refine eD (cr e) (ai (adw _) λb m=> ?_);refine ax (λ_=>aa (.inl rfl)) λn=>eD (cr e) ?_;exact rec _ (by omega) ⟨by omega,_,by rw[cC (by omega)],H3 c e (m (by simpa using n))⟩
  ·exact aa (.inr ⟨s,rfl,λk=>vW c (by omega)⟩)
  ·exact aa (.inr ⟨s,rfl,λk=>vW c (by omega)⟩)
 ·rintro _ (rfl|⟨s,rfl,h⟩)
  ·exact aa λh=>by cases h
  ·dsimp only;exact bM (λq=>aa λ_=>⟨by omega,h (by omega)⟩) λ_=>aa λh=>by cases h
def adx(q:FN NN)(n:List Rdn)(I:n.length<=140737488351232)(B:∀r∈n,r.length<=140737488351232/\∀a∈r,a.2.length<=140737488351232):OW (zP NN n) λb=>b=true->Wa n:=by
 have l:=q;unfold FN at l;unfold zP syv;refine ai (R:=λy=>y=.inl ()∨∃s:Int,y=.inr (n,s)/\(n.length<=20->∀r∈n,Wd r)) ?_ ?_
 ·unfold Bf syv;refine gE _ 20 (λi p=>i<=20/\∃s:Int,p=(n,s,(i:Int))/\∀j<i,∀x,n[j]?=some x->Wd x) ?_ NN 0 _ (by omega) (by omega) ⟨by omega,_,rfl,λj F=>by omega⟩;rintro G i _ E ⟨A,s,rfl,g⟩ rec;dsimp only;refine bM (λh=>bM (λt=> ?_) λt=> ?_) λh=> ?_
  ·have d:i<n.length:=by omega
   have f:=ahG d;have o:=B _ (ais d);refine eD (cr f) (ai (aa3 q _ o.2) λb w=> ?_);refine ax (λ_=>aa (.inl rfl)) λz=> ?_;have m:Wd n[i]:=w (by simpa using z);refine ai (R:=λy=>∃s:Int,y=(n,s,(i:Int))) ?_ ?_
   ·unfold Bd syv;refine gE _ n[i].length (λk p=>∃s:Int,p=(n,s,(i:Int),(k:Int))) ?_ NN 0 _ (by omega) (by have:=m.1;omega) ⟨_,rfl⟩;rintro C k _ H ⟨s,rfl⟩ e;dsimp only;refine eD (cr f) (bM (λv=> ?_) λv=>aa ⟨_,rfl⟩);have c:k<n[i].length:=by omega
    refine eD (cr f) (eD (cr (ahG c)) ?_);exact e _ c ⟨_,by rw[cC (by have:=m.1;omega)]⟩
   ·rintro _ ⟨s,rfl⟩;dsimp only;exact rec _ (by omega) ⟨by omega,_,by rw[cC (by omega)],H3 g f m⟩
  ·exact aa (.inr ⟨s,rfl,λu=>vW g (by omega)⟩)
  ·exact aa (.inr ⟨s,rfl,λu=>vW g (by omega)⟩)
 ·rintro _ (rfl|⟨s,rfl,h⟩)
  ·exact aa λh=>by cases h
  ·dsimp only;exact bM (λD=>aa λ_=>⟨by omega,h (by omega)⟩) λ_=>aa λh=>by cases h
def okN(n:List Rdn):Prop:=n.length<=140737488351232/\∀r∈n,r.length<=140737488351232/\∀a∈r,a.2.length<=140737488351232
def okL(v:mQ):Prop:=okN v.2.2.1/\ahw v.2.2.2.2.2.2.1/\okX v.2.2.2.2.2.2.2
def Ys(m:FN NN)(v:mQ)(hv:okL v):OW (rT NN v) λb=>b=true->Wb v:=by
 have F:=m;unfold FN at F;obtain⟨K,O,P⟩:=hv;obtain⟨d,⟨s,p⟩,n,⟨r,t,u,w,z,A⟩,c,⟨B,u2,u3,u4,C,D⟩,a,x⟩:=v;dsimp only at K O P;unfold rT syv;dsimp only;refine ai (R:=λy=>y=.inl ()∨∃q:Int,y=.inr (q,d,s,p,n,r,t,u,w,z,A,c,B,u2,u3,u4,C,D,a,x)/\(a.length<=10->∀e∈a,MF e)) ?_ ?_
 ·unfold uX syv;refine gE _ 10 (λi L=>i<=10/\∃q:Int,L=(q,(i:Int),d,s,p,n,r,t,u,w,z,A,c,B,u2,u3,u4,C,D,a,x)/\∀j<i,∀y,a[j]?=some y->MF y) ?_ NN 0 _ (by omega) (by omega) ⟨by omega,_,rfl,λj hj=>by omega⟩;rintro G i _ hi ⟨Z,q,rfl,E⟩ rec;dsimp only;refine bM (λh=>bM (λT=> ?_) λT=> ?_) λh=> ?_
  ·have g:i<a.length:=by omega
   have o:=ahG g;refine eD (cr o) (ai (aa2 m _ (O _ (ais g)).1) λb W=> ?_);refine ax (λ_=>aa (.inl rfl)) λX=> ?_;have N:MF a[i]:=W (by simpa using X);have hw:=Ml a[i].2.2;have Y:=N.2;refine ai (R:=λy=>∃q:Int,y=(q,(i:Int),d,s,p,n,r,t,u,w,z,A,c,B,u2,u3,u4,C,D,a,x)) ?_ ?_
   ·unfold uV syv;refine gE _ a[i].2.2.length (λk L=>∃q:Int,L=(q,(i:Int),(k:Int),d,s,p,n,r,t,u,w,z,A,c,B,u2,u3,u4,C,D,a,x)) ?_ NN 0 _ (by omega) (by omega) ⟨_,rfl⟩;rintro G2 k _ hk ⟨q,rfl⟩ l;dsimp only;refine eD (cr o) (bM (λV=> ?_) λV=>aa ⟨_,rfl⟩);have f:k<a[i].2.2.length:=by omega
    refine eD (cr o) (eD (cr (ahG f)) ?_);exact l _ f ⟨_,by rw[cC (by omega)]⟩
   ·rintro _ ⟨q,rfl⟩;dsimp only;exact rec _ (by omega) ⟨by omega,_,by rw[cC (by omega)],H3 E o N⟩
  ·exact aa (.inr ⟨q,rfl,λU=>vW E (by omega)⟩)
  ·exact aa (.inr ⟨q,rfl,λU=>vW E (by omega)⟩)
 ·rintro _ (rfl|⟨q,rfl,h⟩)
  ·exact aa λh=>by cases h
  ·dsimp only;refine bM (λh2=>bM (λ_=> ?_) λ_=>aa λh=>by cases h) λ_=>aa λh=>by cases h
   refine ai (Um _) λb1 H=>ax (λc1=> ?_) λ_=>aa λh=>by cases h
   refine ai (adx m _ K.1 K.2) λb2 I=>ax (λQ=> ?_) λ_=>aa λh=>by cases h
   refine ai (Ul m _ P) λb3 J=>aa λS=> ?_;have M:=H c1;exact⟨by dsimp only;omega,h (by omega),M.1,M.2,I Q,J S⟩
end Go.Fw
namespace Go.Fw
open Go
def MK{t t':TLV}{q:Bs}(h:am t=am t'++q)(w:okT t)(j:okT t'):q=[]:=by
 obtain⟨c,k,num,a⟩:=t;obtain⟨g,i,f,d⟩:=t';obtain⟨m,n,u⟩:=w;obtain⟨o,p,v⟩:=j;dsimp only at m n u o p v;have x:=gr (c:=c) (k:=k) (num:=num) (b:=a) (by omega);have r:(am (c,k,num,a)).length=(am (g,i,f,d)).length+q.length:=by rw[h,ahJ]
 have A:(am (c,k,num,a)).length<=a.length+6:=x;have B:=Ew 100 (by omega) (c:=c) (num:=num) k m n [] a [] [] (by simp only[ait,ah4];show(am (c,k,num,a)).length<_;omega) (by omega);have s:=Ew 100 (by omega) (c:=g) (num:=f) i o p [] d q [] (by simp only[ait,ah4];show(am (g,i,f,d)++q).length<_;rw[ahJ];omega) (by omega);have e:tlv g i f d++q=tlv c k num a++[]:=by rw[ah4];exact h.symm
 rw[e,B]at s;have l:=aii (λy:Option (bU×Int×Int)=>y.map λz=>z.1.2.2.2.2.2) s;simp only[ai2,ahI]at l;unfold lf at l;have D:((am (c,k,num,a)).length:Int)=((am (g,i,f,d)).length:Int):=by
  have C:((tlv c k num a).length:Int)=((tlv g i f d).length:Int):=by simpa using l
  exact C
 exact List.length_eq_zero_iff.1 (by omega)
def aa8(t:TLV):2<=(am t).length:=Fg [t] _ (by simp[mq])
noncomputable def N1(v:Crl):TLV:=(0,true,16,oQ v)
def Up{v:Crl}(h:(oA v).length<10000000):okT (N1 v):=by
 have:(oQ v).length<(oA v).length:=lu (N1 v);exact⟨by show 0<4;decide,by show 16<31;decide,by show(oQ v).length<=_;omega⟩
def Uq(m:FN NN)(a:Bs)(q:a.length<190000)(h:∀t,okT t->a≠am t):∃w e o,fk NN a=some (w,e,o)/\e≠0:=by
 obtain⟨⟨l,e,o⟩,d,⟨s,c,b,_,_,f,_⟩|⟨b,n,p⟩,g⟩:=VQ (sT m a (by omega) 0 16) (Fi NN a _ _)
 ·refine absurd f (h (0,true,16,aA c) ⟨by show 0<4;decide,by show 16<31;decide,?_⟩);have:(aA c).length<a.length:=by rw[f];exact gS
  show(aA c).length<=_;omega
 ·obtain rfl:l=[]:=g b;suffices OW (fk NN a) λr=>r.2.1≠0 by
   obtain⟨⟨w,e,o⟩,j,k⟩:=this;exact⟨w,e,o,j,k⟩
  unfold fk ga bD dG syv;have i:aD NN a 0 16=some ([],e,o):=d;have u:e≠0:=b;clear d g b n p h;have zz:∀(P:Prop)(h:P:=by first|exact aa (by assumption)|(rw[show(([]:Bs)==[])=true from rfl];exact IM)),P:=λ_ h=>h;exact IM
def aa9(c:FN NN)(v:Crl)(p:Wc v):eB NN v=some ([],8)∨∃b:Bs,eB NN v=some (b,0)/\2<=b.length/\b.length<=140000/\(∀k,k<b.length->∃w e o,fk NN (b.take k)=some (w,e,o)/\e≠0)/\∀a:Bs,a.length<=2000->∃w e o,fk NN (b++a)=some (w,e,o)/\(e=0↔a=[]):=by
 have n:=adv p;have y:=aa1 p;have z:(oQ v).length<(oA v).length:=lu (N1 v);have d:=abM c v n (by omega);cases i:we NN v
 ·rw[i]at d;exact .inl d
 ·rw[i]at d;refine .inr ⟨oA v,d,aa8 (N1 v),y,λk u=>Uq c _ (by rw[aid];omega) λt j g=> ?_,λa A=> ?_⟩
  ·have l:(oA v).take k++(oA v).drop k=oA v:=aiQ _ _;rw[g]at l;have f:(oA v).drop k=[]:=MK (t:=N1 v) l.symm (Up (by omega)) j;have m:=aii List.length f;rw[aiC]at m;simp only[ah1]at m;omega
  ·cases a with
   |nil=>
    rw[ah4];exact⟨v,0,0,Ym c v n i (oA v) rfl (by omega),by simp⟩
   |cons x r=>
    obtain⟨w,e,o,q,s⟩:=Uq c (oA v++x::r) (by rw[ahJ];omega) λt j g=>by
     have f:x::r=[]:=MK (t':=N1 v) g.symm j (Up (by omega));cases f
    exact⟨w,e,o,q,λh=>absurd h s,λh=>by cases h⟩
end Go.Fw
namespace Go.Fw
open Go
def okC(v:Crl):Prop:=okL v.1
def agB(e:FN NN)(v:Crl)(f:okC v):OW (zR NN v) λb=>b=true->Wc v:=by
 unfold zR syv;refine ai (Ys e v.1 f) λg d=>ax (λc1=> ?_) λ_=>aa λh=>by cases h
 refine ai (Um v.2.1) λi c=>ax (λa=> ?_) λ_=>aa λh=>by cases h
 refine aa λh=> ?_;have j:=aih h;exact⟨d c1,(c a).1,(c a).2,by omega⟩
def Yy(f:FN NN)(v:Crl)(D:okC v)(n:Nat)(J:n<65536)(a:Bs):k9 NN v (n:Int) a=some true:=by
 suffices OW (k9 NN v (n:Int) a) λr=>r=true by
  obtain⟨r,B,rfl⟩:=this;exact B
 have p:=adq f;have K:OW ((n9 NN).bind λc=>some c) λr=>r=true:=by
  rw[p];exact aa rfl
 unfold k9 syv;rw[p];refine gq (jO (k_t ?_));refine ai (agB f v D) λb A=>jO (ax (λc=> ?_) λ_=>aa rfl);refine bM (λ_=>aa rfl) λI=> ?_;rcases aa9 f v (A c) with d|⟨b,d,G,H,y,z⟩
 ·exact eD d (aa rfl)
 ·refine eD d ?_;dsimp only;have E:IntKind.wrap .i64 (n:Int)=(n:Int):=by
   show IntKind.i64.wrap (n:Int)=_;rw[aie _ (by omega)]
  have g:n % b.length<b.length:=Nat.mod_lt _ (by omega);refine k_z ?_;rw[show(((b.length:Nat):Int)==0)=false from aic.2 (by omega),E,show Int.tmod (n:Int) ((b.length:Nat):Int)=((n % b.length:Nat):Int) from rfl];refine k_f (k_f ?_);obtain⟨s,C,k⟩:=E8 (l:=b) (i:=0) (j:=((n % b.length:Nat):Int)) (by omega) (by omega) (by omega);have m:s=b.take (n % b.length):=by rw[k];rfl
  subst m;refine eD C ?_;obtain⟨w,e,o,q,t⟩:=y _ g;refine eD q ?_;rw[fY (by omega) (by simp;omega)];refine gq ?_;rw[ait,fY (by omega) (by omega)];refine gq ?_;obtain⟨M,F,L,u,x⟩:=z a (by omega);refine eD u ?_;dsimp only;refine KN t (aa ?_);rw[ajY];apply Bool.eq_iff_iff.2;rw[ajY,ajY,x];constructor
  ·rintro rfl;rfl
  ·intro h;exact List.length_eq_zero_iff.1 (by omega)
end Go.Fw
namespace Go.Fw
open Go.RowKit
mutual
def ag4(σ:Sto):Nat->D->Option D
 |0,_=>none
 |n+1,d=>match d.pure with
  |true=>some d
  |false=>match d with
   |.sl l u o len sz f=>match σ[l]? with
    |some (.cells cs _ v)=>match Nat.beq v u&&Nat.ble (o+len*sz) cs.length with
     |true=>match UM σ n ((cs.drop o).take (len*sz)) with
      |some xs=>some (.list xs len f)
      |none=>none
     |false=>none
    |_=>none
   |.agg cs=>match UM σ n cs with
    |some xs=>some (.agg xs)
    |none=>none
   |_=>none
def UM (σ:Sto):Nat->List D->Option (List D)
 |0,_=>none
 |n+1,l=>match l with
  |[]=>some []
  |d::ds=>match ag4 σ n d with
   |some x=>match UM σ n ds with
    |some xs=>some (x::xs)
    |none=>none
   |none=>none
end
def snap(G:Gh)(w:World):Gh:=⟨λb o=>w.cell? ⟨b,o,none⟩,G.mimm,λ_ _=>none,G.siz⟩
section
variable {P:Program}{B:dQ P}{G:Gh}{σ:Sto}{w:World}
end
end Go.Fw
namespace Go.Fw
open Go.RowKit
mutual
def tT(P:Program):Nat->TC->TypeId->Bool
 |0,_,_=>false
 |n+1,c,t=>match c with
  |.byte=>match P.underlying t with
   |some (.int k)=>decide (k=.u8)
   |_=>false
  |.int k=>match P.underlying t with
   |some (.int k')=>decide (k'=k)
   |_=>false
  |.bool=>match P.underlying t with
   |some .bool=>true
   |_=>false
  |.str=>match P.underlying t with
   |some .string=>true
   |_=>false
  |.sl c=>match P.underlying t with
   |some (.slice e)=>tT P n c e&&(Nat.beq (P.cellsOf e) c.sz&&(Nat.blt 0 c.sz&&Nat.blt 0 (P.bytesOf e)))
   |_=>false
  |.node=>false
  |.spot=>false
  |c=>match P.underlying t with
   |some (.struct fs)=>J6 P n c 0 fs.toList&&Nat.beq (P.cellsOf t) c.sz
   |_=>false
def J6 (P:Program):Nat->TC->Nat->List Field->Bool
 |0,_,_,_=>false
 |n+1,c,off,fs=>match fs with
  |[]=>match c with
   |.unit=>true
   |_=>false
  |f::r=>match r with
   |[]=>Nat.beq f.offset off&&(Nat.beq (P.cellsOf f.type) c.sz&&tT P n c f.type)
   |_::_=>match c with
    |.pair a b=>Nat.beq f.offset off&&(Nat.beq (P.cellsOf f.type) a.sz&&(tT P n a f.type&&J6 P n b (off+a.sz) r))
    |_=>false
end
def TC.ok:(t:TC)->t.Den->Prop
 |.byte,_=>True
 |.int k,n=>k.min<=n/\n<=k.max
 |.bool,_=>True
 |.str,s=>s.length<=maxLen
 |.sl t,c=>c.length<=maxLen/\∀x∈c,t.ok x
 |.pair a b,x=>a.ok x.1/\b.ok x.2
 |.unit,_=>True
 |.node,_=>True
 |.spot,_=>True
def TC.sm:(t:TC)->t.Den->Prop
 |.byte,_=>True
 |.int _,_=>True
 |.bool,_=>True
 |.str,s=>s.length<=reachBytes
 |.sl t,c=>c.length<=reachBytes/\∀x∈c,t.sm x
 |.pair a b,x=>a.sm x.1/\b.sm x.2
 |.unit,_=>True
 |.node,_=>True
 |.spot,_=>True
def C2{H:Type}{P:Program}{e:TypeId}{p:Nat->Bool}:∀{ds:List (DataW H)}{d:DataW H},(DataW.weightsAll P e ds).all p=true->d∈ds->(d.weights P e).all p=true
 |[],_,_,h=>by cases h
 |d::ds,x,h,a=>by
  simp only[DataW.weightsAll,akj,ahF]at h;rcases ah8.1 a with rfl|a
  ·exact h.1
  ·exact C2 h.2 a
def tU{H:Type}{P:Program}{p:Nat->Bool}:∀{a:List TypeId}{ds:List (DataW H)},(DataW.weightsEach P a ds).all p=true->∀(i:Nat) t d,a[i]?=some t->ds[i]?=some d->(d.weights P t).all p=true
 |[],_,_,i,t,d,h,_=>by simp at h
 |_::_,[],_,i,t,d,_,h=>by simp at h
 |t::a,d::ds,h,i,f,e,b,c=>by
  simp only[DataW.weightsEach,akj,ahF]at h;cases i with
  |zero=>
   cases b;cases c;exact h.1
  |succ i=>exact tU h.2 i f e (by simpa using b) (by simpa using c)
def af.one{G:Gh}{d:D}{v:Value}(h:Rep G d v):af G [d] [v]:=by simp only[af];exact⟨v,[],rfl,h,rfl⟩
def afz{n:Int}(h:(Lit.int .u8 n).wf=true):∃b:UInt8,n=(b.toNat:Int):=by
 simp only[Lit.wf,ahF,aij]at h;have a:IntKind.u8.min=0:=by decide
 have c:IntKind.u8.max=255:=by decide
 rw[a,c]at h;exact⟨UInt8.ofNat n.toNat,by simp;omega⟩
section
variable {H:Type}{enc:TypeId×Value→H}{P:Program}{w:World}{base:Nat}{sp:Nat→Bool}{held:Bool}
def G5{a:Addr}{n:Nat}{cs:List Value}(h:w.cells? base a n=some cs):cs.length=n/\∀i,i<n->w.cell? (a.add i)=cs[i]? :=by
 unfold World.cells? at h;split at h<;>try (cases h;done)
 exact⟨by simpa using mapM_some_length h,λi b=>mapM_some_get h i i (by simp[b])⟩
def FU{G:Gh}{b:Nat}:∀{xs:List D}{vs:List Value}{o:Nat},af (snap G w) xs vs->(∀i v,vs[i]?=some v->w.cell? ⟨b,o+i,none⟩=some v)->Cells (snap G w) b o xs
 |[],_,_,_,_=>trivial
 |x::xs,_,o,h,k=>by
  simp only[af]at h;obtain⟨v,r,rfl,a,c⟩:=h;refine⟨⟨v,k 0 v rfl,a⟩,FU c λi u d=> ?_⟩;have:=k (i+1) u (by simpa using d);rwa[show o+1+i=o+(i+1) from by omega]
def N8{G:Gh}{α:Type}{E:Enc α}:∀{xs:List α}{vss:List (List Value)},vss.length=xs.length->(∀(i:Nat) x b,xs[i]?=some x->vss[i]?=some b->af G (E.cells x) b)->af G (dC E xs) vss.flatten
 |[],vss,a,_=>by
  have:vss=[]:=List.length_eq_zero_iff.1 (by simpa using a);subst this;rw[show dC E ([]:List α)=[] from E.fnil];simp only[List.flatten_nil,af]
 |x::xs,[],a,_=>by simp at a
 |x::xs,b::vss,a,h=>by
  rw[show dC E (x::xs)=E.cells x++dC E xs from E.fcons x xs,List.flatten_cons];exact(h 0 x b rfl rfl).append (N8 (by simpa using a) λi y e d c=>h (i+1) y e (by simpa using d) (by simpa using c))
def Jm{α:Type}{sz:Nat}:∀{vss:List (List α)}{i:Nat}{v:α},(∀a∈vss,a.length=sz)->0<sz->vss.flatten[i]?=some v->∃a,vss[i / sz]?=some a/\a[i % sz]?=some v
 |[],i,v,_,_,h=>by simp at h
 |a::vss,i,v,c,d,h=>by
  have j:=c a (aik ..);rw[List.flatten_cons]at h;rcases ahW i sz with b|b
  ·rw[ahP (by omega)]at h;exact⟨a,by rw[Nat.div_eq_of_lt b];rfl,by rw[Nat.mod_eq_of_lt b];exact h⟩
  ·rw[ahV (by omega),j]at h;obtain⟨k,e,f⟩:=Jm (λu g=>c u (ah0 _ g)) d h;refine⟨k,?_,?_⟩
   ·have:i / sz=(i-sz) / sz+1:=by
     rw[<-Nat.sub_add_cancel b,Nat.add_div_right _ d];simp
    rw[this];simpa using e
   ·rw[Nat.mod_eq_sub_mod b];exact f
def QQ{α k:Type}{R:Nat->α->k->Prop}:∀n:Nat,(∀i,i<n->∃x y,R i x y)->∃(xs:List α)(f:List k),xs.length=n/\f.length=n/\∀(i:Nat) x y,xs[i]?=some x->f[i]?=some y->R i x y
 |0,_=>⟨[],[],rfl,rfl,λi x y h=>by simp at h⟩
 |n+1,h=>by
  obtain⟨xs,f,g,j,l⟩:=QQ n λi e=>h i (by omega);obtain⟨x,y,m⟩:=h n (by omega);refine⟨xs++[x],f++[y],by simp[g],by simp[j],λi a b c d=> ?_⟩;rcases Nat.lt_trichotomy i n with e|e|e
  ·rw[ahP (by omega)]at c d;exact l i a b c d
  ·subst e;rw[ahV (by omega),g]at c;rw[ahV (by omega),j]at d;simp at c d;subst c d;exact m
  ·rw[ahZ (by simp;omega)]at c;cases c
mutual
def yE(G:Gh):∀(n:Nat)(c:TC)(t:TypeId),tT P n c t=true->∀(fuel:Nat)(cs:List Value)(x:DataW H×List MemPlace),DataW.trod enc P w base sp held fuel t cs=some x->
 ∃y:c.Den,af (snap G w) (c.cells y) cs/\c.ok y/\((x.1.weights P t).all (· <=reachBytes)=true->c.sm y)
 |0,_,_,h,_,_,_,_=>by simp[tT]at h
 |n+1,.byte,t,h,fuel,cs,x,hx=>by
  simp only[tT]at h;split at h<;>try (cases h;done)
  rename_i k hu;have:=aih h;subst this;obtain⟨m,rfl,_,hw⟩:=DataW.trod_int hu hx;obtain⟨b,rfl⟩:=afz hw;exact⟨b,af.one (by simp only[Rep]),trivial,λ_=>trivial⟩
 |n+1,.int k,t,h,fuel,cs,x,hx=>by
  simp only[tT]at h;split at h<;>try (cases h;done)
  rename_i k' hu;have:=aih h;subst this;obtain⟨m,rfl,_,hw⟩:=DataW.trod_int hu hx;simp only[Lit.wf,ahF,aij]at hw;exact⟨m,af.one (by simp only[Rep]),hw,λ_=>trivial⟩
 |n+1,.bool,t,h,fuel,cs,x,hx=>by
  simp only[tT]at h;split at h<;>try (cases h;done)
  rename_i hu;obtain⟨b,rfl,_⟩:=DataW.trod_bool hu hx;exact⟨b,af.one (by simp only[Rep]),trivial,λ_=>trivial⟩
 |n+1,.str,t,h,fuel,cs,x,hx=>by
  simp only[tT]at h;split at h<;>try (cases h;done)
  rename_i hu;obtain⟨s,rfl,rfl,hs⟩:=DataW.trod_string hu hx;exact⟨s.data.toList,af.one (by simp only[Rep]),by simpa[TC.ok] using hs,λh=>by simpa[DataW.weights,TC.sm] using h⟩
 |n+1,.sl c,t,h,fuel,cs,x,hx=>by
  simp only[tT]at h;split at h<;>try (cases h;done)
  rename_i e hu;simp only[ahF]at h;obtain⟨h1,h2,h3,h33⟩:=h;have h2:=de h2;have h3:0<c.sz:=ahR h3;have h33:0<P.bytesOf e:=ahR h33;rcases DataW.trod_slice hu hx with⟨rfl,_⟩|⟨a,len,cap,elems,rest,m,_,rfl,rfl,_,hlc,hcm,hel,hr,_⟩
  ·refine⟨[],af.one ?_,by simp[TC.ok,maxLen],λ_=>by simp[TC.sm]⟩;simp only[Rep];exact⟨none,0,rfl,ahO _,by omega,(λh=>by cases h),.inr c.enc.fnil⟩
  ·obtain⟨xs,vss,k1,k2,k3⟩:=QQ (R:=λi (y:c.Den)(vs:List Value)=>w.cells? base (a.add (i*P.cellsOf e)) (P.cellsOf e)=some vs/\af (snap G w) (c.cells y) vs/\c.ok y/\((DataW.weightsAll P e (elems.map (·.1))).all (· <=reachBytes)=true->c.sm y)) len λi hi=>by
    have h4:=hr i hi;rw[ahG (by omega)]at h4;obtain⟨vs,h5,h6⟩:=aj5.1 h4;obtain⟨y,h7,h8,h9⟩:=yE G n c e h1 m vs _ h6;exact⟨y,vs,h5,h7,h8,λhw=>h9 (C2 hw (aiz.2 ⟨_,ais _,rfl⟩))⟩
   have hvs:∀vs∈vss,vs.length=c.sz:=by
    intro vs hvs;obtain⟨i,hi⟩:=aiP hvs;have hil:=ah hi;obtain⟨h5,_⟩:=k3 i _ vs (ahG (by omega)) hi;rw[(G5 h5).1,h2]
   refine⟨xs,af.one ?_,⟨by rw[k1];exact aiW hlc hcm,λy hy=> ?_⟩,λhw=> ?_⟩
   ·simp only[Rep];refine⟨some a,cap,by rw[k1],by rw[k1];exact hlc,hcm,(λh=>by cases h),?_⟩;rcases akG len with h0|h0
    ·right;have:xs=[]:=List.length_eq_zero_iff.1 (by omega);subst this;exact c.enc.fnil
    ·left;have hs:a.spot=none:=by
      have hv0:0<vss.length:=by omega
      have h0':=(k3 0 _ _ (ahG (by omega)) (ahG hv0)).1;have h9:=(G5 h0').2 0 (by omega);have hl0:=hvs _ (ais hv0);rw[ahG (by omega),ajx]at h9;unfold Addr.add at h9;simp only[aiG]at h9;unfold World.cell? at h9;split at h9<;>try (cases h9;done)
      split at h9<;>try (cases h9;done)
      rename_i hn;simpa using hn
     obtain⟨ab,ao,_⟩:=a;simp only at hs;subst hs;have hcell:∀(i:Nat) v,vss.flatten[i]?=some v->w.cell? ⟨ab,ao+i,none⟩=some v:=by
      intro i v hv;obtain⟨vs,h5,h6⟩:=Jm hvs h3 hv;have hil:=ah h5;obtain⟨h7,_⟩:=k3 _ _ vs (ahG (by omega)) h5;have h8:=(G5 h7).2 (i % c.sz) (by rw[h2];exact Nat.mod_lt _ h3);rw[h6,h2]at h8;have hd:i / c.sz*c.sz+i % c.sz=i:=by rw[Nat.mul_comm];exact Nat.div_add_mod i c.sz
      have hadd:((⟨ab,ao,none⟩:Addr).add (i / c.sz*c.sz)).add (i % c.sz)=⟨ab,ao+i,none⟩:=by
       unfold Addr.add;by_cases e1:i / c.sz*c.sz=0<;>by_cases e2:i % c.sz=0<;>simp only[e1,e2,aiG,aiB]
       ·rw[show ao+i=ao from by omega]
       ·rw[show ao+i % c.sz=ao+i from by omega]
       ·rw[show ao+i / c.sz*c.sz=ao+i from by omega]
       ·rw[show ao+i / c.sz*c.sz+i % c.sz=ao+i from by omega]
      rw[hadd]at h8;exact h8
     have hreps:=N8 (G:=snap G w) (E:=c.enc) (xs:=xs) (vss:=vss) (by omega) λi y vs hy hv=>(k3 i y vs hy hv).2.1;exact⟨ab,ao,rfl,FU hreps hcell⟩
   ·obtain⟨i,hi⟩:=aiP hy;have hil:=ah hi;exact(k3 i y (vss[i]'(by omega)) hi (ahG (by omega))).2.2.1
   ·simp only[DataW.weights,hu,ai3,akj,ahF,aij,aiq]at hw;refine⟨?_,λy hy=> ?_⟩
    ·have h9:=akL (elems.length+rest.length) h33;omega
    ·obtain⟨i,hi⟩:=aiP hy;have hil:=ah hi;exact(k3 i y (vss[i]'(by omega)) hi (ahG (by omega))).2.2.2 hw.2.1
 |n+1,.pair a b,t,h,fuel,cs,x,hx=>by
  simp only[tT]at h;split at h<;>try (cases h;done)
  rename_i fs hu;simp only[ahF]at h;obtain⟨xs,m,_,rfl,hl,hxs,hf⟩:=DataW.trod_struct hu hx;obtain⟨y,h1,h2⟩:=Ng G n (.pair a b) 0 fs.toList h.1 m cs (((DataW.agg (xs.map (·.1))).weights P t).all (· <=reachBytes)=true) λi f hi=>⟨xs[i]'(by rw[hxs];simpa using ah hi),by
   rw[hf i f (by simpa using hi),List.getElem?_eq_getElem],λhw=>by
   simp only[DataW.weights,hu]at hw;exact tU hw i f.type _ (by rw[aiJ,hi];rfl) (by rw[aiJ,ahG];rfl)⟩
  refine⟨y,?_,h2⟩;rw[aiv,<-de h.2,<-hl,ajh]at h1;exact h1
 |n+1,.unit,t,h,fuel,cs,x,hx=>by
  simp only[tT]at h;split at h<;>try (cases h;done)
  rename_i fs hu;simp only[ahF]at h;obtain⟨xs,m,_,rfl,hl,hxs,hf⟩:=DataW.trod_struct hu hx;obtain⟨y,h1,h2⟩:=Ng G n .unit 0 fs.toList h.1 m cs (((DataW.agg (xs.map (·.1))).weights P t).all (· <=reachBytes)=true) λi f hi=>⟨xs[i]'(by rw[hxs];simpa using ah hi),by
   rw[hf i f (by simpa using hi),List.getElem?_eq_getElem],λhw=>by
   simp only[DataW.weights,hu]at hw;exact tU hw i f.type _ (by rw[aiJ,hi];rfl) (by rw[aiJ,ahG];rfl)⟩
  refine⟨y,?_,h2⟩;rw[aiv,<-de h.2,<-hl,ajh]at h1;exact h1
 |n+1,.node,t,h,fuel,cs,x,hx=>by simp[tT]at h
 |n+1,.spot,t,h,fuel,cs,x,hx=>by simp[tT]at h
def Ng (G:Gh):∀(n:Nat)(c:TC)(off:Nat)(fs:List Field),J6 P n c off fs=true->∀(m:Nat)(cs:List Value)(W:Prop),
 (∀(i:Nat)(f:Field),fs[i]?=some f->∃x,DataW.trod enc P w base sp held m f.type ((cs.drop f.offset).take (P.cellsOf f.type))=some x/\(W->(x.1.weights P f.type).all (· <=reachBytes)=true))->∃y:c.Den,af (snap G w) (c.cells y) ((cs.drop off).take c.sz)/\c.ok y/\(W->c.sm y)
 |0,_,_,_,h,_,_,_,_=>by simp[J6]at h
 |n+1,c,off,[],h,m,cs,W,hf=>by
  simp only[J6]at h;split at h<;>try (cases h;done)
  exact⟨(),by simp only[show TC.unit.sz=0 from rfl,ald];show af _ [] [];simp only[af],trivial,λ_=>trivial⟩
 |n+1,c,off,[f],h,m,cs,W,hf=>by
  simp only[J6,ahF]at h;obtain⟨h1,h2,h3⟩:=h;obtain⟨x,hx,hw⟩:=hf 0 f rfl;rw[de h1,de h2]at hx;obtain⟨y,k1,k2,k3⟩:=yE G n c f.type h3 m _ x hx;exact⟨y,k1,k2,λh=>k3 (hw h)⟩
 |n+1,c,off,f::g::r,h,m,cs,W,hf=>by
  simp only[J6]at h;split at h<;>try (cases h;done)
  rename_i a b;simp only[ahF]at h;obtain⟨h1,h2,h3,h4⟩:=h;obtain⟨x,hx,hw⟩:=hf 0 f rfl;rw[de h1,de h2]at hx;obtain⟨ya,k1,k2,k5⟩:=yE G n a f.type h3 m _ x hx;obtain⟨yb,k3,k4,k6⟩:=Ng G n b (off+a.sz) (g::r) h4 m cs W λi f' hi=>hf (i+1) f' (by simpa using hi);refine⟨(ya,yb),?_,⟨k2,k4⟩,λh=>⟨k5 (hw h),k6 h⟩⟩;have e:(cs.drop off).take (TC.pair a b).sz=(cs.drop off).take a.sz++(cs.drop (off+a.sz)).take b.sz:=by
   rw[show(TC.pair a b).sz=a.sz+b.sz from rfl,List.take_add,ajc]
  rw[e];exact k1.append k3
end
end
end Go.Fw
namespace Go.Fw
open Go.RowKit Go.WideShapes Go.ChangeShapes
section
variable {H:Type}{enc:TypeId×Value→H}{P:Program}
def post_below{f:Func}{s:ChangeSpec}{c n d m:Bool}{W o:World}{args:Array Value}{v:Value}{ds q:List (DataW H)}{a pa pv:List MemPlace}
 (y:DataW.Whole enc P f.params.toList s.vars c W args.toList ds q a)
 (l:∀(b:Nat)(sp:Nat->Bool)(hd:Bool),DataW.TrodAll enc P o b sp hd f.resultTypes.toList (v.resultList f.resultTypes.size) (s.fn H (ds++q)).results [])
 (e:∀sp:Nat->Bool,(∀p∈a,sp p.block=true)->DataW.TrodAll enc P o 0 sp true f.params.toList args.toList (s.fn H (ds++q)).args pa)
 (h:∀sp:Nat->Bool,(∀p∈a,sp p.block=true)->DataW.TrodVars enc P o sp s.vars (s.fn H (ds++q)).vars pv)
 (i:a=pa++pv)(A:Below W.heap.size W o)
 (z:∀(j:Nat)(t:TypeId)(r:Value),f.resultTypes[j]?=some t->(v.resultList f.resultTypes.size)[j]?=some r->Value.okWide P o .any 0 t r):
 s.post enc P f c n d m W args v o:=by
 have w:∀p∈a,p.block<W.heap.size:=λp g=>y.lt p g;have k:∀p∈a,(λb=>decide (b<W.heap.size)) p.block=true:=λp g=>by simpa using w p g
 refine⟨ds,q,a,[],pa,pv,y,l _ _ _,e _ k,h _ k,World.keptBut_mono (λp g=>⟨g,?_⟩) (A.frame (· ∈a)),λ_=> ?_⟩
 ·rw[i,air]at g;exact Or.inr g
 ·obtain⟨_,_,_,_,_,D,C⟩:=y;refine⟨z,_,_,([]++pa)++pv,⟨[]++pa,pv,trodAll_append (e _ (λ_ _=>rfl)) (l _ _ _),h _ (λ_ _=>rfl),rfl,?_,?_⟩,?_⟩
  ·intro b x g;have u:MemPlace.cell b x∈a:=by rw[i];simpa using g
   rw[A.frozen (w _ u)];exact D b x u
  ·intro B;have:=C B;rw[i]at this;simpa using this
  ·intro p g _;rw[i];simpa using g
end
def G0:Gh:=⟨λ_ _=>none,λ_=>none,λ_ _=>none,λ_=>none⟩
end Go.Fw
namespace Go.Fw
open Go.RowKit
def fq.run2{P:Program}{f:FuncId}{ds:List D}{b:Bool}(h:fq P f ds (.bool b))(w:World)(g:GlobOk P (snap G0 w) w){vals:List Value}(i:af (snap G0 w) ds vals):
 Calls P f vals.toArray w λe j=>e=.returned (.bool b)/\Below w.heap.size w j:=
 (h (snap G0 w) w vals ⟨λ_ _ _ x=>x,λ_ _ x=>(by cases x),λ_ _ x=>(by cases x)⟩ g i).mono λ_ _ ⟨v,k,c,d,a⟩=>⟨by simp only[Rep]at a;rw[c,a],d.below⟩
end Go.Fw
namespace Go.Proofs.Tryz
open Go Go.Fw
noncomputable abbrev Ie:TC:=.pair YO (.pair tc1 YJ)
def law_ends(v:Crl)(i:okC v)(n:Nat)(g:n<65536)(b:List UInt8)(f:Bool):fq prog 3 [.agg (Ie.cells v),.int .u16 (n:Int),.list (dC mt b) b.length f] (.bool true):=by
 obtain⟨_,_,_,h⟩:=AG.2;obtain⟨c,a,_,d⟩:=h (v,(n:Int),b) true (Yy hNN v i n g b);have e:c=.bool true:=by
  have a:some ((SV.bool true,([]:List DV)))=some (c,[]):=a;cases a;rfl
 subst e;refine d _ rfl _ ?_;simp only[VRs,VR];exact⟨_,_,rfl,⟨_,rfl,TC.scells_ok [] [] Ie v⟩,_,_,rfl,rfl,_,_,rfl,⟨f,rfl,λh=>(by cases h)⟩,rfl⟩
end Go.Proofs.Tryz
namespace Go.Proofs.Tryz
open Go Go.Fw Go.RowKit Go.ChangeShapes Go.WideShapes
set_option maxRecDepth 100000
def u36:∃a,prog.underlying 36=some (.struct a):=by
 have h:(match prog.underlying 36 with|some (.struct _)=>true|_=>false)=true:=by kernel_rfl
 split at h
 ·rename_i a b;exact⟨a,b⟩
 ·cases h
def u37:prog.underlying 37=some (.int .u16):=by kernel_rfl
section
variable {H:Type}{enc:TypeId×Value→H}{W:World}{base b0:Nat}{sp:Nat→Bool}{held:Bool}
def aet{y:Ie.Den}(h:Ie.sm y):okC y:=by
 have k:reachBytes=140737488351232:=rfl;simp only[TC.sm,k]at h;obtain⟨⟨_,_,⟨j,f⟩,_,_,_,⟨m,c⟩,n,g⟩,_⟩:=h;exact⟨⟨j,λr i=>⟨(f r i).1,λa l=>((f r i).2 a l).2.1⟩⟩,λe d=>⟨λx b=>⟨((c e d).2.2.2 x b).1,((c e d).2.2.2 x b).2.2.1⟩,(c e d).2.2.1⟩,λx b=>⟨(g x b).1,(g x b).2.2.1⟩⟩
def open_ends{v0 k v2:Value}{o p d2:DataW H}{I q1 J:List MemPlace}(i:Value.okWide prog W .any b0 36 v0)(C:Value.okWide prog W .any b0 37 k)(D:Value.okWide prog W .any b0 22 v2)
 (x:DataW.Trod enc prog W base sp held 36 v0 o I)(A:DataW.Trod enc prog W base sp held 37 k p q1)(B:DataW.Trod enc prog W base sp held 22 v2 d2 J)
 (q:(DataW.weightsEach prog [36,37,22] [o,p,d2]).all (· <=reachBytes)=true):∃(y:Crl)(n:Nat)(s:List UInt8),af (snap G0 W) [.agg (Ie.cells y),.int .u16 (n:Int),.list (dC mt s) s.length false] [v0,k,v2]/\okC y/\n<65536:=by
 obtain⟨Q,f⟩:=u36;obtain⟨E,u⟩:=x;obtain⟨F,v⟩:=A;obtain⟨G,w⟩:=B;have g:∃b,v0=.agg b:=by
  unfold Value.okWide at i;rw[f]at i;obtain⟨b,rfl,_⟩:=i;exact⟨b,rfl⟩
 obtain⟨b,rfl⟩:=g;obtain⟨m,rfl⟩:=okWide_int u37 C;obtain⟨a,l,c,rfl⟩:=okWide_slice abz D;obtain⟨y,K,_,L⟩:=yE (P:=prog) (enc:=enc) G0 80 Ie 36 (by kernel_rfl) E _ _ u;obtain⟨z,N,O,_⟩:=yE (P:=prog) (enc:=enc) G0 20 (.int .u16) 37 (by kernel_rfl) F _ _ v;obtain⟨s,M,_,_⟩:=yE (P:=prog) (enc:=enc) G0 20 (.sl .byte) 22 (by kernel_rfl) G _ _ w;simp only[DataW.weightsEach,akj,ahF]at q;have j:∀z:Int,IntKind.u16.min<=z/\z<=IntKind.u16.max->z.toNat<65536/\(z.toNat:Int)=z:=λz h=>by
  rw[show IntKind.u16.min=0 from by decide,show IntKind.u16.max=65535 from by decide]at h;omega
 have r:=j z O;refine⟨y,z.toNat,s,?_,aet (L q.1),r.1⟩;have t:af (snap G0 W) [.list (dC mt s) s.length false] [.slice a l c]:=M;have d:af (snap G0 W) [.int .u16 z] [.int .u16 m]:=N;rw[r.2];simp only[af]at t d⊢;obtain⟨_,_,e,d,_⟩:=d;cases e;refine⟨_,_,rfl,?_,_,_,rfl,d,t⟩;simp only[Rep];exact⟨b,rfl,K⟩
end
def Nm:prog.globals.size=8:=by kernel_rfl
def WN:((List.range 8).all λg=>match oa prog g with|none=>true|some _=>Nat.beq g 1||Nat.beq g 2)=true:=by kernel_rfl
def afD{g:Nat}{cs:List D}(h:oa prog g=some cs):cs=[.anyi]/\(g=1∨g=2):=by
 constructor
 ·unfold oa Nf at h;obtain⟨v,_,h⟩:=aj5.1 h;split at h
  ·cases h;rfl
  ·split at h
   ·cases h;rfl
   ·cases h
 ·have b:g<8:=by
   rw[<-Nm];unfold oa at h;obtain⟨v,c,_⟩:=aj5.1 h;exact(aig.1 c).1
  have a:=ah7.1 WN g (aj6.2 b);rw[h]at a;simp only[ai1]at a;rcases a with a|a
  ·exact .inl (aiX a)
  ·exact .inr (aiX a)
def EC{W:World}{n:String}{g:Nat}{l:Array Value}(b:prog.globalNamed n=some g)(h:W.var? prog n=some l):∃t f,W.heap[g]?=some (.cells l t f):=by
 unfold World.var? at h;rw[b]at h;simp only[ahE]at h;split at h
 ·rename_i c t f a;cases h;exact⟨t,f,a⟩
 ·cases h
def Q9{W:World}{n:String}{g:Nat}{x:Value}(b:prog.globalNamed n=some g)(h:W.var? prog n=some #[x]):g<W.heap.size/\W.cell? ⟨g,0,none⟩=some x:=by
 obtain⟨t,f,a⟩:=EC b h;refine⟨dD a,?_⟩;unfold World.cell?;rw[a];rfl
def aeu{W:World}(h:W.ShapedOpen prog):∃m t f,W.heap[3]?=some (.cells #[.int .i64 m] t f):=by
 obtain⟨zero,t,b,e,i,j,k⟩:∃zero t,((begin prog (λ_ _=>0) default).world.heap[3]?).bind Obj.row?=some (zero,t)/\zero.size=1/\prog.buildable t=true/\prog.cellTypes prog.depth t=some [t]/\prog.underlying t=some (.int .i64):=⟨#[.int .i64 0],3,by kernel_rfl,by kernel_rfl,by kernel_rfl,by kernel_rfl,by kernel_rfl⟩;obtain⟨a,c,g,_⟩:=h.1 3 zero t (by rw[Nm];decide) b;obtain⟨m,d⟩:=Go.Proofs.cell_of_shapedOpen_int h (by rw[Nm];decide) b e i j k;obtain⟨v,rfl⟩:∃v,a= #[v]:=by
  obtain⟨l⟩:=a
  match l,g.trans e with
  |[v],_=>exact⟨v,rfl⟩
 have:v=.int .i64 m:=by
  simp only[World.cell?,c]at d;simpa using d
 subst this;exact⟨m,_,_,c⟩
def glob_ok{W:World}{j t2:TypeId}{k m:Value}(q:Lib.TabIs prog W "internal/strconv.uint64pow10" .u64 Lib.pow10Tab)(n:W.var? prog "strconv.ErrSyntax" =some #[.iface j k])(o:W.var? prog "strconv.ErrRange" =some #[.iface t2 m])
 (i:Lib.Utf8Tabs 6 7 W)(c:∃l,W.var? prog "unicode/utf8.first" =some l)(d:∃l,W.var? prog "unicode/utf8.acceptRanges" =some l)(p:W.ShapedOpen prog):GlobOk prog (snap G0 W) W:=by
 refine⟨λg u h=> ?_,⟨λg a=>EC a q,λg a=> ?_,λg a=> ?_,λg a=> ?_⟩⟩
 ·obtain⟨rfl,a⟩:=afD h;have e:∃t x,g<W.heap.size/\W.cell? ⟨g,0,none⟩=some (.iface t x):=by
   rcases a with rfl|rfl
   ·exact⟨j,k,Q9 (by kernel_rfl) n⟩
   ·exact⟨t2,m,Q9 (by kernel_rfl) o⟩
  obtain⟨t,x,r,s⟩:=e;refine⟨r,?_⟩;simp only[Rep];exact⟨g,0,rfl,⟨_,s,by simp only[Rep];exact⟨t,x,rfl⟩⟩,trivial⟩
 ·obtain rfl:g=3:=aiI (a.symm.trans (by kernel_rfl));exact aeu p
 ·obtain rfl:g=6:=aiI (a.symm.trans (by kernel_rfl));obtain⟨l,c⟩:=c;obtain⟨t,f,b⟩:=EC a c;exact⟨dD b,i.1⟩
 ·obtain rfl:g=7:=aiI (a.symm.trans (by kernel_rfl));obtain⟨l,d⟩:=d;obtain⟨t,f,b⟩:=EC a d;exact⟨dD b,i.2⟩
end Go.Proofs.Tryz
