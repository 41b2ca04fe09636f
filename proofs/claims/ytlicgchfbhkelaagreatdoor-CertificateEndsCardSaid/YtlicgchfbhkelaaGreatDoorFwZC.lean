/- A framework for proofs about Go programs in this model: part ZC. Everything is proved; no condition is added. -/
import Derived.ChangeArms
import GoSem.ClaimJoined
import Derived.ChangeSame
import Derived.WideShapes
import Derived.WideKeyArgs
import Derived.Stop.LaidErr
import Derived.Lib.LaidTab
import Derived.Lib.LaidU8
import Derived.Shelf.Vars
import Derived.Test.YtlicgchfbhkelaaGreatDoorFwZB
set_option linter.unusedVariables false
set_option linter.unusedSimpArgs false
set_option linter.defProp false
def aji:=@List.length_eq_zero_iff
namespace Go.Fw
open Go
def XB(l:List gn):Prop:=wL l<10000000/\∀v∈l,v.2.2.length<190000
def XB.nil:XB []:=⟨by decide,λ_ h=>by cases h⟩
def Mx{l:List gn}{v:gn}(h:v∈l):v.1.length<wL l/\v.2.2.length<wL l:=by
 have:=RS h;omega
section
variable {β:Type}{Q:β→Prop}
def agt{α:Type}{x:α}{r:List α}{f:α->Option β}(k:OW (f x) Q):OW ((ix (x::r) 0).bind f) Q:=k
def agu{α:Type}{x:α}{r:List α}{f:List α->Option β}(k:OW (f r) Q):OW ((slc (x::r) 1 (((x::r).length:Nat):Int)).bind f) Q:=by
 have:slc (x::r) 1 (((x::r).length:Nat):Int)=some r:=by
  unfold slc;rw[ah2 (by simp only[ahP];omega)];simp
 rw[this];exact k
def ac6{a:Bs}{t:TLV}{e:cM}{f:Bs->Option β}(h:EL a t e)(k:OW (f (ai t)) Q):OW ((slc a e.2.2.2.1 e.2.2.2.2.2).bind f) Q:=by rw[h.whole];exact k
def afe{α:Type}{x:α}{r:List α}{A B:Option β}(h:OW B Q):OW (bif (((x::r).length:Nat):Int)==0 then A else B) Q:=by
 have:((((x::r).length:Nat):Int)==0)=false:=aid.2 (by simp only[ahP];omega);rw[this];exact h
def aff{α:Type}{A B:Option β}(h:OW A Q):OW (bif ((([]:List α).length:Nat):Int)==0 then A else B) Q:=h
def afg{α:Type}{A B:Option β}(h:OW B Q):OW (bif decide (((([]:List α).length:Nat):Int)>0) then A else B) Q:=h
def gX{α:Type}{x:Option α}{v:α}{f:α->Option β}(h:x=some v)(k:OW (f v) Q):OW (x.bind f) Q:=by rw[h];exact k
def k_z{A B:Option β}(h:OW B Q):OW (bif ((0:Int) !=0) then A else B) Q:=h
def ahy{A B:Option β}(h:OW A Q):OW (bif ((0:Int)==0) then A else B) Q:=h
def afh{e:Int}{A B:Option β}(a:e≠0)(h:OW A Q):OW (bif (e !=0) then A else B) Q:=by rw[qE a];exact h
def agv{e:Int}{A B:Option β}(a:e≠0)(h:OW B Q):OW (bif (e==0) then A else B) Q:=by rw[aid.2 a];exact h
end
section
variable {β:Type}{Q:β→Prop}
def mS{α:Type}{w:Nat}{l:List α}{x:α}{f:List α->Option β}(a:w<=200)(h:l.length<=100)(k:OW (f (l++[x])) Q):OW ((app w l [x]).bind f) Q:=by
 rw[gK a (by simp;omega)];exact k
end
section
variable {β:Type}{Q:β→Prop}
def agw{α:Type}{x y:α}{r:List α}{f:α->Option β}(k:OW (f y) Q):OW ((ix (x::y::r) 1).bind f) Q:=k
def agx{α:Type}{x y:α}{A B:Option β}(h:OW B Q):OW (bif ((([x,y].length:Nat):Int) !=2) then A else B) Q:=h
def agy{α:Type}{x y:α}{A B:Option β}(h:OW B Q):OW (bif decide ((([x,y].length:Nat):Int)<2) then A else B) Q:=h
def agz{α:Type}{x y:α}{A B:Option β}(h:OW B Q):OW (bif decide ((([x,y].length:Nat):Int)>2) then A else B) Q:=h
def afi{a:Bs}{t:TLV}{e:cM}{f:Bs->Option β}(h:EL a t e)(k:OW (f t.2.2.2) Q):OW ((slc a e.2.2.2.2.1 e.2.2.2.2.2).bind f) Q:=by rw[h.body];exact k
def afj{p:Prop}[Decidable p]{A B:Option β}(a:¬p)(h:OW B Q):OW (bif decide p then A else B) Q:=by rw[ahL a];exact h
def ahz{α:Type}{n:Nat}{x:Option α}{f:α->Option β}(h:OW (x.bind f) Q):OW (agree (List.replicate (n+1) x) f) Q:=by rw[nI];exact h
def agA{α γ:Type}{n:Nat}{x:Option α}{g:α->Option γ}{f:γ->Option β}(h:OW ((x.bind g).bind f) Q):OW ((agree (List.replicate (n+1) x) g).bind f) Q:=by rw[nI];exact h
end
def stQ{P:Prop}(h:P:=by repeat ((try dsimp only);first|with_reducible exact(zz _)|with_reducible refine ly ?_|with_reducible refine k_z ?_|with_reducible refine ahy ?_|with_reducible refine k_t ?_|with_reducible refine k_f ?_|with_reducible refine mX ?_|with_reducible refine afh (by first|assumption|decide) ?_|with_reducible refine agv (by first|assumption|decide) ?_|with_reducible refine afe ?_|with_reducible refine aff ?_|with_reducible refine afg ?_|with_reducible refine agx ?_|with_reducible refine agy ?_|with_reducible refine agz ?_|with_reducible refine nr ?_|with_reducible refine DD ?_|with_reducible refine agt ?_|with_reducible refine agw ?_|with_reducible refine agu ?_|with_reducible refine ac6 (by assumption) ?_|with_reducible refine afi (by assumption) ?_|with_reducible refine gX (by assumption) ?_)):P:=h
noncomputable def oR(v:Bs×Bs):TLV:=(0,true,16,ai (fU v.1)++v.2)
def FC(x y:List TLV):au (x++y)=au x++au y:=by simp[au]
noncomputable def mT(x:lu):Bool:=(aZ x).getD false
def xC(x:lu)(a:x.1.length<1000000000):aZ x=some (mT x):=by
 obtain⟨c,h,_⟩:=wa x (by omega);unfold mT;rw[h];rfl
def My{t t':TLV}{q:Bs}(h:ai t=ai t'++q)(w:okT t)(j:okT t'):q=[]:=by
 obtain⟨c,k,num,a⟩:=t;obtain⟨g,i,f,d⟩:=t';obtain⟨m,n,u⟩:=w;obtain⟨o,p,v⟩:=j;dsimp only at m n u o p v;have x:=iA (c:=c) (k:=k) (num:=num) (b:=a) (by omega);have r:(ai (c,k,num,a)).length=(ai (g,i,f,d)).length+q.length:=by rw[h,ahN]
 have A:(ai (c,k,num,a)).length<=a.length+6:=x;have B:=EJ 100 (by omega) (c:=c) (num:=num) k m n [] a [] [] (by simp only[aiw,ah6];show(ai (c,k,num,a)).length<_;omega) (by omega);have s:=EJ 100 (by omega) (c:=g) (num:=f) i o p [] d q [] (by simp only[aiw,ah6];show(ai (g,i,f,d)++q).length<_;rw[ahN];omega) (by omega);have e:tlv g i f d++q=tlv c k num a++[]:=by rw[ah6];exact h.symm
 rw[e,B]at s;have l:=ain (λy:Option (cM×Int×Int)=>y.map λz=>z.1.2.2.2.2.2) s;simp only[ai7,ahM]at l;unfold lq at l;have D:((ai (c,k,num,a)).length:Int)=((ai (g,i,f,d)).length:Int):=by
  have C:((tlv c k num a).length:Int)=((tlv g i f d).length:Int):=by simpa using l
  exact C
 exact aji.1 (by omega)
def aaP(t:TLV):2<=(ai t).length:=Fs [t] _ (by simp[mB])
end Go.Fw
namespace Go.Fw
open Go
abbrev FD:=(Bs×Bs)×Bs×Int
noncomputable def yP(N:Nat)(v:FD):Bool:=pS N v.1&&mT v.2
def AR(x:lu):TLV:=(0,false,3,iC x)
noncomputable def pk(v:FD):List TLV:=[oR v.1,AR v.2]
noncomputable def oS(v:FD):TLV:=(0,true,16,au (pk v))
def KB(v:FD):Prop:=v.1.1.length<10000000/\v.1.2.length<10000000/\v.2.1.length<10000000
def BS{N:Nat}(c:FN N)(v:FD)(h:KB v):bY N v=some (yP N v):=by
 obtain⟨a,b,d⟩:=h;unfold bY yP syv;rw[xB c _ a b,ahI,xC _ (by omega)];cases pS N v.1<;>rfl
def Mz(a:FN NN)(x:lu)(h:mT x=true)(b:x.1.length<10000000):gB NN x=some (iC x,0):=
 Zm NN (by unfold FN at a;omega) (by unfold FN at a;omega) x (by omega) (by rw[xC _ (by omega),h])
def lT(x:lu):(iC x).length=x.1.length+1:=rfl
def agB(a:FN NN)(v:FD)(h:KB v)(b:yP NN v=true)(l:(au (pk v)).length<100000000):gG NN v=some (ai (oS v),0):=by
 have i:=BS a v h;obtain⟨d,e,f⟩:=h;rw[b]at i;unfold yP at b;simp only[ahJ]at b;have c:=V6 a v.1 d e;rw[b.1]at c;simp only[ahY]at c;have j:=Mz a v.2 b.2 f;have m:=mR a 0 3 false (iC v.2) 0 3 rfl rfl (by omega) (by omega) (by rw[lT];omega);have k:=Fo a [uT v.1,ai (0,false,3,iC v.2)] (au (pk v)) rfl (by simp) (by omega);suffices OW (gG NN v) λr=>r=(ai (oS v),0) by
  obtain⟨r,g,rfl⟩:=this;exact g
 unfold gG kM syv
 (have zz:∀(P:Prop)(h:P:=by exact aa rfl),P:=λ_ h=>h;exact stQ)
def Sf(t u:TLV):au [t,u]=ai t++ai u:=by simp[au]
def afk(g:FN NN)(v:FD)(d:yP NN v=true)(a:Bs)(f:ai (oS v)=a)(q:a.length<9000000):jk NN a=some (v,0,0):=by
 have j:(au (pk v)).length<a.length:=by rw[<-f];exact iE (oS v)
 have m:(au (pk v)).length=(ai (oR v.1)).length+(ai (AR v.2)).length:=by unfold pk;rw[Sf,ahN]
 have u:=iE (oR v.1);have w:=iE (AR v.2);have x:(AR v.2).2.2.2.length=v.2.1.length+1:=rfl;unfold yP at d;simp only[ahJ]at d;obtain⟨l,s,b⟩:=nt g (c:=0) (num:=16) (by omega) (by omega) a (pk v) f.symm (by
  intro t e;unfold pk at e;simp only[aib,aj4,or_false]at e;rcases e with rfl|rfl
  ·exact⟨by show 0<4;decide,by show 16<31;decide,by omega⟩
  ·exact⟨by show 0<4;decide,by show 3<31;decide,by omega⟩) (by omega) 0 16 rfl rfl
 have n:=Se g v.1 d.1 (ai (oR v.1)) rfl (by omega);have o:bt (AR v.2).2.2.2=some (v.2,0):=EO v.2 (by omega) (by rw[xC _ (by omega),d.2]);suffices OW (jk NN a) λr=>r=(v,0,0) by
  obtain⟨r,k,rfl⟩:=this;exact k
 unfold jk syv;unfold pk at b;cases b with
 |cons p b=>cases b with
  |cons i b=>
   cases b;have c1:=i.yes 0 3 false 0 3 rfl rfl rfl rfl rfl
   (have zz:∀(P:Prop)(h:P:=by exact aa rfl),P:=λ_ h=>h;exact stQ)
def qG(t u:kQ):List TLV:=[oq t,oq u]
def ot(t u:kQ):TLV:=(0,true,16,au (qG t u))
def KQ(t u:kQ):(au (qG t u)).length<=42:=by
 have a:=OC t;have b:=OC u;unfold qG;rw[Sf,ahN];have c:(ai (oq t)).length=(yN t).length:=rfl;have d:(ai (oq u)).length=(yN u).length:=rfl;omega
def afl(a:FN NN)(t u:kQ)(d:mO t=true)(e:mO u=true):fW NN t u=some (ai (ot t u),0):=by
 have b:=XX a t;have c:=XX a u;rw[d]at b;rw[e]at c;simp only[ahY]at b c;have h:=KQ t u;have f:=Fo a [yN t,yN u] (au (qG t u)) rfl (by simp) (by omega);suffices OW (fW NN t u) λr=>r=(ai (ot t u),0) by
  obtain⟨r,g,rfl⟩:=this;exact g
 unfold fW;refine ahz (n:=3) (nr (gX b ?_));dsimp only;refine nr (mS (by omega) (by simp) (agA (n:=0) (nr (nr (gX c ?_)))));dsimp only;refine nr (mS (by omega) (by simp) ?_);refine ly (ly ?_);dsimp only;simp only[po];refine k_z (gX f (aa rfl))
def ac7(d:FN NN)(t u:kQ)(f:mO t=true)(g:mO u=true):jj NN (ai (ot t u))=some (t,u,0,0):=by
 have i:=KQ t u;have j:(ai (ot t u)).length<=(au (qG t u)).length+6:=iA (b:=au (qG t u)) (by omega);obtain⟨l,q,a⟩:=nt d (c:=0) (num:=16) (by omega) (by omega) (ai (ot t u)) (qG t u) rfl (by
  intro x e;unfold qG at e;simp only[aib,aj4,or_false]at e;rcases e with rfl|rfl<;>exact RX _) (by omega) 0 16 rfl rfl
 have m:=T1 d t f (ai (oq t)) rfl;have n:=T1 d u g (ai (oq u)) rfl;suffices OW (jj NN (ai (ot t u))) λr=>r=(t,u,0,0) by
  obtain⟨r,k,rfl⟩:=this;exact k
 unfold jj syv;unfold qG at a;cases a with
 |cons o a=>cases a with
  |cons p a=>
   cases a
   (have zz:∀(P:Prop)(h:P:=by exact aa rfl),P:=λ_ h=>h;exact stQ)
def abz(b:FN NN)(s:Bs)(g:s.length<1000):io NN (ai (0,false,2,s))=some (s,0,0):=by
 obtain⟨e,f,a⟩:=Px b (0,false,2,s) ⟨by omega,by show 2<31;omega,by show s.length<=_;omega⟩;have c1:=a.yes 0 2 false 0 2 rfl rfl rfl rfl rfl;have d:=nu (x:=s) (by omega);suffices OW (io NN (ai (0,false,2,s))) λr=>r=(s,0,0) by
  obtain⟨r,c,rfl⟩:=this;exact c
 unfold io syv
 (have zz:∀(P:Prop)(h:P:=by exact aa rfl),P:=λ_ h=>h;exact stQ)
def ac8(b:FN NN)(x:lu)(h:mT x=true)(g:x.1.length<9000000):lL NN (ai (AR x))=some (x,0,0):=by
 have i:=lT x;obtain⟨e,f,a⟩:=Px b (AR x) ⟨by show 0<4;decide,by show 3<31;decide,by show(iC x).length<=_;omega⟩;have c1:=a.yes 0 3 false 0 3 rfl rfl rfl rfl rfl;have d:bt (AR x).2.2.2=some (x,0):=EO x (by omega) (by rw[xC _ (by omega),h]);suffices OW (lL NN (ai (AR x))) λr=>r=(x,0,0) by
  obtain⟨r,c,rfl⟩:=this;exact c
 unfold lL syv
 (have zz:∀(P:Prop)(h:P:=by exact aa rfl),P:=λ_ h=>h;exact stQ)
end Go.Fw
namespace Go.Fw
open Go
abbrev uU:=Int×Bs×(Bs×Bs)×List Rdn×kQ×kQ×List Rdn×FD×Bool×lu×Bool×lu×List gn
noncomputable def AS(h:Bool)(b:lu)(ver:Int):Bool:=bif h then decide (ver>=1)&&mT b else((b.1.length:Int)==0)&&b.2==0
def Sg(h:Bool)(b:lu)(ver:Int)(a:b.1.length<10000000):bo h b ver=some (AS h b ver):=by
 unfold bo cE AS syv;rw[xC _ (by omega)];cases h
 ·cases ((b.1.length:Int)==0)<;>rfl
 ·cases decide (ver>=1)<;>rfl
def TB(v:uU):Prop:=v.2.2.1.1.length<10000000/\v.2.2.1.2.length<10000000/\wN v.2.2.2.1<10000000/\wN v.2.2.2.2.2.2.1<10000000/\KB v.2.2.2.2.2.2.2.1/\v.2.2.2.2.2.2.2.2.2.1.1.length<10000000/\v.2.2.2.2.2.2.2.2.2.2.2.1.1.length<10000000/\XB v.2.2.2.2.2.2.2.2.2.2.2.2
noncomputable def wB(N:Nat)(v:uU):Bool:=(bT N v).getD false
def BT(a:FN NN)(v:uU)(h:TB v):bT NN v=some (wB NN v):=by
 obtain⟨f,g,i,j,k,l,m,e⟩:=h;have d:SM (bT NN v):=by
  unfold bT syv;have p:=RR v.2.2.2.2.2.2.2.2.2.2.2.2;have n:=e.1;simp only[jV,xB a _ f g,uO a _ i,uO a _ j,uA,BS a _ k,Sg _ _ _ l,Sg _ _ _ m,Mg a v.2.2.2.2.2.2.2.2.2.2.2.2 (by omega) λx b=>by have:=(Mx b).1;omega,ahI]
  repeat (first|exact aa trivial|refine k_c _ (aa trivial) ?_)
  refine BQ (ae6 a _ (by omega) λx b=>⟨by have:=(Mx b).1;omega,e.2 x b⟩) λ_ _=> ?_;dsimp only;exact k_c _ (k_c _ (aa trivial) (aa trivial)) (aa trivial)
 obtain⟨c,o,_⟩:=d;unfold wB;rw[o];rfl
def V7(v:uU):Prop:=(v.1=0∨v.1=1∨v.1=2)/\v.2.1.length<=20/\od v.2.1=true/\pS NN v.2.2.1=true/\oO NN v.2.2.2.1=true/\mO v.2.2.2.2.1=true/\mO v.2.2.2.2.2.1=true/\oO NN v.2.2.2.2.2.2.1=true/\yP NN v.2.2.2.2.2.2.2.1=true/\AS v.2.2.2.2.2.2.2.2.1 v.2.2.2.2.2.2.2.2.2.1 v.1=true/\AS v.2.2.2.2.2.2.2.2.2.2.1 v.2.2.2.2.2.2.2.2.2.2.2.1 v.1=true/\(v.2.2.2.2.2.2.2.2.2.2.2.2=[]∨nL v.2.2.2.2.2.2.2.2.2.2.2.2=true)
def MA(b:FN NN)(v:uU)(h:TB v)(F:wB NN v=true):V7 v:=by
 have j:=BT b v h;rw[F]at j;obtain⟨u,w,y,z,A,B,C,D⟩:=h;have i:OP (bT NN v) λc=>c=true->V7 v:=by
  unfold bT syv;have J:=RR v.2.2.2.2.2.2.2.2.2.2.2.2;have E:=D.1;simp only[jV,xB b _ u w,uO b _ y,uO b _ z,uA,BS b _ A,Sg _ _ _ B,Sg _ _ _ C,Mg b v.2.2.2.2.2.2.2.2.2.2.2.2 (by omega) λx G=>by have:=(Mx G).1;omega,ahI];have a:OP (some false) λc=>c=true->V7 v:=lf λh=>by cases h
  refine gJ (λ_=>a) λc1=>gJ (λ_=>a) λk=>gJ (λ_=>a) λl=>gJ (λ_=>a) λm=>gJ (λ_=>a) λn=>gJ (λ_=>a) λ_=>gJ (λ_=>a) λo=>gJ (λ_=>a) λp=>gJ (λ_=>a) λs=>gJ (λ_=>a) λt=>gJ (λ_=>a) λe=>gJ (λ_=>a) λf=>gJ (λ_=>a) λg=> ?_;have H:=ai9 c1;have d2:=ai9 k;have I:=ai9 l;have d:∀(_:v.2.2.2.2.2.2.2.2.2.2.2.2=[]∨nL v.2.2.2.2.2.2.2.2.2.2.2.2=true),V7 v:=λq=>
   ⟨by omega,by omega,by simpa using m,by simpa using n,by simpa using o,by simpa using p,by simpa using s,by simpa using t,by simpa using e,by simpa using f,by simpa using g,q⟩
  refine gJ (λc=>lf λ_=>d (.inl ?_)) λ_=>zd (HV _) λr _=> ?_
  ·have:((v.2.2.2.2.2.2.2.2.2.2.2.2.length:Nat):Int)=0:=by simpa using c
   exact aji.1 (by omega)
  ·exact gJ (λ_=>gJ (λc=>lf λ_=>d (.inr c)) λ_=>a) λ_=>a
 exact i true j rfl
noncomputable def tvT(ver:Int):List TLV:=bif decide (ver>0) then [(2,true,0,ai (0,false,2,qD ver.toNat))] else []
def idT(n:Nat)(h:Bool)(b:lu):List TLV:=bif h then [(2,false,n,iC b)] else []
noncomputable def exT(x:List gn):List TLV:=bif decide (((x.length:Nat):Int)>0) then [(2,true,3,pR x)] else []
noncomputable def jI(v:uU):List TLV:=tvT v.1++((0,false,2,v.2.1)::oR v.2.2.1::jX v.2.2.2.1::ot v.2.2.2.2.1 v.2.2.2.2.2.1::jX v.2.2.2.2.2.2.1::oS v.2.2.2.2.2.2.2.1::(idT 1 v.2.2.2.2.2.2.2.2.1 v.2.2.2.2.2.2.2.2.2.1++(idT 2 v.2.2.2.2.2.2.2.2.2.2.1 v.2.2.2.2.2.2.2.2.2.2.2.1++exT v.2.2.2.2.2.2.2.2.2.2.2.2)))
noncomputable def wt(v:uU):TLV:=(0,true,16,au (jI v))
def ac9{v:uU}{t:TLV}(a:t∈jI v):t.1<4/\t.2.2.1<31:=by
 unfold jI tvT idT exT at a;simp only[aiv,aib]at a;rcases a with a|rfl|rfl|rfl|rfl|rfl|rfl|a|a|a
 ·cases b:decide (v.1>0)
  ·rw[b]at a;cases a
  ·rw[b]at a;rw[aiN.1 a];exact⟨by show 2<4;decide,by show 0<31;decide⟩
 ·exact⟨by show 0<4;decide,by show 2<31;decide⟩
 ·exact⟨by show 0<4;decide,by show 16<31;decide⟩
 ·exact⟨by show 0<4;decide,by show 16<31;decide⟩
 ·exact⟨by show 0<4;decide,by show 16<31;decide⟩
 ·exact⟨by show 0<4;decide,by show 16<31;decide⟩
 ·exact⟨by show 0<4;decide,by show 16<31;decide⟩
 ·cases b:v.2.2.2.2.2.2.2.2.1
  ·rw[b]at a;cases a
  ·rw[b]at a;rw[aiN.1 a];exact⟨by show 2<4;decide,by show 1<31;decide⟩
 ·cases b:v.2.2.2.2.2.2.2.2.2.2.1
  ·rw[b]at a;cases a
  ·rw[b]at a;rw[aiN.1 a];exact⟨by show 2<4;decide,by show 2<31;decide⟩
 ·cases b:decide (((v.2.2.2.2.2.2.2.2.2.2.2.2.length:Nat):Int)>0)
  ·rw[b]at a;cases a
  ·rw[b]at a;rw[aiN.1 a];exact⟨by show 2<4;decide,by show 3<31;decide⟩
def Yj{b:List TLV}(h:∀t∈b,t.1<4/\t.2.2.1<31)(e:(au b).length<10000000):∀t∈b,okT t:=λt a=>by
 have c:=ko _ t a;have d:=iE t;exact⟨(h t a).1,(h t a).2,by omega⟩
def agC(c:FN NN)(v:uU)(h:TB v)(hs:(au (jI v)).length<10000000):fe NN v=some (bif wB NN v then(ai (wt v),0) else([],8)):=by
 have hv:=BT c v h;cases hk:wB NN v
 ·unfold fe;rw[hv,hk];rfl
 ·obtain⟨f1,f2,f3,f4,f5,f6,f7,f8,f9,d,f,y⟩:=MA c v h hk;have j3:∀t∈jI v,(ai t).length<10000000:=λt ht=>by have:=ko _ t ht;omega
  have z:oS v.2.2.2.2.2.2.2.1∈jI v:=by unfold jI;simp
  have j9:=j3 _ z;have k8:=iE (oS v.2.2.2.2.2.2.2.1);have k9:(oS v.2.2.2.2.2.2.2.1).2.2.2.length=(au (pk v.2.2.2.2.2.2.2.1)).length:=rfl;rw[hk]at hv;obtain⟨h1,h2,h3,h4,h5,h6,p,X⟩:=h;have B:=V6 c v.2.2.1 h1 h2;rw[f4]at B;have C:=Mf c v.2.2.2.1 h3;rw[f5]at C;have i:=Mf c v.2.2.2.2.2.2.1 h4;rw[f8]at i;simp only[ahY]at B C i;have hp:=afl c v.2.2.2.2.1 v.2.2.2.2.2.1 f6 f7;have A:=agB c v.2.2.2.2.2.2.2.1 h5 f9 (by omega);have hw:=mR c 0 2 false v.2.1 0 2 rfl rfl (by omega) (by omega) (by omega);have E:=aeL c v.2.2.2.2.2.2.2.2.2.2.2.2 X.1;have j4:=XI v.2.2.2.2.2.2.2.2.2.2.2.2 (by have:=X.1;omega);have Y:=X.1;have hq:=λ(L:List Bs)(e:L.flatten=au (jI v))(hl:L.length<=10)=>Fo c L (au (jI v)) e (by omega) (by omega);suffices OW (fe NN v) λr=>r=(ai (wt v),0) by
   obtain⟨r,D,rfl⟩:=this;exact D
  unfold fe;obtain⟨a,s,⟨J,sp⟩,n,⟨K,M,N,O,P,Q⟩,⟨S,u2,u3,u4,T,U⟩,m,⟨⟨F,I⟩,G,H⟩,q,⟨j,l⟩,u,⟨k,o⟩,x⟩:=v;dsimp only at f1 f2 d f y h6 p B C i hp A hw E j4 Y hq;rw[hv];refine ly (mX (k_t ?_));dsimp only;refine aj (R:=λr=>∃L:List Bs,r=(a,s,J,sp,n,K,M,N,O,P,Q,S,u2,u3,u4,T,U,m,F,I,G,H,q,j,l,u,k,o,x,0,L)/\L.length<=1/\L.flatten=au (tvT a)) ?_ ?_
  ·unfold tvT;refine dj (λg=> ?_) λg=> ?_
   ·rw[ahO g];have w:a=((a.toNat:Nat):Int):=by omega
    have D:=aat c a.toNat;rw[<-w]at D;have hc:=KG a.toNat;have hc2:(ai (0,false,2,qD a.toNat)).length<=(qD a.toNat).length+6:=iA (b:=qD a.toNat) (by omega);refine gX D (gX (mR c 0 2 false (qD a.toNat) 0 2 rfl rfl (by omega) (by omega) (by omega)) ?_);dsimp only;refine gX (mR c 2 0 true (ai (0,false,2,qD a.toNat)) 2 0 rfl rfl (by omega) (by omega) (by omega)) ?_;dsimp only;refine mS (by omega) (by simp) (aa ⟨_,by rw[po],by simp,?_⟩);simp[au]
   ·rw[ahL g];exact aa ⟨_,rfl,by simp,rfl⟩
  rintro _ ⟨L1,rfl,j6,w⟩;dsimp only;refine gX hw ?_;dsimp only;refine mS (by omega) (by omega) (gX B ?_);dsimp only;refine mS (by omega) (by simp;omega) (gX C ?_);dsimp only;refine mS (by omega) (by simp;omega) (gX hp ?_);dsimp only;refine mS (by omega) (by simp;omega) (gX i ?_);dsimp only;refine mS (by omega) (by simp;omega) (gX A ?_);dsimp only;refine mS (by omega) (by simp;omega) ?_;refine aj (R:=λr=>∃L:List Bs,r=(a,s,J,sp,n,K,M,N,O,P,Q,S,u2,u3,u4,T,U,m,F,I,G,H,q,j,l,u,k,o,x,0,L)/\L.length<=8/\L.flatten=au (tvT a++((0,false,2,s)::oR (J,sp)::jX n::ot (K,M,N,O,P,Q) (S,u2,u3,u4,T,U)::jX m::oS ((F,I),G,H)::idT 1 q (j,l)))) ?_ ?_
  ·simp only[po];unfold idT;cases q
   ·refine k_f (aa ⟨_,rfl,by simp;omega,?_⟩);simp only[akJ,aif,ai3,w,FC,iH,ahQ,aia,ah6,aiw];simp[au,oR,jX,uT,qQ,ai]
   ·have V:mT (j,l)=true:=by
     unfold AS at d;simp only[ahY,ahJ]at d;exact d.2
    have W:=Mz c (j,l) V h6;refine k_t (gX W (gX (mR c 2 1 false (iC (j,l)) 2 1 rfl rfl (by omega) (by omega) (by rw[lT];dsimp only;omega)) ?_));dsimp only;refine mS (by omega) (by simp;omega) ?_;simp only[po];refine aa ⟨_,rfl,by simp;omega,?_⟩;simp only[akJ,aif,ai3,w,FC,iH,ahY,aia,ah6,aiw];simp[au,oR,jX,uT,qQ,ai]
  rintro _ ⟨L2,rfl,j7,e2⟩;clear w;dsimp only;refine aj (R:=λr=>∃L:List Bs,r=(a,s,J,sp,n,K,M,N,O,P,Q,S,u2,u3,u4,T,U,m,F,I,G,H,q,j,l,u,k,o,x,0,L)/\L.length<=9/\L.flatten=L2.flatten++au (idT 2 u (k,o))) ?_ ?_
  ·unfold idT;cases u
   ·exact k_f (aa ⟨_,rfl,by omega,by simp[au]⟩)
   ·have V:mT (k,o)=true:=by
     unfold AS at f;simp only[ahY,ahJ]at f;exact f.2
    have W:=Mz c (k,o) V p;refine k_t (gX W (gX (mR c 2 2 false (iC (k,o)) 2 2 rfl rfl (by omega) (by omega) (by rw[lT];dsimp only;omega)) ?_));dsimp only;refine mS (by omega) (by omega) ?_;simp only[po];exact aa ⟨_,rfl,by simp;omega,by simp[au]⟩
  rintro _ ⟨L3,rfl,j8,e3⟩;dsimp only;refine aj (R:=λr=>∃L:List Bs,r=(0,L)/\L.length<=10/\L.flatten=L3.flatten++au (exT x)) ?_ ?_
  ·unfold exT;refine dj (λg=> ?_) λg=> ?_
   ·rw[ahO g];have j5:nL x=true:=by
     rcases y with p|p
     ·rw[p]at g;simp at g
     ·exact p
    rw[j5]at E;simp only[ahY]at E;refine gX E (gX (mR c 2 3 true (pR x) 2 3 rfl rfl (by omega) (by omega) (by omega)) ?_);dsimp only;refine mS (by omega) (by omega) ?_;simp only[po];exact aa ⟨_,rfl,by simp;omega,by simp[au]⟩
   ·rw[ahL g];exact aa ⟨_,rfl,by omega,by simp[au]⟩
  rintro _ ⟨L4,rfl,Z,e4⟩;dsimp only;refine k_z (gX (hq L4 ?_ Z) (aa rfl));rw[e4,e3,e2];unfold jI;simp only[FC,iH,aia]
end Go.Fw
namespace Go.Fw
open Go
def Yk{a:Bs}{d:List TLV}{b:List cM}(h:eT (EL a) d b)(k:Bool)(n:Nat)(c:Int)(f:c=(n:Int))(i:∀t∈d.head?,¬(t.1=2/\t.2.1=k/\t.2.2.1=n)):b=[]∨∃e r,b=e::r/\bz e 2 k c=some false:=by
 cases h with
 |nil=>exact .inl rfl
 |cons g _=>exact .inr ⟨_,_,rfl,g.no 2 n k 2 c rfl f (i _ (by simp))⟩
def afm(b:Bool)(y:lu)(x:List gn):∀t∈(idT 2 b y++exT x).head?,¬(t.1=2/\t.2.1=false/\t.2.2.1=1):=by
 unfold idT exT;cases b<;>cases decide (((x.length:Nat):Int)>0)<;>simp
def afn(x:List gn):∀t∈(exT x).head?,¬(t.1=2/\t.2.1=false/\t.2.2.1=2):=by
 unfold exT;cases decide (((x.length:Nat):Int)>0)<;>simp
def abA{b:lu}{ver:Int}(h:AS false b ver=true):b=([],0):=by
 unfold AS at h;simp only[ahQ,ahJ,akb]at h;have a:b.1.length=0:=by omega
 exact Prod.ext (aji.1 a) h.2
def Yl{b:lu}{ver:Int}(h:AS true b ver=true):mT b=true:=by
 unfold AS at h;simp only[ahY,ahJ]at h;exact h.2
set_option maxHeartbeats 4000000 in
def afo(M:FN NN)(v:uU)(hB:TB v)(hk:wB NN v=true)(a:Bs)(hE:ai (wt v)=a)(ha:a.length<9000000)(hX:(pR v.2.2.2.2.2.2.2.2.2.2.2.2).length<300000):gH NN a=some (v,0,0):=by
 have j3:(au (jI v)).length<a.length:=by rw[<-hE];exact iE (wt v)
 obtain⟨l,hp,d⟩:=nt M (c:=0) (num:=16) (by omega) (by omega) a (jI v) hE.symm (Yj (λt Y=>ac9 Y) (by omega)) (by omega) 0 16 rfl rfl;have hv:=BT M v hB;rw[hk]at hv;obtain⟨f1,f2,f3,f4,f5,f6,f7,f8,f9,O,Q,S⟩:=MA M v hB hk;have L:∀t∈jI v,(ai t).length<9000000:=λt Y=>by have:=ko _ t Y;omega
 obtain⟨f,s,⟨q,sp⟩,n,⟨B,C,D,E,F,G⟩,⟨H,u2,u3,u4,I,J⟩,m,⟨⟨w,A⟩,y,z⟩,K,⟨o,p⟩,k,⟨i,j⟩,x⟩:=v;dsimp only at f1 f2 f4 f5 f6 f7 f8 f9 O Q S hX;have fs:=abz M s (by omega);have fa:=Se M (q,sp) f4 (ai (oR (q,sp))) rfl (by have:=L (oR (q,sp)) (by unfold jI;simp);omega);have fn:=TY M n f5 (ai (jX n)) rfl (by have:=L (jX n) (by unfold jI;simp);omega);have ft:=ac7 M (B,C,D,E,F,G) (H,u2,u3,u4,I,J) f6 f7;have fm:=TY M m f8 (ai (jX m)) rfl (by have:=L (jX m) (by unfold jI;simp);omega);have fk:=afk M ((w,A),y,z) f9 (ai (oS ((w,A),y,z))) rfl (L _ (by unfold jI;simp));suffices OW (gH NN a) λr=>r=((f,s,(q,sp),n,(B,C,D,E,F,G),(H,u2,u3,u4,I,J),m,((w,A),y,z),K,(o,p),k,(i,j),x),0,0) by
  obtain⟨r,X,rfl⟩:=this;exact X
 have N:eT (EL a) (tvT f++((0,false,2,s)::oR (q,sp)::jX n::ot (B,C,D,E,F,G) (H,u2,u3,u4,I,J)::jX m::oS ((w,A),y,z)::(idT 1 K (o,p)++(idT 2 k (i,j)++exT x)))) l:=d;clear d;unfold gH;refine nr (gX hp (ly ?_));dsimp only;refine aj (R:=λr=>∃b,r=(f,a,b,0,0)/\eT (EL a) ((0,false,2,s)::oR (q,sp)::jX n::ot (B,C,D,E,F,G) (H,u2,u3,u4,I,J)::jX m::oS ((w,A),y,z)::(idT 1 K (o,p)++(idT 2 k (i,j)++exT x))) b) ?_ ?_
 ·rcases (by omega:f=0∨0<f) with rfl|W
  ·cases N with
   |cons u d=>
    have c1:=u.no 2 0 true 2 0 rfl rfl (λh=>by cases h.1)
    (have zz:∀(P:Prop)(h:P:=by exact aa ⟨_,rfl,eT.cons u d⟩),P:=λ_ h=>h;exact stQ)
  ·have g:eT (EL a) ((2,true,0,ai (0,false,2,qD f.toNat))::((0,false,2,s)::oR (q,sp)::jX n::ot (B,C,D,E,F,G) (H,u2,u3,u4,I,J)::jX m::oS ((w,A),y,z)::(idT 1 K (o,p)++(idT 2 k (i,j)++exT x)))) l:=by
    unfold tvT at N;rw[ahO W]at N;exact N
   have hc:=KG f.toNat;have q1:=abz M (qD f.toNat) (by omega);have U:=T2 M (qD f.toNat) (by omega);rw[acS,ahO (by omega),aeS _ (by omega),show((f.toNat:Nat):Int)=f from by omega]at U;simp only[Bool.and_true,ahY]at U;cases g with
   |cons u d=>
    have c1:=u.yes 2 0 true 2 0 rfl rfl rfl rfl rfl
    (have zz:∀(P:Prop)(h:P:=by exact afj (by omega) (afj (by omega) (aa ⟨_,rfl,d⟩))),P:=λ_ h=>h;exact stQ)
 clear N hp;rintro _ ⟨b,rfl,d⟩;dsimp only;refine aj (R:=λr=>∃b,r=(s,a,b,0,0,f)/\eT (EL a) (oR (q,sp)::jX n::ot (B,C,D,E,F,G) (H,u2,u3,u4,I,J)::jX m::oS ((w,A),y,z)::(idT 1 K (o,p)++(idT 2 k (i,j)++exT x))) b) ?_ ?_
 ·cases d with
  |cons u d=>(have zz:∀(P:Prop)(h:P:=by exact aa ⟨_,rfl,d⟩),P:=λ_ h=>h;exact stQ)
 clear d;rintro _ ⟨b,rfl,d⟩;dsimp only;refine aj (R:=λr=>∃b,r=(a,b,0,0,f,s,q,sp)/\eT (EL a) (jX n::ot (B,C,D,E,F,G) (H,u2,u3,u4,I,J)::jX m::oS ((w,A),y,z)::(idT 1 K (o,p)++(idT 2 k (i,j)++exT x))) b) ?_ ?_
 ·cases d with
  |cons u d=>(have zz:∀(P:Prop)(h:P:=by exact aa ⟨_,rfl,d⟩),P:=λ_ h=>h;exact stQ)
 clear d;rintro _ ⟨b,rfl,d⟩;dsimp only;refine aj (R:=λr=>∃b,r=(n,a,b,0,0,f,s,q,sp)/\eT (EL a) (ot (B,C,D,E,F,G) (H,u2,u3,u4,I,J)::jX m::oS ((w,A),y,z)::(idT 1 K (o,p)++(idT 2 k (i,j)++exT x))) b) ?_ ?_
 ·cases d with
  |cons u d=>(have zz:∀(P:Prop)(h:P:=by exact aa ⟨_,rfl,d⟩),P:=λ_ h=>h;exact stQ)
 clear d;rintro _ ⟨b,rfl,d⟩;dsimp only;refine aj (R:=λr=>∃b Z e2 e3 e4 e5 e6,r=(ai (ot (B,C,D,E,F,G) (H,u2,u3,u4,I,J)),a,b,0,0,f,s,q,sp,n,Z,e2,e3,e4,e5,e6)/\eT (EL a) (jX m::oS ((w,A),y,z)::(idT 1 K (o,p)++(idT 2 k (i,j)++exT x))) b) ?_ ?_
 ·cases d with
  |cons u d=>(have zz:∀(P:Prop)(h:P:=by exact aa ⟨_,_,_,_,_,_,_,rfl,d⟩),P:=λ_ h=>h;exact stQ)
 clear d;rintro _ ⟨b,Z,e2,e3,e4,e5,e6,rfl,d⟩;dsimp only;refine aj (R:=λr=>r=(a,b,0,0,f,s,q,sp,n,B,C,D,E,F,G,H,u2,u3,u4,I,J)) (by(have zz:∀(P:Prop)(h:P:=by exact aa rfl),P:=λ_ h=>h;exact stQ)) ?_;rintro _ rfl;dsimp only;refine aj (R:=λr=>∃b,r=(m,a,b,0,0,f,s,q,sp,n,B,C,D,E,F,G,H,u2,u3,u4,I,J)/\eT (EL a) (oS ((w,A),y,z)::(idT 1 K (o,p)++(idT 2 k (i,j)++exT x))) b) ?_ ?_
 ·cases d with
  |cons u d=>(have zz:∀(P:Prop)(h:P:=by exact aa ⟨_,rfl,d⟩),P:=λ_ h=>h;exact stQ)
 clear d;rintro _ ⟨b,rfl,d⟩;dsimp only;refine aj (R:=λr=>∃b,r=(a,b,0,0,f,s,q,sp,n,B,C,D,E,F,G,H,u2,u3,u4,I,J,m,w,A,y,z)/\eT (EL a) ((idT 1 K (o,p)++(idT 2 k (i,j)++exT x))) b) ?_ ?_
 ·cases d with
  |cons u d=>(have zz:∀(P:Prop)(h:P:=by exact aa ⟨_,rfl,d⟩),P:=λ_ h=>h;exact stQ)
 clear d;rintro _ ⟨b,rfl,d⟩;dsimp only;refine aj (R:=λr=>∃b,r=(K,a,b,0,0,f,s,q,sp,n,B,C,D,E,F,G,H,u2,u3,u4,I,J,m,w,A,y,z,o,p)/\eT (EL a) (idT 2 k (i,j)++exT x) b) ?_ ?_
 ·cases K
  ·cases abA O;have g:eT (EL a) (idT 2 k (i,j)++exT x) b:=d;rcases Yk g false 1 1 rfl (afm k (i,j) x) with rfl|⟨e,r,rfl,c1⟩
   ·(have zz:∀(P:Prop)(h:P:=by exact aa ⟨_,rfl,g⟩),P:=λ_ h=>h;exact stQ)
   ·(have zz:∀(P:Prop)(h:P:=by exact aa ⟨_,rfl,g⟩),P:=λ_ h=>h;exact stQ)
  ·have q1:=Yl O;have q3:(iC (o,p)).length<9000000:=Nat.lt_trans (iE (2,false,1,iC (o,p))) (L _ (by unfold jI;simp[idT]));rw[lT]at q3;have U:=EO (o,p) (by omega) (by rw[xC _ (by omega),q1]);have g:eT (EL a) ((2,false,1,iC (o,p))::(idT 2 k (i,j)++exT x)) b:=d;cases g with
   |cons u g=>
    have c1:=u.yes 2 1 false 2 1 rfl rfl rfl rfl rfl
    (have zz:∀(P:Prop)(h:P:=by exact aa ⟨_,rfl,g⟩),P:=λ_ h=>h;exact stQ)
 clear d;rintro _ ⟨b,rfl,d⟩;dsimp only;refine aj (R:=λr=>∃b,r=(k,a,b,0,0,f,s,q,sp,n,B,C,D,E,F,G,H,u2,u3,u4,I,J,m,w,A,y,z,K,o,p,i,j)/\eT (EL a) (exT x) b) ?_ ?_
 ·cases k
  ·cases abA Q;have g:eT (EL a) (exT x) b:=d;rcases Yk g false 2 2 rfl (afn x) with rfl|⟨e,r,rfl,c1⟩
   ·(have zz:∀(P:Prop)(h:P:=by exact aa ⟨_,rfl,g⟩),P:=λ_ h=>h;exact stQ)
   ·(have zz:∀(P:Prop)(h:P:=by exact aa ⟨_,rfl,g⟩),P:=λ_ h=>h;exact stQ)
  ·have q1:=Yl Q;have q3:(iC (i,j)).length<9000000:=Nat.lt_trans (iE (2,false,2,iC (i,j))) (L _ (by unfold jI;simp[idT]));rw[lT]at q3;have U:=EO (i,j) (by omega) (by rw[xC _ (by omega),q1]);have g:eT (EL a) ((2,false,2,iC (i,j))::(exT x)) b:=d;cases g with
   |cons u g=>
    have c1:=u.yes 2 2 false 2 2 rfl rfl rfl rfl rfl
    (have zz:∀(P:Prop)(h:P:=by exact aa ⟨_,rfl,g⟩),P:=λ_ h=>h;exact stQ)
 clear d;rintro _ ⟨b,rfl,d⟩;dsimp only;refine aj (R:=λr=>(x=[]/\r=(false,a,[],0,0,f,s,q,sp,n,B,C,D,E,F,G,H,u2,u3,u4,I,J,m,w,A,y,z,K,o,p,k,i,j,0,0,false,0,0,0))∨∃e:cM,EL a (2,true,3,pR x) e/\nL x=true/\r=(true,a,[],0,0,f,s,q,sp,n,B,C,D,E,F,G,H,u2,u3,u4,I,J,m,w,A,y,z,K,o,p,k,i,j,e.1,e.2.1,e.2.2.1,e.2.2.2.1,e.2.2.2.2.1,e.2.2.2.2.2)) ?_ ?_
 ·unfold exT at d;cases T:decide (((x.length:Nat):Int)>0)
  ·have:x=[]:=aji.1 (by have:=ai9 T;omega);rw[T]at d;cases d
   (have zz:∀(P:Prop)(h:P:=by exact aa (.inl ⟨this,rfl⟩)),P:=λ_ h=>h;exact stQ)
  ·rw[T]at d;have q1:nL x=true:=by
    rcases S with V|V
    ·rw[V]at T;simp at T
    ·exact V
   cases d with
   |cons u d=>
    cases d;have c1:=u.yes 2 3 true 2 3 rfl rfl rfl rfl rfl
    (have zz:∀(P:Prop)(h:P:=by exact aa (.inr ⟨_,u,q1,rfl⟩)),P:=λ_ h=>h;exact stQ)
 clear d;intro r X;refine aj (R:=λr=>r=(a,[],0,0,f,s,q,sp,n,B,C,D,E,F,G,H,u2,u3,u4,I,J,m,w,A,y,z,K,o,p,k,i,j,x)) ?_ ?_
 ·rcases X with⟨rfl,rfl⟩|⟨e,u,q1,rfl⟩
  ·(have zz:∀(P:Prop)(h:P:=by exact aa rfl),P:=λ_ h=>h;exact stQ)
  ·have fx:=acK M x q1 (pR x) rfl hX
   (have zz:∀(P:Prop)(h:P:=by exact aa rfl),P:=λ_ h=>h;exact stQ)
 rintro _ rfl;dsimp only;refine gX hv ?_
 (have zz:∀(P:Prop)(h:P:=by exact aa rfl),P:=λ_ h=>h;exact stQ)
end Go.Fw
namespace Go.Fw
open Go
abbrev nl:=uU×(Bs×Bs)×lu
noncomputable def wC(N:Nat)(v:nl):Bool:=(v.2.1.1==v.1.2.2.1.1&&v.2.1.2==v.1.2.2.1.2)&&(mT v.2.2&&wB N v.1)
noncomputable def lI(v:nl):List TLV:=[wt v.1,oR v.2.1,AR v.2.2]
noncomputable def kq(v:nl):TLV:=(0,true,16,au (lI v))
def QB(v:nl):Prop:=TB v.1/\v.2.1.1.length<10000000/\v.2.1.2.length<10000000/\v.2.2.1.length<8000000
def Ym(b:FN NN)(v:nl)(h:QB v):iI NN v=some (wC NN v):=by
 obtain⟨a,c,d,e⟩:=h;unfold iI bq dV wC syv;rw[xC _ (by omega),BT b _ a];simp only[ahI];cases (v.2.1.1==v.1.2.2.1.1)<;>cases (v.2.1.2==v.1.2.2.1.2)<;>cases mT v.2.2<;>rfl
def Ud{N:Nat}{v:nl}(h:wC N v=true):v.2.1=v.1.2.2.1/\mT v.2.2=true/\wB N v.1=true:=by
 unfold wC at h;simp only[ahJ,akb]at h;exact⟨Prod.ext h.1.1 h.1.2,h.2.1,h.2.2⟩
def ada{v:nl}:(au (jI v.1)).length<(au (lI v)).length:=by
 have a:=ko (lI v) (wt v.1) (by unfold lI;simp);have b:=iE (wt v.1);have c:(wt v.1).2.2.2.length=(au (jI v.1)).length:=rfl;omega
def abB(a:FN NN)(v:nl)(h:QB v)(t:(au (lI v)).length<9000000):dU NN v=some (bif wC NN v then(ai (kq v),0) else([],8)):=by
 have e:=Ym a v h;cases c:wC NN v
 ·unfold dU;rw[e,c];rfl
 ·rw[c]at e;obtain⟨g,p,i⟩:=Ud c;obtain⟨f,j,k,q⟩:=h;have s:=ada (v:=v);have d:=agC a v.1 f (by omega);rw[i]at d;have b:=V6 a v.2.1 j k;rw[g,(MA a v.1 f i).2.2.2.1,<-g]at b;simp only[ahY]at d b;have l:=Mz a v.2.2 p (by omega);have o:=mR a 0 3 false (iC v.2.2) 0 3 rfl rfl (by omega) (by omega) (by rw[lT];omega);have m:=Fo a [ai (wt v.1),uT v.2.1,ai (0,false,3,iC v.2.2)] (au (lI v)) rfl (by simp) (by omega);suffices OW (dU NN v) λr=>r=(ai (kq v),0) by
   obtain⟨r,n,rfl⟩:=this;exact n
  unfold dU;rw[e];refine ly (mX (k_t (gX d ?_)));dsimp only;refine mS (by omega) (by simp) (gX b ?_);dsimp only;refine mS (by omega) (by simp) (gX l (gX o ?_));dsimp only;refine mS (by omega) (by simp) ?_;simp only[po];exact k_z (gX m (aa rfl))
def Sh(s p:Bs):bq (s,p) (s,p)=some true:=by
 unfold bq dV syv;simp
def adb{v:nl}{t:TLV}(a:t∈lI v):t.1<4/\t.2.2.1<31:=by
 unfold lI at a;simp only[aib,aj4,or_false]at a;rcases a with rfl|rfl|rfl
 ·exact⟨by show 0<4;decide,by show 16<31;decide⟩
 ·exact⟨by show 0<4;decide,by show 16<31;decide⟩
 ·exact⟨by show 0<4;decide,by show 3<31;decide⟩
set_option maxHeartbeats 4000000 in
def Yn(d:FN NN)(v:nl)(f:QB v)(h:wC NN v=true)(a:Bs)(o:ai (kq v)=a)(ha:a.length<8000000)(C:(pR v.1.2.2.2.2.2.2.2.2.2.2.2.2).length<300000):eF NN a=some (v,0,0):=by
 have D:(au (lI v)).length<a.length:=by rw[<-o];exact iE (kq v)
 obtain⟨l,E,b⟩:=nt d (c:=0) (num:=16) (by omega) (by omega) a (lI v) o.symm (Yj (λt g=>adb g) (by omega)) (by omega) 0 16 rfl rfl;obtain⟨i,K,p⟩:=Ud h;have e:∀t∈lI v,(ai t).length<8000000:=λt g=>by have:=ko _ t g;omega
 have B:=afo d v.1 f.1 p (ai (wt v.1)) rfl (by have:=e (wt v.1) (by unfold lI;simp);omega) C;have z:=Se d v.2.1 (by rw[i];exact(MA d v.1 f.1 p).2.2.2.1) (ai (oR v.2.1)) rfl (by have:=e (oR v.2.1) (by unfold lI;simp);omega);have A:=ac8 d v.2.2 K (by have:=f.2.2.2;omega);suffices OW (eF NN a) λr=>r=(v,0,0) by
  obtain⟨r,F,rfl⟩:=this;exact F
 unfold eF;refine nr (gX E (ly ?_));obtain⟨⟨k,s,⟨j,sp⟩,n,⟨Q,S,T,U,V,W⟩,⟨X,u2,u3,u4,Y,Z⟩,m,⟨⟨L,O⟩,M,N⟩,q,⟨G,I⟩,u,⟨H,J⟩,x⟩,⟨s2,p2⟩,w,y⟩:=v;dsimp only at i;cases i;unfold lI at b;dsimp only at b B z A;have fs:=Sh j sp;cases b with
 |cons g0 b=>cases b with
  |cons g1 b=>cases b with
   |cons g2 b=>
    cases b;dsimp only;refine aj (R:=λr=>r=(a,_,0,0,k,s,j,sp,n,Q,S,T,U,V,W,X,u2,u3,u4,Y,Z,m,L,O,M,N,q,G,I,u,H,J,x)) (by(have zz:∀(P:Prop)(h:P:=by exact aa rfl),P:=λ_ h=>h;exact stQ)) ?_;rintro _ rfl;dsimp only;refine aj (R:=λr=>r=(a,_,0,0,j,sp)) (by(have zz:∀(P:Prop)(h:P:=by exact aa rfl),P:=λ_ h=>h;exact stQ)) ?_;rintro _ rfl;dsimp only;refine aj (R:=λr=>r=(a,_,0,0,w,y)) (by(have zz:∀(P:Prop)(h:P:=by exact aa rfl),P:=λ_ h=>h;exact stQ)) ?_;rintro _ rfl;dsimp only
    (have zz:∀(P:Prop)(h:P:=by exact aa rfl),P:=λ_ h=>h;exact stQ)
def Ue(m:FN NN)(a:Bs)(s:a.length<9000000)(h:∀t,okT t->a≠ai t):∃w e o,eF NN a=some (w,e,o)/\e≠0:=by
 obtain⟨⟨l,e,o⟩,d,⟨u,c,b,_,_,f,_⟩|⟨b,n,p⟩,g⟩:=VL (tk m a (by omega) 0 16) (Fu NN a _ _)
 ·refine absurd f (h (0,true,16,au c) ⟨by show 0<4;decide,by show 16<31;decide,?_⟩);have:(au c).length<a.length:=by rw[f];exact kH
  show(au c).length<=_;omega
 ·obtain rfl:l=[]:=g b;suffices OW (eF NN a) λr=>r.2.1≠0 by
   obtain⟨⟨w,e,o⟩,j,k⟩:=this;exact⟨w,e,o,j,k⟩
  unfold eF;have i:aF NN a 0 16=some ([],e,o):=d;have v:e≠0:=b;have q:=Sh [] [];clear d g b n p h
  (have zz:∀(P:Prop)(h:P:=by exact aa (by assumption)),P:=λ_ h=>h;exact stQ)
def Uf{v:nl}(h:(ai (kq v)).length<9000000):okT (kq v):=by
 have:=iE (kq v);exact⟨by show 0<4;decide,by show 16<31;decide,by omega⟩
end Go.Fw
namespace Go.Fw
open Go
def abC:ma [49,46,50,46,51] [1,2,3]:=⟨by decide,by decide,by kernel_rfl⟩
def abD:ma [49,46,50,46,52] [1,2,4]:=⟨by decide,by decide,by kernel_rfl⟩
def Yo:ma [50,46,53,46,52,46,51] [2,5,4,3]:=⟨by decide,by decide,by kernel_rfl⟩
def ahA:je [49,46,50,46,51]=[42,3]:=by rw[ws abC];kernel_rfl
def ahB:je [49,46,50,46,52]=[42,4]:=by rw[ws abD];kernel_rfl
def agD:je [50,46,53,46,52,46,51]=[85,4,3]:=by rw[ws Yo];kernel_rfl
def agE(n:Nat):opn (n+300) [12,2,65,98]=true:=by kernel_rfl
abbrev aaQ:List Rdn:=[[([50,46,53,46,52,46,51],[12,2,65,98])]]
abbrev pI:nl:=((0,[1],([49,46,50,46,51],[]),aaQ,(2000,1,1,0,0,0),(2001,1,1,0,0,0),aaQ,(([49,46,50,46,52],[]),[160],5),false,([],0),false,([],0),[]),([49,46,50,46,51],[]),[],0)
def aaR(n:Nat):oO (n+300) aaQ=true:=by
 unfold oO mW kF;simp only[aja,List.all_nil,mF.2 ⟨_,Yo⟩,agE];kernel_rfl
def afp(N:Nat):pS N ([49,46,50,46,51],[])=true:=by
 unfold pS;rw[mF.2 ⟨_,abC⟩];simp
def afq(N:Nat):pS N ([49,46,50,46,52],[])=true:=by
 unfold pS;rw[mF.2 ⟨_,abD⟩];simp
def Si:mT ([160],5)=true/\mT ([],0)=true:=by
 unfold mT;exact⟨by kernel_rfl,by kernel_rfl⟩
def Sj:QB pI:=⟨⟨by decide,by decide,by decide,by decide,⟨by decide,by decide,by decide⟩,by decide,by decide,XB.nil⟩,by decide,by decide,by decide⟩
def adc{N n:Nat}(a:FN N)(e:N=n+300):wB N pI.1=true:=by
 obtain⟨⟨d,f,g,k,h,i,l,m⟩,_⟩:=Sj;have b:bT N pI.1=some true:=by
  unfold bT syv;have j:yP N pI.1.2.2.2.2.2.2.2.1=true:=by
   unfold yP;rw[afq,Si.1];rfl
  have c:=aaR n;rw[<-e]at c;simp only[jV,xB a _ d f,afp,uO a _ g,c,uA,BS a _ h,j,Sg _ _ _ i,ahI];rw[show od [1]=true from by kernel_rfl,show mO (2000,1,1,0,0,0)=true from by kernel_rfl,show mO (2001,1,1,0,0,0)=true from by kernel_rfl,show AS false ([],0) 0=true from rfl];rfl
 unfold wB;rw[b];rfl
def agF:(ai (kq pI)).length=96/\(ai (kq pI)).take 13=[48,94,48,83,2,1,1,48,4,6,2,42,3]/\(ai (kq pI)).drop 87=[48,4,6,2,42,3,3,1,0]:=by
 unfold kq lI wt jI oS pk oR jX kl;simp only[ahX,ai0];unfold fH
 try unfold uT
 unfold fU;dsimp only;rw[ahA,ahB,agD];exact⟨by kernel_rfl,by kernel_rfl,by kernel_rfl⟩
def ade(c:FN NN):oG NN=some true:=by
 have d:=c;unfold FN at d;obtain⟨n,u⟩:∃n,NN=n+300:=⟨NN-300,by omega⟩;obtain⟨a,q,t⟩:=agF;have b:wC NN pI=true:=by
  unfold wC;rw[adc c u,Si.2];rfl
 have w:(au (lI pI)).length<96:=by rw[<-a];exact iE (kq pI)
 have p:=abB c pI Sj (by omega);rw[b]at p;have v:=Yn c pI Sj b (ai (kq pI)) rfl (by omega) (by decide);unfold oG cy rS;show(dU NN pI).bind _=_;rw[p];simp only[ahY,ahI];rw[v];simp only[ahI];rw[a];obtain⟨s,k,m⟩:=BO (l:=ai (kq pI)) (i:=0) (j:=13) (by omega) (by omega) (by rw[a];decide);have o:s=[48,94,48,83,2,1,1,48,4,6,2,42,3]:=by rw[m];exact q
 obtain⟨r,e,f⟩:=BO (l:=ai (kq pI)) (i:=87) (j:=96) (by omega) (by omega) (by rw[a];decide);have g:r=[48,4,6,2,42,3,3,1,0]:=by
  rw[f,show(96:Int).toNat=(ai (kq pI)).length from by rw[a];rfl,ajb];exact t
 have h:slc (ai (kq pI)) 87 ((96:Nat):Int)=some r:=e;rw[k,o];simp only[ahI];rw[h,g];rfl
end Go.Fw
namespace Go.Fw
open Go
def DJ(n:Nat):1<=(Lib.decDigits n).length:=by
 have:=akH.2 (XT n);omega
def OJ{n:Nat}(h:n<10):(Lib.decDigits n).length=1:=by
 rw[Lib.decDigits,dif_pos h];rfl
def DK{n:Nat}(h:10<=n):(Lib.decDigits n).length=(Lib.decDigits (n / 10)).length+1:=by
 rw[Lib.decDigits,dif_neg (by omega),ahN];rfl
def KR:∀(b a:Nat),a<=b->(Lib.decDigits a).length<=(Lib.decDigits b).length:=by
 intro b;induction b using Nat.strongRecOn with
 |ind b d=>
  intro a h;by_cases c:a<10
  ·rw[OJ c];exact DJ b
  ·rw[DK (by omega),DK (by omega:10<=b)];have:=d (b / 10) (by omega) (a / 10) (by omega);omega
def Yp:∀(f n m:Nat),n*128<=m->(b7 f n).length+1<=(Lib.decDigits m).length
 |0,n,m,_=>by simpa[b7] using DJ m
 |f+1,n,m,h=>by
  unfold b7;split
  ·simpa using DJ m
  ·rename_i b;have c:=Yp f (n / 128) n (by omega);have a:n<=m / 10:=by omega
   have d:=KR (m / 10) n a;rw[DK (by omega:10<=m),ahP];omega
def Sk(n:Nat):(ga n).length<=(Lib.decDigits n).length:=by
 unfold ga hi7;rw[ahN,List.length_reverse];exact Yp 5 (n / 128) n (by omega)
def aaS(a b:Nat)(f:a<=2):(ga (40*a+b)).length<=(Lib.decDigits b).length+1:=by
 have d:=Sk (40*a+b);by_cases g:b<10
 ·have c:=KR 99 (40*a+b) (by omega);have e:(Lib.decDigits 99).length=2:=by rw[DK (by omega),OJ (by omega)]
  have:=DJ b;omega
 ·have c:=KR (10*b+9) (40*a+b) (by omega);rw[DK (by omega:10<=10*b+9),show(10*b+9) / 10=b from by omega]at c;omega
def Sl:∀(r:List Nat)(x:Nat),((Lib.decDigits x).length:Nat)+((r.map ga).flatten).length<=(Lib.join ((x::r).map Lib.decDigits) [46]).length
 |[],x=>by simp[Lib.join]
 |y::r,x=>by
  have a:=Sl r y;have b:=Sk y;show _<=(Lib.join (Lib.decDigits x::Lib.decDigits y::r.map Lib.decDigits) [46]).length;rw[qR,ahN,ahP];simp only[ahX,aif,ahN]at a⊢;omega
def Yq{a b:Nat}{r:List Nat}(h:uR (a::b::r)=true):a<=2:=by
 unfold uR at h;simp only[aiu]at h;exact h.1
def adf(s:Bs):(je s).length<=s.length:=by
 unfold je;split
 ·rename_i h;obtain⟨c,e,d⟩:=aiU (tp.1 h);generalize Classical.choose (tp.1 h)=L at c e d
  match L,c with
  |a::b::r,c=>
   have f:=aaS a b (Yq c);have g:=Sl r b;have i:=DJ a;rw[d,ahX,ahX,qR,ahN,ahP,<-ahX];show(ga (40*a+b)++(r.map ga).flatten).length<=_;rw[ahN];omega
 ·simp
def MB{α:Type}(f g:α->Nat):∀(l:List α),(∀x∈l,f x<=g x)->(l.map f).sum<=(l.map g).sum
 |[],_=>by simp
 |a::r,h=>by
  have c:=h a (by simp);have d:=MB f g r λx b=>h x (by simp[b]);simp only[ahX,ajd];omega
def FE{α:Type}(f:α->Bs):∀(l:List α),((l.map f).flatten).length=(l.map λx=>(f x).length).sum
 |[]=>rfl
 |a::r=>by
  have:=FE f r;simp only[ahX,aif,ahN,ajd];omega
def Ib{α:Type}(f:α->Nat)(B:Nat):∀(l:List α),(∀x∈l,f x<=B)->(l.map f).sum<=l.length*B
 |[],_=>by simp
 |a::r,h=>by
  have c:=h a (by simp);have d:=Ib f B r λx b=>h x (by simp[b]);simp only[ahX,ajd,ahP,aj1];omega
def NP(s:Bs)(h:s.length<100000000):(ai (fU s)).length<=s.length+6:=by
 have a:=adf s;have d:(ai (fU s)).length<=(je s).length+6:=iA (c:=0) (k:=false) (num:=6) (b:=je s) (by omega);omega
def adg(v:Bs×Bs)(h:wA v<100000000):(fH v).length<=wA v:=by
 unfold wA at h⊢;have d:=NP v.1 (by omega);have a:=iA (c:=0) (k:=true) (num:=16) (b:=ai (fU v.1)++v.2) (by rw[ahN];omega);rw[ahN]at a;show(tlv 0 true 16 (ai (fU v.1)++v.2)).length<=_;omega
def afr(r:Rdn)(h:wR r<100000000):(kl r).length<=wR r:=by
 unfold wR at h⊢;have d:((r.map fH).flatten).length<=(r.map wA).sum:=by
  rw[FE];exact MB _ _ r λx a=>adg x (by have:=oP wA r x a;omega)
 have e:=iA (c:=0) (k:=true) (num:=17) (b:=(r.map fH).flatten) (by omega);show(tlv 0 true 17 ((r.map fH).flatten)).length<=_;omega
def Ug(n:List Rdn)(h:wN n<100000000):(qQ n).length<=wN n:=by
 unfold wN at h⊢;have d:((n.map kl).flatten).length<=(n.map wR).sum:=by
  rw[FE];exact MB _ _ n λx a=>afr x (by have:=oP wR n x a;omega)
 have e:=iA (c:=0) (k:=true) (num:=16) (b:=(n.map kl).flatten) (by omega);show(tlv 0 true 16 ((n.map kl).flatten)).length<=_;omega
def afs(v:gn)(h:wE v<100000000):(lF v).length<=wE v:=by
 unfold wE at h⊢;have a:=NP v.1 (by omega);have d:(ai (pj v.2.2)).length<=v.2.2.length+6:=iA (c:=0) (k:=false) (num:=4) (b:=v.2.2) (by omega);have e:(au (lw v)).length<=(ai (fU v.1)).length+3+(ai (pj v.2.2)).length:=by
  have f:(ai BP).length=3:=by kernel_rfl
  unfold lw;cases v.2.1
  ·simp[au]
  ·simp[au];omega
 have g:(lF v).length<=(au (lw v)).length+6:=iA (c:=0) (k:=true) (num:=16) (b:=au (lw v)) (by omega);omega
def adh(l:List gn)(h:wL l<100000000):(pR l).length<=wL l:=by
 unfold wL at h⊢;have d:((l.map lF).flatten).length<=(l.map wE).sum:=by
  rw[FE];exact MB _ _ l λx a=>afs x (by have:=oP wE l x a;omega)
 have e:(pR l).length<=((l.map lF).flatten).length+6:=iA (c:=0) (k:=true) (num:=16) (b:=(l.map lF).flatten) (by omega);omega
def Sm(v:Bs×Bs)(h:v.1.length<100000000)(d:v.2.length<100000000):(uT v).length<=v.1.length+v.2.length+12:=by
 have e:=NP v.1 (by omega);have a:=iA (c:=0) (k:=true) (num:=16) (b:=ai (fU v.1)++v.2) (by rw[ahN];omega);rw[ahN]at a;show(tlv 0 true 16 (ai (fU v.1)++v.2)).length<=_;omega
def PC(n:List Rdn):Prop:=n.length<=10/\∀r∈n,r.length<=8/\∀a∈r,a.1.length<=200/\a.2.length<=1000
def aft{l:List gn}(h:wL l<=3500):XB l:=⟨by omega,λv a=>by have:=Mx a;omega⟩
def IR{n:List Rdn}(h:PC n):wN n<=97820:=by
 obtain⟨c,d⟩:=h;have e:∀r∈n,wR r<=9780:=by
  intro r i;obtain⟨b,f⟩:=d r i;have j:=Ib wA 1220 r λa g=>by have:=f a g;unfold wA;omega
  unfold wR;have:r.length*1220<=8*1220:=aiK _ b;omega
 have b:=Ib wR 9780 n e;have:n.length*9780<=10*9780:=aiK _ c;unfold wN;omega
def okX(l:List gn):Prop:=∀x∈l,x.1.length<=140737488351232/\x.2.2.length<=140737488351232
def Uh{a b:Nat}(h:a+b<4611686018427387904):aw .i64 (a:Int) (b:Int)=((a+b:Nat):Int):=by
 rw[fX ⟨by omega,by omega⟩];omega
def adi(m:FN NN)(l:List gn)(p:okX l):OW (sj NN l) λb=>b=true->wL l<=3500:=by
 have g:=m;unfold FN at g;unfold sj syv;refine aj (R:=λr=>∃c:Nat,r=(l,(c:Int))/\(l.length<=20->c=(l.map λx=>x.1.length+x.2.2.length).sum)) ?_ ?_
 ·unfold vB syv;refine js _ 20 (λi s=>i<=20/\∃c:Nat,s=(l,(c:Int),(i:Int))/\c=((l.take i).map λx=>x.1.length+x.2.2.length).sum/\c<=i*281474976702464) ?_ NN 0 _ (by omega) (by omega) ⟨by omega,0,rfl,by simp,by omega⟩;rintro G i _ v ⟨o,c,rfl,e,k⟩ rec;dsimp only;refine dj (λh=>dj (λj=> ?_) λj=> ?_) λh=> ?_
  ·have d:i<l.length:=by omega
   obtain⟨t,u⟩:=p _ (aiL d);refine gX (de (ahK d)) (gX (de (ahK d)) ?_);rw[Uh (by omega),Uh (by omega),dD (by omega)];refine rec _ (by omega) ⟨by omega,_,rfl,?_,by omega⟩;rw[aiQ,ahK d,aiR,alD,<-e];simp;omega
  ·refine aa ⟨c,rfl,λf=> ?_⟩;rw[e,aih (by omega)]
  ·refine aa ⟨c,rfl,λf=> ?_⟩;rw[e,aih (by omega)]
 ·rintro _ ⟨c,rfl,e⟩;dsimp only;refine dj (λh=>aa λn=> ?_) λ_=>aa λh=>by cases h
  have k:=ail n;have j:=e (by omega);have f:∀l:List gn,(l.map wE).sum=(l.map λx=>x.1.length+x.2.2.length).sum+40*l.length:=by
   intro l;induction l with
   |nil=>rfl
   |cons a r q=>simp only[ahX,ajd,ahP,q];unfold wE;omega
  unfold wL;rw[f];omega
def adj(x:Bs×Bs):OW (Ah x) λb=>b=true->x.1.length<=200/\x.2.length<=1000:=by
 unfold Ah syv;exact dj (λh=>aa λa=>⟨by omega,by have:=ail a;omega⟩) λ_=>aa λh=>by cases h
def NQ(x:Bs×Bs):OW (Af x) λb=>b=true->x.1.length<=200/\x.2.length<=1000:=by
 unfold Af syv;exact dj (λh=>aa λa=>⟨by omega,by have:=ail a;omega⟩) λ_=>aa λh=>by cases h
def V8(r:Rdn):Prop:=r.length<=8/\∀a∈r,a.1.length<=200/\a.2.length<=1000
def FF{α:Type}{P:α->Prop}{l:List α}{i:Nat}(h:∀j<i,∀x,l[j]?=some x->P x)(c:l.length<=i):∀x∈l,P x:=by
 intro x b;obtain⟨j,a,rfl⟩:=List.getElem_of_mem b;exact h j (by omega) _ (ahK a)
def OK{α:Type}{P:α->Prop}{l:List α}{i:Nat}(h:∀j<i,∀x,l[j]?=some x->P x){y:α}(d:l[i]?=some y)(k:P y):∀j<i+1,∀x,l[j]?=some x->P x:=by
 intro j c x a;rcases Nat.lt_succ_iff_lt_or_eq.1 c with b|rfl
 ·exact h j b x a
 ·rw[d]at a;cases a;exact k
def aaT(l:FN NN)(r:Rdn)(v:∀a∈r,a.2.length<=140737488351232):OW (uj NN r) λb=>b=true->V8 r:=by
 have d:=l;unfold FN at d;unfold uj syv;refine aj (R:=λy=>y=.inl ()∨∃s:Int,y=.inr (r,s)/\(r.length<=10->∀a∈r,a.1.length<=200/\a.2.length<=1000)) ?_ ?_
 ·unfold xd syv;refine js _ 10 (λi p=>i<=10/\∃s:Int,p=(r,s,(i:Int))/\∀j<i,∀x,r[j]?=some x->x.1.length<=200/\x.2.length<=1000) ?_ NN 0 _ (by omega) (by omega) ⟨by omega,_,rfl,λj u=>by omega⟩;rintro G i _ t ⟨o,s,rfl,c⟩ rec;dsimp only;refine dj (λh=>dj (λg=> ?_) λg=> ?_) λh=> ?_
  ·have f:i<r.length:=by omega
   have e:=ahK f;refine gX (de e) (aj (adj _) λb m=> ?_);refine az (λ_=>aa (.inl rfl)) λn=>gX (de e) ?_;exact rec _ (by omega) ⟨by omega,_,by rw[dD (by omega)],OK c e (m (by simpa using n))⟩
  ·exact aa (.inr ⟨s,rfl,λk=>FF c (by omega)⟩)
  ·exact aa (.inr ⟨s,rfl,λk=>FF c (by omega)⟩)
 ·rintro _ (rfl|⟨s,rfl,h⟩)
  ·exact aa λh=>by cases h
  ·dsimp only;exact dj (λq=>aa λ_=>⟨by omega,h (by omega)⟩) λ_=>aa λh=>by cases h
def Ui(q:FN NN)(n:List Rdn)(I:n.length<=140737488351232)(B:∀r∈n,r.length<=140737488351232/\∀a∈r,a.2.length<=140737488351232):OW (Ai NN n) λb=>b=true->PC n:=by
 have l:=q;unfold FN at l;unfold Ai syv;refine aj (R:=λy=>y=.inl ()∨∃s:Int,y=.inr (n,s)/\(n.length<=20->∀r∈n,V8 r)) ?_ ?_
 ·unfold Bw syv;refine js _ 20 (λi p=>i<=20/\∃s:Int,p=(n,s,(i:Int))/\∀j<i,∀x,n[j]?=some x->V8 x) ?_ NN 0 _ (by omega) (by omega) ⟨by omega,_,rfl,λj F=>by omega⟩;rintro G i _ E ⟨A,s,rfl,g⟩ rec;dsimp only;refine dj (λh=>dj (λt=> ?_) λt=> ?_) λh=> ?_
  ·have d:i<n.length:=by omega
   have f:=ahK d;have o:=B _ (aiL d);refine gX (de f) (aj (aaT q _ o.2) λb w=> ?_);refine az (λ_=>aa (.inl rfl)) λz=> ?_;have m:V8 n[i]:=w (by simpa using z);refine aj (R:=λy=>∃s:Int,y=(n,s,(i:Int))) ?_ ?_
   ·unfold Bu syv;refine js _ n[i].length (λk p=>∃s:Int,p=(n,s,(i:Int),(k:Int))) ?_ NN 0 _ (by omega) (by have:=m.1;omega) ⟨_,rfl⟩;rintro C k _ H ⟨s,rfl⟩ e;dsimp only;refine gX (de f) (dj (λv=> ?_) λv=>aa ⟨_,rfl⟩);have c:k<n[i].length:=by omega
    refine gX (de f) (gX (de (ahK c)) ?_);exact e _ c ⟨_,by rw[dD (by have:=m.1;omega)]⟩
   ·rintro _ ⟨s,rfl⟩;dsimp only;exact rec _ (by omega) ⟨by omega,_,by rw[dD (by omega)],OK g f m⟩
  ·exact aa (.inr ⟨s,rfl,λu=>FF g (by omega)⟩)
  ·exact aa (.inr ⟨s,rfl,λu=>FF g (by omega)⟩)
 ·rintro _ (rfl|⟨s,rfl,h⟩)
  ·exact aa λh=>by cases h
  ·dsimp only;exact dj (λD=>aa λ_=>⟨by omega,h (by omega)⟩) λ_=>aa λh=>by cases h
def okN(n:List Rdn):Prop:=n.length<=140737488351232/\∀r∈n,r.length<=140737488351232/\∀a∈r,a.2.length<=140737488351232
def afu(v:uU):Prop:=v.2.1.length<=100/\(v.2.2.1.1.length<=200/\v.2.2.1.2.length<=1000)/\PC v.2.2.2.1/\PC v.2.2.2.2.2.2.1/\((v.2.2.2.2.2.2.2.1.1.1.length<=200/\v.2.2.2.2.2.2.2.1.1.2.length<=1000)/\v.2.2.2.2.2.2.2.1.2.1.length<=1000)/\v.2.2.2.2.2.2.2.2.2.1.1.length<=300/\v.2.2.2.2.2.2.2.2.2.2.2.1.1.length<=300/\wL v.2.2.2.2.2.2.2.2.2.2.2.2<=3500
def V9(v:uU):Prop:=okN v.2.2.2.1/\okN v.2.2.2.2.2.2.1/\okX v.2.2.2.2.2.2.2.2.2.2.2.2
def aaU(v:FD):OW (ul v) λb=>b=true->(v.1.1.length<=200/\v.1.2.length<=1000)/\v.2.1.length<=1000:=by
 unfold ul syv;exact aj (NQ _) λb a=>az (λc=>aa λh=>⟨a c,by have:=ail h;omega⟩) λ_=>aa λh=>by cases h
def afv(a:FN NN)(v:uU)(o:V9 v):OW (um NN v) λb=>b=true->afu v:=by
 obtain⟨c,d,p⟩:=o;unfold um syv;refine dj (λw=> ?_) λ_=>aa λh=>by cases h
 refine aj (NQ _) λq j=>az (λc1=> ?_) λ_=>aa λh=>by cases h
 refine aj (Ui a _ c.1 c.2) λr k=>az (λe=> ?_) λ_=>aa λh=>by cases h
 refine aj (Ui a _ d.1 d.2) λs l=>az (λf=> ?_) λ_=>aa λh=>by cases h
 refine aj (aaU _) λt m=>az (λg=> ?_) λ_=>aa λh=>by cases h
 refine dj (λd2=>dj (λx=> ?_) λ_=>aa λh=>by cases h) λ_=>aa λh=>by cases h
 exact aj (adi a _ p) λu n=>aa λi=>⟨by omega,j c1,k e,l f,m g,by omega,by omega,n i⟩
def Sn(v:nl):Prop:=afu v.1/\(v.2.1.1.length<=200/\v.2.1.2.length<=1000)/\v.2.2.1.length<=500
def agG(e:FN NN)(v:nl)(f:V9 v.1):OW (Ak NN v) λb=>b=true->Sn v:=by
 unfold Ak syv;refine aj (afv e v.1 f) λg c=>az (λc1=> ?_) λ_=>aa λh=>by cases h
 refine aj (NQ _) λi d=>az (λa=> ?_) λ_=>aa λh=>by cases h
 exact aa λh=>⟨c c1,d a,by have:=ail h;omega⟩
def adk{v:nl}(h:Sn v):QB v:=by
 obtain⟨⟨d,e,a,b,f,g,i,c⟩,j,k⟩:=h;have l:=IR a;have m:=IR b;exact⟨⟨by omega,by omega,by omega,by omega,⟨by omega,by omega,by omega⟩,by omega,by omega,aft c⟩,by omega,by omega,by omega⟩
def rZ(c:Nat)(k:Bool)(m:Nat)(b:Bs)(h:b.length<10000000):(ai (c,k,m,b)).length<=b.length+6:=iA (b:=b) (by omega)
def Yr{v:nl}(h:Sn v):(pR v.1.2.2.2.2.2.2.2.2.2.2.2.2).length<=3500:=by
 obtain⟨⟨a,b,c,d,e,f,g,i⟩,j,k⟩:=h;have:=adh v.1.2.2.2.2.2.2.2.2.2.2.2.2 (by omega);omega
def aaV{v:nl}(h:Sn v):(ai (kq v)).length<=206000:=by
 have L:=Yr h;obtain⟨⟨z,A,w,y,B,C,D,E⟩,F,G⟩:=h;obtain⟨⟨a,s,⟨k,sp⟩,n,t,u,m,⟨⟨d,e⟩,b,c⟩,c1,⟨f,i⟩,l,⟨g,j⟩,x⟩,⟨q,p2⟩,o,p⟩:=v;dsimp only at z A w y B C D E F G L;have n1:=IR w;have n2:=IR y;have q1:=Ug n (by omega);have q2:=Ug m (by omega);have q3:=Sm (k,sp) (by dsimp only;omega) (by dsimp only;omega);have Y:=Sm (d,e) (by dsimp only;omega) (by dsimp only;omega);have Z:=Sm (q,p2) (by dsimp only;omega) (by dsimp only;omega);have q6:=KQ t u;have q7:=rZ 0 true 16 (au (qG t u)) (by omega);have M:=lT (b,c);have N:=lT (o,p);have O:=lT (f,i);have P:=lT (g,j);dsimp only at q3 Y Z M N O P;have q8:=rZ 0 false 3 (iC (b,c)) (by omega);have q9:=rZ 0 false 3 (iC (o,p)) (by omega);have e1:(au (pk ((d,e),b,c))).length=(uT (d,e)).length+(ai (0,false,3,iC (b,c))).length:=by
  unfold pk;rw[Sf,ahN];rfl
 have Q:=rZ 0 true 16 (au (pk ((d,e),b,c))) (by omega);have R:=rZ 0 false 2 s (by omega);have S:(au (tvT a)).length<=20:=by
  unfold tvT;cases decide (a>0)
  ·simp[au]
  ·have h1:=KG a.toNat;have h2:=rZ 0 false 2 (qD a.toNat) (by omega);have r:=rZ 2 true 0 (ai (0,false,2,qD a.toNat)) (by omega);simp only[ahY,au,ahX,ai0,aif,ai3,ah6];omega
 have T:(au (idT 1 c1 (f,i))).length<=307:=by
  unfold idT;cases c1
  ·simp[au]
  ·have r:=rZ 2 false 1 (iC (f,i)) (by omega);simp only[ahY,au,ahX,ai0,aif,ai3,ah6];omega
 have U:(au (idT 2 l (g,j))).length<=307:=by
  unfold idT;cases l
  ·simp[au]
  ·have r:=rZ 2 false 2 (iC (g,j)) (by omega);simp only[ahY,au,ahX,ai0,aif,ai3,ah6];omega
 have V:(au (exT x)).length<=3506:=by
  unfold exT;cases decide (((x.length:Nat):Int)>0)
  ·simp[au]
  ·have r:=rZ 2 true 3 (pR x) (by omega);simp only[ahY,au,ahX,ai0,aif,ai3,ah6];omega
 have e2:(au (jI (a,s,(k,sp),n,t,u,m,((d,e),b,c),c1,(f,i),l,(g,j),x))).length<=204000:=by
  unfold jI;simp only[FC,iH,ahN];have H:(ai (oR (k,sp))).length=(uT (k,sp)).length:=rfl;have I:(ai (jX n)).length=(qQ n).length:=rfl;have J:(ai (jX m)).length=(qQ m).length:=rfl;have K:(ai (ot t u)).length=(ai (0,true,16,au (qG t u))).length:=rfl;have g5:(ai (oS ((d,e),b,c))).length=(ai (0,true,16,au (pk ((d,e),b,c)))).length:=rfl;omega
 have W:=rZ 0 true 16 (au (jI (a,s,(k,sp),n,t,u,m,((d,e),b,c),c1,(f,i),l,(g,j),x))) (by omega);have e3:(au (lI ((a,s,(k,sp),n,t,u,m,((d,e),b,c),c1,(f,i),l,(g,j),x),(q,p2),o,p))).length<=205900:=by
  unfold lI;simp only[iH,ahN];have H:(ai (oR (q,p2))).length=(uT (q,p2)).length:=rfl;have I:(ai (wt (a,s,(k,sp),n,t,u,m,((d,e),b,c),c1,(f,i),l,(g,j),x))).length=(ai (0,true,16,au (jI (a,s,(k,sp),n,t,u,m,((d,e),b,c),c1,(f,i),l,(g,j),x)))).length:=rfl;have J:(ai (AR (o,p))).length=(ai (0,false,3,iC (o,p))).length:=rfl;have K:(au []).length=0:=rfl;omega
 have X:=rZ 0 true 16 (au (lI ((a,s,(k,sp),n,t,u,m,((d,e),b,c),c1,(f,i),l,(g,j),x),(q,p2),o,p))) (by omega);have g9:(ai (kq ((a,s,(k,sp),n,t,u,m,((d,e),b,c),c1,(f,i),l,(g,j),x),(q,p2),o,p))).length=(ai (0,true,16,au (lI ((a,s,(k,sp),n,t,u,m,((d,e),b,c),c1,(f,i),l,(g,j),x),(q,p2),o,p)))).length:=rfl;omega
def aaW(c:FN NN)(v:nl)(i:Sn v):dU NN v=some ([],8)∨∃b:Bs,dU NN v=some (b,0)/\2<=b.length/\b.length<=206000/\(∀k,k<b.length->∃w e o,eF NN (b.take k)=some (w,e,o)/\e≠0)/\∀a:Bs,a.length<=2000->∃w e o,eF NN (b++a)=some (w,e,o)/\(e=0↔a=[]):=by
 have p:=adk i;have y:=aaV i;have B:=Yr i;have z:(au (lI v)).length<(ai (kq v)).length:=iE (kq v);have d:=abB c v p (by omega);cases j:wC NN v
 ·rw[j]at d;exact .inl d
 ·rw[j]at d;refine .inr ⟨ai (kq v),d,aaP (kq v),y,λk u=>Ue c _ (by rw[aig];omega) λt l g=> ?_,λa A=> ?_⟩
  ·have m:(ai (kq v)).take k++(ai (kq v)).drop k=ai (kq v):=aiV _ _;rw[g]at m;have f:(ai (kq v)).drop k=[]:=My (t:=kq v) m.symm (Uf (by omega)) l;have n:=ain List.length f;rw[aiF]at n;simp only[ah9]at n;omega
  ·cases a with
   |nil=>
    rw[ah6];exact⟨v,0,0,Yn c v p j (ai (kq v)) rfl (by omega) (by omega),by simp⟩
   |cons x r=>
    obtain⟨w,e,o,q,s⟩:=Ue c (ai (kq v)++x::r) (by rw[ahN];omega) λt l g=>by
     have f:x::r=[]:=My (t':=kq v) g.symm l (Uf (by omega));cases f
    exact⟨w,e,o,q,λh=>absurd h s,λh=>by cases h⟩
end Go.Fw
namespace Go.Fw
open Go
def okC(v:nl):Prop:=V9 v.1
def Ys(f:FN NN)(v:nl)(D:okC v)(n:Nat)(J:n<65536)(a:Bs):kN NN v (n:Int) a=some true:=by
 suffices OW (kN NN v (n:Int) a) λr=>r=true by
  obtain⟨r,B,rfl⟩:=this;exact B
 have p:=ade f;have K:OW ((oG NN).bind λc=>some c) λr=>r=true:=by
  rw[p];exact aa rfl
 unfold kN syv;rw[p];refine ly (mX (k_t ?_));refine aj (agG f v D) λb A=>mX (az (λc=> ?_) λ_=>aa rfl);refine dj (λ_=>aa rfl) λI=> ?_;rcases aaW f v (A c) with d|⟨b,d,G,H,y,z⟩
 ·exact gX d (aa rfl)
 ·refine gX d ?_;dsimp only;have E:IntKind.wrap .i64 (n:Int)=(n:Int):=by
   show IntKind.i64.wrap (n:Int)=_;rw[aij _ (by omega)]
  have g:n % b.length<b.length:=Nat.mod_lt _ (by omega);refine k_z ?_;rw[show(((b.length:Nat):Int)==0)=false from aid.2 (by omega),E,show Int.tmod (n:Int) ((b.length:Nat):Int)=((n % b.length:Nat):Int) from rfl];refine k_f (k_f ?_);obtain⟨s,C,k⟩:=BO (l:=b) (i:=0) (j:=((n % b.length:Nat):Int)) (by omega) (by omega) (by omega);have m:s=b.take (n % b.length):=by rw[k];rfl
  subst m;refine gX C ?_;obtain⟨w,e,o,q,t⟩:=y _ g;refine gX q ?_;rw[gK (by omega) (by simp;omega)];refine ly ?_;rw[aiw,gK (by omega) (by omega)];refine ly ?_;obtain⟨M,F,L,u,x⟩:=z a (by omega);refine gX u ?_;dsimp only;refine afh t (aa ?_);rw[akb];apply Bool.eq_iff_iff.2;rw[akb,akb,x];constructor
  ·rintro rfl;rfl
  ·intro h;exact aji.1 (by omega)
end Go.Fw
namespace Go.Fw
open Go.RowKit
mutual
def ag6(σ:Sto):Nat->D->Option D
 |0,_=>none
 |n+1,d=>match d.pure with
  |true=>some d
  |false=>match d with
   |.sl l u o len sz f=>match σ[l]? with
    |some (.cells cs _ v)=>match Nat.beq v u&&Nat.ble (o+len*sz) cs.length with
     |true=>match UH σ n ((cs.drop o).take (len*sz)) with
      |some xs=>some (.list xs len f)
      |none=>none
     |false=>none
    |_=>none
   |.agg cs=>match UH σ n cs with
    |some xs=>some (.agg xs)
    |none=>none
   |_=>none
def UH (σ:Sto):Nat->List D->Option (List D)
 |0,_=>none
 |n+1,l=>match l with
  |[]=>some []
  |d::ds=>match ag6 σ n d with
   |some x=>match UH σ n ds with
    |some xs=>some (x::xs)
    |none=>none
   |none=>none
end
def snap(G:Gh)(w:World):Gh:=⟨λb o=>w.cell? ⟨b,o,none⟩,G.mimm,λ_ _=>none,G.siz⟩
section
variable {P:Program}{B:dN P}{G:Gh}{σ:Sto}{w:World}
end
end Go.Fw
namespace Go.Fw
open Go.RowKit
mutual
def un(P:Program):Nat->TC->TypeId->Bool
 |0,_,_=>false
 |n+1,c,t=>match c with
  |.byte=>match P.underlying t with
   |some (.int k)=>decide (k=.u8)
   |_=>false
  |.int k=>match P.underlying t with
   |some (.int k')=>decide (k'=k)
   |_=>false
  |.bool=>match P.underlying t with
   |some .bool=>true
   |_=>false
  |.str=>match P.underlying t with
   |some .string=>true
   |_=>false
  |.sl c=>match P.underlying t with
   |some (.slice e)=>un P n c e&&(Nat.beq (P.cellsOf e) c.sz&&(Nat.blt 0 c.sz&&Nat.blt 0 (P.bytesOf e)))
   |_=>false
  |.node=>false
  |.spot=>false
  |c=>match P.underlying t with
   |some (.struct fs)=>J3 P n c 0 fs.toList&&Nat.beq (P.cellsOf t) c.sz
   |_=>false
def J3 (P:Program):Nat->TC->Nat->List Field->Bool
 |0,_,_,_=>false
 |n+1,c,off,fs=>match fs with
  |[]=>match c with
   |.unit=>true
   |_=>false
  |f::r=>match r with
   |[]=>Nat.beq f.offset off&&(Nat.beq (P.cellsOf f.type) c.sz&&un P n c f.type)
   |_::_=>match c with
    |.pair a b=>Nat.beq f.offset off&&(Nat.beq (P.cellsOf f.type) a.sz&&(un P n a f.type&&J3 P n b (off+a.sz) r))
    |_=>false
end
def TC.ok:(t:TC)->t.Den->Prop
 |.byte,_=>True
 |.int k,n=>k.min<=n/\n<=k.max
 |.bool,_=>True
 |.str,s=>s.length<=maxLen
 |.sl t,c=>c.length<=maxLen/\∀x∈c,t.ok x
 |.pair a b,x=>a.ok x.1/\b.ok x.2
 |.unit,_=>True
 |.node,_=>True
 |.spot,_=>True
def TC.sm:(t:TC)->t.Den->Prop
 |.byte,_=>True
 |.int _,_=>True
 |.bool,_=>True
 |.str,s=>s.length<=reachBytes
 |.sl t,c=>c.length<=reachBytes/\∀x∈c,t.sm x
 |.pair a b,x=>a.sm x.1/\b.sm x.2
 |.unit,_=>True
 |.node,_=>True
 |.spot,_=>True
def Dd{H:Type}{P:Program}{e:TypeId}{p:Nat->Bool}:∀{ds:List (DataW H)}{d:DataW H},(DataW.weightsAll P e ds).all p=true->d∈ds->(d.weights P e).all p=true
 |[],_,_,h=>by cases h
 |d::ds,x,h,a=>by
  simp only[DataW.weightsAll,akp,ahJ]at h;rcases aib.1 a with rfl|a
  ·exact h.1
  ·exact Dd h.2 a
def uo{H:Type}{P:Program}{p:Nat->Bool}:∀{a:List TypeId}{ds:List (DataW H)},(DataW.weightsEach P a ds).all p=true->∀(i:Nat) t d,a[i]?=some t->ds[i]?=some d->(d.weights P t).all p=true
 |[],_,_,i,t,d,h,_=>by simp at h
 |_::_,[],_,i,t,d,_,h=>by simp at h
 |t::a,d::ds,h,i,f,e,b,c=>by
  simp only[DataW.weightsEach,akp,ahJ]at h;cases i with
  |zero=>
   cases b;cases c;exact h.1
  |succ i=>exact uo h.2 i f e (by simpa using b) (by simpa using c)
def af.one{G:Gh}{d:D}{v:Value}(h:Rep G d v):af G [d] [v]:=by simp only[af];exact⟨v,[],rfl,h,rfl⟩
def afy{n:Int}(h:(Lit.int .u8 n).wf=true):∃b:UInt8,n=(b.toNat:Int):=by
 simp only[Lit.wf,ahJ,aiu]at h;have a:IntKind.u8.min=0:=by decide
 have c:IntKind.u8.max=255:=by decide
 rw[a,c]at h;exact⟨UInt8.ofNat n.toNat,by simp;omega⟩
section
variable {H:Type}{enc:TypeId×Value→H}{P:Program}{w:World}{base:Nat}{sp:Nat→Bool}{held:Bool}
def Hg{a:Addr}{n:Nat}{cs:List Value}(h:w.cells? base a n=some cs):cs.length=n/\∀i,i<n->w.cell? (a.add i)=cs[i]? :=by
 unfold World.cells? at h;split at h<;>try (cases h;done)
 exact⟨by simpa using mapM_some_length h,λi b=>mapM_some_get h i i (by simp[b])⟩
def F6{G:Gh}{b:Nat}:∀{xs:List D}{vs:List Value}{o:Nat},af (snap G w) xs vs->(∀i v,vs[i]?=some v->w.cell? ⟨b,o+i,none⟩=some v)->Cells (snap G w) b o xs
 |[],_,_,_,_=>trivial
 |x::xs,_,o,h,k=>by
  simp only[af]at h;obtain⟨v,r,rfl,a,c⟩:=h;refine⟨⟨v,k 0 v rfl,a⟩,F6 c λi u d=> ?_⟩;have:=k (i+1) u (by simpa using d);rwa[show o+1+i=o+(i+1) from by omega]
def NX{G:Gh}{α:Type}{E:Enc α}:∀{xs:List α}{vss:List (List Value)},vss.length=xs.length->(∀(i:Nat) x b,xs[i]?=some x->vss[i]?=some b->af G (E.cells x) b)->af G (dF E xs) vss.flatten
 |[],vss,a,_=>by
  have:vss=[]:=List.length_eq_zero_iff.1 (by simpa using a);subst this;rw[show dF E ([]:List α)=[] from E.fnil];simp only[List.flatten_nil,af]
 |x::xs,[],a,_=>by simp at a
 |x::xs,b::vss,a,h=>by
  rw[show dF E (x::xs)=E.cells x++dF E xs from E.fcons x xs,List.flatten_cons];exact(h 0 x b rfl rfl).append (NX (by simpa using a) λi y e d c=>h (i+1) y e (by simpa using d) (by simpa using c))
def Jn{α:Type}{sz:Nat}:∀{vss:List (List α)}{i:Nat}{v:α},(∀a∈vss,a.length=sz)->0<sz->vss.flatten[i]?=some v->∃a,vss[i / sz]?=some a/\a[i % sz]?=some v
 |[],i,v,_,_,h=>by simp at h
 |a::vss,i,v,c,d,h=>by
  have j:=c a (aio ..);rw[List.flatten_cons]at h;rcases ah0 i sz with b|b
  ·rw[ahT (by omega)]at h;exact⟨a,by rw[Nat.div_eq_of_lt b];rfl,by rw[Nat.mod_eq_of_lt b];exact h⟩
  ·rw[ahZ (by omega),j]at h;obtain⟨k,e,f⟩:=Jn (λu g=>c u (ah4 _ g)) d h;refine⟨k,?_,?_⟩
   ·have:i / sz=(i-sz) / sz+1:=by
     rw[<-Nat.sub_add_cancel b,Nat.add_div_right _ d];simp
    rw[this];simpa using e
   ·rw[Nat.mod_eq_sub_mod b];exact f
def QD{α k:Type}{R:Nat->α->k->Prop}:∀n:Nat,(∀i,i<n->∃x y,R i x y)->∃(xs:List α)(f:List k),xs.length=n/\f.length=n/\∀(i:Nat) x y,xs[i]?=some x->f[i]?=some y->R i x y
 |0,_=>⟨[],[],rfl,rfl,λi x y h=>by simp at h⟩
 |n+1,h=>by
  obtain⟨xs,f,g,j,l⟩:=QD n λi e=>h i (by omega);obtain⟨x,y,m⟩:=h n (by omega);refine⟨xs++[x],f++[y],by simp[g],by simp[j],λi a b c d=> ?_⟩;rcases Nat.lt_trichotomy i n with e|e|e
  ·rw[ahT (by omega)]at c d;exact l i a b c d
  ·subst e;rw[ahZ (by omega),g]at c;rw[ahZ (by omega),j]at d;simp at c d;subst c d;exact m
  ·rw[ah3 (by simp;omega)]at c;cases c
mutual
def yS(G:Gh):∀(n:Nat)(c:TC)(t:TypeId),un P n c t=true->∀(fuel:Nat)(cs:List Value)(x:DataW H×List MemPlace),DataW.trod enc P w base sp held fuel t cs=some x->
 ∃y:c.Den,af (snap G w) (c.cells y) cs/\c.ok y/\((x.1.weights P t).all (· <=reachBytes)=true->c.sm y)
 |0,_,_,h,_,_,_,_=>by simp[un]at h
 |n+1,.byte,t,h,fuel,cs,x,hx=>by
  simp only[un]at h;split at h<;>try (cases h;done)
  rename_i k hu;have:=ail h;subst this;obtain⟨m,rfl,_,hw⟩:=DataW.trod_int hu hx;obtain⟨b,rfl⟩:=afy hw;exact⟨b,af.one (by simp only[Rep]),trivial,λ_=>trivial⟩
 |n+1,.int k,t,h,fuel,cs,x,hx=>by
  simp only[un]at h;split at h<;>try (cases h;done)
  rename_i k' hu;have:=ail h;subst this;obtain⟨m,rfl,_,hw⟩:=DataW.trod_int hu hx;simp only[Lit.wf,ahJ,aiu]at hw;exact⟨m,af.one (by simp only[Rep]),hw,λ_=>trivial⟩
 |n+1,.bool,t,h,fuel,cs,x,hx=>by
  simp only[un]at h;split at h<;>try (cases h;done)
  rename_i hu;obtain⟨b,rfl,_⟩:=DataW.trod_bool hu hx;exact⟨b,af.one (by simp only[Rep]),trivial,λ_=>trivial⟩
 |n+1,.str,t,h,fuel,cs,x,hx=>by
  simp only[un]at h;split at h<;>try (cases h;done)
  rename_i hu;obtain⟨s,rfl,rfl,hs⟩:=DataW.trod_string hu hx;exact⟨s.data.toList,af.one (by simp only[Rep]),by simpa[TC.ok] using hs,λh=>by simpa[DataW.weights,TC.sm] using h⟩
 |n+1,.sl c,t,h,fuel,cs,x,hx=>by
  simp only[un]at h;split at h<;>try (cases h;done)
  rename_i e hu;simp only[ahJ]at h;obtain⟨h1,h2,h3,h33⟩:=h;have h2:=dd h2;have h3:0<c.sz:=ahV h3;have h33:0<P.bytesOf e:=ahV h33;rcases DataW.trod_slice hu hx with⟨rfl,_⟩|⟨a,len,cap,elems,rest,m,_,rfl,rfl,_,hlc,hcm,hel,hr,_⟩
  ·refine⟨[],af.one ?_,by simp[TC.ok,maxLen],λ_=>by simp[TC.sm]⟩;simp only[Rep];exact⟨none,0,rfl,ahS _,by omega,(λh=>by cases h),.inr c.enc.fnil⟩
  ·obtain⟨xs,vss,k1,k2,k3⟩:=QD (R:=λi (y:c.Den)(vs:List Value)=>w.cells? base (a.add (i*P.cellsOf e)) (P.cellsOf e)=some vs/\af (snap G w) (c.cells y) vs/\c.ok y/\((DataW.weightsAll P e (elems.map (·.1))).all (· <=reachBytes)=true->c.sm y)) len λi hi=>by
    have h4:=hr i hi;rw[ahK (by omega)]at h4;obtain⟨vs,h5,h6⟩:=akd.1 h4;obtain⟨y,h7,h8,h9⟩:=yS G n c e h1 m vs _ h6;exact⟨y,vs,h5,h7,h8,λhw=>h9 (Dd hw (aiG.2 ⟨_,aiL _,rfl⟩))⟩
   have hvs:∀vs∈vss,vs.length=c.sz:=by
    intro vs hvs;obtain⟨i,hi⟩:=aiT hvs;have hil:=ah hi;obtain⟨h5,_⟩:=k3 i _ vs (ahK (by omega)) hi;rw[(Hg h5).1,h2]
   refine⟨xs,af.one ?_,⟨by rw[k1];exact ai4 hlc hcm,λy hy=> ?_⟩,λhw=> ?_⟩
   ·simp only[Rep];refine⟨some a,cap,by rw[k1],by rw[k1];exact hlc,hcm,(λh=>by cases h),?_⟩;rcases akO len with h0|h0
    ·right;have:xs=[]:=List.length_eq_zero_iff.1 (by omega);subst this;exact c.enc.fnil
    ·left;have hs:a.spot=none:=by
      have hv0:0<vss.length:=by omega
      have h0':=(k3 0 _ _ (ahK (by omega)) (ahK hv0)).1;have h9:=(Hg h0').2 0 (by omega);have hl0:=hvs _ (aiL hv0);rw[ahK (by omega),ajD]at h9;unfold Addr.add at h9;simp only[aiI]at h9;unfold World.cell? at h9;split at h9<;>try (cases h9;done)
      split at h9<;>try (cases h9;done)
      rename_i hn;simpa using hn
     obtain⟨ab,ao,as1⟩:=a;simp only at hs;subst hs;have hcell:∀(i:Nat) v,vss.flatten[i]?=some v->w.cell? ⟨ab,ao+i,none⟩=some v:=by
      intro i v hv;obtain⟨vs,h5,h6⟩:=Jn hvs h3 hv;have hil:=ah h5;obtain⟨h7,_⟩:=k3 _ _ vs (ahK (by omega)) h5;have h8:=(Hg h7).2 (i % c.sz) (by rw[h2];exact Nat.mod_lt _ h3);rw[h6,h2]at h8;have hd:i / c.sz*c.sz+i % c.sz=i:=by rw[Nat.mul_comm];exact Nat.div_add_mod i c.sz
      have hadd:((⟨ab,ao,none⟩:Addr).add (i / c.sz*c.sz)).add (i % c.sz)=⟨ab,ao+i,none⟩:=by
       unfold Addr.add;by_cases e1:i / c.sz*c.sz=0<;>by_cases e2:i % c.sz=0<;>simp only[e1,e2,aiI,aiE]
       ·rw[show ao+i=ao from by omega]
       ·rw[show ao+i % c.sz=ao+i from by omega]
       ·rw[show ao+i / c.sz*c.sz=ao+i from by omega]
       ·rw[show ao+i / c.sz*c.sz+i % c.sz=ao+i from by omega]
      rw[hadd]at h8;exact h8
     have hreps:=NX (G:=snap G w) (E:=c.enc) (xs:=xs) (vss:=vss) (by omega) λi y vs hy hv=>(k3 i y vs hy hv).2.1;exact⟨ab,ao,rfl,F6 hreps hcell⟩
   ·obtain⟨i,hi⟩:=aiT hy;have hil:=ah hi;exact(k3 i y (vss[i]'(by omega)) hi (ahK (by omega))).2.2.1
   ·simp only[DataW.weights,hu,aja,akp,ahJ,aiu,aiy]at hw;refine⟨?_,λy hy=> ?_⟩
    ·have h9:=akT (elems.length+rest.length) h33;omega
    ·obtain⟨i,hi⟩:=aiT hy;have hil:=ah hi;exact(k3 i y (vss[i]'(by omega)) hi (ahK (by omega))).2.2.2 hw.2.1
 |n+1,.pair a b,t,h,fuel,cs,x,hx=>by
  simp only[un]at h;split at h<;>try (cases h;done)
  rename_i fs hu;simp only[ahJ]at h;obtain⟨xs,m,_,rfl,hl,hxs,hf⟩:=DataW.trod_struct hu hx;obtain⟨y,h1,h2⟩:=M8 G n (.pair a b) 0 fs.toList h.1 m cs (((DataW.agg (xs.map (·.1))).weights P t).all (· <=reachBytes)=true) λi f hi=>⟨xs[i]'(by rw[hxs];simpa using ah hi),by
   rw[hf i f (by simpa using hi),List.getElem?_eq_getElem],λhw=>by
   simp only[DataW.weights,hu]at hw;exact uo hw i f.type _ (by rw[aiO,hi];rfl) (by rw[aiO,ahK];rfl)⟩
  refine⟨y,?_,h2⟩;rw[aiz,<-dd h.2,<-hl,ajb]at h1;exact h1
 |n+1,.unit,t,h,fuel,cs,x,hx=>by
  simp only[un]at h;split at h<;>try (cases h;done)
  rename_i fs hu;simp only[ahJ]at h;obtain⟨xs,m,_,rfl,hl,hxs,hf⟩:=DataW.trod_struct hu hx;obtain⟨y,h1,h2⟩:=M8 G n .unit 0 fs.toList h.1 m cs (((DataW.agg (xs.map (·.1))).weights P t).all (· <=reachBytes)=true) λi f hi=>⟨xs[i]'(by rw[hxs];simpa using ah hi),by
   rw[hf i f (by simpa using hi),List.getElem?_eq_getElem],λhw=>by
   simp only[DataW.weights,hu]at hw;exact uo hw i f.type _ (by rw[aiO,hi];rfl) (by rw[aiO,ahK];rfl)⟩
  refine⟨y,?_,h2⟩;rw[aiz,<-dd h.2,<-hl,ajb]at h1;exact h1
 |n+1,.node,t,h,fuel,cs,x,hx=>by simp[un]at h
 |n+1,.spot,t,h,fuel,cs,x,hx=>by simp[un]at h
def M8 (G:Gh):∀(n:Nat)(c:TC)(off:Nat)(fs:List Field),J3 P n c off fs=true->∀(m:Nat)(cs:List Value)(W:Prop),
 (∀(i:Nat)(f:Field),fs[i]?=some f->∃x,DataW.trod enc P w base sp held m f.type ((cs.drop f.offset).take (P.cellsOf f.type))=some x/\(W->(x.1.weights P f.type).all (· <=reachBytes)=true))->∃y:c.Den,af (snap G w) (c.cells y) ((cs.drop off).take c.sz)/\c.ok y/\(W->c.sm y)
 |0,_,_,_,h,_,_,_,_=>by simp[J3]at h
 |n+1,c,off,[],h,m,cs,W,hf=>by
  simp only[J3]at h;split at h<;>try (cases h;done)
  exact⟨(),by simp only[show TC.unit.sz=0 from rfl,alk];show af _ [] [];simp only[af],trivial,λ_=>trivial⟩
 |n+1,c,off,[f],h,m,cs,W,hf=>by
  simp only[J3,ahJ]at h;obtain⟨h1,h2,h3⟩:=h;obtain⟨x,hx,hw⟩:=hf 0 f rfl;rw[dd h1,dd h2]at hx;obtain⟨y,k1,k2,k3⟩:=yS G n c f.type h3 m _ x hx;exact⟨y,k1,k2,λh=>k3 (hw h)⟩
 |n+1,c,off,f::g::r,h,m,cs,W,hf=>by
  simp only[J3]at h;split at h<;>try (cases h;done)
  rename_i a b;simp only[ahJ]at h;obtain⟨h1,h2,h3,h4⟩:=h;obtain⟨x,hx,hw⟩:=hf 0 f rfl;rw[dd h1,dd h2]at hx;obtain⟨ya,k1,k2,k5⟩:=yS G n a f.type h3 m _ x hx;obtain⟨yb,k3,k4,k6⟩:=M8 G n b (off+a.sz) (g::r) h4 m cs W λi f' hi=>hf (i+1) f' (by simpa using hi);refine⟨(ya,yb),?_,⟨k2,k4⟩,λh=>⟨k5 (hw h),k6 h⟩⟩;have e:(cs.drop off).take (TC.pair a b).sz=(cs.drop off).take a.sz++(cs.drop (off+a.sz)).take b.sz:=by
   rw[show(TC.pair a b).sz=a.sz+b.sz from rfl,List.take_add,ajj]
  rw[e];exact k1.append k3
end
end
end Go.Fw
namespace Go.Fw
open Go.RowKit Go.WideShapes Go.ChangeShapes
section
variable {H:Type}{enc:TypeId×Value→H}{P:Program}
def post_below{f:Func}{s:ChangeSpec}{c n d m:Bool}{W o:World}{args:Array Value}{v:Value}{ds q:List (DataW H)}{a pa pv:List MemPlace}
 (y:DataW.Whole enc P f.params.toList s.vars c W args.toList ds q a)
 (l:∀(b:Nat)(sp:Nat->Bool)(hd:Bool),DataW.TrodAll enc P o b sp hd f.resultTypes.toList (v.resultList f.resultTypes.size) (s.fn H (ds++q)).results [])
 (e:∀sp:Nat->Bool,(∀p∈a,sp p.block=true)->DataW.TrodAll enc P o 0 sp true f.params.toList args.toList (s.fn H (ds++q)).args pa)
 (h:∀sp:Nat->Bool,(∀p∈a,sp p.block=true)->DataW.TrodVars enc P o sp s.vars (s.fn H (ds++q)).vars pv)
 (i:a=pa++pv)(A:Below W.heap.size W o)
 (z:∀(j:Nat)(t:TypeId)(r:Value),f.resultTypes[j]?=some t->(v.resultList f.resultTypes.size)[j]?=some r->Value.okWide P o .any 0 t r):
 s.post enc P f c n d m W args v o:=by
 have w:∀p∈a,p.block<W.heap.size:=λp g=>y.lt p g;have k:∀p∈a,(λb=>decide (b<W.heap.size)) p.block=true:=λp g=>by simpa using w p g
 refine⟨ds,q,a,[],pa,pv,y,l _ _ _,e _ k,h _ k,World.keptBut_mono (λp g=>⟨g,?_⟩) (A.frame (· ∈a)),λ_=> ?_⟩
 ·rw[i,aiv]at g;exact Or.inr g
 ·obtain⟨_,_,_,_,_,D,C⟩:=y;refine⟨z,_,_,([]++pa)++pv,⟨[]++pa,pv,trodAll_append (e _ (λ_ _=>rfl)) (l _ _ _),h _ (λ_ _=>rfl),rfl,?_,?_⟩,?_⟩
  ·intro b x g;have u:MemPlace.cell b x∈a:=by rw[i];simpa using g
   rw[A.frozen (w _ u)];exact D b x u
  ·intro B;have:=C B;rw[i]at this;simpa using this
  ·intro p g _;rw[i];simpa using g
end
def G0:Gh:=⟨λ_ _=>none,λ_=>none,λ_ _=>none,λ_=>none⟩
end Go.Fw
namespace Go.Fw
open Go.RowKit
def fh.run2{P:Program}{f:FuncId}{ds:List D}{b:Bool}(h:fh P f ds (.bool b))(w:World)(g:GlobOk P (snap G0 w) w){vals:List Value}(i:af (snap G0 w) ds vals):
 Calls P f vals.toArray w λe j=>e=.returned (.bool b)/\Below w.heap.size w j:=
 (h (snap G0 w) w vals ⟨λ_ _ _ x=>x,λ_ _ x=>(by cases x),λ_ _ x=>(by cases x)⟩ g i).mono λ_ _ ⟨v,k,c,d,a⟩=>⟨by simp only[Rep]at a;rw[c,a],d.below⟩
end Go.Fw
namespace Go.Proofs.Tryz
open Go Go.Fw
noncomputable abbrev Id:TC:=.pair YD (.pair tc1 Qf)
def law_ends(v:nl)(i:okC v)(n:Nat)(g:n<65536)(b:List UInt8)(f:Bool):fh prog 3 [.agg (Id.cells v),.int .u16 (n:Int),.list (dF mC b) b.length f] (.bool true):=by
 obtain⟨_,_,_,h⟩:=Al.2;obtain⟨c,a,_,d⟩:=h (v,(n:Int),b) true (Ys hNN v i n g b);have e:c=.bool true:=by
  have a:some ((SV.bool true,([]:List DV)))=some (c,[]):=a;cases a;rfl
 subst e;refine d _ rfl _ ?_;simp only[VRs,VR];exact⟨_,_,rfl,⟨_,rfl,TC.scells_ok [] [] Id v⟩,_,_,rfl,rfl,_,_,rfl,⟨f,rfl,λh=>(by cases h)⟩,rfl⟩
end Go.Proofs.Tryz
namespace Go.Proofs.Tryz
open Go Go.Fw Go.RowKit Go.ChangeShapes Go.WideShapes
set_option maxRecDepth 100000
def u37:∃a,prog.underlying 37=some (.struct a):=by
 have h:(match prog.underlying 37 with|some (.struct _)=>true|_=>false)=true:=by kernel_rfl
 split at h
 ·rename_i a b;exact⟨a,b⟩
 ·cases h
def u38:prog.underlying 38=some (.int .u16):=by kernel_rfl
section
variable {H:Type}{enc:TypeId×Value→H}{W:World}{base b0:Nat}{sp:Nat→Bool}{held:Bool}
def adn{y:Id.Den}(h:Id.sm y):okC y:=by
 have k:reachBytes=140737488351232:=rfl;simp only[TC.sm,k]at h;obtain⟨⟨_,_,_,⟨i,d⟩,_,_,⟨j,e⟩,_,_,_,_,_,l,f⟩,_⟩:=h;exact⟨⟨i,λr b=>⟨(d r b).1,λa c=>((d r b).2 a c).2.1⟩⟩,⟨j,λr b=>⟨(e r b).1,λa c=>((e r b).2 a c).2.1⟩⟩,λx g=>⟨(f x g).1,(f x g).2.2.1⟩⟩
def open_ends{v0 k v2:Value}{o p d2:DataW H}{I q1 J:List MemPlace}(i:Value.okWide prog W .any b0 37 v0)(C:Value.okWide prog W .any b0 38 k)(D:Value.okWide prog W .any b0 22 v2)
 (x:DataW.Trod enc prog W base sp held 37 v0 o I)(A:DataW.Trod enc prog W base sp held 38 k p q1)(B:DataW.Trod enc prog W base sp held 22 v2 d2 J)
 (q:(DataW.weightsEach prog [37,38,22] [o,p,d2]).all (· <=reachBytes)=true):∃(y:nl)(n:Nat)(s:List UInt8),af (snap G0 W) [.agg (Id.cells y),.int .u16 (n:Int),.list (dF mC s) s.length false] [v0,k,v2]/\okC y/\n<65536:=by
 obtain⟨Q,f⟩:=u37;obtain⟨E,u⟩:=x;obtain⟨F,v⟩:=A;obtain⟨G,w⟩:=B;have g:∃b,v0=.agg b:=by
  unfold Value.okWide at i;rw[f]at i;obtain⟨b,rfl,_⟩:=i;exact⟨b,rfl⟩
 obtain⟨b,rfl⟩:=g;obtain⟨m,rfl⟩:=okWide_int u38 C;obtain⟨a,l,c,rfl⟩:=okWide_slice abn D;obtain⟨y,K,_,L⟩:=yS (P:=prog) (enc:=enc) G0 80 Id 37 (by kernel_rfl) E _ _ u;obtain⟨z,N,O,_⟩:=yS (P:=prog) (enc:=enc) G0 20 (.int .u16) 38 (by kernel_rfl) F _ _ v;obtain⟨s,M,_,_⟩:=yS (P:=prog) (enc:=enc) G0 20 (.sl .byte) 22 (by kernel_rfl) G _ _ w;simp only[DataW.weightsEach,akp,ahJ]at q;have j:∀z:Int,IntKind.u16.min<=z/\z<=IntKind.u16.max->z.toNat<65536/\(z.toNat:Int)=z:=λz h=>by
  rw[show IntKind.u16.min=0 from by decide,show IntKind.u16.max=65535 from by decide]at h;omega
 have r:=j z O;refine⟨y,z.toNat,s,?_,adn (L q.1),r.1⟩;have t:af (snap G0 W) [.list (dF mC s) s.length false] [.slice a l c]:=M;have d:af (snap G0 W) [.int .u16 z] [.int .u16 m]:=N;rw[r.2];simp only[af]at t d⊢;obtain⟨_,_,e,d,_⟩:=d;cases e;refine⟨_,_,rfl,?_,_,_,rfl,d,t⟩;simp only[Rep];exact⟨b,rfl,K⟩
end
def ME:prog.globals.size=8:=by kernel_rfl
def Wc:((List.range 8).all λg=>match oH prog g with|none=>true|some _=>Nat.beq g 1||Nat.beq g 2)=true:=by kernel_rfl
def afx{g:Nat}{cs:List D}(h:oH prog g=some cs):cs=[.anyi]/\(g=1∨g=2):=by
 constructor
 ·unfold oH M7 at h;obtain⟨v,_,h⟩:=akd.1 h;split at h
  ·cases h;rfl
  ·split at h
   ·cases h;rfl
   ·cases h
 ·have b:g<8:=by
   rw[<-ME];unfold oH at h;obtain⟨v,c,_⟩:=akd.1 h;exact(aim.1 c).1
  have a:=aie.1 Wc g (ake.2 b);rw[h]at a;simp only[ajm]at a;rcases a with a|a
  ·exact .inl (ai5 a)
  ·exact .inr (ai5 a)
def DO{W:World}{n:String}{g:Nat}{l:Array Value}(b:prog.globalNamed n=some g)(h:W.var? prog n=some l):∃t f,W.heap[g]?=some (.cells l t f):=by
 unfold World.var? at h;rw[b]at h;simp only[ahI]at h;split at h
 ·rename_i c t f a;cases h;exact⟨t,f,a⟩
 ·cases h
def PR{W:World}{n:String}{g:Nat}{x:Value}(b:prog.globalNamed n=some g)(h:W.var? prog n=some #[x]):g<W.heap.size/\W.cell? ⟨g,0,none⟩=some x:=by
 obtain⟨t,f,a⟩:=DO b h;refine⟨dG a,?_⟩;unfold World.cell?;rw[a];rfl
def ado{W:World}(h:W.ShapedOpen prog):∃m t f,W.heap[3]?=some (.cells #[.int .i64 m] t f):=by
 obtain⟨zero,t,b,e,i,j,k⟩:∃zero t,((begin prog (λ_ _=>0) default).world.heap[3]?).bind Obj.row?=some (zero,t)/\zero.size=1/\prog.buildable t=true/\prog.cellTypes prog.depth t=some [t]/\prog.underlying t=some (.int .i64):=⟨#[.int .i64 0],3,by kernel_rfl,by kernel_rfl,by kernel_rfl,by kernel_rfl,by kernel_rfl⟩;obtain⟨a,c,g,_⟩:=h.1 3 zero t (by rw[ME];decide) b;obtain⟨m,d⟩:=Go.Proofs.cell_of_shapedOpen_int h (by rw[ME];decide) b e i j k;obtain⟨v,rfl⟩:∃v,a= #[v]:=by
  obtain⟨l⟩:=a
  match l,g.trans e with
  |[v],_=>exact⟨v,rfl⟩
 have:v=.int .i64 m:=by
  simp only[World.cell?,c]at d;simpa using d
 subst this;exact⟨m,_,_,c⟩
def glob_ok{W:World}{j t2:TypeId}{k m:Value}(q:Lib.TabIs prog W "internal/strconv.uint64pow10" .u64 Lib.pow10Tab)(n:W.var? prog "strconv.ErrSyntax" =some #[.iface j k])(o:W.var? prog "strconv.ErrRange" =some #[.iface t2 m])
 (i:Lib.Utf8Tabs 6 7 W)(c:∃l,W.var? prog "unicode/utf8.first" =some l)(d:∃l,W.var? prog "unicode/utf8.acceptRanges" =some l)(p:W.ShapedOpen prog):GlobOk prog (snap G0 W) W:=by
 refine⟨λg u h=> ?_,⟨λg a=>DO a q,λg a=> ?_,λg a=> ?_,λg a=> ?_⟩⟩
 ·obtain⟨rfl,a⟩:=afx h;have e:∃t x,g<W.heap.size/\W.cell? ⟨g,0,none⟩=some (.iface t x):=by
   rcases a with rfl|rfl
   ·exact⟨j,k,PR (by kernel_rfl) n⟩
   ·exact⟨t2,m,PR (by kernel_rfl) o⟩
  obtain⟨t,x,r,s⟩:=e;refine⟨r,?_⟩;simp only[Rep];exact⟨g,0,rfl,⟨_,s,by simp only[Rep];exact⟨t,x,rfl⟩⟩,trivial⟩
 ·obtain rfl:g=3:=aiM (a.symm.trans (by kernel_rfl));exact ado p
 ·obtain rfl:g=6:=aiM (a.symm.trans (by kernel_rfl));obtain⟨l,c⟩:=c;obtain⟨t,f,b⟩:=DO a c;exact⟨dG b,i.1⟩
 ·obtain rfl:g=7:=aiM (a.symm.trans (by kernel_rfl));obtain⟨l,d⟩:=d;obtain⟨t,f,b⟩:=DO a d;exact⟨dG b,i.2⟩
end Go.Proofs.Tryz
