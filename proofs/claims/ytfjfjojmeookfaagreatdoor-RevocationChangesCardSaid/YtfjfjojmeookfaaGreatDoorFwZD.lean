/- A framework for proofs about Go programs in this model: part ZD. Everything is proved; no condition is added. -/
import Derived.ChangeArms
import GoSem.ClaimJoined
import Derived.ChangeSame
import Derived.WideShapes
import Derived.WideKeyArgs
import Derived.Stop.LaidErr
import Derived.Lib.LaidTab
import Derived.Lib.LaidU8
import Derived.Shelf.Vars
import Derived.Test.YtfjfjojmeookfaaGreatDoorFwZC
set_option linter.unusedVariables false
set_option linter.unusedSimpArgs false
set_option linter.defProp false
namespace Go.Fw
open Go Go.Proofs.Tryz
noncomputable section
set_option maxRecDepth 100000
set_option maxHeartbeats 0
attribute [local irreducible] ix app slc cC toB agree fU fW fT jB dR aK aV aX
def Au:AD B0:=⟨19,(c1 [fk,Jd]),[vZ,vF,.ilit .i64 3,jw],(.tup [hc0,hc3])⟩
@[irreducible] def iG(N:Nat)(a:List Bs):Y10:=syv N (Au.go (a))
def L8:=gA Au (iG NN)
def gx(N:Nat)(e:Y48)(a2:Int)(a3:Int):Option Bool:=
 (iS N).bind λc1=>
 bif (!c1) then(
 (iS N).bind λY=>
 some Y)
 else
 (vy N e).bind λZ=>
 bif (!Z) then(
 (iS N).bind λc4=>
 some c4)
 else
 (gS N e).bind λc5=>
 bif (!c5) then(
 some true)
 else
 (cr N e.1).bind λ(l6,t)=>
 (app 24 [] [l6]).bind λl8=>
 (gp N e.2.1).bind λ(l9,f)=>
 (app 24 l8 [l9]).bind λJ=>
 (gT N e.2.2).bind λ(K,g)=>
 (iG N [K]).bind λ(L,h)=>
 (app 24 J [L]).bind λM=>
 bif (gv (gv (gv (gv 0 t) f) g) h !=0) then(
 bif (gv (gv (gv (gv 0 t) f) g) h !=0) then(
 some (gv (gv (gv (gv 0 t) f) g) h==8))
 else
 some (gv (gv (gv (gv 0 t) f) g) h==8))
 else
 (bP N M).bind λq=>
 (eM 0 true 16).bind λ(H,i)=>
 bif (i !=0) then(
 bif (i !=0) then(
 some (i==8))
 else
 some (i==8))
 else
 (mT N (q.length:Int)).bind λ(O,j)=>
 bif (j !=0) then(
 bif (j !=0) then(
 some (j==8))
 else
 some (j==8))
 else
 (toB H).bind λu=>
 (dw N ([[u],O,q])).bind λa=>
 bif ((a.length:Int)==0) then(
 some false)
 else
 bif ((a.length:Int)==0) then(
 none)
 else
 bif inb (Int.tmod (IntKind.wrap .i64 a2) (a.length:Int)) a.length then(
 (ix a (Int.tmod (IntKind.wrap .i64 a2) (a.length:Int))).bind λd=>
 bif inb (Int.tmod (IntKind.wrap .i64 a2) (a.length:Int)) a.length then(
 bif inb (Int.tmod (IntKind.wrap .i64 a2) (a.length:Int)) a.length then(
 (toB a3).bind λc=>
 (cu N (a.set (Int.toNat (Int.tmod (IntKind.wrap .i64 a2) (a.length:Int))) c)).bind λ(b,s)=>
 bif (s.1 !=0) then(
 bif (a3 !=(d.toNat:Int)) then(
 (ii N b ((0,([],[]),[],(0,0,0,0,0,0),false,(0,0,0,0,0,0),[],[]),([],[]),[],0)).bind λw=>
 bif w then(
 (ki s ((a.set (Int.toNat (Int.tmod (IntKind.wrap .i64 a2) (a.length:Int))) c).length:Int)).bind λx=>
 some x)
 else
 some false)
 else
 some false)
 else
 (gS N b).bind λy=>
 bif (!y) then(
 some false)
 else
 (cr N b.1).bind λ(P,k)=>
 (app 24 [] [P]).bind λQ=>
 (gp N b.2.1).bind λ(R,l)=>
 (app 24 Q [R]).bind λS=>
 (gT N b.2.2).bind λ(T,m)=>
 (iG N [T]).bind λ(U,n)=>
 (app 24 S [U]).bind λV=>
 bif (gv (gv (gv (gv 0 k) l) m) n !=0) then(
 bif (gv (gv (gv (gv 0 k) l) m) n==0) then(
 (fH [] (a.set (Int.toNat (Int.tmod (IntKind.wrap .i64 a2) (a.length:Int))) c)).bind λz=>
 bif z then(
 (ii N b e).bind λA=>
 some (A==(a3==(d.toNat:Int))))
 else
 some false)
 else
 some false)
 else
 (bP N V).bind λr=>
 (eM 0 true 16).bind λ(I,o)=>
 bif (o !=0) then(
 bif (o==0) then(
 (fH [] (a.set (Int.toNat (Int.tmod (IntKind.wrap .i64 a2) (a.length:Int))) c)).bind λB=>
 bif B then(
 (ii N b e).bind λC=>
 some (C==(a3==(d.toNat:Int))))
 else
 some false)
 else
 some false)
 else
 (mT N (r.length:Int)).bind λ(W,p)=>
 bif (p !=0) then(
 bif (p==0) then(
 (fH [] (a.set (Int.toNat (Int.tmod (IntKind.wrap .i64 a2) (a.length:Int))) c)).bind λD=>
 bif D then(
 (ii N b e).bind λE=>
 some (E==(a3==(d.toNat:Int))))
 else
 some false)
 else
 some false)
 else
 (toB I).bind λv=>
 (dw N ([[v],W,r])).bind λX=>
 (fH X (a.set (Int.toNat (Int.tmod (IntKind.wrap .i64 a2) (a.length:Int))) c)).bind λF=>
 bif F then(
 (ii N b e).bind λG=>
 some (G==(a3==(d.toNat:Int))))
 else
 some false)
 else
 none)
 else
 none)
 else
 none
def ah1:KC B0:=gC 4 ⟨[P7,TS,pR,pV,oN,yK,L8,fk,Bz,Jb,yN,V4,P9,jA],[nE],[],[],.nil⟩ [Gp,.hole (.int .u16),Az] au (u3 (gx NN)) krq
end
end Go.Fw
namespace Go.Fw
open Go
def okC(v:Crl):Prop:=okL v.1
def ak8(e:FN NN)(v:Crl)(f:okC v):OW (vy NN v) λb=>b=true->aeo v:=by
 unfold vy syv;refine ag (abS e v.1 f) λg d=>aq (λc1=> ?_) λ_=>aa λh=>by cases h
 refine ag (XF v.2.1) λi c=>aq (λa=> ?_) λ_=>aa λh=>by cases h
 refine aa λh=> ?_;have j:=amZ h;exact⟨d c1,(c a).1,(c a).2,omq⟩
def aeC(a:FN NN)(xs:List Bs)(b:Bs)(e:xs.flatten=b)(d:xs.length<1000)(c:b.length<2000000000):bP NN xs=some b:=by
 unfold FN at a;rw[qB NN xs omq omq (by rw[e];omega),e]
def ahr(d:FN NN)(b:Bs)(e:b.length<1000000000):iG NN [b]=some (aj (0,false,3,b),0):=by
 have a:=d;unfold FN at a;unfold iG syv;rw[aeC d [b] b siq siq omq,amj,show pu NN 0 false 3 b=_ from OF NN omq omq (c:=0) (num:=3) false omq omq b omq];rfl
def ab2(a:FN NN)(v:Crl)(h:CB v)(f:(gQ v).length<100000000)(o:kS NN v=true):cr NN v.1=some (clE v.1,0)/\gp NN v.2.1=some (ig v.2.1,0)/\gT NN v.2.2=some (fq v.2.2,0)/\iG NN [fq v.2.2]=some (aj (0,false,3,fq v.2.2),0)/\bP NN ([]++[clE v.1]++[ig v.2.1]++[aj (0,false,3,fq v.2.2)])=some (gQ v)/\mT NN ((gQ v).length:Int)=some (aE (gQ v).length,0)/\dw NN [[idB 0 true 16],aE (gQ v).length,gQ v]=some (bQ v):=by
 obtain⟨g,r,i⟩:=QX o;obtain⟨j,k,l,s⟩:=h;have n:(clB v.1).length<100000000:=by
  unfold gQ at f;rw[amo]at f;have:(clB v.1).length<(clE v.1).length:=dq;omega
 have e:=abF a v.1 j n;rw[i]at e;have d:=ZM a v.2.1 k l;rw[g,H2 i,<-g]at d;have m:=Uk NN (by unfold FN at a;omega) (by unfold FN at a;omega) v.2.2 omq (by rw[KB _ omq,r]);have q:(fq v.2.2).length=v.2.2.1.length+1:=rfl;have p:(bQ v).length<=(gQ v).length+6:=dr (b:=gQ v) omq;have c:20<=NN:=by unfold FN at a;omega
 refine⟨e,d,m,ahr a _ omq,aeC a _ _ (by unfold gQ;simp) siq omq,OD NN c _ omq,?_⟩;rw[cco];exact aeC a _ _ (by simp[bQ,aj,tlv]) siq omq
end Go.Fw
namespace Go.Fw
open Go
def aeD{e o n:Int}(a:0<e)(b:0<=o)(c:o<=n):ki (e,o) n=some true:=by
 suffices OW (ki (e,o) n) λr=>r=true by
  obtain⟨r,d,rfl⟩:=this;exact d
 unfold ki syv;dsimp only;exact wo omq (aN (λ_=>aN (λ_=>aa (amq c)) λh=>absurd b h) λh=>absurd a h)
def afm{x y:UInt8}:((x.toNat:Int)==(y.toNat:Int))=true↔x=y:=by
 rw[anR];exact⟨λh=>apu.1 omq,λh=>by rw[h]⟩
variable{Z:Type}
def ajR{c:Bool}{Q:Z->Prop}{x y:Option Z}(h:c=true)(k:OW x Q):OW (bif c then x else y) Q:=by rw[h];exact k
def amb{c:Bool}{Q:Z->Prop}{x y:Option Z}(h:c=false)(k:OW y Q):OW (bif c then x else y) Q:=by rw[h];exact k
def chQ{P:Prop}(h:P:=by repeat ((try dsimp only);first|with_reducible exact(zz _)|with_reducible refine bx ?_|with_reducible refine k_z ?_|with_reducible refine tp ?_|with_reducible refine k_t ?_|with_reducible refine k_f ?_|with_reducible refine gF ?_|with_reducible refine bF asq ?_|with_reducible refine qp omq siq ?_|with_reducible refine ajR asq ?_|with_reducible refine amb asq ?_|(simp only[jO];with_reducible refine k_z ?_)|exact(zz _))):P:=h
set_option maxHeartbeats 4000000 in
def VV(d:FN NN)(v:Crl)(L:okC v)(n:Nat)(Y:n<65536)(x:UInt8):gx NN v (n:Int) (x.toNat:Int)=some true:=by
 suffices OW (gx NN v (n:Int) (x.toNat:Int)) λr=>r=true by
  obtain⟨r,K,rfl⟩:=this;exact K
 unfold gx;rw[ag3 d];refine bx (gF (k_t ?_));refine ag (ak8 d v L) λb y=>gF (aq (λc=> ?_) λ_=>aa rfl);have g:=ag8 (y c);have I:=aeq (y c);have J:(gQ v).length<(bQ v).length:=cZ (0,true,16,gQ v);have a:=DX d v g;cases p:kS NN v
 ·rw[p]at a;exact bF a (aa rfl)
 ·rw[p]at a;obtain⟨N,O,Q,R,S,T,U⟩:=ab2 d v g omq p;have V:eM 0 true 16=some (((idB 0 true 16).toNat:Int),0):=JV (c:=0) (num:=16) true omq omq;have W:=KS (idB 0 true 16);have X:=KS x;have m:n % (bQ v).length<(bQ v).length:=Nat.mod_lt _ omq;have A:Int.tmod (IntKind.wrap .i64 (n:Int)) (((bQ v).length:Nat):Int)=((n % (bQ v).length:Nat):Int):=by
   rw[show IntKind.wrap .i64 (n:Int)=(n:Int) from by show IntKind.i64.wrap (n:Int)=_;rw[amU _ omq]];rfl
  have Z:((((bQ v).length:Nat):Int)==0)=false:=amO.2 omq;generalize n % (bQ v).length=i at m A;obtain⟨w,e,o,E,F⟩:=ama d v g I p i m x;have c1:ix (bQ v) (i:Int)=some (bQ v)[i]:=aM (aml m);have B:inb (i:Int) (bQ v).length=true:=Qf m;have t:Int.toNat (i:Int)=i:=anr i;rw[<-A]at c1 B t;rw[<-t]at E;rcases F with⟨q,d2,k,l,s⟩|⟨q,d2,k,l,s⟩
  ·have C:((x.toNat:Int) !=((bQ v)[i].toNat:Int))=true:=by rw[bne,anH,<-aqf];exact λh=>d2 (afm.1 h)
   have D:e≠0:=omq;have f:OW ((ii NN w ((0,([],[]),[],(0,0,0,0,0,0),false,(0,0,0,0,0,0),[],[]),([],[]),[],0)).bind λc=>bif c then((ki (e,o) ((bQ v).length:Int)).bind λc=>some c) else some false) λr=>r=true:=by
    subst k;refine ag (afl d _ _ ⟨⟨by decide,by decide,by decide,by decide,λ_ h=>(by cases h),XB.nil⟩,by decide,by decide,by decide⟩) λc u=> ?_;rw[u.2 rfl];exact k_t (bF (aeD q l s) (aa rfl))
   (have zz:∀(P:Prop)(h:P:=by first|exact VG D (ajR C (by simp only[anF];exact f))),P:= @id;exact chQ)
  ·cases q;have j:=DX d w k;rw[d2]at j;have M:(bQ w).length=(bQ v).length:=by rw[l,anF]
   have z:(gQ w).length<(bQ w).length:=cZ (0,true,16,gQ w);obtain⟨w1,w2,w3,w4,w5,w6,w7⟩:=ab2 d w k omq d2;have w8:fH (bQ w) ((bQ v).set (Int.toNat (Int.tmod (IntKind.wrap .i64 (n:Int)) (((bQ v).length:Nat):Int))) x)=some true:=by
    obtain⟨c,G,H⟩:=Bh (bQ w) ((bQ v).set (Int.toNat (Int.tmod (IntKind.wrap .i64 (n:Int)) (((bQ v).length:Nat):Int))) x);rw[G,H.2 (by rw[t];exact l)]
   have f:OW ((ii NN w v).bind λc=>some (c==((x.toNat:Int)==((bQ v)[i].toNat:Int)))) λr=>r=true:=by
    refine ag (afl d w v k) λc u=>aa ?_;rw[anR];exact Bool.eq_iff_iff.2 (u.trans (s.trans afm.symm))
   (have zz:∀(P:Prop)(h:P:=by exact f),P:= @id;exact chQ)
end Go.Fw
namespace Go.Fw
open Go.RowKit
mutual
def alE(σ:Sto):Nat->D->Option D
 |0,_=>none
 |n+1,d=>match d.pure with
  |true=>some d
  |false=>match d with
   |.sl l u o len sz f=>match σ[l]? with
    |some (.cells cs _ v)=>match Nat.beq v u&&Nat.ble (o+len*sz) cs.length with
     |true=>match X4 σ n ((cs.drop o).take (len*sz)) with
      |some xs=>some (.list xs len f)
      |none=>none
     |false=>none
    |_=>none
   |.agg cs=>match X4 σ n cs with
    |some xs=>some (.agg xs)
    |none=>none
   |_=>none
def X4 (σ:Sto):Nat->List D->Option (List D)
 |0,_=>none
 |n+1,l=>match l with
  |[]=>some []
  |d::ds=>match alE σ n d with
   |some x=>match X4 σ n ds with
    |some xs=>some (x::xs)
    |none=>none
   |none=>none
end
def xE(G:Gh)(w:World):Gh:=⟨λb o=>w.cell? ⟨b,o,none⟩,G.mimm,λ_ _=>none,G.siz⟩
section
variable {P:Program}{B:bL P}{G:Gh}{σ:Sto}{w:World}
end
end Go.Fw
namespace Go.Fw
open Go.RowKit
mutual
def vC(P:Program):Nat->TC->TypeId->Bool
 |0,_,_=>false
 |n+1,c,t=>match c with
  |.byte=>match P.underlying t with
   |some (.int k)=>decide (k=.u8)
   |_=>false
  |.int k=>match P.underlying t with
   |some (.int k')=>decide (k'=k)
   |_=>false
  |.bool=>match P.underlying t with
   |some .bool=>true
   |_=>false
  |.str=>match P.underlying t with
   |some .string=>true
   |_=>false
  |.sl c=>match P.underlying t with
   |some (.slice e)=>vC P n c e&&(Nat.beq (P.cellsOf e) c.sz&&(Nat.blt 0 c.sz&&Nat.blt 0 (P.bytesOf e)))
   |_=>false
  |.node=>false
  |.spot=>false
  |c=>match P.underlying t with
   |some (.struct fs)=>M4 P n c 0 fs.toList&&Nat.beq (P.cellsOf t) c.sz
   |_=>false
def M4 (P:Program):Nat->TC->Nat->List Field->Bool
 |0,_,_,_=>false
 |n+1,c,off,fs=>match fs with
  |[]=>match c with
   |.unit=>true
   |_=>false
  |f::r=>match r with
   |[]=>Nat.beq f.offset off&&(Nat.beq (P.cellsOf f.type) c.sz&&vC P n c f.type)
   |_::_=>match c with
    |.pair a b=>Nat.beq f.offset off&&(Nat.beq (P.cellsOf f.type) a.sz&&(vC P n a f.type&&M4 P n b (off+a.sz) r))
    |_=>false
end
def TC.ok:(t:TC)->t.Den->Prop
 |.byte,_=>True
 |.int k,n=>k.min<=n/\n<=k.max
 |.bool,_=>True
 |.str,s=>s.length<=maxLen
 |.sl t,c=>c.length<=maxLen/\∀x∈c,t.ok x
 |.pair a b,x=>a.ok x.1/\b.ok x.2
 |.unit,_=>True
 |.node,_=>True
 |.spot,_=>True
def TC.sm:(t:TC)->t.Den->Prop
 |.byte,_=>True
 |.int _,_=>True
 |.bool,_=>True
 |.str,s=>s.length<=reachBytes
 |.sl t,c=>c.length<=reachBytes/\∀x∈c,t.sm x
 |.pair a b,x=>a.sm x.1/\b.sm x.2
 |.unit,_=>True
 |.node,_=>True
 |.spot,_=>True
def Fm{H:Type}{P:Program}{e:TypeId}{p:Nat->Bool}:∀{ds:List (DataW H)}{d:DataW H},(DataW.weightsAll P e ds).all p=true->d∈ds->(d.weights P e).all p=true
 |[],_,_,h=>by cases h
 |d::ds,x,h,a=>by
  simp only[DataW.weightsAll,aoP,amk]at h;rcases amN.1 a with rfl|a
  ·exact h.1
  ·exact Fm h.2 a
def vD{H:Type}{P:Program}{p:Nat->Bool}:∀{a:List TypeId}{ds:List (DataW H)},(DataW.weightsEach P a ds).all p=true->∀(i:Nat) t d,a[i]?=some t->ds[i]?=some d->(d.weights P t).all p=true
 |[],_,_,i,t,d,h,_=>by simp at h
 |_::_,[],_,i,t,d,_,h=>by simp at h
 |t::a,d::ds,h,i,f,e,b,c=>by
  simp only[DataW.weightsEach,aoP,amk]at h;cases i with
  |zero=>
   cases b;cases c;exact h.1
  |succ i=>exact vD h.2 i f e (by simpa using b) (by simpa using c)
def af.one{G:Gh}{d:D}{v:Value}(h:Rep G d v):af G [d] [v]:=by simp only[af];exact⟨v,[],rfl,h,rfl⟩
def ajV{n:Int}(h:(Lit.int .u8 n).wf=true):∃b:UInt8,n=(b.toNat:Int):=by
 simp only[Lit.wf,amk,amX]at h;have a:IntKind.u8.min=0:=by decide
 have c:IntKind.u8.max=255:=by decide
 rw[a,c]at h;exact⟨UInt8.ofNat n.toNat,by simp;omega⟩
section
variable {H:Type}{enc:TypeId×Value→H}{P:Program}{w:World}{base:Nat}{sp:Nat→Bool}{held:Bool}
def JM{a:Addr}{n:Nat}{cs:List Value}(h:w.cells? base a n=some cs):cs.length=n/\∀i,i<n->w.cell? (a.add i)=cs[i]? :=by
 unfold World.cells? at h;split at h<;>try (cases h;done)
 exact⟨by simpa using mapM_some_length h,λi b=>mapM_some_get h i i (by simp[b])⟩
def IA{G:Gh}{b:Nat}:∀{xs:List D}{vs:List Value}{o:Nat},af (xE G w) xs vs->(∀i v,vs[i]?=some v->w.cell? ⟨b,o+i,none⟩=some v)->Cells (xE G w) b o xs
 |[],_,_,_,_=>trivial
 |x::xs,_,o,h,k=>by
  simp only[af]at h;obtain⟨v,r,rfl,a,c⟩:=h;refine⟨⟨v,k 0 v rfl,a⟩,IA c λi u d=> ?_⟩;have:=k (i+1) u (by simpa using d);rwa[show o+1+i=o+(i+1) from omq]
def Q7{G:Gh}{α:Type}{E:Enc α}:∀{xs:List α}{vss:List (List Value)},vss.length=xs.length->(∀(i:Nat) x b,xs[i]?=some x->vss[i]?=some b->af G (E.cells x) b)->af G (bN E xs) vss.flatten
 |[],vss,a,_=>by
  have:vss=[]:=List.length_eq_zero_iff.1 (by simpa using a);subst this;rw[show bN E ([]:List α)=[] from E.fnil];simp only[List.flatten_nil,af]
 |x::xs,[],a,_=>by simp at a
 |x::xs,b::vss,a,h=>by
  rw[show bN E (x::xs)=E.cells x++bN E xs from E.fcons x xs,List.flatten_cons];exact(h 0 x b rfl rfl).append (Q7 (by simpa using a) λi y e d c=>h (i+1) y e (by simpa using d) (by simpa using c))
def Mj{α:Type}{sz:Nat}:∀{vss:List (List α)}{i:Nat}{v:α},(∀a∈vss,a.length=sz)->0<sz->vss.flatten[i]?=some v->∃a,vss[i / sz]?=some a/\a[i % sz]?=some v
 |[],i,v,_,_,h=>by simp at h
 |a::vss,i,v,c,d,h=>by
  have j:=c a (am0 ..);rw[List.flatten_cons]at h;rcases amB i sz with b|b
  ·rw[amu omq]at h;exact⟨a,by rw[Nat.div_eq_of_lt b];rfl,by rw[Nat.mod_eq_of_lt b];exact h⟩
  ·rw[amA omq,j]at h;obtain⟨k,e,f⟩:=Mj (λu g=>c u (amF _ g)) d h;refine⟨k,?_,?_⟩
   ·have:i / sz=(i-sz) / sz+1:=by
     rw[<-Nat.sub_add_cancel b,Nat.add_div_right _ d];simp
    rw[this];simpa using e
   ·rw[Nat.mod_eq_sub_mod b];exact f
def T3{α k:Type}{R:Nat->α->k->Prop}:∀n:Nat,(∀i,i<n->∃x y,R i x y)->∃(xs:List α)(f:List k),xs.length=n/\f.length=n/\∀(i:Nat) x y,xs[i]?=some x->f[i]?=some y->R i x y
 |0,_=>⟨[],[],rfl,rfl,λi x y h=>by simp at h⟩
 |n+1,h=>by
  obtain⟨xs,f,g,j,l⟩:=T3 n λi e=>h i omq;obtain⟨x,y,m⟩:=h n omq;refine⟨xs++[x],f++[y],by simp[g],by simp[j],λi a b c d=> ?_⟩;rcases ap9 i n with e|e|e
  ·rw[amu omq]at c d;exact l i a b c d
  ·subst e;rw[amA omq,g]at c;rw[amA omq,j]at d;simp at c d;subst c d;exact m
  ·rw[amC soq]at c;cases c
mutual
def A1(G:Gh):∀(n:Nat)(c:TC)(t:TypeId),vC P n c t=true->∀(fuel:Nat)(cs:List Value)(x:DataW H×List MemPlace),DataW.trod enc P w base sp held fuel t cs=some x->
 ∃y:c.Den,af (xE G w) (c.cells y) cs/\c.ok y/\((x.1.weights P t).all (· <=reachBytes)=true->c.sm y)
 |0,_,_,h,_,_,_,_=>by simp[vC]at h
 |n+1,.byte,t,h,fuel,cs,x,hx=>by
  simp only[vC]at h;split at h<;>try (cases h;done)
  rename_i k hu;have:=amZ h;subst this;obtain⟨m,rfl,_,hw⟩:=DataW.trod_int hu hx;obtain⟨b,rfl⟩:=ajV hw;exact⟨b,af.one (by simp only[Rep]),trivial,λ_=>trivial⟩
 |n+1,.int k,t,h,fuel,cs,x,hx=>by
  simp only[vC]at h;split at h<;>try (cases h;done)
  rename_i k' hu;have:=amZ h;subst this;obtain⟨m,rfl,_,hw⟩:=DataW.trod_int hu hx;simp only[Lit.wf,amk,amX]at hw;exact⟨m,af.one (by simp only[Rep]),hw,λ_=>trivial⟩
 |n+1,.bool,t,h,fuel,cs,x,hx=>by
  simp only[vC]at h;split at h<;>try (cases h;done)
  rename_i hu;obtain⟨b,rfl,_⟩:=DataW.trod_bool hu hx;exact⟨b,af.one (by simp only[Rep]),trivial,λ_=>trivial⟩
 |n+1,.str,t,h,fuel,cs,x,hx=>by
  simp only[vC]at h;split at h<;>try (cases h;done)
  rename_i hu;obtain⟨s,rfl,rfl,hs⟩:=DataW.trod_string hu hx;exact⟨s.data.toList,af.one (by simp only[Rep]),by simpa[TC.ok] using hs,λh=>by simpa[DataW.weights,TC.sm] using h⟩
 |n+1,.sl c,t,h,fuel,cs,x,hx=>by
  simp only[vC]at h;split at h<;>try (cases h;done)
  rename_i e hu;simp only[amk]at h;obtain⟨h1,h2,h3,h33⟩:=h;have h2:=bu h2;have h3:0<c.sz:=amx h3;have h33:0<P.bytesOf e:=amx h33;rcases DataW.trod_slice hu hx with⟨rfl,_⟩|⟨a,len,cap,elems,rest,m,_,rfl,rfl,_,hlc,hcm,hel,hr,_⟩
  ·refine⟨[],af.one ?_,by simp[TC.ok,maxLen],λ_=>by simp[TC.sm]⟩;simp only[Rep];exact⟨none,0,rfl,amt _,omq,(λh=>by cases h),.inr c.enc.fnil⟩
  ·obtain⟨xs,vss,k1,k2,k3⟩:=T3 (R:=λi (y:c.Den)(vs:List Value)=>w.cells? base (a.add (i*P.cellsOf e)) (P.cellsOf e)=some vs/\af (xE G w) (c.cells y) vs/\c.ok y/\((DataW.weightsAll P e (elems.map (·.1))).all (· <=reachBytes)=true->c.sm y)) len λi hi=>by
    have h4:=hr i hi;rw[aml omq]at h4;obtain⟨vs,h5,h6⟩:=aoV.1 h4;obtain⟨y,h7,h8,h9⟩:=A1 G n c e h1 m vs _ h6;exact⟨y,vs,h5,h7,h8,λhw=>h9 (Fm hw (anh.2 ⟨_,am8 _,rfl⟩))⟩
   have hvs:∀vs∈vss,vs.length=c.sz:=by
    intro vs hvs;obtain⟨i,hi⟩:=anx hvs;have hil:=ai hi;obtain⟨h5,_⟩:=k3 i _ vs (aml omq) hi;rw[(JM h5).1,h2]
   refine⟨xs,af.one ?_,⟨by rw[k1];exact anI hlc hcm,λy hy=> ?_⟩,λhw=> ?_⟩
   ·simp only[Rep];refine⟨some a,cap,by rw[k1],by rw[k1];exact hlc,hcm,(λh=>by cases h),?_⟩;rcases apv len with h0|h0
    ·right;have:xs=[]:=List.length_eq_zero_iff.1 omq;subst this;exact c.enc.fnil
    ·left;have hs:a.spot=none:=by
      have hv0:0<vss.length:=omq;have h0':=(k3 0 _ _ (aml omq) (aml hv0)).1;have h9:=(JM h0').2 0 omq;have hl0:=hvs _ (am8 hv0);rw[aml omq,aok]at h9;unfold Addr.add at h9;simp only[ano]at h9;unfold World.cell? at h9;split at h9<;>try (cases h9;done)
      split at h9<;>try (cases h9;done)
      rename_i hn;simpa using hn
     obtain⟨ab,ao,_⟩:=a;simp only at hs;subst hs;have hcell:∀(i:Nat) v,vss.flatten[i]?=some v->w.cell? ⟨ab,ao+i,none⟩=some v:=by
      intro i v hv;obtain⟨vs,h5,h6⟩:=Mj hvs h3 hv;have hil:=ai h5;obtain⟨h7,_⟩:=k3 _ _ vs (aml omq) h5;have h8:=(JM h7).2 (i % c.sz) (by rw[h2];exact Nat.mod_lt _ h3);rw[h6,h2]at h8;have hd:i / c.sz*c.sz+i % c.sz=i:=by rw[Nat.mul_comm];exact Nat.div_add_mod i c.sz
      have hadd:((⟨ab,ao,none⟩:Addr).add (i / c.sz*c.sz)).add (i % c.sz)=⟨ab,ao+i,none⟩:=by
       unfold Addr.add;by_cases e1:i / c.sz*c.sz=0<;>by_cases e2:i % c.sz=0<;>simp only[e1,e2,ano,ani]
       ·rw[show ao+i=ao from omq]
       ·rw[show ao+i % c.sz=ao+i from omq]
       ·rw[show ao+i / c.sz*c.sz=ao+i from omq]
       ·rw[show ao+i / c.sz*c.sz+i % c.sz=ao+i from omq]
      rw[hadd]at h8;exact h8
     have hreps:=Q7 (G:=xE G w) (E:=c.enc) (xs:=xs) (vss:=vss) omq λi y vs hy hv=>(k3 i y vs hy hv).2.1;exact⟨ab,ao,rfl,IA hreps hcell⟩
   ·obtain⟨i,hi⟩:=anx hy;have hil:=ai hi;exact(k3 i y (vss[i]'(by omega)) hi (aml omq)).2.2.1
   ·simp only[DataW.weights,hu,anJ,aoP,amk,amX,am7]at hw;refine⟨?_,λy hy=> ?_⟩
    ·have h9:=apA (elems.length+rest.length) h33;omega
    ·obtain⟨i,hi⟩:=anx hy;have hil:=ai hi;exact(k3 i y (vss[i]'(by omega)) hi (aml omq)).2.2.2 hw.2.1
 |n+1,.pair a b,t,h,fuel,cs,x,hx=>by
  simp only[vC]at h;split at h<;>try (cases h;done)
  rename_i fs hu;simp only[amk]at h;obtain⟨xs,m,_,rfl,hl,hxs,hf⟩:=DataW.trod_struct hu hx;obtain⟨y,h1,h2⟩:=Qc G n (.pair a b) 0 fs.toList h.1 m cs (((DataW.agg (xs.map (·.1))).weights P t).all (· <=reachBytes)=true) λi f hi=>⟨xs[i]'(by rw[hxs];simpa using ai hi),by
   rw[hf i f (by simpa using hi),List.getElem?_eq_getElem],λhw=>by
   simp only[DataW.weights,hu]at hw;exact vD hw i f.type _ (by rw[anq,hi];rfl) (by rw[anq,aml];rfl)⟩
  refine⟨y,?_,h2⟩;rw[anb,<-bu h.2,<-hl,an4]at h1;exact h1
 |n+1,.unit,t,h,fuel,cs,x,hx=>by
  simp only[vC]at h;split at h<;>try (cases h;done)
  rename_i fs hu;simp only[amk]at h;obtain⟨xs,m,_,rfl,hl,hxs,hf⟩:=DataW.trod_struct hu hx;obtain⟨y,h1,h2⟩:=Qc G n .unit 0 fs.toList h.1 m cs (((DataW.agg (xs.map (·.1))).weights P t).all (· <=reachBytes)=true) λi f hi=>⟨xs[i]'(by rw[hxs];simpa using ai hi),by
   rw[hf i f (by simpa using hi),List.getElem?_eq_getElem],λhw=>by
   simp only[DataW.weights,hu]at hw;exact vD hw i f.type _ (by rw[anq,hi];rfl) (by rw[anq,aml];rfl)⟩
  refine⟨y,?_,h2⟩;rw[anb,<-bu h.2,<-hl,an4]at h1;exact h1
 |n+1,.node,t,h,fuel,cs,x,hx=>by simp[vC]at h
 |n+1,.spot,t,h,fuel,cs,x,hx=>by simp[vC]at h
def Qc (G:Gh):∀(n:Nat)(c:TC)(off:Nat)(fs:List Field),M4 P n c off fs=true->∀(m:Nat)(cs:List Value)(W:Prop),
 (∀(i:Nat)(f:Field),fs[i]?=some f->∃x,DataW.trod enc P w base sp held m f.type ((cs.drop f.offset).take (P.cellsOf f.type))=some x/\(W->(x.1.weights P f.type).all (· <=reachBytes)=true))->∃y:c.Den,af (xE G w) (c.cells y) ((cs.drop off).take c.sz)/\c.ok y/\(W->c.sm y)
 |0,_,_,_,h,_,_,_,_=>by simp[M4]at h
 |n+1,c,off,[],h,m,cs,W,hf=>by
  simp only[M4]at h;split at h<;>try (cases h;done)
  exact⟨(),by simp only[show TC.unit.sz=0 from rfl,ap2];show af _ [] [];simp only[af],trivial,λ_=>trivial⟩
 |n+1,c,off,[f],h,m,cs,W,hf=>by
  simp only[M4,amk]at h;obtain⟨h1,h2,h3⟩:=h;obtain⟨x,hx,hw⟩:=hf 0 f rfl;rw[bu h1,bu h2]at hx;obtain⟨y,k1,k2,k3⟩:=A1 G n c f.type h3 m _ x hx;exact⟨y,k1,k2,λh=>k3 (hw h)⟩
 |n+1,c,off,f::g::r,h,m,cs,W,hf=>by
  simp only[M4]at h;split at h<;>try (cases h;done)
  rename_i a b;simp only[amk]at h;obtain⟨h1,h2,h3,h4⟩:=h;obtain⟨x,hx,hw⟩:=hf 0 f rfl;rw[bu h1,bu h2]at hx;obtain⟨ya,k1,k2,k5⟩:=A1 G n a f.type h3 m _ x hx;obtain⟨yb,k3,k4,k6⟩:=Qc G n b (off+a.sz) (g::r) h4 m cs W λi f' hi=>hf (i+1) f' (by simpa using hi);refine⟨(ya,yb),?_,⟨k2,k4⟩,λh=>⟨k5 (hw h),k6 h⟩⟩;have e:(cs.drop off).take (TC.pair a b).sz=(cs.drop off).take a.sz++(cs.drop (off+a.sz)).take b.sz:=by
   rw[show(TC.pair a b).sz=a.sz+b.sz from rfl,List.take_add,anZ]
  rw[e];exact k1.append k3
end
end
end Go.Fw
namespace Go.Fw
open Go.RowKit Go.WideShapes Go.ChangeShapes
section
variable {H:Type}{enc:TypeId×Value→H}{P:Program}
def ajX{f:Func}{s:ChangeSpec}{c n d m:Bool}{W o:World}{args:Array Value}{v:Value}{ds q:List (DataW H)}{a pa pv:List MemPlace}
 (y:DataW.Whole enc P f.params.toList s.vars c W args.toList ds q a)
 (l:∀(b:Nat)(sp:Nat->Bool)(hd:Bool),DataW.TrodAll enc P o b sp hd f.resultTypes.toList (v.resultList f.resultTypes.size) (s.fn H (ds++q)).results [])
 (e:∀sp:Nat->Bool,(∀p∈a,sp p.block=true)->DataW.TrodAll enc P o 0 sp true f.params.toList args.toList (s.fn H (ds++q)).args pa)
 (h:∀sp:Nat->Bool,(∀p∈a,sp p.block=true)->DataW.TrodVars enc P o sp s.vars (s.fn H (ds++q)).vars pv)
 (i:a=pa++pv)(A:Below W.heap.size W o)
 (z:∀(j:Nat)(t:TypeId)(r:Value),f.resultTypes[j]?=some t->(v.resultList f.resultTypes.size)[j]?=some r->Value.okWide P o .any 0 t r):
 s.post enc P f c n d m W args v o:=by
 have w:∀p∈a,p.block<W.heap.size:=λp g=>y.lt p g;have k:∀p∈a,(λb=>decide (b<W.heap.size)) p.block=true:=λp g=>by simpa using w p g
 refine⟨ds,q,a,[],pa,pv,y,l _ _ _,e _ k,h _ k,World.keptBut_mono (λp g=>⟨g,?_⟩) (A.frame (· ∈a)),λ_=> ?_⟩
 ·rw[i,am6]at g;exact Or.inr g
 ·obtain⟨_,_,_,_,_,D,C⟩:=y;refine⟨z,_,_,([]++pa)++pv,⟨[]++pa,pv,trodAll_append (e _ (λ_ _=>rfl)) (l _ _ _),h _ (λ_ _=>rfl),rfl,?_,?_⟩,?_⟩
  ·intro b x g;have u:MemPlace.cell b x∈a:=by rw[i];simpa using g
   rw[A.frozen (w _ u)];exact D b x u
  ·intro B;have:=C B;rw[i]at this;simpa using this
  ·intro p g _;rw[i];simpa using g
end
def G0:Gh:=⟨λ_ _=>none,λ_=>none,λ_ _=>none,λ_=>none⟩
end Go.Fw
namespace Go.Fw
open Go.RowKit
def cy.run2{P:Program}{f:FuncId}{ds:List D}{b:Bool}(h:cy P f ds (.bool b))(w:World)(g:jN P (xE G0 w) w){vals:List Value}(i:af (xE G0 w) ds vals):
 Calls P f vals.toArray w λe j=>e=.returned (.bool b)/\Below w.heap.size w j:=
 (h (xE G0 w) w vals ⟨λ_ _ _ x=>x,λ_ _ x=>(by cases x),λ_ _ x=>(by cases x)⟩ g i).mono λ_ _ ⟨v,k,c,d,a⟩=>⟨by simp only[Rep]at a;rw[c,a],d.below⟩
end Go.Fw
namespace Go.Proofs.Tryz
open Go Go.Fw
noncomputable abbrev KU:TC:=.pair acj (.pair tc1 ace)
def alK(v:Crl)(g:okC v)(n:Nat)(d:n<65536)(x:UInt8)(f:Bool):cy prog 4 [.agg (KU.cells v),.int .u16 (n:Int),.int .u8 (x.toNat:Int)] (.bool true):=by
 obtain⟨_,_,_,h⟩:=ah1.2;obtain⟨b,a,_,c⟩:=h (v,(n:Int),(x.toNat:Int)) true (VV hNN v g n d x);have e:b=.bool true:=by
  have a:some ((SV.bool true,([]:List DV)))=some (b,[]):=a;cases a;rfl
 subst e;refine c _ rfl _ ?_;simp only[VRs,VR];exact⟨_,_,rfl,⟨_,rfl,TC.scells_ok [] [] KU v⟩,_,_,rfl,rfl,_,_,rfl,rfl,rfl⟩
end Go.Proofs.Tryz
namespace Go.Proofs.Tryz
open Go Go.Fw Go.RowKit Go.ChangeShapes Go.WideShapes
set_option maxRecDepth 100000
def u36:∃a,prog.underlying 36=some (.struct a):=by
 have h:(match prog.underlying 36 with|some (.struct _)=>true|_=>false)=true:=krq;split at h
 ·rename_i a b;exact⟨a,b⟩
 ·cases h
def u37:prog.underlying 37=some (.int .u16):=krq
def u5:prog.underlying 5=some (.int .u8):=krq
section
variable {H:Type}{enc:TypeId×Value→H}{W:World}{base b0:Nat}{sp:Nat→Bool}{held:Bool}
def aiq{y:KU.Den}(h:KU.sm y):okC y:=by
 have k:reachBytes=140737488351232:=rfl;simp only[TC.sm,k]at h;obtain⟨⟨_,_,⟨j,f⟩,_,_,_,⟨m,c⟩,n,g⟩,_⟩:=h;exact⟨⟨j,λr i=>⟨(f r i).1,λa l=>((f r i).2 a l).2.1⟩⟩,λe d=>⟨λx b=>⟨((c e d).2.2.2 x b).1,((c e d).2.2.2 x b).2.2.1⟩,(c e d).2.2.1⟩,λx b=>⟨(g x b).1,(g x b).2.2.1⟩⟩
def ala{v0 j v2:Value}{k l d2:DataW H}{I q1 J:List MemPlace}(g:Value.okWide prog W .any b0 36 v0)(B:Value.okWide prog W .any b0 37 j)(C:Value.okWide prog W .any b0 5 v2)
 (v:DataW.Trod enc prog W base sp held 36 v0 k I)(w:DataW.Trod enc prog W base sp held 37 j l q1)(x:DataW.Trod enc prog W base sp held 5 v2 d2 J)
 (o:(DataW.weightsEach prog [36,37,5] [k,l,d2]).all (· <=reachBytes)=true):∃(y:Crl)(n:Nat)(s:UInt8),af (xE G0 W) [.agg (KU.cells y),.int .u16 (n:Int),.int .u8 (s.toNat:Int)] [v0,j,v2]/\okC y/\n<65536:=by
 obtain⟨R,d⟩:=u36;obtain⟨E,r⟩:=v;obtain⟨F,t⟩:=w;obtain⟨G,u⟩:=x;have f:∃a,v0=.agg a:=by
  unfold Value.okWide at g;rw[d]at g;obtain⟨a,rfl,_⟩:=g;exact⟨a,rfl⟩
 obtain⟨a,rfl⟩:=f;obtain⟨m,rfl⟩:=okWide_int u37 B;obtain⟨D,rfl⟩:=okWide_int u5 C;obtain⟨y,K,_,L⟩:=A1 (P:=prog) (enc:=enc) G0 80 KU 36 krq E _ _ r;obtain⟨z,O,Q,_⟩:=A1 (P:=prog) (enc:=enc) G0 20 (.int .u16) 37 krq F _ _ t;obtain⟨s,M,N,_⟩:=A1 (P:=prog) (enc:=enc) G0 20 (.int .u8) 5 krq G _ _ u;simp only[DataW.weightsEach,aoP,amk]at o;have i:∀z:Int,IntKind.u16.min<=z/\z<=IntKind.u16.max->z.toNat<65536/\(z.toNat:Int)=z:=λz h=>by
  rw[show IntKind.u16.min=0 from by decide,show IntKind.u16.max=65535 from by decide]at h;omega
 have b:∀z:Int,IntKind.u8.min<=z/\z<=IntKind.u8.max->((UInt8.ofNat z.toNat).toNat:Int)=z:=λz h=>by
  rw[show IntKind.u8.min=0 from by decide,show IntKind.u8.max=255 from by decide]at h;rw[anS];omega
 have p:=i z Q;have A:=b s N;refine⟨y,z.toNat,UInt8.ofNat s.toNat,?_,aiq (L o.1),p.1⟩;have q:af (xE G0 W) [.int .u8 s] [.int .u8 D]:=M;have c:af (xE G0 W) [.int .u16 z] [.int .u16 m]:=O;rw[p.2,A];simp only[af]at q c⊢;obtain⟨_,_,e,c,_⟩:=c;cases e;refine⟨_,_,rfl,?_,_,_,rfl,c,q⟩;simp only[Rep];exact⟨a,rfl,K⟩
end
def Qj:prog.globals.size=8:=krq
def aan:((List.range 8).all λg=>match nu prog g with|none=>true|some _=>Nat.beq g 1||Nat.beq g 2)=true:=krq
def aj5{g:Nat}{cs:List D}(h:nu prog g=some cs):cs=[.anyi]/\(g=1∨g=2):=by
 constructor
 ·unfold nu Qb at h;obtain⟨v,_,h⟩:=aoV.1 h;split at h
  ·cases h;rfl
  ·split at h
   ·cases h;rfl
   ·cases h
 ·have b:g<8:=by
   rw[<-Qj];unfold nu at h;obtain⟨v,c,_⟩:=aoV.1 h;exact(amW.1 c).1
  have a:=amM.1 aan g (aoW.2 b);rw[h]at a;simp only[anO]at a;rcases a with a|a
  ·exact .inl (anL a)
  ·exact .inr (anL a)
def He{W:World}{n:String}{g:Nat}{l:Array Value}(b:prog.globalNamed n=some g)(h:W.var? prog n=some l):∃t f,W.heap[g]?=some (.cells l t f):=by
 unfold World.var? at h;rw[b]at h;simp only[amj]at h;split at h
 ·rename_i c t f a;cases h;exact⟨t,f,a⟩
 ·cases h
def Us{W:World}{n:String}{g:Nat}{x:Value}(b:prog.globalNamed n=some g)(h:W.var? prog n=some #[x]):g<W.heap.size/\W.cell? ⟨g,0,none⟩=some x:=by
 obtain⟨t,f,a⟩:=He b h;refine⟨bD a,?_⟩;unfold World.cell?;rw[a];rfl
def air{W:World}(h:W.ShapedOpen prog):∃m t f,W.heap[3]?=some (.cells #[.int .i64 m] t f):=by
 obtain⟨zero,t,b,e,i,j,k⟩:∃zero t,((begin prog (λ_ _=>0) default).world.heap[3]?).bind Obj.row?=some (zero,t)/\zero.size=1/\prog.buildable t=true/\prog.cellTypes prog.depth t=some [t]/\prog.underlying t=some (.int .i64):=⟨#[.int .i64 0],3,krq,krq,krq,krq,krq⟩;obtain⟨a,c,g,_⟩:=h.1 3 zero t (by rw[Qj];decide) b;obtain⟨m,d⟩:=Go.Proofs.cell_of_shapedOpen_int h (by rw[Qj];decide) b e i j k;obtain⟨v,rfl⟩:∃v,a= #[v]:=by
  obtain⟨l⟩:=a
  match l,g.trans e with
  |[v],_=>exact⟨v,rfl⟩
 have:v=.int .i64 m:=by
  simp only[World.cell?,c]at d;simpa using d
 subst this;exact⟨m,_,_,c⟩
def amh{W:World}{j t2:TypeId}{k m:Value}(q:Lib.TabIs prog W "internal/strconv.uint64pow10" .u64 Lib.pow10Tab)(n:W.var? prog "strconv.ErrSyntax" =some #[.iface j k])(o:W.var? prog "strconv.ErrRange" =some #[.iface t2 m])
 (i:Lib.Utf8Tabs 6 7 W)(c:∃l,W.var? prog "unicode/utf8.first" =some l)(d:∃l,W.var? prog "unicode/utf8.acceptRanges" =some l)(p:W.ShapedOpen prog):jN prog (xE G0 W) W:=by
 refine⟨λg u h=> ?_,⟨λg a=>He a q,λg a=> ?_,λg a=> ?_,λg a=> ?_⟩⟩
 ·obtain⟨rfl,a⟩:=aj5 h;have e:∃t x,g<W.heap.size/\W.cell? ⟨g,0,none⟩=some (.iface t x):=by
   rcases a with rfl|rfl
   ·exact⟨j,k,Us krq n⟩
   ·exact⟨t2,m,Us krq o⟩
  obtain⟨t,x,r,s⟩:=e;refine⟨r,?_⟩;simp only[Rep];exact⟨g,0,rfl,⟨_,s,by simp only[Rep];exact⟨t,x,rfl⟩⟩,trivial⟩
 ·obtain rfl:g=3:=anm (a.symm.trans krq);exact air p
 ·obtain rfl:g=6:=anm (a.symm.trans krq);obtain⟨l,c⟩:=c;obtain⟨t,f,b⟩:=He a c;exact⟨bD b,i.1⟩
 ·obtain rfl:g=7:=anm (a.symm.trans krq);obtain⟨l,d⟩:=d;obtain⟨t,f,b⟩:=He a d;exact⟨bD b,i.2⟩
end Go.Proofs.Tryz
