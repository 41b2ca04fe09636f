/- A framework for proofs about Go programs in this model: part B. Everything is proved; no condition is added. -/
import Derived.Laws.RangeString
import Derived.IntWalk
import Derived.Test.YtfjfjojmeookfaaGreatDoorFwA
set_option linter.unusedVariables false
set_option linter.unusedSimpArgs false
set_option linter.defProp false
def amY:=@List.eq_nil_of_length_eq_zero
def ao9:=@Array.getElem?_modify
def apo:=@Array.getElem?_push
def ap5:=@Go.run_append_nothing
def aqb:=@Bool.and_true
def aqo:=@Nat.mul_pos
def aqp:=@Nat.mul_one
namespace Go.Fw
open Go.RowKit
section
variable {P:Program}{B:bL P}{G:Gh}{σ:List am}{w:World}
def Z8(y:Rel B G σ w){t tx ty:TypeId}{sz by':Nat}(ht:DE P t tx=some (sz,by')){s x d:D}{sv xv:Value}{σ':List am}(h:JT σ sz by' s x=some (d,σ'))(hs:Rep G s sv)(hx:Rep G x xv):
 ∃u w' G',(Builtin.append_ #[t,tx] ty #[sv,xv]).run P w=.ok u w'/\G.Le G'/\Rel B G' σ' w'/\Rep G' d u:=by
 obtain⟨e,i,zv,z,hu,Y,rfl,rfl,j5,hz,R,U,S⟩:=Ra ht;unfold JT at h;split at h<;>try (cases h;done)
 rename_i new m n9;split at h<;>try (cases h;done)
 rename_i j3;obtain⟨j7,K,g⟩:=aib (P:=P) y n9 hx j3 S;have r:m=0->j7=[]:=λW=>by
  have:=K.newsLen;rw[W,aok]at this;exact amY this
 split at h<;>try (cases h;done)
 ·rename_i M n m8;split at h<;>try (cases h;done)
  rename_i k9;have Z:=hs;simp only[Rep]at hs;obtain⟨a,p,rfl,O,V,h3,h4⟩:=hs;split at h
  ·rename_i W;cases h;subst W;have:=r rfl;subst this;exact⟨_,w,G,ap5 w t tx ty e i hu Y a n p O xv K,.refl G,y,Z⟩
  ·rename_i W;split at h<;>try (cases h;done)
   rename_i X;obtain⟨H,E,F⟩:=X;cases h;have Q:=h3 H;subst Q;have c:∃v,af G M v/\(Builtin.firstCells i.size p (.slice a p p)).run P w.drew=.ok v.toArray w.drew:=by
    rcases h4 with⟨b,o,rfl,X⟩|rfl
    ·obtain⟨vs,hr,p9⟩:=X.reps;have N:=hr.length;refine⟨vs,hr,?_⟩;have:=aos (P:=P) w.drew ⟨b,o,none⟩ vs (λj u hj=>by rw[gd];exact y.drew.imm _ _ _ (p9 j u hj));rw[<-N,k9]at this;exact this
    ·refine⟨[],by simp[af],?_⟩;have r9:p*i.size=0:=by simpa using k9.symm
     cases a with
     |none=>simp[Builtin.firstCells]
     |some a=>simp only[Builtin.firstCells,r9];rfl
   obtain⟨v,C,c⟩:=c;exact Fr y hu Y hz R U (l:=σ.length) (ver:=0) (frz:=0) K g C k9 c omq E F siq (λA L=>by
    rcases amB A σ.length with h|h
    ·rw[amu h]
    ·rw[amA h,amC h];have:A-σ.length≠0:=omq;cases S:A-σ.length with
     |zero=>exact absurd S this
     |succ k=>simp) siq (by
      cases h:G.blk σ.length 0 with
      |none=>rfl
      |some b=>exact absurd (y.blk _ _ _ h).1 (anv _)) ⟨anp _,λu' b h=>absurd (y.blk _ _ _ h).1 (anv _)⟩ (anp _)
 ·rename_i l u o n s8 m8;split at h<;>try (cases h;done)
  rename_i M frz u' N;split at h<;>try (cases h;done)
  rename_i X;obtain⟨rfl,rfl,n7⟩:=X;have Z:=hs;simp only[Rep]at hs;rcases hs with⟨b,p,o7,hb,rfl,O,V,h3,h4,h5⟩|⟨rfl,a,rfl⟩
  ·split at h
   ·rename_i W;cases h;subst W;have:=r rfl;subst this;exact⟨_,w,G,ap5 w t tx ty e i hu Y _ n p O xv K,.refl G,y,Z⟩
   ·rename_i W;split at h<;>try (cases h;done)
    rename_i j8;obtain⟨E,F⟩:=j8;obtain⟨v,T,C,j9⟩:=y.cells_of N hb n7;have c:(Builtin.firstCells i.size n (.slice (some ⟨b,o,none⟩) n p)).run P w.drew=.ok v.toArray w.drew:=by
     have:=aos (P:=P) w.drew ⟨b,o,none⟩ v (λj u hj=>by rw[gd];exact j9 j u hj);rw[T]at this;exact this
    split at h
    ·rename_i H;cases h;have Q:=h3 H;subst Q;exact Fr y hu Y hz R U (l:=σ.length) (ver:=0) (frz:=0) K g C (by rw[C.length,T]) c omq E F siq (λA L=>by
      rcases amB A σ.length with h|h
      ·rw[amu h]
      ·rw[amA h,amC h];have:A-σ.length≠0:=omq;cases S:A-σ.length with
       |zero=>exact absurd S this
       |succ k=>simp) siq (by
        cases h:G.blk σ.length 0 with
        |none=>rfl
        |some b=>exact absurd (y.blk _ _ _ h).1 (anv _)) ⟨anp _,λu' b h=>absurd (y.blk _ _ _ h).1 (anv _)⟩ (anp _)
    ·split at h<;>try (cases h;done)
     rename_i X;obtain⟨rfl,hn⟩:=X;cases h;have I:=g.length;have q7:=K.newsLen;have m6:0<m*i.size:=aqo omq j5;have n8:new≠[]:=by
      intro h0;rw[h0]at I;simp at I;omega
     have f:=y.ver _ _ N;have m5:σ.length>l:=by
      rcases amB l σ.length with h'|h'
      ·exact h'
      ·rw[amC h']at N;cases N
     by_cases J:n+m<=p
     ·have q6:(n+m)*i.size<=p*i.size:=ank _ J;have n5:M.length+new.length<=o7:=by
       rw[aoo]at q6;omega
      obtain⟨w',G',j6,n6,o9,p7,q9⟩:=Z7 (P:=P) y N hb n8 g h4 n5 j3;refine⟨.slice (some ⟨b,0,none⟩) (n+m) p,w',G',?_,n6,o9,?_⟩
      ·rw[<-hn]at j6;have p8:(Builtin.firstCells i.size m xv).run P w=.ok j7.toArray w:=K.cells;rcases S with⟨e',S⟩|S<;>simp[Builtin.append_,amy hu,amy S,sizeOf,typeInfo,Y,K.len,J,p8,j6]
      ·simp only[Rep];refine .inl ⟨b,p,o7,p7,rfl,J,V,by simp,q9,?_⟩;simpa using h5
     ·have m7:af G M v:=by
       have:(M.drop 0).take (n*i.size)=M:=by simp[hn]
       rwa[this]at C
      have q:∀A,A≠l->(σ.set l (.cells (M++new) frz (M++new).length))[A]?=σ[A]? :=λA L=>by rw[am2 (an9 L)]
      refine Fr y hu Y hz R U (l:=l) (ver:=(M++new).length) (frz:=frz) K g m7 omq c omq E F siq q (by rw[ana m5]) ?_ ?_ ?_
      ·cases hx:G.blk l (M++new).length with
       |none=>rfl
       |some b'=>
        have O:=f.2 _ _ hx;have V:=f.1;simp only[am.ver,am.len,amo]at O V;omega
      ·refine⟨amt _,λs6 o8 hx=> ?_⟩;have O:=f.2 _ _ hx;have V:=f.1;simp only[am.ver,am.len,amo]at O V⊢;omega
      ·have:=y.frzle _ _ N;simp only[am.frz,am.len,amo]at this⊢;omega
  ·have c:(Builtin.firstCells i.size 0 (.slice a 0 0)).run P w.drew=.ok ([]:List Value).toArray w.drew:=by
    cases a with
    |none=>simp[Builtin.firstCells]
    |some a=>simp only[Builtin.firstCells,aok];rfl
   have j4:af G [] []:=by simp[af]
   split at h
   ·rename_i W;cases h;subst W;have:=r rfl;subst this;exact⟨_,w,G,ap5 w t tx ty e i hu Y a 0 0 (amt _) xv K,.refl G,y,Z⟩
   ·rename_i W;split at h<;>try (cases h;done)
    rename_i j8;obtain⟨E,F⟩:=j8;have f:=y.ver _ _ N;have m5:σ.length>l:=by
     rcases amB l σ.length with h'|h'
     ·exact h'
     ·rw[amC h']at N;cases N
    split at h
    ·cases h;have e0:(M.drop o).take (0*i.size)=[]:=by simp
     rw[e0];exact Fr y hu Y hz R U (l:=σ.length) (ver:=0) (frz:=0) K g j4 siq c omq E F siq (λA L=>by
      rcases amB A σ.length with h|h
      ·rw[amu h]
      ·rw[amA h,amC h];have:A-σ.length≠0:=omq;cases S:A-σ.length with
       |zero=>exact absurd S this
       |succ k=>simp) siq (by
        cases h:G.blk σ.length 0 with
        |none=>rfl
        |some b=>exact absurd (y.blk _ _ _ h).1 (anv _)) ⟨anp _,λu' b h=>absurd (y.blk _ _ _ h).1 (anv _)⟩ (anp _)
    ·split at h<;>try (cases h;done)
     rename_i X;obtain⟨rfl,hn⟩:=X;have m9:M=[]:=by simpa using hn.symm
     subst m9;cases h;have I:=g.length;have q7:=K.newsLen;have m6:0<m*i.size:=aqo omq j5;have q8:0<new.length:=omq;have q:∀A,A≠l->(σ.set l (.cells ([]++new) frz ([]++new).length))[A]?=σ[A]? :=λA L=>by rw[am2 (an9 L)]
     refine Fr y hu Y hz R U (l:=l) (ver:=([]++new).length) (frz:=frz) K g j4 siq c omq E F siq q (by rw[ana m5]) ?_ ?_ ?_
     ·cases hx:G.blk l ([]++new:List D).length with
      |none=>rfl
      |some b'=>
       have O:=f.2 _ _ hx;have V:=f.1;simp only[am.ver,am.len,amo,amI]at O V;omega
     ·refine⟨amt _,λs6 o8 hx=> ?_⟩;have O:=f.2 _ _ hx;have V:=f.1;simp only[am.ver,am.len,amo,amI]at O V⊢;omega
     ·have:=y.frzle _ _ N;simp only[am.frz,am.len,amo,amI]at this⊢;omega
def unD:UnOp->D->Option D
 |.not,.bool b=>some (.bool (!b))
 |.neg,.int k n=>some (.int k (k.wrap (0-n)))
 |.xor,.int k n=>some (.int k (bits .xor k (if k.signed then-1 else k.max) n))
 |_,_=>none
def ajW{a:UnOp}{x d:D}{v:Value}(h:unD a x=some d)(b:Rep G x v):∃u,(Op.unary a v).run P w=.ok u w/\Rep G d u:=by
 cases a<;>cases x<;>simp only[unD]at h<;>try (cases h;done)
 all_goals (simp only[Rep]at b;subst b;cases h)
 ·exact⟨_,rfl,by simp[Rep]⟩
 ·refine⟨_,by simp only[Op.unary,intBits_xor];rfl,by simp[Rep]⟩
 ·exact⟨_,rfl,by simp[Rep]⟩
inductive CK where
 |int(k:IntKind)|idStr|toBytes|toStr
 deriving Inhabited
def Oy(P:Program)(a dst:TypeId):Option CK:=
 match P.underlying a,P.underlying dst with
 |some (.int _),some (.int k)=>some (.int k)
 |some .string,some .string=>some .idStr
 |some .string,some (.slice e)=>match P.underlying e,P.info? e with
  |some (.int .u8),some i=>if i.size=1 then some .toBytes else none
  |_,_=>none
 |some (.slice e),some .string=>match P.underlying e with
  |some (.int .u8)=>some .toStr
  |_=>none
 |_,_=>none
def A2:D->Option UInt8
 |.int .u8 n=>some (UInt8.ofNat n.toNat)
 |_=>none
def jC:List D->Option (List UInt8)
 |[]=>some []
 |d::c=>match A2 d,jC c with
  |some b,some a=>some (b::a)
  |_,_=>none
def vL(σ:List am):CK->D->Option D
 |.int k,.int _ n=>some (.int k (k.wrap n))
 |.idStr,.str s=>some (.str s)
 |.toBytes,.str s=>if s.length<=bj then some (.list (s.map λb=>.int .u8 b.toNat) s.length false) else none
 |.toStr,.list c d f=>match oR σ 1 (.list c d f) with
  |some (a,_)=>(jC a).map .str
  |none=>none
 |.toStr,.sl l u o d z f=>match oR σ 1 (.sl l u o d z f) with
  |some (a,_)=>(jC a).map .str
  |none=>none
 |_,_=>none
def Yb(s:List UInt8)(b:UInt8):(⟨s.toArray⟩:ByteArray).push b=⟨(s++[b]).toArray⟩:=by
 show(⟨s.toArray.push b⟩:ByteArray)=_;simp
def Oz:∀{cs:List D}{vs:List Value}{bs:List UInt8},af G cs vs->jC cs=some bs->∃e:List Int,vs=e.map (λn=>.int .u8 n)/\bs=e.map λn=>UInt8.ofNat n.toNat
 |[],_,_,h,a=>by
  simp only[af]at h;simp only[jC,amn]at a;subst h a;exact⟨[],rfl,rfl⟩
 |d::l,_,_,h,a=>by
  simp only[af]at h;obtain⟨v,r,rfl,g,j⟩:=h;simp only[jC]at a;split at a<;>try (cases a;done)
  rename_i b i c f;cases a;obtain⟨e,rfl,rfl⟩:=Oz j f;cases d<;>simp only[A2]at c<;>try (cases c;done)
  rename_i k n;cases k<;>simp only[amn]at c<;>try (cases c;done)
  subst c;simp only[Rep]at g;subst g;exact⟨n::e,rfl,rfl⟩
def afz(M:Rel B G σ w){W dst:TypeId}{ck:CK}(z:Oy P W dst=some ck){x d:D}{v:Value}(h:vL σ ck x=some d)(C:Rep G x v):
 ∃u w' L,(convert W dst v).run P w=.ok u w'/\G.Le L/\Rel B L σ w'/\Rep L d u:=by
 unfold Oy at z;split at z<;>try (cases z;done)
 ·rename_i k0 k S O;cases z;cases x<;>simp only[vL]at h<;>try (cases h;done)
  cases h;simp only[Rep]at C;subst C;rename_i k1 n1;refine⟨.int k (k.wrap n1),w,G,?_,.refl G,M,by simp only[Rep]⟩;unfold convert;simp[amy S,amy O,Conv.intToInt]
 ·rename_i S O;cases z;cases x<;>simp only[vL]at h<;>try (cases h;done)
  cases h;have m5:=C;simp only[Rep]at C;subst C;refine⟨_,w,G,?_,.refl G,M,m5⟩;unfold convert;simp[amy S,amy O]
 ·rename_i e S O;split at z<;>try (cases z;done)
  rename_i i he hi;split at z<;>try (cases z;done)
  rename_i n5;cases z;cases x<;>simp only[vL]at h<;>try (cases h;done)
  rename_i s;split at h<;>try (cases h;done)
  rename_i K;cases h;simp only[Rep]at C;subst C;let c:=grownCap w s.length 0 e;have j3:s.length<=c:=grownCap_ge w s.length 0 e;have R:c<=maxLen:=ap4 w s.length 0 e (by unfold maxLen;unfold bj at K;omega);let g:Array Value:=((s.toArray.map λb=>(Value.int .u8 b.toNat))++Array.replicate (c-s.length) (.int .u8 0));have H:=T2 M.drew (s.map λb=>Value.int .u8 b.toNat) (List.replicate (c-s.length) (.int .u8 0)) e (g.size,g.size+1) g (by simp[g]);refine⟨.slice (some ⟨w.heap.size,0,none⟩) s.length c,w.drew.alloc (.cells g e (g.size,g.size+1)),_,?_,H.le,M.drew.grow H,?_⟩
  ·unfold convert;simp only[amD,amy S,amy O,amy he,amv];unfold Conv.stringToBytes;have hq:(Question.appendCap s.length 0 e).forced=false:=rfl;simp only[nV,amD,run_choose,hq,ang,ani,amv,newRow,ao1,amQ];unfold markStringish;have T:({w with heap:=w.heap.push (.cells g e),drawn:=w.drawn+1}:World).shape? w.heap.size=some (e,g.size):=by
    simp[World.shape?]
   show Result.andThen (Sem.run P (markStringish ⟨w.heap.size,0,none⟩) (w.drew.alloc (.cells g e))) _=_;have j4:(w.drew.alloc (.cells g e)).shape? w.heap.size=some (e,g.size):=by
    have:=M3 w.drew (.cells g e);unfold World.shape?;have h2:(w.drew.alloc (.cells g e)).heap[w.heap.size]?=some (.cells g e):=this;rw[h2]
   unfold markStringish;simp only[amD,run_shape,amv,j4,run_freeze];congr 1;unfold World.freeze;rw[am4 omq];show World.mk _ _ _ _ _=World.mk _ _ _ _ _;congr 1;apply Array.ext_getElem?;intro j;show((w.heap.push (.cells g e)).modify w.heap.size _)[j]?=(w.heap.push (.cells g e (g.size,g.size+1)))[j]?;rw[ao9,apo,apo];by_cases Q:j=w.heap.size
   ·subst Q;simp
   ·simp[Q,an9 Q]
  ·simp only[Rep];refine⟨_,c,rfl,j3,by unfold maxLen at R;exact R,by simp,.inl ⟨_,_,rfl,?_⟩⟩;refine Ci (b:=w.drew.heap.size) _ (s.map λb=>D.int .u8 b.toNat) [] _ rfl ?_ H.le;clear H j3 R K;induction s with
   |nil=>simp[af]
   |cons a s ih=>simp only[amz,af];exact⟨_,_,rfl,by simp[Rep],ih⟩
 ·rename_i e S O;split at z<;>try (cases z;done)
  rename_i he;cases z;obtain⟨E,n,p,J,t,rfl,T⟩:∃E n,oR σ 1 x=some (E,n)/\∃J,jC E=some J/\d=.str J/\((∃a b c,x=.list a b c)∨∃a b c d e f,x=.sl a b c d e f):=by
   cases x<;>simp only[vL]at h<;>try (cases h;done)
   all_goals
    split at h<;>try (cases h;done)
    rename_i E n p;simp only[an3]at h;obtain⟨J,t,rfl⟩:=h
   ·exact⟨E,n,p,J,t,rfl,.inl ⟨_,_,_,rfl⟩⟩
   ·exact⟨E,n,p,J,t,rfl,.inr ⟨_,_,_,_,_,_,rfl⟩⟩
  have m7:E.all D.isCell=true:=by
   clear p T h;induction E generalizing J with
   |nil=>rfl
   |cons a E ih=>
    simp only[jC]at t;split at t<;>try (cases t;done)
    rename_i b m8 j8 Z;simp only[anJ,ih _ Z,aqb];cases a<;>simp[A2]at j8<;>rfl
  have I:∀(a:Option Addr)(U q:Nat)(F:List Value),v=.slice a U q->af G E F->(a=none->F=[])->(∀x,a=some x->(loadCells x U).run P w=.ok F.toArray w)->
   ∃u w' L,(convert W dst v).run P w=.ok u w'/\G.Le L/\Rel B L σ w'/\Rep L (.str J) u:=by
   intro a U q F j5 X hn hl;subst j5;obtain⟨V,rfl,rfl⟩:=Oz X t;refine⟨.string ⟨(V.map λn=>UInt8.ofNat n.toNat).toArray⟩,w,G,?_,.refl G,M,by simp only[Rep]⟩;unfold convert;simp only[amD,amy S,amy O,amv];cases a with
   |none=>
    have:=hn rfl;simp only[List.map_eq_nil_iff]at this;subst this;simp only[amy he,amv];unfold Conv.bytesToString;rfl
   |some x=>
    have:=hl x rfl;simp only[amy he,amv];unfold Conv.bytesToString;simp only[amD,this,amv];have j6:∀(f:Value->ByteArray->Sem (ForInStep ByteArray))(_:∀n r,f (.int .u8 n) r=pure (ForInStep.yield (r.push (UInt8.ofNat n.toNat))))(V:List Int)(A:List UInt8),
     (ForIn.forIn (m:=Sem) (V.map λn=>Value.int .u8 n).toArray (⟨A.toArray⟩:ByteArray) f).run P w=.ok ⟨(A++V.map λn=>UInt8.ofNat n.toNat).toArray⟩ w:=by
     intro f hf V;induction V with
     |nil=>intro A;simp
     |cons n V ih=>
      intro A;have:=ih (A++[UInt8.ofNat n.toNat]);simp only[amz,List.forIn_toArray,List.forIn_cons,amD,hf,amQ,amv,Yb]at this⊢;rw[this];simp
    have e0:ByteArray.empty=(⟨([]:List UInt8).toArray⟩:ByteArray):=rfl;rw[e0,j6 _ (λ_ _=>rfl)];rfl
  cases x<;>simp only[oR]at p<;>try (cases p;done)
  ·rcases T with⟨_,_,_,h⟩|⟨_,_,_,_,_,_,h⟩<;>cases h
  ·rename_i j7 n' Y;split at p<;>try (cases p;done)
   rename_i y;cases p;simp only[Rep]at C;obtain⟨a,q,rfl,h1,h2,h3,h4⟩:=C;rcases h4 with⟨b,o,rfl,hc⟩|rfl
   ·obtain⟨F,X,j9⟩:=hc.reps;have hl:=X.length;refine I _ _ q F rfl X siq (λx hx=> ?_);cases hx;have:=aos (P:=P) w ⟨b,o,none⟩ F (λj u Q=>by rw[gd];exact M.imm _ _ _ (j9 j u Q));rw[<-hl,y,aqp]at this;exact this
   ·have k9:n=0:=by simpa using y.symm
    subst k9;exact I a 0 q [] rfl (by simp[af]) (λ_=>rfl) (λx hx=>rfl)
  ·rename_i l u o n' n6 Y;split at p<;>try (cases p;done)
   rename_i j7 m9 u' hl;split at p<;>try (cases p;done)
   rename_i hc;obtain⟨rfl,rfl,y⟩:=hc;cases p;simp only[Rep]at C;rcases C with⟨b,q,n7,hb,rfl,h1,h2,h3,h4,h5⟩|⟨rfl,a,rfl⟩
   ·obtain⟨F,m6,X,N⟩:=M.cells_of hl hb y;refine I _ _ q F rfl X siq (λx hx=> ?_);cases hx;have:=aos (P:=P) w ⟨b,o,none⟩ F (λj u Q=>by rw[gd];exact N j u Q);rw[m6,aqp]at this;exact this
   ·refine I a 0 0 [] rfl ?_ (λ_=>rfl) (λx hx=>rfl);simp[af]
end
end Go.Fw
def amF:=@List.mem_cons_of_mem
def amM:=@List.all_eq_true
def amO:=@beq_eq_false_iff_ne
def am0:=@List.mem_cons_self
def anh:=@List.mem_map
def anw:=@Option.isSome_iff_exists
def anE:=@List.getElem?_cons_succ
def ao3:=@Nat.sub_self
def apL:=@List.map_fst_zip
def apM:=@List.map_snd_zip
def apZ:=@Nat.sub_zero
def ap6:=@List.pairwise_cons
namespace Go.Fw
open Go.RowKit
section
variable {P:Program}{B:bL P}{G:Gh}{σ:List am}{w:World}
def Yc{ds:List D}{i:Nat}{d:D}{v:Value}(h:ds[i]?=some d)(c:Rep G (.tuple ds) v):∃u,(Instr.extract v i).run P w=.ok u w/\Rep G d u:=by
 simp only[Rep]at c;obtain⟨a,rfl,e⟩:=c;obtain⟨u,f,b⟩:=e.get i h;refine⟨u,?_,b⟩;unfold Instr.extract;have:a[i]?=some u:=by simpa using f
 simp[this]
def AK(P:Program)(t:TypeId):Bool:=
 match P.underlying t with
 |some (.interface _)=>false
 |some _=>true
 |none=>false
def Yd{t:TypeId}(h:AK P t=true)(v:Value):(Instr.makeInterface t v).run P w=.ok (.iface t v) w:=by
 unfold AK at h;split at h<;>try (cases h;done)
 rename_i d b a;unfold Instr.makeInterface;simp only[amD,amy a,amv];rfl
def mmD(mx:Bool):D->List D->Option D
 |.int k a,[]=>some (.int k a)
 |.int k a,.int c b::r=>if k=c then mmD mx (.int k (if mx=true then(if b>a then b else a) else(if b<a then b else a))) r else none
 |_,_=>none
def mmL(mx:Bool):List D->Option D
 |[]=>none
 |a::r=>mmD mx a r
def aic(p:Array TypeId)(t:TypeId){ds:List D}{vs:List Value}{d:D}(h:mmL true ds=some d)(c:af G ds vs):∃u,(Builtin.max_ p t vs.toArray).run P w=.ok u w/\Rep G d u:=by
 have l:∀(r:List D)(j:List Value)(a:D)(f:Value)(d:D),mmD true a r=some d->Rep G a f->af G r j->∃u,(j.foldlM Builtin.max2 f).run P w=.ok u w/\Rep G d u:=by
  intro r;induction r with
  |nil=>
   intro j a f d h g c;simp only[af]at c;subst c;cases a<;>simp only[mmD]at h<;>try (cases h;done)
   cases h;exact⟨f,by simp,g⟩
  |cons x r o=>
   intro j a f d h g c;simp only[af]at c;obtain⟨v,m,rfl,i,e⟩:=c;cases a<;>cases x<;>simp only[mmD]at h<;>try (cases h;done)
   split at h<;>try (cases h;done)
   rename_i n;subst n;simp only[Rep]at g i;subst g i;obtain⟨u,k,b⟩:=o m _ _ d h (by simp only[Rep];rfl) e;exact⟨u,by simpa[List.foldlM_cons,Builtin.max2] using k,b⟩
 cases ds with
 |nil=>simp[mmL]at h
 |cons a r=>
  simp only[af]at c;obtain⟨v,m,rfl,i,e⟩:=c;obtain⟨u,k,b⟩:=l r m a v d h i e;exact⟨u,by unfold Builtin.max_;simpa using k,b⟩
def aid(p:Array TypeId)(t:TypeId){ds:List D}{vs:List Value}{d:D}(h:mmL false ds=some d)(c:af G ds vs):∃u,(Builtin.min_ p t vs.toArray).run P w=.ok u w/\Rep G d u:=by
 have l:∀(r:List D)(j:List Value)(a:D)(f:Value)(d:D),mmD false a r=some d->Rep G a f->af G r j->∃u,(j.foldlM Builtin.min2 f).run P w=.ok u w/\Rep G d u:=by
  intro r;induction r with
  |nil=>
   intro j a f d h g c;simp only[af]at c;subst c;cases a<;>simp only[mmD]at h<;>try (cases h;done)
   cases h;exact⟨f,by simp,g⟩
  |cons x r o=>
   intro j a f d h g c;simp only[af]at c;obtain⟨v,m,rfl,i,e⟩:=c;cases a<;>cases x<;>simp only[mmD]at h<;>try (cases h;done)
   split at h<;>try (cases h;done)
   rename_i n;subst n;simp only[Rep]at g i;subst g i;obtain⟨u,k,b⟩:=o m _ _ d h (by simp only[Rep];rfl) e;exact⟨u,by simpa[List.foldlM_cons,Builtin.min2] using k,b⟩
 cases ds with
 |nil=>simp[mmL]at h
 |cons a r=>
  simp only[af]at c;obtain⟨v,m,rfl,i,e⟩:=c;obtain⟨u,k,b⟩:=l r m a v d h i e;exact⟨u,by unfold Builtin.min_;simpa using k,b⟩
def Ye(f:Rel B G σ w)(t:TypeId):∃u c a,(Instr.makeMap t none).run P w=.ok u c/\G.Le a/\Rel B a (σ++[.map [] []]) c/\Rep a (.map σ.length) u:=by
 obtain⟨d,e⟩:=f.bindOther (.map #[] 0) (.map [] []) siq (λa _ c b=>⟨#[],⟨b,by simp⟩,by simp[af],by simp[af]⟩);refine⟨.map (some w.heap.size),_,_,?_,d,e,by simp only[Rep];exact⟨_,by simp[Gh.bind0],rfl⟩⟩;unfold Instr.makeMap;simp
def iM(lk:LK)(k:D):List D->Nat->Option (Option Nat)
 |[],_=>some none
 |a::b,i=>match iA lk k a with
  |some true=>some (some i)
  |some false=>iM lk k b (i+1)
  |none=>none
def AL(P:Program)(t:TypeId):Option (LK×D):=
 match P.underlying t with
 |some (.map k e)=>
  match (match P.underlying k with|some (.int _)=>some LK.i|some .string=>some LK.s|some .bool=>some LK.b|_=>none),(match P.info? e with|some i=>(match i.zero with|some v=>Fo v|none=>none)|none=>none) with
  |some lk,some z=>some (lk,z)
  |_,_=>none
 |_=>none
def Cn:LK->TypeDesc->Prop
 |.i,.int _=>True
 |.s,.string=>True
 |.b,.bool=>True
 |_,_=>False
variable{Z:LK}{Y:Value}{X:List (D×D)}
def DF{t:TypeId}{z:D}(h:AL P t=some (Z,z)):∃k e c i v,P.underlying t=some (.map k e)/\P.underlying k=some c/\Cn Z c/\P.info? e=some i/\i.zero=some v/\Fo v=some z:=by
 unfold AL at h;split at h<;>try (cases h;done)
 rename_i k e g;split at h<;>try (cases h;done)
 rename_i l m b a;cases h;split at a<;>try (cases a;done)
 rename_i i d;split at a<;>try (cases a;done)
 rename_i v j;split at b<;>try (cases b;done)
 all_goals
  rename_i f;cases b;exact⟨k,e,_,i,v,g,f,by simp[Cn],d,j,a⟩
def OA{kd:TypeDesc}(f:Cn Z kd){a b:D}{x y:Value}{r:Bool}(h:iA Z a b=some r)(c:Rep G a x)(d:Rep G b y):Instr.sameNow kd x y=some r:=by
 cases Z<;>cases a<;>cases b<;>simp only[iA]at h<;>try (cases h;done)
 all_goals
  simp only[Rep]at c d;subst c d;cases kd<;>simp only[Cn]at f
 ·simpa[Instr.sameNow] using h
 ·split at h<;>try (cases h;done)
  rename_i e;subst e;simpa[Instr.sameNow] using h
 ·simp only[Instr.sameNow,beq_toListBytes,vI];exact h
def sc{kd:TypeDesc}{k:TypeId}(b:Cn Z kd)(a:P.underlying k=some kd)(e:Bool)(n:Nat)(x:Value):(Instr.checkKey e (n+1) k x).run P w=.ok () w:=by
 unfold Instr.checkKey;simp only[amD,amy a,amv];cases Z<;>cases kd<;>simp only[Cn]at b<;>rfl
def vM{kd:TypeDesc}(g:Cn Z kd){k:D}(f:Rep G k Y):∀(ks:List D)(es:List MapEntry)(i:Nat)(r:Option Nat),iM Z k ks i=some r->af G ks (es.map (·.key))->
 Instr.findNow kd Y es i=some (r.map λj=>(j,((es[j-i]?).map (·.val)).getD undef))/\(∀j,r=some j->i<=j/\j-i<es.length)
 |[],es,i,r,h,b=>by
  simp only[af,List.map_eq_nil_iff]at b;subst b;simp only[iM,amn]at h;subst h;exact⟨rfl,by simp⟩
 |a::n,es,i,r,h,b=>by
  match es,b with
  |[],b=>simp only[af]at b;obtain⟨_,_,h,_⟩:=b;cases h
  |e::es,b=>
   simp only[amz,af]at b;obtain⟨v,u,t,m,p⟩:=b;cases t;simp only[iM]at h;split at h<;>try (cases h;done)
   ·rename_i c;cases h;simp only[Instr.findNow,OA g c f m,anT,ao3,apy,Option.getD_some];exact⟨trivial,λj d=>by cases d;simp⟩
   ·rename_i c;obtain⟨o,l⟩:=vM g f n es (i+1) r h p;simp only[Instr.findNow,OA g c f m];refine⟨?_,λj d=> ?_⟩
    ·rw[o];cases r with
     |none=>rfl
     |some j=>
      obtain⟨q,s⟩:=l j rfl;simp only[anT,amn,amJ,true_and];have:j-i=(j-(i+1))+1:=omq;rw[this,anE]
    ·obtain⟨q,s⟩:=l j d;simp only[amr];omega
def A3(z:D)(ok:Bool)(r:Option D):D:=match r with
 |some d=>if ok then .tuple [d,.bool true] else d
 |none=>if ok then .tuple [z,.bool false] else z
def ny(lk:LK)(z:D)(ok:Bool)(ks vs:List D)(k:D):Option D:=
 match iM lk k ks 0 with
 |some (some i)=>(vs[i]?).map λd=>A3 z ok (some d)
 |some none=>some (A3 z ok none)
 |none=>none
def Fs:List D->Bool
 |[]=>true
 |.int .i64 n::r=>(r.all λd=>match d with|.int .i64 m=> !(decide (n=m))|_=>false)&&Fs r
 |_::_=>false
def G6(G:Gh)(a:List (D×D))(l:List MapEntry):Prop:=af G (a.map (·.1)) (l.map (·.key))/\af G (a.map (·.2)) (l.map (·.val))
def OB{l l':List MapEntry}(h:l.Perm l'):∀{b:List (D×D)},G6 G b l->∃c,c.Perm b/\G6 G c l':=by
 induction h with
 |nil=>exact λh=>⟨_,.refl _,h⟩
 |cons e _ E=>
  intro b h;cases b with
  |nil=>obtain⟨a,_⟩:=h;simp[af]at a
  |cons p b=>
   obtain⟨a,d⟩:=h;simp only[amz,af]at a d;obtain⟨v,r,o,g,j⟩:=a;obtain⟨O,K,x,k,n⟩:=d;cases o;cases x;obtain⟨c,C,f⟩:=E ⟨j,n⟩;exact⟨p::c,C.cons p,by simp only[amz,af];exact⟨_,_,rfl,g,f.1⟩,by simp only[amz,af];exact⟨_,_,rfl,k,f.2⟩⟩
 |swap e I l=>
  intro b h;obtain⟨a,d⟩:=h
  match b,a,d with
  |[],a,_=>simp[af]at a
  |[_],a,_=>simp[af]at a
  |p::q::b,a,d=>
   simp only[amz,af]at a d;obtain⟨v,r,o,g,N,J,t,i,j⟩:=a;obtain⟨u,s,x,k,M,L,y,m,n⟩:=d;cases o;cases t;cases x;cases y;refine⟨q::p::b,.swap _ _ _,?_,?_⟩
   ·simp only[amz,af];exact⟨_,_,rfl,i,_,_,rfl,g,j⟩
   ·simp only[amz,af];exact⟨_,_,rfl,m,_,_,rfl,k,n⟩
 |trans _ _ z A=>
  intro b h;obtain⟨p1,C,f⟩:=z h;obtain⟨p2,F,H⟩:=A f;exact⟨p2,F.trans C,H⟩
def kP:D->Bool
 |.int .i64 _=>true
 |_=>false
def fA:D->Int
 |.int _ n=>n
 |_=>0
def kD(k:Int):List (D×D)->Option D
 |[]=>none
 |p::r=>if fA p.1=k then some p.2 else kD k r
def Mm{k:Int}{m c:List (D×D)}(h:m.Perm c)(hd:m.Pairwise λa b=>fA a.1≠fA b.1):kD k m=kD k c:=by
 induction h with
 |nil=>rfl
 |cons p _ n=>simp only[kD];rw[n (ap6.1 hd).2]
 |swap p q l=>
  have g:=(ap6.1 hd).1 p (am0 ..);simp only[kD];by_cases d:fA p.1=k<;>by_cases f:fA q.1=k
  ·exact absurd (f.trans d.symm) g
  ·simp[d,f]
  ·simp[d,f]
  ·simp[d,f]
 |trans g _ i j=>
  rw[i hd];exact j ((g.pairwise_iff λh e=>h e.symm).1 hd)
def Re{n:Int}:∀(c:List (D×D))(i:Nat),(∀p∈c,kP p.1=true)->∃o,iM .i (.int .i64 n) (c.map (·.1)) i=some o/\(∀j,o=some j->i<=j/\((c.map (·.2))[j-i]?=kD n c)/\(kD n c).isSome=true)/\(o=none->kD n c=none)
 |[],i,_=>⟨none,rfl,λj h=>(by cases h),λ_=>rfl⟩
 |p::c,i,h=>by
  obtain⟨a,b⟩:=p;have f:=h (a,b) (am0 ..);simp only at f;cases a<;>try (cases f;done)
  rename_i k m;cases k<;>try (cases f;done)
  obtain⟨o,q,r,s⟩:=Re (n:=n) c (i+1) λp t=>h p (amF _ t);by_cases e:n=m
  ·subst e;refine⟨some i,by simp[iM,iA],λj g=> ?_,λh=>by cases h⟩;cases g;simp[kD,fA]
  ·have l:¬m=n:=λh=>e h.symm;have d:kD n ((D.int .i64 m,b)::c)=kD n c:=by simp[kD,fA,l]
   refine⟨o,by simp only[amz,iM,iA,ano,amO.2 e];exact q,λj g=> ?_,λh=>by rw[d];exact s h⟩;obtain⟨x,u,v⟩:=r j g;refine⟨omq,?_,by rw[d];exact v⟩;rw[d,show j-i=(j-(i+1))+1 by omega,amz,anE];exact u
def vO{z:D}{ok:Bool}{n:Int}(h:∀p∈X,kP p.1=true):ny .i z ok (X.map (·.1)) (X.map (·.2)) (.int .i64 n)=some (A3 z ok (kD n X)):=by
 unfold ny;obtain⟨o,b,c,d⟩:=Re (n:=n) X 0 h;rw[b];cases o with
 |none=>simp only;rw[d rfl]
 |some j=>
  obtain⟨_,a,f⟩:=c j rfl;simp only;rw[apZ]at a;rw[a];obtain⟨x,e⟩:=anw.1 f;rw[e];rfl
def G7:∀{ks:List D},Fs ks=true->(∀k∈ks,kP k=true)/\ks.Pairwise λa b=>fA a≠fA b
 |[],_=>⟨λ_ h=>by simp at h,.nil⟩
 |k::r,h=>by
  cases k<;>try (cases h;done)
  rename_i i n;cases i<;>try (cases h;done)
  simp only[Fs,amk,amM]at h;obtain⟨e,f⟩:=G7 h.2;refine⟨λk c=> ?_,ap6.2 ⟨λd g=> ?_,f⟩⟩
  ·rcases amN.1 c with rfl|c
   ·rfl
   ·exact e k c
  ·have:=h.1 d g;split at this
   ·simpa[fA] using this
   ·cases this
def xZ(lk:LK)(z:D)(ok:Bool)(ks vs:List D)(k:D):Option D:=match Fs ks with
 |true=>match k with
  |.int .i64 n=>match lk with
   |.i=>ny .i z ok ks vs (.int .i64 n)
   |_=>none
  |_=>none
 |false=>none
def AM(σ:List am)(lk:LK)(z:D)(ok:Bool)(m k:D):Option D:=
 match m with
 |.map l=>match σ[l]? with
  |some (.map a b)=>ny lk z ok a b k
  |_=>none
 |.cmap a b=>ny lk z ok a b k
 |.pmap a b=>xZ lk z ok a b k
 |.nilmap=>if (iA lk k k).isSome then some (A3 z ok none) else none
 |_=>none
def M9{ok:Bool}{d:D}{v:Value}(b:Bool)(a:Rep G d v):Rep G (if ok then .tuple [d,.bool b] else d) (if ok then .tuple #[v,.bool b] else v):=by
 cases ok
 ·exact a
 ·simp only[ano,Rep,af];exact⟨_,rfl,v,_,rfl,a,_,_,rfl,rfl,rfl⟩
def DG{t:TypeId}{z:D}(H:AL P t=some (Z,z)){ok:Bool}{ks vs:List D}{k d:D}{b c:Nat}{es:Array MapEntry}(h:ny Z z ok ks vs k=some d)
 (K:w.heap[b]?=some (.map es c))(A:af G ks (es.toList.map (·.key)))(L:af G vs (es.toList.map (·.val)))(x:Rep G k Y):
 ∃u,(Instr.lookup t (.map (some b)) Y ok).run P w=.ok u w/\Rep G d u:=by
 obtain⟨Q,e,O,i,M,y,a,l,E,J,q⟩:=DF H;have r:Rep G z M:=GX G q;have f:(getObj b).run P w=.ok (.map es c) w:=by simp[getObj,Sem.run,K]
 unfold ny at h;split at h<;>try (cases h;done)
 ·rename_i j o;obtain⟨m,s⟩:=vM l x ks es.toList 0 (some j) o A;obtain⟨_,F⟩:=s j rfl;simp only[an3]at h;obtain⟨N,n,rfl⟩:=h;obtain⟨v,I,g⟩:=L.get j n;have p:es[j]?.map (·.val)=some v:=by simpa using I
  refine⟨_,?_,M9 (ok:=ok) true g⟩;unfold Instr.lookup Instr.findKey;simp only[amD,amy y,amv,f,amQ,sc l a,amy a,m,anT,apZ];have:(es.toList[j]?.map (·.val)).getD undef=v:=by
   have C:es.toList[j]?=es[j]? :=by simp
   rw[C,p];rfl
  rw[this]
 ·rename_i o;obtain⟨m,s⟩:=vM l x ks es.toList 0 none o A;cases h;refine⟨_,?_,M9 (ok:=ok) false r⟩;unfold Instr.lookup Instr.findKey;simp[amy y,f,sc l a,amy a,m,zeroValue,typeInfo,E,J]
def Z9(E:Rel B G σ w){t:TypeId}{z:D}(A:AL P t=some (Z,z)){ok:Bool}{m k d:D}{mv W:Value}(h:AM σ Z z ok m k=some d)(g:Rep G m mv)(I:Rep G k W):
 ∃u,(Instr.lookup t mv W ok).run P w=.ok u w/\Rep G d u:=by
 cases m<;>simp only[AM]at h<;>try (cases h;done)
 ·rename_i l;split at h<;>try (cases h;done)
  rename_i c f J;simp only[Rep]at g;obtain⟨b,X,rfl⟩:=g;obtain⟨U,o1,o2,o3⟩:=E.obj _ _ b J X;exact DG A h o1.1 o2 o3 I
 ·split at h<;>try (cases h;done)
  obtain⟨kt,e,kd,i,zv,hu,r,hl,Y,C,O⟩:=DF A;have Q:Rep G z zv:=GX G O;cases h;simp only[Rep]at g;subst g;refine⟨_,?_,M9 (ok:=ok) false Q⟩;unfold Instr.lookup Instr.findKey;simp[amy hu,sc hl r,amy r,Instr.findNow,zeroValue,typeInfo,Y,C]
 ·simp only[Rep]at g;obtain⟨b,U,rfl,q,x,y⟩:=g;obtain⟨F,_⟩:=E.mimm _ _ q;exact DG A h F x y I
 ·rename_i c f;simp only[Rep]at g;obtain⟨b,U,π,rfl,q,R,x,y⟩:=g;obtain⟨F,_⟩:=E.mimm _ _ q;unfold xZ at h;split at h<;>try (cases h;done)
  rename_i o;split at h<;>try (cases h;done)
  split at h<;>try (cases h;done)
  obtain⟨o,M⟩:=G7 o;have V:c.length=f.length:=by rw[x.length,y.length];simp
  have v:(c.zip f).map (·.1)=c:=apL omq;have T:(c.zip f).map (·.2)=f:=apM omq;have L:G6 G (c.zip f) π:=⟨by rw[v];exact x,by rw[T];exact y⟩;obtain⟨S,p1,p2,p3⟩:=OB R L;have C:∀p∈c.zip f,kP p.1=true:=λp K=>o _ (by rw[<-v];exact anh.2 ⟨p,K,rfl⟩);have N:∀p∈S,kP p.1=true:=λp K=>C p (p1.subset K);have s:(c.zip f).Pairwise λa b=>fA a.1≠fA b.1:=by
   have j:((c.zip f).map (·.1)).Pairwise λa b=>fA a≠fA b:=by rw[v];exact M
   rw[List.pairwise_map]at j;exact j
  have H:=vO (z:=z) (ok:=ok) (n:=‹Int›) C;rw[v,T,h]at H;rw[Mm p1.symm s,<-vO N]at H;exact DG A H.symm F p2 p3 I
def Ua(σ:List am)(lk:LK)(m k x:D):Option (List am):=
 match m with
 |.map l=>match σ[l]? with
  |some (.map a b)=>match iM lk k a 0 with
   |some (some i)=>some (σ.set l (.map a (b.set i x)))
   |some none=>if k.isCell=true then some (σ.set l (.map (a++[k]) (b++[x]))) else none
   |none=>none
  |_=>none
 |_=>none
end
end Go.Fw
def am5:=@Array.getElem?_toList
def anu:=@List.map_append
def anG:=@List.map_nil
def anR:=@beq_iff_eq
def an8:=@Int.toNat_of_nonneg
def aoq:=@Array.getElem?_setIfInBounds_ne
def aot:=@List.set_cons_zero
def ao2:=@List.set_cons_succ
def apB:=@decide_eq_false_iff_not
def apQ:=@Bool.or_eq_false_iff
def apV:=@Int.natCast_mul
def aqd:=@beq_self_eq_true
namespace Go.Fw
open Go.RowKit
section
variable {P:Program}{B:bL P}{G:Gh}{σ:List am}{w:World}
variable{Z X:Value}{Y:LK}
def Ml{k:D}(d:Rep G k Z):∀(ks:List D)(es:List MapEntry)(i j:Nat),iM Y k ks i=some (some j)->af G ks (es.map (·.key))->
 ∃e,es[j-i]?=some e/\e.key=Z/\i<=j/\Instr.sameBits 10000 e.key Z=true
 |[],es,i,j,h,c=>by simp[iM]at h
 |a::l,es,i,j,h,c=>by
  match es,c with
  |[],c=>simp only[anG,af]at c;obtain⟨_,_,h,_⟩:=c;cases h
  |e::es,c=>
   simp only[amz,af]at c;obtain⟨v,t,r,f,q⟩:=c;cases r;simp only[iM]at h;split at h<;>try (cases h;done)
   ·rename_i b;simp only[amn]at h;subst h;refine⟨e,by simp,?_⟩;cases Y<;>cases k<;>cases a<;>simp only[iA]at b<;>try (cases b;done)
    all_goals simp only[Rep]at d f
    ·subst d;rw[f];simp only[amn,anR]at b;subst b;exact⟨rfl,amt _,by simp[Instr.sameBits]⟩
    ·subst d;rw[f];split at b<;>try (cases b;done)
     rename_i g;subst g;simp only[amn,anR]at b;subst b;exact⟨rfl,amt _,by simp[Instr.sameBits]⟩
    ·subst d;rw[f];simp only[amn,anR]at b;subst b;exact⟨rfl,amt _,by simp only[Instr.sameBits,beq_toListBytes,aqd]⟩
   ·obtain⟨m,n,o,s,p⟩:=Ml d l es (i+1) j h q;refine⟨m,?_,o,omq,p⟩;have:j-i=(j-(i+1))+1:=omq;rw[this,anE];exact n
def af.set{G:Gh}:∀{ds:List D}{vs:List Value}(i:Nat){d:D}{v:Value},af G ds vs->Rep G d v->af G (ds.set i d) (vs.set i v)
 |[],_,_,_,_,h,_=>by simp only[af]at h;subst h;simp[af]
 |_::_,_,0,_,_,h,b=>by
  simp only[af]at h;obtain⟨_,r,rfl,_,a⟩:=h;simp only[aot,af];exact⟨_,r,rfl,b,a⟩
 |_::_,_,i+1,_,_,h,b=>by
  simp only[af]at h;obtain⟨v,r,rfl,c,a⟩:=h;simp only[ao2,af];exact⟨v,_,rfl,c,af.set i a b⟩
def AI(i:Rel B G σ w){l b:Nat}{ob a:am}(N:σ[l]?=some ob)(s:G.blk l 0=some b){o o':Obj}(F:w.heap[b]?=some o)(p:ob.ver=0)(h:a.ver=0)(z:a.len=0)(y:a.frz=0)
 (j:∀r t f,o≠.cells r t f)(D:∀r f u,a≠.cells r f u)(C:G.mimm b=none)(m:∀K:World,K.heap[b]?=some o'->pl G K b a):
 Rel B G (σ.set l a) {w with heap:=w.heap.setIfInBounds b o'}:=by
 have A:=bD F;have d:∀k,k≠b->(w.heap.setIfInBounds b o')[k]?=w.heap[k]? :=λk J=>aoq (an9 J);have g:(w.heap.setIfInBounds b o')[b]?=some o':=by simp[A]
 have M:=(i.blk _ _ _ s).2.1;refine i.update N (by rw[p];exact s) (.refl G) (λ_ _ _ x=>.inl x) (by rw[h];exact s) ?_ rfl rfl ?_ siq d ?_ C (m _ g) (λr L u e=>absurd e (D _ _ _)) omq omq
 ·intro q Q v I;refine⟨?_,λ_=>I⟩;have c:=i.imm _ _ _ I;have E:q≠b:=by
   rintro rfl;unfold World.cell? at c;rw[F]at c;cases o<;>first|exact absurd rfl (j _ _ _)|simp at c
  unfold World.cell? at c⊢;have:({w with heap:=w.heap.setIfInBounds b o'}:World).heap[q]?=w.heap[q]? :=d q E;simp only[this];exact c
 ·exact i.below.trans ⟨rfl,rfl,rfl,by simp,λk J=>d k omq⟩
 ·intro n O;obtain⟨S,R,f,H,_⟩:=i.siz _ _ O;rw[F]at H;cases H;exact absurd rfl (j _ _ _)
def ZY(F:Rel B G σ w){t:TypeId}{z:D}(ht:AL P t=some (Y,z)){m k x:D}{mv g n:Value}{σ':List am}(h:Ua σ Y m k x=some σ')(V:Rep G m mv)(J:Rep G k g)(X:Rep G x n):
 ∃L,(Instr.mapUpdate t mv g n).run P w=.ok () L/\Rel B G σ' L:=by
 obtain⟨kt,e,kd,i,zv,W,o,K,hi,hz,j3⟩:=DF ht;cases m<;>simp only[Ua]at h<;>try (cases h;done)
 rename_i l;split at h<;>try (cases h;done)
 rename_i S vs p;simp only[Rep]at V;obtain⟨b,H,rfl⟩:=V;obtain⟨a,⟨C,u⟩,E,Z⟩:=F.obj _ _ b p H;generalize Q:a.size=c at C;have v:(getObj b).run P w=.ok (.map a c) w:=by simp[getObj,Sem.run,C]
 have A:∀o',(setObj b o').run P w=.ok () {w with heap:=w.heap.setIfInBounds b o'}:=λo'=>by simp[setObj,Sem.run,C]
 have y:G.mimm b=none:=F.ownm _ _ _ _ p H;split at h<;>try (cases h;done)
 ·rename_i j I;cases h;obtain⟨N,g2⟩:=vM K J S a.toList 0 (some j) I E;obtain⟨U,T,e2,_,e4⟩:=Ml J S a.toList 0 j I E;simp only[apZ]at T;have f:a[j]?=some U:=by simpa using T
  have r:(Instr.keyThatStays (((a[j]?).map (·.key)).getD g) g).run P w=.ok g w:=by
   rw[f];simp only[anT,Option.getD_some];unfold Instr.keyThatStays;rw[e4];rfl
  refine⟨_,?_,AI F p H C rfl rfl rfl rfl siq siq y (o':=.map (a.modify j λe=>{e with key:=g,val:=n}) c) ?_⟩
  ·unfold Instr.mapUpdate Instr.findKey;simp only[amD,amy W,amv,v,sc K o,amy o,N,anT,amQ,r,A]
  ·intro L s;refine⟨a.modify j λe=>{e with key:=g,val:=n},⟨by rw[s];simp[Q],λq M d=> ?_⟩,?_,?_⟩
   ·rw[ao9]at d;by_cases e:j=q
    ·subst e;simp only[ano,f,anT,amn]at d;rw[<-d];exact u j U f
    ·simp only[e,ani]at d;exact u q M d
   ·have:(a.modify j λe=>{e with key:=g,val:=n}).toList.map (·.key)=a.toList.map (·.key):=by
     apply anQ;intro q;simp only[anq,am5,ao9];by_cases d:j=q
     ·subst d;simp[f,e2]
     ·simp[d]
    rw[this];exact E
   ·have:(a.modify j λe=>{e with key:=g,val:=n}).toList.map (·.val)=(a.toList.map (·.val)).set j n:=by
     apply anQ;intro q;simp only[anq,am5,ao9];by_cases d:j=q
     ·subst d;have R:j<a.size:=by
       rcases amB j a.size with O|O
       ·exact O
       ·rw[aoJ O]at f;cases f
      rw[ana (by simpa using R)];simp[f]
     ·rw[am2 d];simp[d]
    rw[this];exact Z.set j X
 ·rename_i I;split at h<;>try (cases h;done)
  cases h;obtain⟨N,g2⟩:=vM K J S a.toList 0 none I E;refine⟨_,?_,AI F p H C rfl rfl rfl rfl siq siq y (o':=.map (a.push {key:=g,val:=n,born:=c}) (c+1)) ?_⟩
  ·unfold Instr.mapUpdate Instr.findKey;simp only[amD,amy W,amv,v,sc K o,amy o,N,Option.map_none,amQ,A]
  ·intro L s;refine⟨a.push {key:=g,val:=n,born:=c},⟨by rw[s];simp[Q],λq M d=> ?_⟩,?_,?_⟩
   ·rw[apo]at d;split at d
    ·rename_i e;cases d;rw[<-Q];exact e.symm
    ·exact u q M d
   ·simp only[Array.toList_push,anu,amz,anG];exact E.append (by simp only[af];exact⟨g,[],rfl,J,rfl⟩)
   ·simp only[Array.toList_push,anu,amz,anG];exact Z.append (by simp only[af];exact⟨n,[],rfl,X,rfl⟩)
def Sy(a:Option (List D×Nat))(d:Option (Nat×Nat))(σ:List am)(l c:D):Option (D×List am):=
 match a,d,kC l,kC c with
 |some (z,e),some (_,b),some n,some m=>
  if 0<=n/\n<=m/\m<=bj/\m.toNat*b<=bj then some (.sl σ.length 0 0 n.toNat e (decide (n=m)),σ++[.cells (iz z n.toNat) 0 0]) else none
 |_,_,_,_=>none
def T4(z:List D):∀a b,iz z (a+b)=iz z a++iz z b
 |0,b=>by simp[iz]
 |a+1,b=>by rw[show a+1+b=(a+b)+1 from omq,iz,iz,T4 z a b,amL]
def af.split{G:Gh}:∀{ds es:List D}{vs:List Value},af G (ds++es) vs->∃a b,vs=a++b/\af G ds a/\af G es b
 |[],_,vs,h=>⟨[],vs,rfl,by simp[af],h⟩
 |d::ds,es,vs,h=>by
  simp only[anf,af]at h;obtain⟨v,r,rfl,c,e⟩:=h;obtain⟨a,b,rfl,f,g⟩:=af.split e;exact⟨v::a,b,rfl,by simp only[af];exact⟨v,a,rfl,c,f⟩,g⟩
def T5(hR:Rel B G σ w){t:TypeId}{l c d:D}{σ':List am}{p:Option (List D×Nat)}{C:Option (Nat×Nat)}(q:∀x,p=some x->JQ P t=some x)(A:∀x,C=some x->xF P t=some x)(h:Sy p C σ l c=some (d,σ'))(hl:Rep G l Z)(hc:Rep G c X):
 ∃u W o,(Instr.makeSlice t Z X).run P w=.ok u W/\G.Le o/\Rel B o σ' W/\Rep o d u:=by
 unfold Sy at h;split at h<;>try (cases h;done)
 rename_i z sz j3 Y n m hn hm;have a:=q _ rfl;have L:=A _ rfl;split at h<;>try (cases h;done)
 rename_i I;obtain⟨h0,h1,E,T⟩:=I;cases h;obtain⟨k1,rfl⟩:=qb hn hl;obtain⟨k2,rfl⟩:=qb hm hc;obtain⟨e,i,V,s,_,H⟩:=GZ L;unfold JQ at a;rw[V]at a;simp only at a;split at a<;>try (cases a;done)
 rename_i z' i' hz y;rw[s]at y;cases y;split at a<;>try (cases a;done)
 rename_i Q;obtain⟨R,U⟩:=Q;cases a;obtain⟨j5,v,g,hv,r⟩:=lJ hz;rw[s]at g;cases g;have S:=nw G r;have j:=M5 S m.toNat;rw[R]at j;have b:iz z m.toNat=iz z n.toNat++iz z (m.toNat-n.toNat):=by
  rw[<-T4];congr 1;omega
 rw[b]at j;obtain⟨hd,tl,M,K,_⟩:=j.split;obtain⟨o,g1,g2,g3,g4⟩:=DD hR K tl e ((Array.range (m.toNat*i.size)).map (v.cells[· % v.cells.size]!)) M;have N:IntKind.i64.wrap n=n:=IntWalk.i64_in n (by unfold bj at E;omega);have O:IntKind.i64.wrap m=m:=IntWalk.i64_in m (by unfold bj at E;omega);refine⟨.slice (some ⟨w.heap.size,0,none⟩) n.toNat m.toNat,_,o,?_,g1,g2,?_⟩
 ·unfold Instr.makeSlice;have J:(m.toNat:Int)=m:=an8 omq;have F:¬((i.bytes:Int)*m>2 ^ 48):=by
   have:((m.toNat*i.bytes:Nat):Int)<=(bj:Int):=by
    rw[<-H]at T;exact Int.ofNat_le.2 T
   rw[apV,J,Int.mul_comm]at this;unfold bj at this;omega
  simp only[amy V,amD,asInt,asIntOf,amQ,amv,typeInfo,anM,s,N,O];have c1:((decide (m<0)||decide ((i.bytes:Int)*m>2 ^ 48))||decide (n<0)||decide (n>m))=false:=by
   simp only[apQ,apB];refine⟨⟨⟨omq,F⟩,omq⟩,omq⟩
  rw[am4 (by rw[c1];simp)];simp only[run_askRoom,amv,sizeOf,typeInfo,amD,anM,s,amQ];by_cases k:m.toNat*i.size=0
  ·have j4:m.toNat=0:=by
    rcases apW.1 k with h|h<;>omega
   have e0:∀f:Nat->Value,Array.map f (Array.range 0)= #[]:=by intro f;simp
   simp only[k,ano,amQ,amv,e0,newRow,amD,ao1];rfl
  ·simp only[k,ani,amD,zeroValue,typeInfo,anM,amv,s,amQ,hv,newRow,ao1];rfl
 ·simp only[Rep];refine .inl ⟨w.heap.size,m.toNat,_,g3,rfl,omq,by unfold bj at E;omega,?_,g4,?_⟩
  ·intro hf;simp only[amX]at hf;omega
  ·simp
def V5(f:Rel B G σ w){t:TypeId}(g:P.underlying t=some .string)(s:List UInt8):
 ∃u c a,(Instr.range t (.string ⟨s.toArray⟩)).run P w=.ok u c/\G.Le a/\Rel B a (σ++[.siter s 0]) c/\Rep a (.ptr σ.length 0 0) u:=by
 obtain⟨d,e⟩:=f.bindOther (.stringIter ⟨s.toArray⟩ 0) (.siter s 0) siq (λa _ c b=>b);refine⟨.pointer (some ⟨w.heap.size,0,none⟩),_,_,?_,d,e,by simp only[Rep];exact⟨_,by simp[Gh.bind0],rfl⟩⟩;unfold Instr.range;simp[amy g]
def Cj(σ:List am)(a:D):Option (D×List am):=
 match a with
 |.ptr l 0 0=>match σ[l]? with
  |some (.siter s pos)=>
   if pos<s.length then
    some (.tuple [.bool true,.int .i64 pos,.int .i32 (Utf8.decode ⟨s.toArray⟩ pos).1],σ.set l (.siter s (pos+(Utf8.decode ⟨s.toArray⟩ pos).2)))
   else some (.tuple [.bool false],σ)
  |_=>none
 |_=>none
def X6(g:Rel B G σ w){q d:D}{σ':List am}{v:Value}(ty:TypeId)(h:Cj σ q=some (d,σ'))(p:Rep G q v):
 ∃u m,(Instr.next v true ty).run P w=.ok u m/\Rel B G σ' m/\Rep G d u:=by
 unfold Cj at h;split at h<;>try (cases h;done)
 rename_i l;split at h<;>try (cases h;done)
 rename_i s a f;simp only[Rep]at p;obtain⟨b,n,rfl⟩:=p;have i:w.heap[b]?=some (.stringIter ⟨s.toArray⟩ a):=g.obj _ _ b f n;have e:(getObj b).run P w=.ok (.stringIter ⟨s.toArray⟩ a) w:=by simp[getObj,Sem.run,i]
 have j:G.mimm b=none:=by
  cases r:G.mimm b with
  |none=>rfl
  |some t=>
   obtain⟨o,_⟩:=g.mimm _ _ r;rw[i]at o;cases o
 split at h
 ·rename_i c;cases h;refine⟨.tuple #[.bool true,goInt a,.int .i32 (Utf8.decode ⟨s.toArray⟩ a).1],_,?_,AI g f n i rfl rfl rfl rfl siq siq j (o':=.stringIter ⟨s.toArray⟩ (a+(Utf8.decode ⟨s.toArray⟩ a).2)) (λm k=>k),?_⟩
  ·unfold Instr.next;simp only[amD,e,amv,nV,c,ano];have:(setObj b (.stringIter ⟨s.toArray⟩ (a+(Utf8.decode ⟨s.toArray⟩ a).2))).run P w=.ok () {w with heap:=w.heap.setIfInBounds b (.stringIter ⟨s.toArray⟩ (a+(Utf8.decode ⟨s.toArray⟩ a).2))}:=by simp[setObj,Sem.run,i]
   simp only[this,amv,amQ]
  ·simp only[Rep,af];exact⟨_,rfl,_,_,rfl,rfl,_,_,rfl,rfl,_,_,rfl,rfl,rfl⟩
 ·rename_i c;cases h;refine⟨.tuple #[.bool false],w,?_,g,by simp only[Rep,af];exact⟨_,rfl,_,_,rfl,rfl,rfl⟩⟩;unfold Instr.next;simp only[amD,e,amv,nV,c,ani,amQ]
end
end Go.Fw
def anC:=@List.eq_nil_iff_forall_not_mem
def ao7:=@List.mem_filter
def apv:=@Nat.eq_zero_or_pos
def aqa:=@bne_self_eq_false
def aqh:=@bne_iff_ne
namespace Go.Fw
open Go.RowKit
section
variable {P:Program}{B:bL P}{G:Gh}{σ σ' :List am}{w:World}
def V6(l:Rel B G σ w){t k e:TypeId}(s:P.underlying t=some (.map k e)){ks vs:List D}{v:Value}(n:Rep G (.cmap ks vs) v):
 ∃u i f,(Instr.range t v).run P w=.ok u i/\G.Le f/\Rel B f (σ++[.miter ks vs (List.range ks.length) none]) i/\Rep f (.ptr σ.length 0 0) u:=by
 simp only[Rep]at n;obtain⟨b,c,rfl,m,j,q⟩:=n;obtain⟨r,_⟩:=l.mimm _ _ m;have d:ks.length=c.size:=by have:=j.length;simpa using this
 obtain⟨o,p⟩:=l.bindOther (.mapIter (some b) c.size #[] c.size) (.miter ks vs (List.range ks.length) none) siq
  (λf a i h=>⟨b,c,#[],h,a.mimm _ _ m,af.mono a _ _ j,af.mono a _ _ q,by simp[d],by simp⟩)
 refine⟨.pointer (some ⟨w.heap.size,0,none⟩),_,_,?_,o,p,by simp only[Rep];exact⟨_,by simp[Gh.bind0],rfl⟩⟩;have g:(getObj b).run P w=.ok (.map c c.size) w:=by simp[getObj,Sem.run,r]
 unfold Instr.range;simp[amy s,g]
def ZZ(n:Nat)(c:0<n):∃k a,(choose (.mapNext n)).run P w=.ok k a/\k<n/\(a=w∨a=w.drew):=by
 have h:(choose (.mapNext n)).run P w=if (Question.mapNext n).forced then .ok 0 w else .ok ((Question.mapNext n).cut (w.tape w.drawn (.mapNext n))) {w with drawn:=w.drawn+1}:=rfl
 by_cases b:(Question.mapNext n).forced=true
 ·exact⟨0,w,by rw[h,amE b],c,.inl rfl⟩
 ·exact⟨(w.tape w.drawn (.mapNext n)) % n,w.drew,by rw[h,am4 b];rfl,Nat.mod_lt _ c,.inr rfl⟩
def X7(E:Rel B G σ w){l:Nat}{ks vs:List D}{p:List Nat}{Z:Option Nat}{v:Value}(ty:TypeId)(hl:σ[l]?=some (.miter ks vs p Z))(hv:Rep G (.ptr l 0 0) v):
 ∃u Y,(Instr.next v false ty).run P w=.ok u Y/\
  ((p=[]/\Rel B G σ Y/\Rep G (.tuple [.bool false]) u)∨
   (∃i a b,i∈p/\ks[i]?=some a/\vs[i]?=some b/\Rel B G (σ.set l (.miter ks vs (p.filter (· !=i)) (some i))) Y/\Rep G (.tuple [.bool true,a,b]) u)):=by
 simp only[Rep]at hv;obtain⟨b,hb,rfl⟩:=hv;obtain⟨m,d,seen,o1,o2,o3,o4,o5,o6⟩:=E.obj _ _ b hl hb;obtain⟨hm,g⟩:=E.mimm _ _ o2;have K:(getObj b).run P w=.ok (.mapIter (some m) d.size seen d.size) w:=by simp[getObj,Sem.run,o1]
 have J:(getObj m).run P w=.ok (.map d d.size) w:=by simp[getObj,Sem.run,hm]
 have o:(!seen.isEmpty&& !d.isEmpty&&d.all (·.born>=d.size))=false:=by
  by_cases f:d.isEmpty=true
  ·simp[f]
  ·have t:0<d.size:=by
    rcases apv d.size with h|h
    ·exact absurd (by simp[Array.isEmpty,h]) f
    ·exact h
   have:d.all (·.born>=d.size)=false:=by
    rw[Array.all_eq_false];refine⟨0,t,?_⟩;have:=g 0 d[0] (amK t);rw[amX,this];omega
   simp[this]
 have S:∀(l:Array MapEntry),(∀e∈l,e∈d)->l.filter (·.born<d.size)=l/\l.filter (·.born>=d.size)= #[]:=by
  intro l j6;have R:∀e∈l,e.born<d.size:=by
   intro e f;obtain⟨i,s,rfl⟩:=Array.getElem_of_mem (j6 e f);rw[g i _ (amK s)];exact s
  constructor
  ·rw[Array.filter_eq_self];intro e f;simpa using R e f
  ·rw[Array.filter_eq_empty_iff];intro e f;simpa using R e f
 generalize n:(d.filter λe=> !seen.contains e.born)=left;have x:∀e∈left,e∈d/\seen.contains e.born=false:=by
  intro e f;rw[<-n,Array.mem_filter]at f;exact⟨f.1,by simpa using f.2⟩
 obtain⟨O,Q⟩:=S left λe f=>(x e f).1;have y:0<((if left.isEmpty then #[none] else #[])++(left++ #[]).map some:Array (Option MapEntry)).size:=by
  by_cases f:left.isEmpty=true
  ·simp[f];omega
  ·have:0<left.size:=by
    rcases apv left.size with h|h
    ·exact absurd (by simp[Array.isEmpty,h]) f
    ·exact h
   simp[f];exact this
 obtain⟨k,A,hk,M,W⟩:=ZZ (P:=P) (w:=w) _ y;have F:Rel B G σ A:=by rcases W with rfl|rfl;exact E;exact E.drew
 have z:A.heap=w.heap:=by rcases W with rfl|rfl<;>rfl
 have X:A.heap[b]?=some (.mapIter (some m) d.size seen d.size):=by rw[z];exact o1
 have j7:G.mimm b=none:=by
  cases hx:G.mimm b with
  |none=>rfl
  |some m5=>
   obtain⟨r,_⟩:=E.mimm _ _ hx;rw[o1]at r;cases r
 obtain⟨c,r⟩:∃c,((if left.isEmpty then #[none] else #[])++(left++ #[]).map some:Array (Option MapEntry))[k]?=some c:=⟨_,amK M⟩;cases c with
 |none=>
  refine⟨.tuple #[.bool false],A,?_,.inl ⟨?_,F,by simp only[Rep,af];exact⟨_,rfl,_,_,rfl,rfl,rfl⟩⟩⟩
  ·unfold Instr.next;simp only[amD,K,amv,J,o,ang,ani,n,O,Q,hk,r,amQ]
  ·have I:left= #[]:=by
    by_cases f:left.isEmpty=true
    ·simpa using f
    ·rw[am4 f]at r;simp at r
   rw[anC];intro i s;obtain⟨C,q⟩:=(o5 i).1 s;have:d[i]∈left:=by
    rw[<-n,Array.mem_filter];exact⟨Array.getElem_mem _,by rw[g i _ (amK C)];simpa using q⟩
   rw[I]at this;simp at this
 |some e=>
  have j3:e∈left:=by
   have:=Array.mem_of_getElem? r;simp only[Array.mem_append,Array.mem_map,amn,exists_eq_right]at this;rcases this with h|h
   ·split at h<;>simp at h
   ·simpa using h
  obtain⟨j4,T⟩:=x e j3;obtain⟨i,s,rfl⟩:=Array.getElem_of_mem j4;have H:=g i _ (amK s);rw[H]at T;have L:i<ks.length:=by have:=o3.length;simp at this;omega
  have U:i<vs.length:=by have:=o4.length;simp at this;omega
  obtain⟨kv,N,j5⟩:=o3.get i (aml L);obtain⟨vv,V,j9⟩:=o4.get i (aml U);simp[s]at N V;subst N V;refine⟨.tuple #[.bool true,d[i].key,d[i].val],_,?_,.inr ⟨i,ks[i],vs[i],(o5 i).2 ⟨s,T⟩,aml L,aml U,
   AI F hl hb X rfl rfl rfl rfl siq siq j7 (o':=.mapIter (some m) d.size (seen.push i) d.size) (λY k9=>⟨m,d,seen.push i,k9,o2,o3,o4,λj=> ?_,λj hj=> ?_⟩),
   by simp only[Rep,af];exact⟨_,rfl,_,_,rfl,rfl,_,_,rfl,j5,_,_,rfl,j9,rfl⟩⟩⟩
  ·unfold Instr.next;have j8:(setObj b (.mapIter (some m) d.size (seen.push d[i].born) d.size)).run P A=.ok () {A with heap:=A.heap.setIfInBounds b (.mapIter (some m) d.size (seen.push i) d.size)}:=by
    rw[H];simp[setObj,Sem.run,X]
   simp only[amD,K,amv,J,o,ang,ani,n,O,Q,hk,r,j8,amQ]
  ·simp only[ao7,o5 j,aqh,ne_eq];constructor
   ·rintro⟨⟨C,q⟩,h3⟩;refine⟨C,?_⟩;simp at q⊢;exact⟨q,h3⟩
   ·rintro⟨C,q⟩;simp at q⊢;exact⟨⟨C,q.1⟩,q.2⟩
  ·cases hj;simp
def Ov(σ:List am)(c:D):Option D:=
 match c with
 |.ptr l 0 0=>match σ[l]? with
  |some (.miter d e _ (some i))=>match d[i]?,e[i]? with
   |some a,some b=>some (.tuple [a,b])
   |_,_=>none
  |_=>none
 |_=>none
def V7(x:Rel B G σ w){z d:D}{v:Value}(h:Ov σ z=some d)(y:Rep G z v):∃u,(Instr.entry v).run P w=.ok u w/\Rep G d u:=by
 unfold Ov at h;split at h<;>try (cases h;done)
 rename_i l;split at h<;>try (cases h;done)
 rename_i Q T N i F;split at h<;>try (cases h;done)
 rename_i a c A E;cases h;simp only[Rep]at y;obtain⟨b,C,rfl⟩:=y;obtain⟨m,e,seen,I,J,K,L,S,M⟩:=x.obj _ _ b F C;obtain⟨H,f⟩:=x.mimm _ _ J;have q:(getObj b).run P w=.ok (.mapIter (some m) e.size seen e.size) w:=by simp[getObj,Sem.run,I]
 have p:(getObj m).run P w=.ok (.map e e.size) w:=by simp[getObj,Sem.run,H]
 obtain⟨R,g,s⟩:=K.get i A;obtain⟨U,n,t⟩:=L.get i E;have r:i<e.size:=by
  rcases amB i e.size with o|o
  ·exact o
  ·rw[amC (by simpa using o)]at g;cases g
 simp[r]at g n;subst g n;have k:e.find? (·.born==i)=some e[i]:=by
  rw[Array.find?_eq_some_iff_getElem];refine⟨by simp[f i _ (amK r)],i,r,rfl,λj O=> ?_⟩;have:=f j e[j] (amK omq);simp[this];omega
 refine⟨.tuple #[e[i].key,e[i].val],?_,by simp only[Rep,af];exact⟨_,rfl,_,_,rfl,s,_,_,rfl,t,rfl⟩⟩;unfold Instr.entry;simp only[amD,q,amv,M i rfl,p,aqa,ang,ani,k,amQ]
end
end Go.Fw
def ams:=@Array.getD_eq_getD_getElem?
def amx:=@Nat.le_of_ble_eq_true
def am6:=@List.mem_append
def anL:=@Nat.eq_of_beq_eq_true
namespace Go.Fw
open Go.RowKit
def get:List (Nat×D)->Nat->Option D
 |[],_=>none
 |(i,d)::r,t=>if i=t then some d else get r t
structure dD(G:Gh)(N:Nat)(τ:List (Nat×D))(a:Act):Prop where
 size:a.tmps.size=N
 defers:a.defers=[]
 slot:∀t d,get τ t=some d->Rep G d (a.tmps.getD t undef)
def dD.mono{G G':Gh}{N:Nat}{τ:List (Nat×D)}{a:Act}(h:dD G N τ a)(b:G.Le G'):dD G' N τ a:=
 ⟨h.size,h.defers,λt d c=>Rep.mono b _ _ (h.slot t d c)⟩
def dD.sub{G:Gh}{N:Nat}{τ τ':List (Nat×D)}{a:Act}(h:dD G N τ a)(b:∀t d,get τ' t=some d->get τ t=some d):dD G N τ' a:=
 ⟨h.size,h.defers,λt d c=>h.slot t d (b t d c)⟩
def dD.put{G:Gh}{N:Nat}{τ:List (Nat×D)}{a:Act}(h:dD G N τ a){t:Nat}(g:t<N){d:D}{v:Value}(i:Rep G d v):dD G N ((t,d)::τ) (a.put (some t) v):=by
 refine⟨by simp[Act.put,h.size],h.defers,λc f b=> ?_⟩;simp only[get]at b;simp only[Act.put];by_cases e:t=c
 ·subst e;simp only[ano,amn]at b;subst b;have:t<a.tmps.size:=by rw[h.size];exact g
  simp[ams,this,i]
 ·simp only[e,ani]at b;have:=h.slot c f b;simpa[ams,aoq e] using this
def ev(τ:List (Nat×D)):Operand->Option D
 |.tmp t=>get τ t
 |.const v=>Fo v
 |.func f=>some (.func (.func f) [] [])
 |.global _=>none
def bo{G:Gh}{N:Nat}{τ:List (Nat×D)}{a:Act}(h:dD G N τ a){x:Operand}{d:D}(b:ev τ x=some d):Rep G d (a.eval x):=by
 cases x<;>simp only[ev]at b
 ·exact h.slot _ _ b
 ·exact GX G b
 ·cases b
 ·cases b;simp only[Act.eval,Rep,af];exact⟨_,_,rfl,rfl,rfl⟩
def evs(τ:List (Nat×D)):List Operand->Option (List D)
 |[]=>some []
 |x::b=>match ev τ x with
  |some d=>match evs τ b with
   |some a=>some (d::a)
   |none=>none
  |none=>none
def Bi{G:Gh}{N:Nat}{τ:List (Nat×D)}{a:Act}(h:dD G N τ a):∀{xs:List Operand}{ds:List D},evs τ xs=some ds->af G ds (xs.map a.eval)
 |[],_,b=>by simp only[evs,amn]at b;subst b;simp[af]
 |x::xs,_,b=>by
  simp only[evs]at b;split at b<;>try (cases b;done)
  rename_i d e;split at b<;>try (cases b;done)
  rename_i ds c;cases b;simp only[amz,af];exact⟨_,_,rfl,bo h e,Bi h c⟩
def evo(τ:List (Nat×D)):Option Operand->Option (Option D)
 |none=>some none
 |some x=>match ev τ x with
  |some d=>some (some d)
  |none=>none
def SW{G:Gh}{N:Nat}{τ:List (Nat×D)}{a:Act}(h:dD G N τ a){x:Option Operand}{d:Option D}(b:evo τ x=some d):ah5 G d (x.map a.eval):=by
 cases x with
 |none=>simp only[evo,amn]at b;subst b;trivial
 |some x=>
  simp only[evo]at b;split at b<;>try (cases b;done)
  rename_i e c;cases b;exact bo h c
def evp(τ:List (Nat×D)):List (Nat×Operand)->Option (List (Nat×D))
 |[]=>some []
 |(i,x)::b=>match ev τ x with
  |some d=>match evp τ b with
   |some a=>some ((i,d)::a)
   |none=>none
  |none=>none
def NR{G:Gh}{N:Nat}{τ:List (Nat×D)}{a:Act}(h:dD G N τ a):∀{xs:List (Nat×Operand)}{ds:List (Nat×D)},evp τ xs=some ds->
 ds.length=xs.length/\∀(j i:Nat)(d:D),ds[j]?=some (i,d)->∃v,(xs.map λ(i,x)=>(i,a.eval x))[j]?=some (i,v)/\Rep G d v
 |[],_,b=>by simp only[evp,amn]at b;subst b;simp
 |(i,x)::xs,_,b=>by
  simp only[evp]at b;split at b<;>try (cases b;done)
  rename_i d l;split at b<;>try (cases b;done)
  rename_i ds e;cases b;obtain⟨g,k⟩:=NR h e;refine⟨by simp[g],λj m f c=> ?_⟩;cases j with
  |zero=>
   simp only[apy,amn,amJ]at c;obtain⟨rfl,rfl⟩:=c;exact⟨_,rfl,bo h l⟩
  |succ j=>
   simp only[anE]at c;simpa using k j m f c
inductive SK where
 |slice(sz:Nat)|string|array(n sz:Nat)
def AZ(P:Program)(t:TypeId):Option SK:=
 match P.underlying t with
 |some .string=>some .string
 |some (.slice _)=>(xF P t).map λx=>.slice x.1
 |some (.array _ _)=>match KP P t with
  |some (n,a)=>if n<=9223372036854775807 then some (.array n a) else none
  |none=>none
 |_=>none
inductive IK where
 |slice(sz:Nat)|array(n sz:Nat)
def Sn(P:Program)(t:TypeId):Option IK:=
 match P.underlying t with
 |some (.slice _)=>(xF P t).map λx=>.slice x.1
 |some (.array _ _)=>(KP P t).map λx=>.array x.1 x.2
 |_=>none
inductive IVK where
 |string|array(len n:Nat)(agg:Bool)
def NT(P:Program)(t:TypeId):Option IVK:=
 match P.underlying t with
 |some .string=>some .string
 |some (.array len e)=>match vG P e with
  |some (n,b)=>some (.array len n b)
  |none=>none
 |_=>none
inductive Tr(α:Type) where
 |nil
 |node(l:Tr α)(k:Nat)(x:α)(r:Tr α)
def lk{α:Type}(a:Tr α)(t:Nat):Option α:=
 match a with
 |.nil=>none
 |.node l k x r=>match Nat.beq t k with
  |true=>some x
  |false=>match Nat.ble t k with
   |true=>lk l t
   |false=>lk r t
def lk2{α:Type}(a:Tr α)(s t:Nat):Option α:=
 match Nat.ble t 65535 with
 |true=>lk a (Nat.add (Nat.mul s 65536) t)
 |false=>none
def Tr.toL{α:Type}:Tr α->List (Nat×α)
 |.nil=>[]
 |.node l k x r=>l.toL++(k,x)::r.toL
def SX{α:Type}:∀{a:Tr α}{t:Nat}{x:α},lk a t=some x->(t,x)∈a.toL
 |.nil,_,_,h=>by simp[lk]at h
 |.node l k y r,t,x,h=>by
  simp only[lk]at h;simp only[Tr.toL,am6,amN];split at h
  ·rename_i e;have:=anL e;cases h;subst this;exact .inr (.inl rfl)
  ·split at h
   ·exact .inl (SX h)
   ·exact .inr (.inr (SX h))
def cq{α:Type}(f:Nat->Option α)(a:Tr α):Prop:=(a.toL.map λp=>f p.1)=a.toL.map λp=>some p.2
def gi{α:Type}{f:Nat->Option α}{a:Tr α}(b:cq f a){t:Nat}{x:α}(h:lk a t=some x):f t=some x:=by
 have c:=SX h;obtain⟨n,d,e⟩:=List.getElem_of_mem c;have:=amV (·[n]?) b;simpa[d,e] using this
def NU{α:Type}{f:Nat->Nat->Option α}{b:Tr α}(e:cq (λk=>f (k / 65536) (k % 65536)) b){s t:Nat}{x:α}(h:lk2 b s t=some x):f s t=some x:=by
 unfold lk2 at h;split at h<;>try (cases h;done)
 rename_i a;have a:=amx a;have:=gi e h;have c:(Nat.add (Nat.mul s 65536) t) / 65536=s:=by
  show(s*65536+t) / 65536=s;omega
 have d:(Nat.add (Nat.mul s 65536) t) % 65536=t:=by
  show(s*65536+t) % 65536=t;omega
 rw[c,d]at this;exact this
def IX(P:Program)(t:TypeId)(a:String):Option FuncId:=
 match P.info? t with
 |some i=>match i.methods.find? (·.name==a) with
  |some m=>match m.path.toList,m.func,P.underlying t with
   |[],some (f,false),some (.struct _)=>some f
   |_,_,_=>none
  |none=>none
 |none=>none
def lkM:List (Nat×String×Nat)->Nat->String->Option Nat
 |[],_,_=>none
 |(t,n,f)::r,b,a=>match Nat.beq t b with
  |true=>match n==a with
   |true=>some f
   |false=>lkM r b a
  |false=>lkM r b a
inductive ExK where
 |count|indexByte
def So(P:Program)(f:FuncId):Option ExK:=
 match P.funcs[f]? with
 |some a=>match a.body with
  |some _=>none
  |none=>match a.origin== "" with
   |false=>none
   |true=>match a.name== "internal/bytealg.CountString" with
    |true=>some .count
    |false=>match a.name== "internal/bytealg.IndexByteString" with
     |true=>some .indexByte
     |false=>none
 |none=>none
structure Tys where
 ld:Tr (Nat×Bool):=.nil
 fld:Tr Nat:=.nil
 fldV:Tr (Nat×Nat×Bool):=.nil
 zero:Tr (List D):=.nil
 build:Tr (List D×aZ):=.nil
 bs:Tr (List D×Nat):=.nil
 msl:Tr (Nat×Nat):=.nil
 eq:Tr EK:=.nil
 conv:Tr CK:=.nil
 conc:Tr Unit:=.nil
 sli:Tr SK:=.nil
 idx:Tr IK:=.nil
 idxV:Tr IVK:=.nil
 map:Tr (LK×D):=.nil
 len:Tr eP:=.nil
 app:Tr (Nat×Nat):=.nil
 meth:List (Nat×String×Nat):=[]
 ext:Tr ExK:=.nil
def SY(P:Program)(t:TypeId):Option Unit:=if AK P t then some () else none
structure TOk(T:Tys)(P:Program):Prop where
 ld:cq (vG P) T.ld
 fld:cq (λk=>Sx P (k / 65536) (k % 65536)) T.fld
 fldV:cq (λk=>Ow P (k / 65536) (k % 65536)) T.fldV
 zero:cq (nx P) T.zero
 build:cq (KR P) T.build
 bs:cq (JQ P) T.bs
 msl:cq (xF P) T.msl
 eq:cq (Qe P) T.eq
 conv:cq (λk=>Oy P (k / 65536) (k % 65536)) T.conv
 conc:cq (SY P) T.conc
 sli:cq (AZ P) T.sli
 idx:cq (Sn P) T.idx
 idxV:cq (NT P) T.idxV
 map:cq (AL P) T.map
 len:cq (Sz P) T.len
 app:cq (λk=>DE P (k / 65536) (k % 65536)) T.app
 meth:(T.meth.map λp=>IX P p.1 p.2.1)=T.meth.map λp=>some p.2.2
 ext:cq (So P) T.ext
def SZ{f:Nat->String->Option Nat}:∀{l:List (Nat×String×Nat)},(l.map λp=>f p.1 p.2.1)=(l.map λp=>some p.2.2)->∀{t:Nat}{n:String}{x:Nat},lkM l t n=some x->f t n=some x
 |[],_,_,_,_,h=>by simp[lkM]at h
 |(i,m,y)::r,a,t,n,x,h=>by
  simp only[amz,aon]at a;simp only[lkM]at h;split at h
  ·rename_i e;have e:=anL e;split at h
   ·rename_i b;have b:m=n:=by simpa using b
    subst e b;cases h;exact a.1
   ·exact SZ a.2 h
  ·exact SZ a.2 h
section
variable (T:Tys) (τ:List (Nat×D)) (σ:List am)
def Sq(c a b:Operand):Option D:=
 match ev τ c with
 |some (.bool r)=>ev τ (if r then a else b)
 |_=>none
def ab3(x:Operand):Option (D×List am):=
 match ev τ x with
 |some d=>match d.cells? with
  |some a=>some (.ptr σ.length 0 0,σ++[.cells a 0 0])
  |none=>none
 |none=>none
def Ta(t:TypeId)(b:List (Nat×Operand)):Option D:=
 match lk T.build t,evp τ b with
 |some (z,bk),some a=>(mK bk.place z a).map .agg
 |_,_=>none
def DZ(t:TypeId)(len:Nat)(d:List (Nat×Operand)):Option D:=
 match lk T.bs t,evp τ d with
 |some (z,a),some c=>if len*a<=16777216 then(mK (λi=>some (i*a,a)) (iz z len) c).map λb=>.list b len true else none
 |_,_=>none
def Sr(b:Bool)(cs:List D):Option D:=if b then some (.agg cs) else match cs with|[x]=>some x|_=>none
def NV(t:TypeId)(x:Operand):Option D:=
 match lk T.ld t,ev τ x with
 |some (n,b),some d=>if b=true∨n=1 then(match lI σ d n with|some a=>Sr b a|none=>none) else none
 |_,_=>none
def Tb(t:TypeId)(p x:Operand):Option (List am):=
 match lk T.ld t,ev τ p,ev τ x with
 |some (n,_),some d,some e=>match e.cells? with
  |some a=>if a.length=n then xG σ d a else none
  |none=>none
 |_,_,_=>none
def D0(x:Operand):Option D:=
 match ev τ x with
 |some (.ptr l u o)=>some (.ptr l u o)
 |some (.rptr c o)=>some (.rptr c o)
 |some (.iface t v)=>some (.iface t v)
 |some .anyi=>some .anyi
 |some (.func (.func f) a b)=>some (.func (.func f) a b)
 |_=>none
def XJ(a:BinOp)(t:TypeId)(x y:Operand):Option D:=
 match ev τ x,ev τ y with
 |some d,some e=>G5 (lk T.eq t) a (G4 x||G4 y) d e
 |_,_=>none
def oUn(a:UnOp)(x:Operand):Option D:=
 match ev τ x with
 |some d=>unD a d
 |none=>none
def XK(s t:TypeId)(x:Operand):Option D:=
 match lk2 T.conv s t,ev τ x with
 |some ck,some d=>vL σ ck d
 |_,_=>none
def Tc(t:TypeId)(x:Operand):Option D:=
 match ev τ x with
 |some d=>match lk T.conc t with|some _=>some (.iface t d)|none=>none
 |none=>none
def XL(fn:Fn)(a b:List Operand):Option D:=
 match evs τ a,evs τ b with
 |some c,some d=>some (.func fn c d)
 |_,_=>none
def F3(t:TypeId)(l c:Operand):Option (D×List am):=
 match ev τ l,ev τ c with
 |some d,some e=>Sy (lk T.bs t) (lk T.msl t) σ d e
 |_,_=>none
def St(x:D)(l h:Option Int):Option D:=
 match x with
 |.str s=>match oQ s.length true l h none with
  |some (l,h,_)=>some (.str ((s.take h).drop l))
  |none=>none
 |_=>none
def Td(t:TypeId)(x:Operand)(c b mx:Option Operand):Option D:=
 match lk T.sli t,ev τ x,evo τ c,evo τ b,evo τ mx with
 |some sk,some d,some l,some h,some m=>match rZ l,rZ h,rZ m with
  |some l,some h,some m=>match sk with
   |.slice a=>Cl a d l h m
   |.string=>(match m with|none=>St d l h|some _=>none)
   |.array n a=>match lI σ d (n*a) with
    |some _=>JS n a d l h m
    |none=>none
  |_,_,_=>none
 |_,_,_,_,_=>none
def F4(s:TypeId)(x:Operand)(f:Nat):Option D:=
 match lk2 T.fld s f,ev τ x with
 |some off,some d=>vH d off
 |_,_=>none
def Te(s:TypeId)(x:Operand)(f:Nat):Option D:=
 match lk2 T.fldV s f,ev τ x with
 |some (off,n,b),some (.agg a)=>AJ a off n b
 |_,_=>none
def F5(t:TypeId)(x i:Operand):Option D:=
 match lk T.idx t,ev τ x,ev τ i with
 |some b,some d,some e=>match kC e with
  |some n=>match b with
   |.slice a=>GY a d n
   |.array len a=>if 0<=n/\n<len then vH d (n.toNat*a) else none
  |none=>none
 |_,_,_=>none
def XM(s:List UInt8)(n:Int):Option D:=
 if 0<=n then(match s[n.toNat]? with|some b=>some (.int .u8 b.toNat)|none=>none) else none
def NW(t:TypeId)(x i:Operand):Option D:=
 match lk T.idxV t,ev τ x,ev τ i with
 |some f,some d,some e=>match kC e with
  |some n=>match f,d with
   |.string,.str s=>XM s n
   |.array len a b,.agg c=>if 0<=n/\n<len then AJ c (n.toNat*a) a b else none
   |_,_=>none
  |none=>none
 |_,_,_=>none
def KH(t:TypeId)(m k:Operand)(ok:Bool):Option D:=
 match lk T.map t,ev τ m,ev τ k with
 |some (a,z),some d,some e=>AM σ a z ok d e
 |_,_,_=>none
def PD(t:TypeId)(m k x:Operand):Option (List am):=
 match lk T.map t,ev τ m,ev τ k,ev τ x with
 |some (a,_),some d,some e,some y=>Ua σ a d e y
 |_,_,_,_=>none
def Tf(t:TypeId)(x:Operand):Option (D×List am):=
 match ev τ x with
 |some (.str s)=>match lk T.sli t with
  |some .string=>some (.ptr σ.length 0 0,σ++[.siter s 0])
  |_=>none
 |some (.cmap a b)=>match lk T.map t with
  |some _=>some (.ptr σ.length 0 0,σ++[.miter a b (List.range a.length) none])
  |none=>none
 |_=>none
def Tg(a:Operand):Option D:=
 match ev τ a with
 |some d=>Ov σ d
 |none=>none
def My(x:Operand)(i:Nat):Option D:=
 match ev τ x with
 |some (.tuple a)=>a[i]?
 |_=>none
def ab4:List Operand->List TypeId->Option (D×List am)
 |[x],[t]=>match lk T.len t,ev τ x with
  |some k,some d=>(M6 k d).map λ(n:Nat)=>(.int .i64 n,σ)
  |_,_=>none
 |_,_=>none
def ou:List Operand->List TypeId->Option (D×List am)
 |[s,x],[t,c]=>match lk2 T.app t c,ev τ s,ev τ x with
  |some (b,a),some d,some e=>JT σ b a d e
  |_,_,_=>none
 |_,_=>none
def oMM(mx:Bool)(xs:List Operand):Option (D×List am):=
 match evs τ xs with
 |some a=>(mmL mx a).map (·,σ)
 |none=>none
def Bj(b:Builtin)(args:List Operand)(a:List TypeId):Option (D×List am):=
 match b with
 |.len=>ab4 T τ σ args a
 |.append=>ou T τ σ args a
 |.max=>oMM τ σ true args
 |.min=>oMM τ σ false args
 |_=>none
def aop(g:Op):Option (D×List am):=
 match g with
 |.move x=>(ev τ x).map (·,σ)
 |.assign x=>(ev τ x).map (·,σ)
 |.pick c a b=>(Sq τ c a b).map (·,σ)
 |.alloc e=>(lk T.zero e).map λn=>(.ptr σ.length 0 0,σ++[.cells n 0 0])
 |.box _ x=>ab3 τ σ x
 |.build t j=>(Ta T τ t j.toList).map (·,σ)
 |.buildSlice t len j=>(DZ T τ t len j.toList).map (·,σ)
 |.load t x=>(NV T τ σ t x).map (·,σ)
 |.store t p x=>(Tb T τ σ t p x).map (.junk,·)
 |.nilCheck x=>(D0 τ x).map (·,σ)
 |.binOp g t x y _=>(XJ T τ g t x y).map (·,σ)
 |.unOp g _ x=>(oUn τ g x).map (·,σ)
 |.convert s t x=>(XK T τ σ s t x).map (·,σ)
 |.makeInterface t x=>(Tc T τ t x).map (·,σ)
 |.makeFunc o a b=>(XL τ o a.toList b.toList).map (·,σ)
 |.makeMap _ none=>some (.map σ.length,σ++[.map [] []])
 |.makeSlice t l c=>F3 T τ σ t l c
 |.slice t x r q u=>(Td T τ σ t x r q u).map (·,σ)
 |.fieldAddr s x f=>(F4 T τ s x f).map (·,σ)
 |.field s x f=>(Te T τ s x f).map (·,σ)
 |.indexAddr t x i=>(F5 T τ t x i).map (·,σ)
 |.index t x i=>(NW T τ t x i).map (·,σ)
 |.lookup t m k ok=>(KH T τ σ t m k ok).map (·,σ)
 |.mapUpdate t m k x=>(PD T τ σ t m k x).map (.junk,·)
 |.insert t m k x=>(PD T τ σ t m k x).map (.junk,·)
 |.range t x=>Tf T τ σ t x
 |.next h true=>match ev τ h with
  |some d=>Cj σ d
  |none=>none
 |.entry h=>(Tg τ σ h).map (·,σ)
 |.extract x i=>(My τ x i).map (·,σ)
 |.call c=>match c.callee with
  |.builtin b=>Bj T τ σ b c.args.toList c.argTypes.toList
  |_=>none
 |_=>none
end
end Go.Fw
def apH:=@List.map_toArray
namespace Go.Fw
open Go.RowKit
section
variable {P:Program}{T:Tys}{B:bL P}{G:Gh}{σ σ' :List am}{w:World}{N:Nat}{τ:List (Nat×D)}{a:Act}{d:D}
def Ew{s:Sem Value}{u:Value}{c:World}{G':Gh}(h:s.run P w=.ok u c)(b:G.Le G')(e:Rel B G' σ' c)(hd:Rep G' d u):
 Out B G d σ' ((do pure (Next.value (<-s)):Sem Next).run P w):=
 ⟨u,c,G',.inl (by simp[h]),b,e,hd⟩
def dJ{s:Sem Value}(b:Rel B G σ w)(h:∃u,s.run P w=.ok u w/\Rep G d u):Out B G d σ ((do pure (Next.value (<-s)):Sem Next).run P w):=by
 obtain⟨u,e,c⟩:=h;exact Ew e (.refl G) b c
def xj{s:Sem Value}(h:∃u e b,s.run P w=.ok u e/\G.Le b/\Rel B b σ' e/\Rep b d u):Out B G d σ' ((do pure (Next.value (<-s)):Sem Next).run P w):=by
 obtain⟨u,e,b,i,c,f,g⟩:=h;exact Ew i c f g
def Mz{s:Sem Unit}(h:∃b,s.run P w=.ok () b/\Rel B G σ' b):Out B G .junk σ' ((do s;pure Next.skip:Sem Next).run P w):=by
 obtain⟨b,e,c⟩:=h;exact⟨undef,b,G,.inr ⟨by simp[e],rfl⟩,.refl G,c,by simp only[Rep]⟩
def map_some{α c:Type}{x:Option α}{f:α->c}{b:c}(h:x.map f=some b):∃a,x=some a/\f a=b:=by
 cases x with
 |none=>cases h
 |some a=>exact⟨a,rfl,by simpa using h⟩
def mQ{x:Option D}(h:x.map (·,σ)=some (d,σ')):x=some d/\σ'=σ:=by
 obtain⟨a,b,c⟩:=map_some h;cases c;exact⟨b,rfl⟩
def ab5{x:Option (List am)}(h:x.map (D.junk,·)=some (d,σ')):x=some σ'/\d=.junk:=by
 obtain⟨a,b,c⟩:=map_some h;cases c;exact⟨b,rfl⟩
def afn{t:TypeId}{sz:Nat}(h:(xF P t).map (λx=>SK.slice x.1)=some (.slice sz)):∃c,xF P t=some (sz,c):=by
 obtain⟨⟨s,b⟩,e,f⟩:=map_some h;cases f;exact⟨b,e⟩
def Ex:Value->Bool
 |.int _ _=>false
 |.float _ _=>false
 |.complex _ _ _=>false
 |.string _=>false
 |_=>true
def Wn{t:TypeId}{u v:Value}(h:Ex u=true):(binOp .eql t u v).run P w=((Op.equal t u v).run P w).andThen λr b=>.ok (.bool r) b:=by
 cases u<;>first|(simp[Ex]at h;done)|(simp only[binOp];simp)
def afo{t:TypeId}{u v:Value}(h:Ex u=true):(binOp .neq t u v).run P w=((Op.equal t u v).run P w).andThen λr b=>.ok (.bool (!r)) b:=by
 cases u<;>first|(simp[Ex]at h;done)|(simp only[binOp];simp)
def ahs(p:TOk T P)(E:dD G N τ a){o:BinOp}{t:TypeId}{x y:Operand}(h:XJ T τ o t x y=some d):
 ∃u,(do eqGuard o t x y (a.eval x) (a.eval y);binOp o t (a.eval x) (a.eval y):Sem Value).run P w=.ok u w/\Rep G d u:=by
 unfold XJ at h;split at h<;>try (cases h;done)
 rename_i l m I J;have e:=bo E I;have g:=bo E J;generalize a.eval x=u at e;generalize a.eval y=v at g;unfold G5 at h;split at h
 ·simp only[Rep]at e g;subst e g;obtain⟨r,i,k⟩:=ah8 (P:=P) (G:=G) (w:=w) t h;refine⟨r,?_,k⟩;rw[amD,vK (λ_ _=>.inl siq) (.inl siq)];exact i
 ·simp only[Rep]at e g;subst e g;obtain⟨r,i,k⟩:=ah9 (P:=P) (G:=G) (w:=w) t h;refine⟨r,?_,k⟩;rw[amD,vK (λ_ _=>.inl siq) (.inl siq)];exact i
 ·rename_i F H;have s:∀(n:EK)(r:Bool),Qe P t=some n->eqD (G4 x||G4 y) n l m=some r->(eqGuard o t x y u v).run P w=.ok () w/\(Op.equal t u v).run P w=.ok r w/\Ex u=true:=by
   intro n r j i;have f:=aia (P:=P) (G:=G) (w:=w) j i e g;have b:(∀L O,u≠.agg L∨v≠.agg O)->(u≠.nilIface∨v≠.nilIface)->(eqGuard o t x y u v).run P w=.ok () w:=vK;cases n with
   |prim=>cases l<;>cases m<;>simp only[eqD]at i<;>cases i
   |bool=>
    cases l<;>cases m<;>simp only[eqD]at i<;>try (cases i;done)
    simp only[Rep]at e g;subst e g;exact⟨b (λ_ _=>.inl siq) (.inl siq),f,rfl⟩
   |flat Q=>
    cases l<;>cases m<;>simp only[eqD]at i<;>try (cases i;done)
    simp only[Rep]at e g;obtain⟨K,rfl,_⟩:=e;obtain⟨M,rfl,_⟩:=g;have z:P.eqGuardType P.depth t=false:=by
     unfold Qe at j;split at j<;>try (cases j;done)
     split at j<;>try (cases j;done)
     rename_i z;exact z
    exact⟨run_eqGuard_agg w o t x y K M z,f,rfl⟩
   |iface=>
    cases l<;>cases m<;>simp only[eqD]at i<;>try (cases i;done)
    all_goals simp only[Rep]at e g
    ·obtain⟨_,rfl,_⟩:=e;subst g;exact⟨b (λ_ _=>.inl siq) (.inl siq),f,rfl⟩
    ·obtain⟨_,rfl,_⟩:=g;subst e;exact⟨b (λ_ _=>.inl siq) (.inr siq),f,rfl⟩
    ·subst e g;refine⟨?_,f,rfl⟩;split at i<;>try (cases i;done)
     rename_i q;unfold eqGuard;cases o<;>first|rfl|skip
     all_goals
      cases x<;>cases y<;>first|rfl|(simp[G4]at q)
    ·obtain⟨_,_,rfl⟩:=g;subst e;exact⟨b (λ_ _=>.inl siq) (.inr siq),f,rfl⟩
    ·obtain⟨_,_,rfl⟩:=e;subst g;exact⟨b (λ_ _=>.inl siq) (.inl siq),f,rfl⟩
   |ptr=>
    cases l<;>cases m<;>simp only[eqD]at i<;>try (cases i;done)
    all_goals simp only[Rep]at e g
    ·subst e g;exact⟨b (λ_ _=>.inl siq) (.inl siq),f,rfl⟩
    ·subst e;exact⟨b (λ_ _=>.inl siq) (.inl siq),f,rfl⟩
    ·subst e;exact⟨b (λ_ _=>.inl siq) (.inl siq),f,rfl⟩
    ·obtain⟨_,_,rfl⟩:=e;exact⟨b (λ_ _=>.inl siq) (.inl siq),f,rfl⟩
    ·obtain⟨_,_,rfl,_⟩:=e;exact⟨b (λ_ _=>.inl siq) (.inl siq),f,rfl⟩
   |func=>
    cases l<;>cases m<;>simp only[eqD]at i<;>try (cases i;done)
    all_goals simp only[Rep]at e g
    ·obtain⟨_,_,rfl,_⟩:=e;exact⟨b (λ_ _=>.inl siq) (.inl siq),f,rfl⟩
    ·subst e;exact⟨b (λ_ _=>.inl siq) (.inl siq),f,rfl⟩
    ·subst e;exact⟨b (λ_ _=>.inl siq) (.inl siq),f,rfl⟩
   |map=>
    cases l<;>cases m<;>simp only[eqD]at i<;>try (cases i;done)
    all_goals simp only[Rep]at e g
    ·obtain⟨_,_,rfl⟩:=e;exact⟨b (λ_ _=>.inl siq) (.inl siq),f,rfl⟩
    ·subst e;exact⟨b (λ_ _=>.inl siq) (.inl siq),f,rfl⟩
    ·subst e;exact⟨b (λ_ _=>.inl siq) (.inl siq),f,rfl⟩
    ·subst e;exact⟨b (λ_ _=>.inl siq) (.inl siq),f,rfl⟩
    ·obtain⟨_,_,rfl,_⟩:=e;exact⟨b (λ_ _=>.inl siq) (.inl siq),f,rfl⟩
  split at h<;>try (cases h;done)
  ·rename_i n j;obtain⟨r,i,rfl⟩:=map_some h;obtain⟨A,C,D⟩:=s n r (gi p.eq j) i;refine⟨.bool r,?_,by simp only[Rep]⟩;rw[amD,A,amv,Wn D,C];rfl
  ·rename_i n j;obtain⟨r,i,rfl⟩:=map_some h;obtain⟨A,C,D⟩:=s n r (gi p.eq j) i;refine⟨.bool (!r),?_,by simp only[Rep]⟩;rw[amD,A,amv,afo D,C];rfl
set_option maxHeartbeats 1000000 in
def aht(F:TOk T P)(E:Rel B G σ w)(D:dD G N τ a)(o:Oper)(h:aop T τ σ o.op=some (d,σ')):Out B G d σ' ((execOp a.eval o).run P w):=by
 obtain⟨n6,op,ty,n8,k9,guard⟩:=o;simp only at h;unfold execOp;cases op<;>simp only[aop]at h⊢<;>try (cases h;done)
 case move x=>
  obtain⟨g,rfl⟩:=mQ h;exact .here E (bo D g)
 case assign x=>
  obtain⟨g,rfl⟩:=mQ h;exact .here E (bo D g)
 case pick c x y=>
  obtain⟨g,rfl⟩:=mQ h;unfold Sq at g;split at g<;>try (cases g;done)
  rename_i r hc;have j7:=bo D hc;simp only[Rep]at j7;simp only[j7,asBool,amD,amQ,amv];cases r
  ·exact .here E (bo D g)
  ·exact .here E (bo D g)
 case alloc e=>
  obtain⟨cs,hz,J⟩:=map_some h;cases J;have hz:=gi F.zero hz;obtain⟨w',G',v,Z,J,h3,h4⟩:=acF E hz;exact Ew Z J h3 h4
 case box e x=>
  unfold ab3 at h;split at h<;>try (cases h;done)
  rename_i X g;split at h<;>try (cases h;done)
  rename_i cs R;cases h;obtain⟨w',G',v,Z,J,h3,h4⟩:=ah4 (P:=P) (t:=e) E R (bo D g);exact Ew Z J h3 h4
 case build t ps=>
  obtain⟨g,rfl⟩:=mQ h;unfold Ta at g;split at g<;>try (cases g;done)
  rename_i z bk ds V hp;have V:=gi F.build V;obtain⟨n5,hf,rfl⟩:=map_some g;obtain⟨hl,j5⟩:=NR D hp;refine dJ E (acH V hf (by simpa using hl) (λj i d hj=> ?_));obtain⟨v,hv,U⟩:=j5 j i d hj;exact⟨v,by simpa using hv,U⟩
 case buildSlice t len ps=>
  obtain⟨g,rfl⟩:=mQ h;unfold DZ at g;split at g<;>try (cases g;done)
  rename_i z sz ds V hp;have V:=gi F.bs V;split at g<;>try (cases g;done)
  rename_i j8;obtain⟨n5,hf,rfl⟩:=map_some g;obtain⟨hl,j5⟩:=NR D hp;refine xj (Sl E V j8 hf (by simpa using hl) (λj i d hj=> ?_));obtain⟨v,hv,U⟩:=j5 j i d hj;exact⟨v,by simpa using hv,U⟩
 case load t x=>
  obtain⟨g,rfl⟩:=mQ h;unfold NV at g;split at g<;>try (cases g;done)
  rename_i n b X H q;have H:=gi F.ld H;split at g<;>try (cases g;done)
  rename_i hb;split at g<;>try (cases g;done)
  rename_i cs R;obtain⟨u,W,I⟩:=Wu E H (bo D q) R hb;refine dJ E ⟨u,W,?_⟩;unfold Sr at g;cases b with
  |true=>simp only[ano,amn]at g I;subst g;exact I
  |false=>
   simp only[ang,ani]at g I;obtain⟨y,rfl,hy⟩:=I;simp only[amn]at g;subst g;exact hy
 case store t p x=>
  obtain⟨g,rfl⟩:=ab5 h;unfold Tb at g;split at g<;>try (cases g;done)
  rename_i n b dp X H m6 q;have H:=gi F.ld H;split at g<;>try (cases g;done)
  rename_i cs R;split at g<;>try (cases g;done)
  rename_i hn;exact Mz (acE E H R hn g (bo D m6) (bo D q))
 case nilCheck x=>
  obtain⟨g,rfl⟩:=mQ h;unfold D0 at g;split at g<;>try (cases g;done)
  all_goals
   rename_i q;cases g;have U:=bo D q;have M:=U;simp only[Rep]at U
  ·obtain⟨b,_,he⟩:=U;rw[he]at M⊢;exact .here E M
  ·obtain⟨b,_,he,_⟩:=U;rw[he]at M⊢;exact .here E M
  ·obtain⟨b,he,_⟩:=U;rw[he]at M⊢;exact .here E M
  ·obtain⟨b,_,he⟩:=U;rw[he]at M⊢;exact .here E M
  ·obtain⟨b,_,he,_⟩:=U;rw[he]at M⊢;exact .here E M
 case binOp op t x y yt=>
  obtain⟨g,rfl⟩:=mQ h;exact dJ E (ahs F D g)
 case unOp op t x=>
  obtain⟨g,rfl⟩:=mQ h;unfold oUn at g;split at g<;>try (cases g;done)
  rename_i X q;exact dJ E (ajW g (bo D q))
 case convert s t x=>
  obtain⟨g,rfl⟩:=mQ h;unfold XK at g;split at g<;>try (cases g;done)
  rename_i ck X H q;have H:=NU F.conv H;exact xj (afz E H g (bo D q))
 case makeInterface t x=>
  obtain⟨g,rfl⟩:=mQ h;unfold Tc at g;split at g<;>try (cases g;done)
  rename_i X q;split at g<;>try (cases g;done)
  rename_i hc0 hc;cases g;have hc:AK P t=true:=by
   have:=gi F.conc hc;unfold SY at this;split at this<;>first|assumption|cases this
  exact dJ E ⟨_,Yd hc _,by simp only[Rep];exact⟨_,rfl,bo D q⟩⟩
 case makeFunc fn fs cs=>
  obtain⟨g,rfl⟩:=mQ h;unfold XL at g;split at g<;>try (cases g;done)
  rename_i ds es Z J;cases g;refine dJ E ⟨_,rfl,?_⟩;simp only[Rep];exact⟨_,_,rfl,by simpa using Bi D Z,by simpa using Bi D J⟩
 case makeMap t r=>
  cases r with
  |some r=>simp only[]at h;cases h
  |none=>
   simp only[amn,amJ]at h;obtain⟨rfl,rfl⟩:=h;exact xj (Ye E t)
 case makeSlice t l c=>
  unfold F3 at h;split at h<;>try (cases h;done)
  rename_i dl dc hl hc;exact xj (T5 E (λ_ h=>gi F.bs h) (λ_ h=>gi F.msl h) h (bo D hl) (bo D hc))
 case slice t x lo hi mx=>
  obtain⟨g,rfl⟩:=mQ h;unfold Td at g;split at g<;>try (cases g;done)
  rename_i sk X dl dh dm A q hl hh hm;have A:=gi F.sli A;split at g<;>try (cases g;done)
  rename_i l h' m ol oh om;have vl:=JR ol (SW D hl);have vh:=JR oh (SW D hh);have vm:=JR om (SW D hm);have L:=bo D q;split at g
  ·rename_i sz;unfold AZ at A;split at A<;>try (cases A;done)
   ·obtain⟨m5,m8⟩:=afn A;exact dJ E (acI m8 g vl vh vm L)
   ·split at A<;>try (cases A;done)
    split at A<;>cases A
  ·unfold AZ at A;split at A<;>try (cases A;done)
   ·rename_i W;split at g<;>try (cases g;done)
    unfold St at g;split at g<;>try (cases g;done)
    rename_i s;split at g<;>try (cases g;done)
    rename_i l2 J f hb;cases g;simp only[Rep]at L;rw[L];generalize Option.map a.eval mx=mv at vm⊢;cases vm;exact dJ E ⟨_,Wa W hb vl vh,by simp only[Rep]⟩
   ·obtain⟨_,_,J⟩:=map_some A;cases J
   ·split at A<;>try (cases A;done)
    split at A<;>cases A
  ·rename_i n sz;split at g<;>try (cases g;done)
   rename_i cs R;unfold AZ at A;split at A<;>try (cases A;done)
   ·obtain⟨_,_,J⟩:=map_some A;cases J
   ·split at A<;>try (cases A;done)
    rename_i n' n9 m7;split at A<;>try (cases A;done)
    rename_i hn;cases A;exact dJ E (Wb E m7 hn R g vl vh vm L)
 case fieldAddr s x f=>
  obtain⟨g,rfl⟩:=mQ h;unfold F4 at g;split at g<;>try (cases g;done)
  rename_i m9 X H q;have H:=NU F.fld H;exact dJ E (X8 H g (bo D q))
 case field s x f=>
  obtain⟨g,rfl⟩:=mQ h;unfold Te at g;split at g<;>try (cases g;done)
  rename_i m9 n b cs H q;have H:=NU F.fldV H;exact dJ E (acG H g (bo D q))
 case indexAddr t x i=>
  obtain⟨g,rfl⟩:=mQ h;unfold F5 at g;split at g<;>try (cases g;done)
  rename_i ik X di C q O;have C:=gi F.idx C;split at g<;>try (cases g;done)
  rename_i n hn;split at g
  ·unfold Sn at C;split at C<;>try (cases C;done)
   ·obtain⟨⟨s,b⟩,Z,J⟩:=map_some C;cases J;exact dJ E (T6 Z hn g (bo D q) (bo D O))
   ·obtain⟨_,_,J⟩:=map_some C;cases J
  ·unfold Sn at C;split at C<;>try (cases C;done)
   ·obtain⟨_,_,J⟩:=map_some C;cases J
   ·obtain⟨⟨l,s⟩,Z,J⟩:=map_some C;cases J;split at g<;>try (cases g;done)
    rename_i hb;exact dJ E (Sk Z hn hb.1 hb.2 g (bo D q) (bo D O))
 case index t x i=>
  obtain⟨g,rfl⟩:=mQ h;unfold NW at g;split at g<;>try (cases g;done)
  rename_i ik X di C q O;have C:=gi F.idxV C;split at g<;>try (cases g;done)
  rename_i n hn;have L:=bo D q;split at g<;>try (cases g;done)
  ·rename_i s;unfold NT at C;split at C<;>try (cases C;done)
   ·rename_i W;unfold XM at g;split at g<;>try (cases g;done)
    rename_i h0;split at g<;>try (cases g;done)
    rename_i b hb;cases g;simp only[Rep]at L;rw[L];exact dJ E (V8 W hn h0 hb (bo D O))
   ·split at C<;>cases C
  ·rename_i len sz b cs;split at g<;>try (cases g;done)
   rename_i hb;unfold NT at C;split at C<;>try (cases C;done)
   rename_i e W;split at C<;>try (cases C;done)
   rename_i n' b' he;cases C;exact dJ E (V9 W he hn hb.1 hb.2 g L (bo D O))
 case lookup t m k ok=>
  obtain⟨g,rfl⟩:=mQ h;unfold KH at g;split at g<;>try (cases g;done)
  rename_i lk z dm dk H hm hk;have H:=gi F.map H;exact dJ E (Z9 E H g (bo D hm) (bo D hk))
 case mapUpdate t m k x=>
  obtain⟨g,rfl⟩:=ab5 h;unfold PD at g;split at g<;>try (cases g;done)
  rename_i lk z dm dk X H hm hk q;have H:=gi F.map H;exact Mz (ZY E H g (bo D hm) (bo D hk) (bo D q))
 case insert t m k x=>
  obtain⟨g,rfl⟩:=ab5 h;unfold PD at g;split at g<;>try (cases g;done)
  rename_i lk z dm dk X H hm hk q;have H:=gi F.map H;exact Mz (ZY E H g (bo D hm) (bo D hk) (bo D q))
 case range t x=>
  unfold Tf at h;split at h<;>try (cases h;done)
  ·rename_i s q;split at h<;>try (cases h;done)
   rename_i K;cases h;have L:=bo D q;simp only[Rep]at L;have K:=gi F.sli K;unfold AZ at K;split at K
   ·rename_i W;rw[L];exact xj (V5 E W s)
   ·obtain⟨_,_,J⟩:=map_some K;cases J
   ·split at K<;>try (cases K;done)
    split at K<;>cases K
   ·cases K
  ·rename_i ks vs q;split at h<;>try (cases h;done)
   rename_i lz K;cases h;obtain⟨n7,z⟩:=lz;obtain⟨k,e,kd,i,v,W,_⟩:=DF (gi F.map K);exact xj (V6 E W (bo D q))
 case entry it=>
  obtain⟨g,rfl⟩:=mQ h;unfold Tg at g;split at g<;>try (cases g;done)
  rename_i di O;exact dJ E (V7 E g (bo D O))
 case next it isS=>
  cases isS with
  |false=>simp only[]at h;cases h
  |true=>
   simp only at h;split at h<;>try (cases h;done)
   rename_i di O;obtain⟨u,w',Z,J,h3⟩:=X6 (P:=P) E ty h (bo D O);exact Ew Z (.refl G) J h3
 case extract x i=>
  obtain⟨g,rfl⟩:=mQ h;unfold My at g;split at g<;>try (cases g;done)
  rename_i ds S;exact dJ E (Yc g (bo D S))
 case call c=>
  obtain⟨j3,Y,Q⟩:=c;cases j3<;>simp only[]at h<;>try (cases h;done)
  rename_i b;simp only[resolve,amD,amQ,amv,invoke];unfold Bj at h;generalize j4:Y.toList=al at h;generalize j9:Q.toList=tl at h;split at h<;>try (cases h;done)
  ·unfold ab4 at h;split at h<;>try (cases h;done)
   rename_i x t;split at h<;>try (cases h;done)
   rename_i k X hk q;have hk:=gi F.len hk;obtain⟨n,hn,J⟩:=map_some h;cases J;have ha:Y= #[x]:=by apply aoE;simpa using j4
   have H:Q= #[t]:=by apply aoE;simpa using j9
   subst ha H;simp only[builtin,apH,amz,anG];have I:Rep G (.int .i64 (n:Int)) (.int .i64 (n:Int)):=by simp only[Rep]
   exact dJ E ⟨.int .i64 n,ah6 hk hn (bo D q),I⟩
  ·unfold ou at h;split at h<;>try (cases h;done)
   rename_i s x t tx;split at h<;>try (cases h;done)
   rename_i sz m5 ds X j6 S q;have j6:=NU F.app j6;have ha:Y= #[s,x]:=by apply aoE;simpa using j4
   have H:Q= #[t,tx]:=by apply aoE;simpa using j9
   subst ha H;simp only[builtin,apH,amz,anG];exact xj (Z8 E j6 h (bo D S) (bo D q))
  ·unfold oMM at h;split at h<;>try (cases h;done)
   rename_i ds S;obtain⟨r,U,J⟩:=map_some h;cases J;obtain⟨u,W,I⟩:=aic (P:=P) (w:=w) Q ty U (Bi D S);refine dJ (s:=Builtin.max_ Q ty _) E ⟨u,?_,I⟩;rw[<-W,<-j4];congr 2;apply aoE;simp
  ·unfold oMM at h;split at h<;>try (cases h;done)
   rename_i ds S;obtain⟨r,U,J⟩:=map_some h;cases J;obtain⟨u,W,I⟩:=aid (P:=P) (w:=w) Q ty U (Bi D S);refine dJ (s:=Builtin.min_ Q ty _) E ⟨u,?_,I⟩;rw[<-W,<-j4];congr 2;apply aoE;simp
end
end Go.Fw
def anm:=@Option.some.inj
def ant:=@List.getElem?_eq_some_iff
namespace Go.Fw
open Go.RowKit
section
variable {P:Program}{B:bL P}{G:Gh}{σ σ' :List am}{w:World}
def Rel.frzUp(c:Rel B G σ w){l frz u:Nat}{cs:List D}(i:σ[l]?=some (.cells cs frz u)):Rel B G (σ.set l (.cells cs cs.length u)) w:=by
 have j:l<σ.length:=(ant.1 i).1;have look:∀{a:Nat}{d:am},(σ.set l (.cells cs cs.length u))[a]?=some d->(a=l/\d=.cells cs cs.length u)∨(a≠l/\σ[a]?=some d):=by
  intro a d h;by_cases e:a=l
  ·subst e;rw[ana j]at h;exact .inl ⟨rfl,(anm h).symm⟩
  ·rw[am2 (an9 e)]at h;exact .inr ⟨e,h⟩
 refine⟨c.below,c.imm,c.mimm,c.siz,λa n b f=> ?_,c.inj,λa d b g f=> ?_,λa p k n b g f o v m=> ?_,λa r s b g f=> ?_,λa d g=> ?_,λa d g=> ?_,c.bimm,c.bmimm⟩
 ·rw[anF];exact c.blk a n b f
 ·rcases look g with⟨rfl,rfl⟩|⟨_,h⟩
  ·exact c.obj a (.cells cs frz u) b i f
  ·exact c.obj a d b h f
 ·rcases look g with⟨rfl,h⟩|⟨_,h⟩
  ·cases h;exact am9 (c.own a _ _ _ b i f o v m) (c.frzle a _ i)
  ·exact c.own a _ _ _ b h f o v m
 ·rcases look g with⟨_,h⟩|⟨_,h⟩
  ·cases h
  ·exact c.ownm a r s b h f
 ·rcases look g with⟨rfl,rfl⟩|⟨_,h⟩
  ·have q:=c.ver a _ i;exact q
  ·exact c.ver a d h
 ·rcases look g with⟨_,rfl⟩|⟨_,h⟩
  ·exact amt _
  ·exact c.frzle a d h
def C6(g:Rel B G σ w){l u o n sz frz:Nat}{s:Bool}{cs:List D}{v:Value}(z:σ[l]?=some (.cells cs frz u))(T:o+n*sz<=cs.length)(V:Rep G (.sl l u o n sz s) v):
 ∃c,G.Le c/\Rel B c (σ.set l (.cells cs cs.length u)) w/\Rep c (.list ((cs.drop o).take (n*sz)) n s) v:=by
 simp only[Rep]at V;rcases V with⟨b,I,j4,E,rfl,Z,h2,h3,h4,h5⟩|⟨rfl,a,rfl⟩
 ·obtain⟨H,Y,Q,o2,tl,m,W,R⟩:=g.obj _ _ b z E;have j3:=R.length;have i:∀j v,m[j]?=some v->w.cell? ⟨b,j,none⟩=some v:=by
   intro j v t;have L:j<m.length:=by
    rcases amB j m.length with J|J
    ·exact J
    ·rw[amC J]at t;cases t
   unfold World.cell?;rw[Q];show H[j]?=some v;have:H[j]?=H.toList[j]? :=by simp
   rw[this,W,amu L];exact t
  let c:Gh:={G with imm:=λy j=>if y=b/\j<m.length then m[j]? else G.imm y j};have q:G.Le c:=by
   refine⟨λy j v f=> ?_,λ_ _ x=>x,λ_ _ _ x=>x,λ_ _ x=>x⟩;by_cases e:y=b/\j<m.length
   ·obtain⟨rfl,t⟩:=e;have F:=g.imm _ _ _ f;have:=i j _ (aml t);rw[F]at this;cases this;simp[c,t]
   ·simp only[c,e,ani];exact f
  have M:G.mimm b=none:=by
   cases hm:G.mimm b with
   |none=>rfl
   |some es=>
    obtain⟨F,_⟩:=g.mimm _ _ hm;rw[Q]at F;cases F
  refine⟨c,q,?_,?_⟩
  ·refine g.update z E q (λ_ _ _ x=>.inl x) E ?_ rfl rfl g.below rfl (λ_ _=>rfl) (λk hk=>g.siz b k hk) M ?_ ?_ ⟨amt _,(g.ver _ _ z).1⟩ (amt _)
   ·intro y j v f;by_cases e:y=b/\j<m.length
    ·obtain⟨rfl,t⟩:=e;simp only[c,t,and_self,ano]at f;exact⟨i j v f,λh=>absurd rfl h⟩
    ·simp only[c,e,ani]at f;exact⟨g.imm _ _ _ f,λ_=>f⟩
   ·exact⟨H,Y,Q,o2,tl,m,W,af.mono q _ _ R⟩
   ·intro X S u' e j v f;cases e;by_cases e:j<m.length
    ·omega
    ·have f:G.imm b j=some v:=by simpa[c,e] using f
     have h6:=g.own _ _ _ _ _ z E j v f;have h7:=g.frzle _ _ z;simp only[am.frz,am.len]at h7;omega
  ·simp only[Rep];refine⟨_,I,rfl,Z,h2,h3,.inl ⟨b,o,rfl,?_⟩⟩;have O:∀(A:List D)(p r:List Value),m=p++r->af c A r->Cells c b p.length A:=by
    intro A;induction A with
    |nil=>intro p r _ _;simp only[Cells]
    |cons d A ih=>
     intro p r e U;simp only[af]at U;obtain⟨v,r',rfl,K,N⟩:=U;simp only[Cells];refine⟨⟨v,by simp[c,e],K⟩,?_⟩;have:=ih (p++[v]) r' (by simp[e]) N;simpa using this
   have C:=O cs [] m rfl (af.mono q _ _ R);have:=(C.drop o).take (n*sz);simpa using this
 ·refine⟨G,.refl G,g.frzUp z,?_⟩;simp only[Rep];exact⟨a,0,rfl,amt _,anp _,λ_=>rfl,.inr siq⟩
def I3(σ:List am)(d:D):Option (D×List am):=
 match d with
 |.sl l u o n b full=>match σ[l]? with
  |some (.cells a _ c)=>if c=u/\o+n*b<=a.length then some (.list ((a.drop o).take (n*b)) n full,σ.set l (.cells a a.length u)) else none
  |_=>none
 |d=>some (d,σ)
def PH(e:Rel B G σ w){d c:D}{v:Value}(h:I3 σ d=some (c,σ'))(f:Rep G d v):∃b,G.Le b/\Rel B b σ' w/\Rep b c v:=by
 unfold I3 at h;split at h
 ·split at h<;>try (cases h;done)
  rename_i i;split at h<;>try (cases h;done)
  rename_i g;obtain⟨rfl,a⟩:=g;cases h;exact C6 e i a f
 ·cases h;exact⟨G,.refl G,e,f⟩
def xW(σ:List am):List D->Option (List D×List am)
 |[]=>some ([],σ)
 |d::f=>match I3 σ d with
  |some (e,b)=>match xW b f with
   |some (a,c)=>some (e::a,c)
   |none=>none
  |none=>none
def Gk:∀{ds a:List D}{G:Gh}{σ σ':List am}{vs:List Value},Rel B G σ w->xW σ ds=some (a,σ')->af G ds vs->∃c,G.Le c/\Rel B c σ' w/\af c a vs
 |[],_,G,σ,σ',vs,hR,h,b=>by
  simp only[xW,amn,amJ]at h;obtain⟨rfl,rfl⟩:=h;exact⟨G,.refl G,hR,b⟩
 |d::ds,_,G,σ,σ',vs,hR,h,b=>by
  simp only[xW]at h;split at h<;>try (cases h;done)
  rename_i u q k;split at h<;>try (cases h;done)
  rename_i a s l;cases h;simp only[af]at b;obtain⟨v,r,rfl,m,n⟩:=b;obtain⟨t,e,i,o⟩:=PH hR k m;obtain⟨g,f,j,p⟩:=Gk i l (af.mono e _ _ n);exact⟨g,e.trans f,j,by simp only[af];exact⟨v,r,rfl,Rep.mono f _ _ o,p⟩⟩
def I4(c:Rel B G σ w){l:Nat}{ks vs:List D}{v:Value}(n:σ[l]?=some (.map ks vs))(F:Rep G (.map l) v):
 ∃j,G.Le j/\Rel B j (σ.set l .gone) w/\Rep j (.cmap ks vs) v:=by
 simp only[Rep]at F;obtain⟨b,o,rfl⟩:=F;obtain⟨E,I,J,K⟩:=c.obj _ _ b n o;have y:=c.ownm _ _ _ b n o;have t:l<σ.length:=by
  rcases amB l σ.length with r|r
  ·exact r
  ·rw[amC r]at n;cases n
 let j:Gh:={G with mimm:=λf=>if f=b then some E else G.mimm f};have k:G.Le j:=by
  refine⟨λ_ _ _ x=>x,λf p m=> ?_,λ_ _ _ x=>x,λ_ _ x=>x⟩;by_cases e:f=b
  ·subst e;rw[y]at m;cases m
  ·simp only[j,e,ani];exact m
 have g:∀(a:Nat)(i:am),(σ.set l .gone)[a]?=some i->(a=l/\i=.gone)∨(a≠l/\σ[a]?=some i):=by
  intro a i h;by_cases e:a=l
  ·subst e;rw[ana t]at h;cases h;exact .inl ⟨rfl,rfl⟩
  ·rw[am2 (an9 e)]at h;exact .inr ⟨e,h⟩
 refine⟨j,k,⟨c.below,c.imm,λf p m=> ?_,c.siz,λa u f h=> ?_,c.inj,λa i f d h=> ?_,λa H q u f d h=> ?_,λa A C f d h=> ?_,λa i d=> ?_,λa i d=> ?_,c.bimm,λf h=> ?_⟩,?_⟩
 ·by_cases e:f=b
  ·subst e;simp only[j,ano,amn]at m;subst m;exact I
  ·simp only[j,e,ani]at m;exact c.mimm _ _ m
 ·rw[anF];exact c.blk a u f h
 ·rcases g a i d with⟨rfl,rfl⟩|⟨_,d⟩
  ·exact(c.blk _ _ _ h).2.2
  ·exact(c.obj a i f d h).keep k rfl
 ·rcases g a _ d with⟨_,s⟩|⟨_,d⟩
  ·cases s
  ·exact c.own a H q u f d h
 ·rcases g a _ d with⟨_,s⟩|⟨z,d⟩
  ·cases s
  ·have:f≠b:=λe=>z (c.inj _ _ _ _ _ h (e▸o));simp only[j,this,ani];exact c.ownm a A C f d h
 ·rcases g a i d with⟨rfl,rfl⟩|⟨_,d⟩
  ·exact⟨amt _,(c.ver _ _ n).2⟩
  ·exact c.ver a i d
 ·rcases g a i d with⟨rfl,rfl⟩|⟨_,d⟩
  ·exact amt _
  ·exact c.frzle a i d
 ·have:f≠b:=λe=>by have:=(c.blk _ _ _ o).2.1;omega
  simp only[j,this,ani];exact c.bmimm f h
 ·simp only[Rep];exact⟨b,E,rfl,by simp[j],af.mono k _ _ J,af.mono k _ _ K⟩
def TA(σ:List am)(d:D):Option (D×List am):=
 match d with
 |.map l=>match σ[l]? with
  |some (.map c e)=>some (.cmap c e,σ.set l .gone)
  |_=>none
 |.agg b=>match xW σ b with
  |some (a,σ')=>some (.agg a,σ')
  |none=>none
 |d=>I3 σ d
def Wr(e:Rel B G σ w){d f:D}{v:Value}(h:TA σ d=some (f,σ'))(c:Rep G d v):∃b,G.Le b/\Rel B b σ' w/\Rep b f v:=by
 unfold TA at h;split at h
 ·split at h<;>try (cases h;done)
  rename_i j;cases h;exact I4 e j c
 ·split at h<;>try (cases h;done)
  rename_i i;cases h;simp only[Rep]at c;obtain⟨a,rfl,k⟩:=c;obtain⟨b,l,g,m⟩:=Gk e i k;exact⟨b,l,g,by simp only[Rep];exact⟨a,rfl,m⟩⟩
 ·exact PH e h c
def N4(σ:List am):List D->Option (List D×List am)
 |[]=>some ([],σ)
 |d::f=>match TA σ d with
  |some (e,b)=>match N4 b f with
   |some (a,c)=>some (e::a,c)
   |none=>none
  |none=>none
def TD:∀{ds a:List D}{G:Gh}{σ σ':List am}{vs:List Value},Rel B G σ w->N4 σ ds=some (a,σ')->af G ds vs->∃c,G.Le c/\Rel B c σ' w/\af c a vs
 |[],_,G,σ,σ',vs,hR,h,b=>by
  simp only[N4,amn,amJ]at h;obtain⟨rfl,rfl⟩:=h;exact⟨G,.refl G,hR,b⟩
 |d::ds,_,G,σ,σ',vs,hR,h,b=>by
  simp only[N4]at h;split at h<;>try (cases h;done)
  rename_i u q k;split at h<;>try (cases h;done)
  rename_i a s l;cases h;simp only[af]at b;obtain⟨v,r,rfl,m,n⟩:=b;obtain⟨t,e,i,o⟩:=Wr hR k m;obtain⟨g,f,j,p⟩:=TD i l (af.mono e _ _ n);exact⟨g,e.trans f,j,by simp only[af];exact⟨v,r,rfl,Rep.mono f _ _ o,p⟩⟩
def D3(σ:List am)(d:D):Option (D×List am):=
 match d with
 |.tuple b=>match N4 σ b with
  |some (a,σ')=>some (.tuple a,σ')
  |none=>none
 |d=>TA σ d
def afs(f:Rel B G σ w){d e:D}{v:Value}(h:D3 σ d=some (e,σ'))(c:Rep G d v):∃b,G.Le b/\Rel B b σ' w/\Rep b e v:=by
 unfold D3 at h;split at h
 ·split at h<;>try (cases h;done)
  rename_i i;cases h;simp only[Rep]at c;obtain⟨a,rfl,j⟩:=c;obtain⟨b,k,g,l⟩:=TD f i j;exact⟨b,k,g,by simp only[Rep];exact⟨a,rfl,l⟩⟩
 ·exact Wr f h c
end
mutual
def D.pure:D->Bool
 |.bool _=>true
 |.int _ _=>true
 |.str _=>true
 |.nilp=>true
 |.ptr _ _ _=>false
 |.rptr cs _=>br cs
 |.list cs _ _=>br cs
 |.sl _ _ _ _ _ _=>false
 |.map _=>false
 |.nilmap=>true
 |.cmap ks vs=>br ks&&br vs
 |.pmap ks vs=>br ks&&br vs
 |.func _ a b=>br a&&br b
 |.nilf=>true
 |.iface _ v=>v.pure
 |.nili=>true
 |.anyi=>true
 |.agg cs=>br cs
 |.tuple cs=>br cs
 |.junk=>true
def br:List D->Bool
 |[]=>true
 |d::ds=>d.pure&&br ds
end
mutual
def Rep.pure{G G':Gh}(hi:∀b o v,G.imm b o=some v->G'.imm b o=some v)(hm:∀b es,G.mimm b=some es->G'.mimm b=some es):∀(d:D)(v:Value),d.pure=true->Rep G d v->Rep G' d v
 |.bool _,_,_,x=>by simpa only[Rep] using x
 |.int _ _,_,_,x=>by simpa only[Rep] using x
 |.str _,_,_,x=>by simpa only[Rep] using x
 |.nilp,_,_,x=>by simpa only[Rep] using x
 |.ptr _ _ _,_,h,_=>by simp[D.pure]at h
 |.rptr cs _,_,h,x=>by
  simp only[Rep]at x⊢;simp only[D.pure]at h;obtain⟨b,o',e,r⟩:=x;exact⟨b,o',e,Cells.pure hi hm b _ cs h r⟩
 |.list cs _ _,_,h,x=>by
  simp only[Rep]at x⊢;simp only[D.pure]at h;obtain⟨a,cap,e,h1,h2,h3,h4⟩:=x;refine⟨a,cap,e,h1,h2,h3,h4.imp ?_ id⟩;rintro⟨b,o,ha,hc⟩;exact⟨b,o,ha,Cells.pure hi hm b _ cs h hc⟩
 |.sl _ _ _ _ _ _,_,h,_=>by simp[D.pure]at h
 |.map _,_,h,_=>by simp[D.pure]at h
 |.nilmap,_,_,x=>by simpa only[Rep] using x
 |.cmap ks vs,_,h,x=>by
  simp only[Rep]at x⊢;simp only[D.pure,amk]at h;obtain⟨b,es,e,hm',h1,h2⟩:=x;exact⟨b,es,e,hm _ _ hm',af.pure hi hm ks _ h.1 h1,af.pure hi hm vs _ h.2 h2⟩
 |.pmap ks vs,_,h,x=>by
  simp only[Rep]at x⊢;simp only[D.pure,amk]at h;obtain⟨b,es,π,e,hm',hπ,h1,h2⟩:=x;exact⟨b,es,π,e,hm _ _ hm',hπ,af.pure hi hm ks _ h.1 h1,af.pure hi hm vs _ h.2 h2⟩
 |.func _ first cap,_,h,x=>by
  simp only[Rep]at x⊢;simp only[D.pure,amk]at h;obtain⟨f,c,e,h1,h2⟩:=x;exact⟨f,c,e,af.pure hi hm first _ h.1 h1,af.pure hi hm cap _ h.2 h2⟩
 |.nilf,_,_,x=>by simpa only[Rep] using x
 |.iface _ d,_,h,x=>by
  simp only[Rep]at x⊢;simp only[D.pure]at h;obtain⟨y,e,h1⟩:=x;exact⟨y,e,Rep.pure hi hm d _ h h1⟩
 |.nili,_,_,x=>by simpa only[Rep] using x
 |.anyi,_,_,x=>by simpa only[Rep] using x
 |.agg cs,_,h,x=>by
  simp only[Rep]at x⊢;simp only[D.pure]at h;obtain⟨a,e,h1⟩:=x;exact⟨a,e,af.pure hi hm cs _ h h1⟩
 |.tuple cs,_,h,x=>by
  simp only[Rep]at x⊢;simp only[D.pure]at h;obtain⟨a,e,h1⟩:=x;exact⟨a,e,af.pure hi hm cs _ h h1⟩
 |.junk,_,_,_=>by simp only[Rep]
def Cells.pure {G G':Gh} (hi:∀b o v,G.imm b o=some v->G'.imm b o=some v) (hm:∀b es,G.mimm b=some es->G'.mimm b=some es) (b:Nat):∀(o:Nat)(ds:List D),br ds=true->Cells G b o ds->Cells G' b o ds
 |_,[],_,_=>by simp only[Cells]
 |o,d::ds,h,x=>by
  simp only[br,amk]at h;simp only[Cells]at x⊢;obtain⟨⟨v,e,r⟩,hs⟩:=x;exact⟨⟨v,hi _ _ _ e,Rep.pure hi hm d v h.1 r⟩,Cells.pure hi hm b _ ds h.2 hs⟩
def af.pure {G G':Gh} (hi:∀b o v,G.imm b o=some v->G'.imm b o=some v) (hm:∀b es,G.mimm b=some es->G'.mimm b=some es):∀(ds:List D)(vs:List Value),br ds=true->af G ds vs->af G' ds vs
 |[],_,_,x=>by simpa only[af] using x
 |d::ds,_,h,x=>by
  simp only[br,amk]at h;simp only[af]at x⊢;obtain⟨v,r,e,h1,h2⟩:=x;exact⟨v,r,e,Rep.pure hi hm d v h.1 h1,af.pure hi hm ds r h.2 h2⟩
end
end Go.Fw
