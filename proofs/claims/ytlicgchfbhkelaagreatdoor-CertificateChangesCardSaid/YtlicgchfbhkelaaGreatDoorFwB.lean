/- A framework for proofs about Go programs in this model: part B. Everything is proved; no condition is added. -/
import Derived.Laws.RangeString
import Derived.IntWalk
import Derived.Test.YtlicgchfbhkelaaGreatDoorFwA
set_option linter.unusedVariables false
set_option linter.unusedSimpArgs false
set_option linter.defProp false
def alF:=@List.eq_nil_of_length_eq_zero
def anQ:=@Array.getElem?_modify
def an3:=@Array.getElem?_push
def aoN:=@Go.run_append_nothing
def aoU:=@Bool.and_true
def ao4:=@Nat.mul_pos
def ao5:=@Nat.mul_one
namespace Go.Fw
open Go.RowKit
section
variable {P:Program}{B:bE P}{G:Gh}{σ:List aq}{w:World}
def YN(y:Rel B G σ w){t tx ty:TypeId}{sz by':Nat}(ht:CG P t tx=some (sz,by')){s x d:D}{sv xv:Value}{σ':List aq}(h:IY σ sz by' s x=some (d,σ'))(hs:Rep G s sv)(hx:Rep G x xv):
 ∃u w' G',(Builtin.append_ #[t,tx] ty #[sv,xv]).run P w=.ok u w'/\G.Le G'/\Rel B G' σ' w'/\Rep G' d u:=by
 obtain⟨e,i,zv,z,hu,Y,rfl,rfl,j4,hz,R,U,S⟩:=P1 ht;unfold IY at h;split at h<;>try (cases h;done)
 rename_i new m n7;split at h<;>try (cases h;done)
 rename_i e9;obtain⟨j6,K,g⟩:=ag1 (P:=P) y n7 hx e9 S;have r:m=0->j6=[]:=λW=>by
  have:=K.newsLen;rw[W,amZ]at this;exact alF this
 split at h<;>try (cases h;done)
 ·rename_i M n m6;split at h<;>try (cases h;done)
  rename_i j9;have Z:=hs;simp only[Rep]at hs;obtain⟨a,p,rfl,O,V,h3,h4⟩:=hs;split at h
  ·rename_i W;cases h;subst W;have:=r rfl;subst this;exact⟨_,w,G,aoN w t tx ty e i hu Y a n p O xv K,.refl G,y,Z⟩
  ·rename_i W;split at h<;>try (cases h;done)
   rename_i X;obtain⟨H,E,F⟩:=X;cases h;have Q:=h3 H;subst Q;have c:∃v,af G M v/\(Builtin.firstCells i.size p (.slice a p p)).run P w.drew=.ok v.toArray w.drew:=by
    rcases h4 with⟨b,o,rfl,X⟩|rfl
    ·obtain⟨vs,hr,p7⟩:=X.reps;have N:=hr.length;refine⟨vs,hr,?_⟩;have:=am6 (P:=P) w.drew ⟨b,o,none⟩ vs (λj u hj=>by rw[fP];exact y.drew.imm _ _ _ (p7 j u hj));rw[<-N,j9]at this;exact this
    ·refine⟨[],by simp[af],?_⟩;have t8:p*i.size=0:=by simpa using j9.symm
     cases a with
     |none=>simp[Builtin.firstCells]
     |some a=>simp only[Builtin.firstCells,t8];rfl
   obtain⟨v,C,c⟩:=c;exact Eu y hu Y hz R U (l:=σ.length) (ver:=0) (frz:=0) K g C j9 c omq E F siq (λA L=>by
    rcases alf A σ.length with h|h
    ·rw[ak8 h]
    ·rw[ale h,alg h];have:A-σ.length≠0:=omq;cases S:A-σ.length with
     |zero=>exact absurd S this
     |succ k=>simp) siq (by
      cases h:G.blk σ.length 0 with
      |none=>rfl
      |some b=>exact absurd (y.blk _ _ _ h).1 (ama _)) ⟨al2 _,λu' b h=>absurd (y.blk _ _ _ h).1 (ama _)⟩ (al2 _)
 ·rename_i l u o n u7 m6;split at h<;>try (cases h;done)
  rename_i M frz u' N;split at h<;>try (cases h;done)
  rename_i X;obtain⟨rfl,rfl,n5⟩:=X;have Z:=hs;simp only[Rep]at hs;rcases hs with⟨b,p,n8,hb,rfl,O,V,h3,h4,h5⟩|⟨rfl,a,rfl⟩
  ·split at h
   ·rename_i W;cases h;subst W;have:=r rfl;subst this;exact⟨_,w,G,aoN w t tx ty e i hu Y _ n p O xv K,.refl G,y,Z⟩
   ·rename_i W;split at h<;>try (cases h;done)
    rename_i j7;obtain⟨E,F⟩:=j7;obtain⟨v,T,C,j8⟩:=y.cells_of N hb n5;have c:(Builtin.firstCells i.size n (.slice (some ⟨b,o,none⟩) n p)).run P w.drew=.ok v.toArray w.drew:=by
     have:=am6 (P:=P) w.drew ⟨b,o,none⟩ v (λj u hj=>by rw[fP];exact j8 j u hj);rw[T]at this;exact this
    split at h
    ·rename_i H;cases h;have Q:=h3 H;subst Q;exact Eu y hu Y hz R U (l:=σ.length) (ver:=0) (frz:=0) K g C (by rw[C.length,T]) c omq E F siq (λA L=>by
      rcases alf A σ.length with h|h
      ·rw[ak8 h]
      ·rw[ale h,alg h];have:A-σ.length≠0:=omq;cases S:A-σ.length with
       |zero=>exact absurd S this
       |succ k=>simp) siq (by
        cases h:G.blk σ.length 0 with
        |none=>rfl
        |some b=>exact absurd (y.blk _ _ _ h).1 (ama _)) ⟨al2 _,λu' b h=>absurd (y.blk _ _ _ h).1 (ama _)⟩ (al2 _)
    ·split at h<;>try (cases h;done)
     rename_i X;obtain⟨rfl,hn⟩:=X;cases h;have I:=g.length;have p9:=K.newsLen;have k9:0<m*i.size:=ao4 omq j4;have n6:new≠[]:=by
      intro h0;rw[h0]at I;simp at I;omega
     have f:=y.ver _ _ N;have k8:σ.length>l:=by
      rcases alf l σ.length with h'|h'
      ·exact h'
      ·rw[alg h']at N;cases N
     by_cases J:n+m<=p
     ·have p8:(n+m)*i.size<=p*i.size:=al6 _ J;have m8:M.length+new.length<=n8:=by
       rw[am3]at p8;omega
      obtain⟨w',G',j5,m9,o7,o8,t7⟩:=YM (P:=P) y N hb n6 g h4 m8 e9;refine⟨.slice (some ⟨b,0,none⟩) (n+m) p,w',G',?_,m9,o7,?_⟩
      ·rw[<-hn]at j5;have o9:(Builtin.firstCells i.size m xv).run P w=.ok j6.toArray w:=K.cells;rcases S with⟨e',S⟩|S<;>simp[Builtin.append_,ald hu,ald S,sizeOf,typeInfo,Y,K.len,J,o9,j5]
      ·simp only[Rep];refine .inl ⟨b,p,n8,o8,rfl,J,V,by simp,t7,?_⟩;simpa using h5
     ·have m5:af G M v:=by
       have:(M.drop 0).take (n*i.size)=M:=by simp[hn]
       rwa[this]at C
      have q:∀A,A≠l->(σ.set l (.cells (M++new) frz (M++new).length))[A]?=σ[A]? :=λA L=>by rw[alI (amO L)]
      refine Eu y hu Y hz R U (l:=l) (ver:=(M++new).length) (frz:=frz) K g m5 omq c omq E F siq q (by rw[alP k8]) ?_ ?_ ?_
      ·cases hx:G.blk l (M++new).length with
       |none=>rfl
       |some b'=>
        have O:=f.2 _ _ hx;have V:=f.1;simp only[aq.ver,aq.len,ak2]at O V;omega
      ·refine⟨ak7 _,λu0 n9 hx=> ?_⟩;have O:=f.2 _ _ hx;have V:=f.1;simp only[aq.ver,aq.len,ak2]at O V⊢;omega
      ·have:=y.frzle _ _ N;simp only[aq.frz,aq.len,ak2]at this⊢;omega
  ·have c:(Builtin.firstCells i.size 0 (.slice a 0 0)).run P w.drew=.ok ([]:List Value).toArray w.drew:=by
    cases a with
    |none=>simp[Builtin.firstCells]
    |some a=>simp only[Builtin.firstCells,amZ];rfl
   have j3:af G [] []:=by simp[af]
   split at h
   ·rename_i W;cases h;subst W;have:=r rfl;subst this;exact⟨_,w,G,aoN w t tx ty e i hu Y a 0 0 (ak7 _) xv K,.refl G,y,Z⟩
   ·rename_i W;split at h<;>try (cases h;done)
    rename_i j7;obtain⟨E,F⟩:=j7;have f:=y.ver _ _ N;have k8:σ.length>l:=by
     rcases alf l σ.length with h'|h'
     ·exact h'
     ·rw[alg h']at N;cases N
    split at h
    ·cases h;have e0:(M.drop o).take (0*i.size)=[]:=by simp
     rw[e0];exact Eu y hu Y hz R U (l:=σ.length) (ver:=0) (frz:=0) K g j3 siq c omq E F siq (λA L=>by
      rcases alf A σ.length with h|h
      ·rw[ak8 h]
      ·rw[ale h,alg h];have:A-σ.length≠0:=omq;cases S:A-σ.length with
       |zero=>exact absurd S this
       |succ k=>simp) siq (by
        cases h:G.blk σ.length 0 with
        |none=>rfl
        |some b=>exact absurd (y.blk _ _ _ h).1 (ama _)) ⟨al2 _,λu' b h=>absurd (y.blk _ _ _ h).1 (ama _)⟩ (al2 _)
    ·split at h<;>try (cases h;done)
     rename_i X;obtain⟨rfl,hn⟩:=X;have m7:M=[]:=by simpa using hn.symm
     subst m7;cases h;have I:=g.length;have p9:=K.newsLen;have k9:0<m*i.size:=ao4 omq j4;have r9:0<new.length:=omq;have q:∀A,A≠l->(σ.set l (.cells ([]++new) frz ([]++new).length))[A]?=σ[A]? :=λA L=>by rw[alI (amO L)]
     refine Eu y hu Y hz R U (l:=l) (ver:=([]++new).length) (frz:=frz) K g j3 siq c omq E F siq q (by rw[alP k8]) ?_ ?_ ?_
     ·cases hx:G.blk l ([]++new:List D).length with
      |none=>rfl
      |some b'=>
       have O:=f.2 _ _ hx;have V:=f.1;simp only[aq.ver,aq.len,ak2,alq]at O V;omega
     ·refine⟨ak7 _,λu0 n9 hx=> ?_⟩;have O:=f.2 _ _ hx;have V:=f.1;simp only[aq.ver,aq.len,ak2,alq]at O V⊢;omega
     ·have:=y.frzle _ _ N;simp only[aq.frz,aq.len,ak2,alq]at this⊢;omega
def unD:UnOp->D->Option D
 |.not,.bool b=>some (.bool (!b))
 |.neg,.int k n=>some (.int k (k.wrap (0-n)))
 |.xor,.int k n=>some (.int k (bits .xor k (if k.signed then-1 else k.max) n))
 |_,_=>none
def aiJ{a:UnOp}{x d:D}{v:Value}(h:unD a x=some d)(b:Rep G x v):∃u,(Op.unary a v).run P w=.ok u w/\Rep G d u:=by
 cases a<;>cases x<;>simp only[unD]at h<;>try (cases h;done)
 all_goals (simp only[Rep]at b;subst b;cases h)
 ·exact⟨_,rfl,by simp[Rep]⟩
 ·refine⟨_,by simp only[Op.unary,intBits_xor];rfl,by simp[Rep]⟩
 ·exact⟨_,rfl,by simp[Rep]⟩
inductive CK where
 |int(k:IntKind)|idStr|toBytes|toStr
 deriving Inhabited
def Np(P:Program)(a dst:TypeId):Option CK:=
 match P.underlying a,P.underlying dst with
 |some (.int _),some (.int k)=>some (.int k)
 |some .string,some .string=>some .idStr
 |some .string,some (.slice e)=>match P.underlying e,P.info? e with
  |some (.int .u8),some i=>if i.size=1 then some .toBytes else none
  |_,_=>none
 |some (.slice e),some .string=>match P.underlying e with
  |some (.int .u8)=>some .toStr
  |_=>none
 |_,_=>none
def zX:D->Option UInt8
 |.int .u8 n=>some (UInt8.ofNat n.toNat)
 |_=>none
def jv:List D->Option (List UInt8)
 |[]=>some []
 |d::c=>match zX d,jv c with
  |some b,some a=>some (b::a)
  |_,_=>none
def uQ(σ:List aq):CK->D->Option D
 |.int k,.int _ n=>some (.int k (k.wrap n))
 |.idStr,.str s=>some (.str s)
 |.toBytes,.str s=>if s.length<=ba then some (.list (s.map λb=>.int .u8 b.toNat) s.length false) else none
 |.toStr,.list c d f=>match oA σ 1 (.list c d f) with
  |some (a,_)=>(jv a).map .str
  |none=>none
 |.toStr,.sl l u o d z f=>match oA σ 1 (.sl l u o d z f) with
  |some (a,_)=>(jv a).map .str
  |none=>none
 |_,_=>none
def WR(s:List UInt8)(b:UInt8):(⟨s.toArray⟩:ByteArray).push b=⟨(s++[b]).toArray⟩:=by
 show(⟨s.toArray.push b⟩:ByteArray)=_;simp
def Nq:∀{cs:List D}{vs:List Value}{bs:List UInt8},af G cs vs->jv cs=some bs->∃e:List Int,vs=e.map (λn=>.int .u8 n)/\bs=e.map λn=>UInt8.ofNat n.toNat
 |[],_,_,h,a=>by
  simp only[af]at h;simp only[jv,ak1]at a;subst h a;exact⟨[],rfl,rfl⟩
 |d::l,_,_,h,a=>by
  simp only[af]at h;obtain⟨v,r,rfl,g,j⟩:=h;simp only[jv]at a;split at a<;>try (cases a;done)
  rename_i b i c f;cases a;obtain⟨e,rfl,rfl⟩:=Nq j f;cases d<;>simp only[zX]at c<;>try (cases c;done)
  rename_i k n;cases k<;>simp only[ak1]at c<;>try (cases c;done)
  subst c;simp only[Rep]at g;subst g;exact⟨n::e,rfl,rfl⟩
def aeB(M:Rel B G σ w){W dst:TypeId}{ck:CK}(z:Np P W dst=some ck){x d:D}{v:Value}(h:uQ σ ck x=some d)(C:Rep G x v):
 ∃u w' L,(convert W dst v).run P w=.ok u w'/\G.Le L/\Rel B L σ w'/\Rep L d u:=by
 unfold Np at z;split at z<;>try (cases z;done)
 ·rename_i k0 k S O;cases z;cases x<;>simp only[uQ]at h<;>try (cases h;done)
  cases h;simp only[Rep]at C;subst C;rename_i k1 n1;refine⟨.int k (k.wrap n1),w,G,?_,.refl G,M,by simp only[Rep]⟩;unfold convert;simp[ald S,ald O,Conv.intToInt]
 ·rename_i S O;cases z;cases x<;>simp only[uQ]at h<;>try (cases h;done)
  cases h;have k8:=C;simp only[Rep]at C;subst C;refine⟨_,w,G,?_,.refl G,M,k8⟩;unfold convert;simp[ald S,ald O]
 ·rename_i e S O;split at z<;>try (cases z;done)
  rename_i i he hi;split at z<;>try (cases z;done)
  rename_i m8;cases z;cases x<;>simp only[uQ]at h<;>try (cases h;done)
  rename_i s;split at h<;>try (cases h;done)
  rename_i K;cases h;simp only[Rep]at C;subst C;let c:=grownCap w s.length 0 e;have e9:s.length<=c:=grownCap_ge w s.length 0 e;have R:c<=maxLen:=aoM w s.length 0 e (by unfold maxLen;unfold ba at K;omega);let g:Array Value:=((s.toArray.map λb=>(Value.int .u8 b.toNat))++Array.replicate (c-s.length) (.int .u8 0));have H:=SG M.drew (s.map λb=>Value.int .u8 b.toNat) (List.replicate (c-s.length) (.int .u8 0)) e (g.size,g.size+1) g (by simp[g]);refine⟨.slice (some ⟨w.heap.size,0,none⟩) s.length c,w.drew.alloc (.cells g e (g.size,g.size+1)),_,?_,H.le,M.drew.grow H,?_⟩
  ·unfold convert;simp only[alh,ald S,ald O,ald he,ak9];unfold Conv.stringToBytes;have hq:(Question.appendCap s.length 0 e).forced=false:=rfl;simp only[nE,alh,run_choose,hq,alU,alV,ak9,newRow,anI,als];unfold markStringish;have T:({w with heap:=w.heap.push (.cells g e),drawn:=w.drawn+1}:World).shape? w.heap.size=some (e,g.size):=by
    simp[World.shape?]
   show Result.andThen (Sem.run P (markStringish ⟨w.heap.size,0,none⟩) (w.drew.alloc (.cells g e))) _=_;have j3:(w.drew.alloc (.cells g e)).shape? w.heap.size=some (e,g.size):=by
    have:=LT w.drew (.cells g e);unfold World.shape?;have h2:(w.drew.alloc (.cells g e)).heap[w.heap.size]?=some (.cells g e):=this;rw[h2]
   unfold markStringish;simp only[alh,run_shape,ak9,j3,run_freeze];congr 1;unfold World.freeze;rw[alJ omq];show World.mk _ _ _ _ _=World.mk _ _ _ _ _;congr 1;apply Array.ext_getElem?;intro j;show((w.heap.push (.cells g e)).modify w.heap.size _)[j]?=(w.heap.push (.cells g e (g.size,g.size+1)))[j]?;rw[anQ,an3,an3];by_cases Q:j=w.heap.size
   ·subst Q;simp
   ·simp[Q,amO Q]
  ·simp only[Rep];refine⟨_,c,rfl,e9,by unfold maxLen at R;exact R,by simp,.inl ⟨_,_,rfl,?_⟩⟩;refine Bj (b:=w.drew.heap.size) _ (s.map λb=>D.int .u8 b.toNat) [] _ rfl ?_ H.le;clear H e9 R K;induction s with
   |nil=>simp[af]
   |cons a s ih=>simp only[alc,af];exact⟨_,_,rfl,by simp[Rep],ih⟩
 ·rename_i e S O;split at z<;>try (cases z;done)
  rename_i he;cases z;obtain⟨E,n,p,J,t,rfl,T⟩:∃E n,oA σ 1 x=some (E,n)/\∃J,jv E=some J/\d=.str J/\((∃a b c,x=.list a b c)∨∃a b c d e f,x=.sl a b c d e f):=by
   cases x<;>simp only[uQ]at h<;>try (cases h;done)
   all_goals
    split at h<;>try (cases h;done)
    rename_i E n p;simp only[amK]at h;obtain⟨J,t,rfl⟩:=h
   ·exact⟨E,n,p,J,t,rfl,.inl ⟨_,_,_,rfl⟩⟩
   ·exact⟨E,n,p,J,t,rfl,.inr ⟨_,_,_,_,_,_,rfl⟩⟩
  have m5:E.all D.isCell=true:=by
   clear p T h;induction E generalizing J with
   |nil=>rfl
   |cons a E ih=>
    simp only[jv]at t;split at t<;>try (cases t;done)
    rename_i b m6 j7 Z;simp only[amw,ih _ Z,aoU];cases a<;>simp[zX]at j7<;>rfl
  have I:∀(a:Option Addr)(U q:Nat)(F:List Value),v=.slice a U q->af G E F->(a=none->F=[])->(∀x,a=some x->(loadCells x U).run P w=.ok F.toArray w)->
   ∃u w' L,(convert W dst v).run P w=.ok u w'/\G.Le L/\Rel B L σ w'/\Rep L (.str J) u:=by
   intro a U q F j4 X hn hl;subst j4;obtain⟨V,rfl,rfl⟩:=Nq X t;refine⟨.string ⟨(V.map λn=>UInt8.ofNat n.toNat).toArray⟩,w,G,?_,.refl G,M,by simp only[Rep]⟩;unfold convert;simp only[alh,ald S,ald O,ak9];cases a with
   |none=>
    have:=hn rfl;simp only[List.map_eq_nil_iff]at this;subst this;simp only[ald he,ak9];unfold Conv.bytesToString;rfl
   |some x=>
    have:=hl x rfl;simp only[ald he,ak9];unfold Conv.bytesToString;simp only[alh,this,ak9];have j5:∀(f:Value->ByteArray->Sem (ForInStep ByteArray))(_:∀n r,f (.int .u8 n) r=pure (ForInStep.yield (r.push (UInt8.ofNat n.toNat))))(V:List Int)(A:List UInt8),
     (ForIn.forIn (m:=Sem) (V.map λn=>Value.int .u8 n).toArray (⟨A.toArray⟩:ByteArray) f).run P w=.ok ⟨(A++V.map λn=>UInt8.ofNat n.toNat).toArray⟩ w:=by
     intro f hf V;induction V with
     |nil=>intro A;simp
     |cons n V ih=>
      intro A;have:=ih (A++[UInt8.ofNat n.toNat]);simp only[alc,List.forIn_toArray,List.forIn_cons,alh,hf,als,ak9,WR]at this⊢;rw[this];simp
    have e0:ByteArray.empty=(⟨([]:List UInt8).toArray⟩:ByteArray):=rfl;rw[e0,j5 _ (λ_ _=>rfl)];rfl
  cases x<;>simp only[oA]at p<;>try (cases p;done)
  ·rcases T with⟨_,_,_,h⟩|⟨_,_,_,_,_,_,h⟩<;>cases h
  ·rename_i j6 n' Y;split at p<;>try (cases p;done)
   rename_i y;cases p;simp only[Rep]at C;obtain⟨a,q,rfl,h1,h2,h3,h4⟩:=C;rcases h4 with⟨b,o,rfl,hc⟩|rfl
   ·obtain⟨F,X,j8⟩:=hc.reps;have hl:=X.length;refine I _ _ q F rfl X siq (λx hx=> ?_);cases hx;have:=am6 (P:=P) w ⟨b,o,none⟩ F (λj u Q=>by rw[fP];exact M.imm _ _ _ (j8 j u Q));rw[<-hl,y,ao5]at this;exact this
   ·have j9:n=0:=by simpa using y.symm
    subst j9;exact I a 0 q [] rfl (by simp[af]) (λ_=>rfl) (λx hx=>rfl)
  ·rename_i l u o n' m9 Y;split at p<;>try (cases p;done)
   rename_i j6 m7 u' hl;split at p<;>try (cases p;done)
   rename_i hc;obtain⟨rfl,rfl,y⟩:=hc;cases p;simp only[Rep]at C;rcases C with⟨b,q,n5,hb,rfl,h1,h2,h3,h4,h5⟩|⟨rfl,a,rfl⟩
   ·obtain⟨F,k9,X,N⟩:=M.cells_of hl hb y;refine I _ _ q F rfl X siq (λx hx=> ?_);cases hx;have:=am6 (P:=P) w ⟨b,o,none⟩ F (λj u Q=>by rw[fP];exact N j u Q);rw[k9,ao5]at this;exact this
   ·refine I a 0 0 [] rfl ?_ (λ_=>rfl) (λx hx=>rfl);simp[af]
end
end Go.Fw
def alj:=@List.mem_cons_of_mem
def alu:=@beq_eq_false_iff_ne
def alv:=@List.all_eq_true
def alG:=@List.mem_cons_self
def alW:=@List.mem_map
def amb:=@Option.isSome_iff_exists
def aml:=@List.getElem?_cons_succ
def anK:=@Nat.sub_self
def aos:=@List.map_fst_zip
def aot:=@List.map_snd_zip
def aoI:=@Nat.sub_zero
def aoO:=@List.pairwise_cons
namespace Go.Fw
open Go.RowKit
section
variable {P:Program}{B:bE P}{G:Gh}{σ:List aq}{w:World}
def WS{ds:List D}{i:Nat}{d:D}{v:Value}(h:ds[i]?=some d)(c:Rep G (.tuple ds) v):∃u,(Instr.extract v i).run P w=.ok u w/\Rep G d u:=by
 simp only[Rep]at c;obtain⟨a,rfl,e⟩:=c;obtain⟨u,f,b⟩:=e.get i h;refine⟨u,?_,b⟩;unfold Instr.extract;have:a[i]?=some u:=by simpa using f
 simp[this]
def zE(P:Program)(t:TypeId):Bool:=
 match P.underlying t with
 |some (.interface _)=>false
 |some _=>true
 |none=>false
def WT{t:TypeId}(h:zE P t=true)(v:Value):(Instr.makeInterface t v).run P w=.ok (.iface t v) w:=by
 unfold zE at h;split at h<;>try (cases h;done)
 rename_i d b a;unfold Instr.makeInterface;simp only[alh,ald a,ak9];rfl
def mmD(mx:Bool):D->List D->Option D
 |.int k a,[]=>some (.int k a)
 |.int k a,.int c b::r=>if k=c then mmD mx (.int k (if mx=true then(if b>a then b else a) else(if b<a then b else a))) r else none
 |_,_=>none
def mmL(mx:Bool):List D->Option D
 |[]=>none
 |a::r=>mmD mx a r
def ag2(p:Array TypeId)(t:TypeId){ds:List D}{vs:List Value}{d:D}(h:mmL true ds=some d)(c:af G ds vs):∃u,(Builtin.max_ p t vs.toArray).run P w=.ok u w/\Rep G d u:=by
 have l:∀(r:List D)(j:List Value)(a:D)(f:Value)(d:D),mmD true a r=some d->Rep G a f->af G r j->∃u,(j.foldlM Builtin.max2 f).run P w=.ok u w/\Rep G d u:=by
  intro r;induction r with
  |nil=>
   intro j a f d h g c;simp only[af]at c;subst c;cases a<;>simp only[mmD]at h<;>try (cases h;done)
   cases h;exact⟨f,by simp,g⟩
  |cons x r o=>
   intro j a f d h g c;simp only[af]at c;obtain⟨v,m,rfl,i,e⟩:=c;cases a<;>cases x<;>simp only[mmD]at h<;>try (cases h;done)
   split at h<;>try (cases h;done)
   rename_i n;subst n;simp only[Rep]at g i;subst g i;obtain⟨u,k,b⟩:=o m _ _ d h (by simp only[Rep];rfl) e;exact⟨u,by simpa[List.foldlM_cons,Builtin.max2] using k,b⟩
 cases ds with
 |nil=>simp[mmL]at h
 |cons a r=>
  simp only[af]at c;obtain⟨v,m,rfl,i,e⟩:=c;obtain⟨u,k,b⟩:=l r m a v d h i e;exact⟨u,by unfold Builtin.max_;simpa using k,b⟩
def ag3(p:Array TypeId)(t:TypeId){ds:List D}{vs:List Value}{d:D}(h:mmL false ds=some d)(c:af G ds vs):∃u,(Builtin.min_ p t vs.toArray).run P w=.ok u w/\Rep G d u:=by
 have l:∀(r:List D)(j:List Value)(a:D)(f:Value)(d:D),mmD false a r=some d->Rep G a f->af G r j->∃u,(j.foldlM Builtin.min2 f).run P w=.ok u w/\Rep G d u:=by
  intro r;induction r with
  |nil=>
   intro j a f d h g c;simp only[af]at c;subst c;cases a<;>simp only[mmD]at h<;>try (cases h;done)
   cases h;exact⟨f,by simp,g⟩
  |cons x r o=>
   intro j a f d h g c;simp only[af]at c;obtain⟨v,m,rfl,i,e⟩:=c;cases a<;>cases x<;>simp only[mmD]at h<;>try (cases h;done)
   split at h<;>try (cases h;done)
   rename_i n;subst n;simp only[Rep]at g i;subst g i;obtain⟨u,k,b⟩:=o m _ _ d h (by simp only[Rep];rfl) e;exact⟨u,by simpa[List.foldlM_cons,Builtin.min2] using k,b⟩
 cases ds with
 |nil=>simp[mmL]at h
 |cons a r=>
  simp only[af]at c;obtain⟨v,m,rfl,i,e⟩:=c;obtain⟨u,k,b⟩:=l r m a v d h i e;exact⟨u,by unfold Builtin.min_;simpa using k,b⟩
def WU(f:Rel B G σ w)(t:TypeId):∃u c a,(Instr.makeMap t none).run P w=.ok u c/\G.Le a/\Rel B a (σ++[.map [] []]) c/\Rep a (.map σ.length) u:=by
 obtain⟨d,e⟩:=f.bindOther (.map #[] 0) (.map [] []) siq (λa _ c b=>⟨#[],⟨b,by simp⟩,by simp[af],by simp[af]⟩);refine⟨.map (some w.heap.size),_,_,?_,d,e,by simp only[Rep];exact⟨_,by simp[Gh.bind0],rfl⟩⟩;unfold Instr.makeMap;simp
def iE(lk:LK)(k:D):List D->Nat->Option (Option Nat)
 |[],_=>some none
 |a::b,i=>match ig lk k a with
  |some true=>some (some i)
  |some false=>iE lk k b (i+1)
  |none=>none
def zF(P:Program)(t:TypeId):Option (LK×D):=
 match P.underlying t with
 |some (.map k e)=>
  match (match P.underlying k with|some (.int _)=>some LK.i|some .string=>some LK.s|some .bool=>some LK.b|_=>none),(match P.info? e with|some i=>(match i.zero with|some v=>Er v|none=>none)|none=>none) with
  |some lk,some z=>some (lk,z)
  |_,_=>none
 |_=>none
def Bo:LK->TypeDesc->Prop
 |.i,.int _=>True
 |.s,.string=>True
 |.b,.bool=>True
 |_,_=>False
variable{Z:LK}{Y:Value}{X:List (D×D)}
def CH{t:TypeId}{z:D}(h:zF P t=some (Z,z)):∃k e c i v,P.underlying t=some (.map k e)/\P.underlying k=some c/\Bo Z c/\P.info? e=some i/\i.zero=some v/\Er v=some z:=by
 unfold zF at h;split at h<;>try (cases h;done)
 rename_i k e g;split at h<;>try (cases h;done)
 rename_i l m b a;cases h;split at a<;>try (cases a;done)
 rename_i i d;split at a<;>try (cases a;done)
 rename_i v j;split at b<;>try (cases b;done)
 all_goals
  rename_i f;cases b;exact⟨k,e,_,i,v,g,f,by simp[Bo],d,j,a⟩
def Nr{kd:TypeDesc}(f:Bo Z kd){a b:D}{x y:Value}{r:Bool}(h:ig Z a b=some r)(c:Rep G a x)(d:Rep G b y):Instr.sameNow kd x y=some r:=by
 cases Z<;>cases a<;>cases b<;>simp only[ig]at h<;>try (cases h;done)
 all_goals
  simp only[Rep]at c d;subst c d;cases kd<;>simp only[Bo]at f
 ·simpa[Instr.sameNow] using h
 ·split at h<;>try (cases h;done)
  rename_i e;subst e;simpa[Instr.sameNow] using h
 ·simp only[Instr.sameNow,beq_toListBytes,uN];exact h
def rx{kd:TypeDesc}{k:TypeId}(b:Bo Z kd)(a:P.underlying k=some kd)(e:Bool)(n:Nat)(x:Value):(Instr.checkKey e (n+1) k x).run P w=.ok () w:=by
 unfold Instr.checkKey;simp only[alh,ald a,ak9];cases Z<;>cases kd<;>simp only[Bo]at b<;>rfl
def uR{kd:TypeDesc}(g:Bo Z kd){k:D}(f:Rep G k Y):∀(ks:List D)(es:List MapEntry)(i:Nat)(r:Option Nat),iE Z k ks i=some r->af G ks (es.map (·.key))->
 Instr.findNow kd Y es i=some (r.map λj=>(j,((es[j-i]?).map (·.val)).getD undef))/\(∀j,r=some j->i<=j/\j-i<es.length)
 |[],es,i,r,h,b=>by
  simp only[af,List.map_eq_nil_iff]at b;subst b;simp only[iE,ak1]at h;subst h;exact⟨rfl,by simp⟩
 |a::n,es,i,r,h,b=>by
  match es,b with
  |[],b=>simp only[af]at b;obtain⟨_,_,h,_⟩:=b;cases h
  |e::es,b=>
   simp only[alc,af]at b;obtain⟨v,u,t,m,p⟩:=b;cases t;simp only[iE]at h;split at h<;>try (cases h;done)
   ·rename_i c;cases h;simp only[Instr.findNow,Nr g c f m,amA,anK,aoe,Option.getD_some];exact⟨trivial,λj d=>by cases d;simp⟩
   ·rename_i c;obtain⟨o,l⟩:=uR g f n es (i+1) r h p;simp only[Instr.findNow,Nr g c f m];refine⟨?_,λj d=> ?_⟩
    ·rw[o];cases r with
     |none=>rfl
     |some j=>
      obtain⟨q,s⟩:=l j rfl;simp only[amA,ak1,aln,true_and];have:j-i=(j-(i+1))+1:=omq;rw[this,aml]
    ·obtain⟨q,s⟩:=l j d;simp only[ak4];omega
def zY(z:D)(ok:Bool)(r:Option D):D:=match r with
 |some d=>if ok then .tuple [d,.bool true] else d
 |none=>if ok then .tuple [z,.bool false] else z
def na(lk:LK)(z:D)(ok:Bool)(ks vs:List D)(k:D):Option D:=
 match iE lk k ks 0 with
 |some (some i)=>(vs[i]?).map λd=>zY z ok (some d)
 |some none=>some (zY z ok none)
 |none=>none
def Ev:List D->Bool
 |[]=>true
 |.int .i64 n::r=>(r.all λd=>match d with|.int .i64 m=> !(decide (n=m))|_=>false)&&Ev r
 |_::_=>false
def F2(G:Gh)(a:List (D×D))(l:List MapEntry):Prop:=af G (a.map (·.1)) (l.map (·.key))/\af G (a.map (·.2)) (l.map (·.val))
def Ns{l l':List MapEntry}(h:l.Perm l'):∀{b:List (D×D)},F2 G b l->∃c,c.Perm b/\F2 G c l':=by
 induction h with
 |nil=>exact λh=>⟨_,.refl _,h⟩
 |cons e _ E=>
  intro b h;cases b with
  |nil=>obtain⟨a,_⟩:=h;simp[af]at a
  |cons p b=>
   obtain⟨a,d⟩:=h;simp only[alc,af]at a d;obtain⟨v,r,o,g,j⟩:=a;obtain⟨O,K,x,k,n⟩:=d;cases o;cases x;obtain⟨c,C,f⟩:=E ⟨j,n⟩;exact⟨p::c,C.cons p,by simp only[alc,af];exact⟨_,_,rfl,g,f.1⟩,by simp only[alc,af];exact⟨_,_,rfl,k,f.2⟩⟩
 |swap e I l=>
  intro b h;obtain⟨a,d⟩:=h
  match b,a,d with
  |[],a,_=>simp[af]at a
  |[_],a,_=>simp[af]at a
  |p::q::b,a,d=>
   simp only[alc,af]at a d;obtain⟨v,r,o,g,N,J,t,i,j⟩:=a;obtain⟨u,s,x,k,M,L,y,m,n⟩:=d;cases o;cases t;cases x;cases y;refine⟨q::p::b,.swap _ _ _,?_,?_⟩
   ·simp only[alc,af];exact⟨_,_,rfl,i,_,_,rfl,g,j⟩
   ·simp only[alc,af];exact⟨_,_,rfl,m,_,_,rfl,k,n⟩
 |trans _ _ z A=>
  intro b h;obtain⟨p1,C,f⟩:=z h;obtain⟨p2,F,H⟩:=A f;exact⟨p2,F.trans C,H⟩
def kJ:D->Bool
 |.int .i64 _=>true
 |_=>false
def eX:D->Int
 |.int _ n=>n
 |_=>0
def kx(k:Int):List (D×D)->Option D
 |[]=>none
 |p::r=>if eX p.1=k then some p.2 else kx k r
def Lg{k:Int}{m c:List (D×D)}(h:m.Perm c)(hd:m.Pairwise λa b=>eX a.1≠eX b.1):kx k m=kx k c:=by
 induction h with
 |nil=>rfl
 |cons p _ n=>simp only[kx];rw[n (aoO.1 hd).2]
 |swap p q l=>
  have g:=(aoO.1 hd).1 p (alG ..);simp only[kx];by_cases d:eX p.1=k<;>by_cases f:eX q.1=k
  ·exact absurd (f.trans d.symm) g
  ·simp[d,f]
  ·simp[d,f]
  ·simp[d,f]
 |trans g _ i j=>
  rw[i hd];exact j ((g.pairwise_iff λh e=>h e.symm).1 hd)
def P3{n:Int}:∀(c:List (D×D))(i:Nat),(∀p∈c,kJ p.1=true)->∃o,iE .i (.int .i64 n) (c.map (·.1)) i=some o/\(∀j,o=some j->i<=j/\((c.map (·.2))[j-i]?=kx n c)/\(kx n c).isSome=true)/\(o=none->kx n c=none)
 |[],i,_=>⟨none,rfl,λj h=>(by cases h),λ_=>rfl⟩
 |p::c,i,h=>by
  obtain⟨a,b⟩:=p;have f:=h (a,b) (alG ..);simp only at f;cases a<;>try (cases f;done)
  rename_i k m;cases k<;>try (cases f;done)
  obtain⟨o,q,r,s⟩:=P3 (n:=n) c (i+1) λp t=>h p (alj _ t);by_cases e:n=m
  ·subst e;refine⟨some i,by simp[iE,ig],λj g=> ?_,λh=>by cases h⟩;cases g;simp[kx,eX]
  ·have l:¬m=n:=λh=>e h.symm;have d:kx n ((D.int .i64 m,b)::c)=kx n c:=by simp[kx,eX,l]
   refine⟨o,by simp only[alc,iE,ig,al1,alu.2 e];exact q,λj g=> ?_,λh=>by rw[d];exact s h⟩;obtain⟨x,u,v⟩:=r j g;refine⟨omq,?_,by rw[d];exact v⟩;rw[d,show j-i=(j-(i+1))+1 by omega,alc,aml];exact u
def uS{z:D}{ok:Bool}{n:Int}(h:∀p∈X,kJ p.1=true):na .i z ok (X.map (·.1)) (X.map (·.2)) (.int .i64 n)=some (zY z ok (kx n X)):=by
 unfold na;obtain⟨o,b,c,d⟩:=P3 (n:=n) X 0 h;rw[b];cases o with
 |none=>simp only;rw[d rfl]
 |some j=>
  obtain⟨_,a,f⟩:=c j rfl;simp only;rw[aoI]at a;rw[a];obtain⟨x,e⟩:=amb.1 f;rw[e];rfl
def F3:∀{ks:List D},Ev ks=true->(∀k∈ks,kJ k=true)/\ks.Pairwise λa b=>eX a≠eX b
 |[],_=>⟨λ_ h=>by simp at h,.nil⟩
 |k::r,h=>by
  cases k<;>try (cases h;done)
  rename_i i n;cases i<;>try (cases h;done)
  simp only[Ev,akY,alv]at h;obtain⟨e,f⟩:=F3 h.2;refine⟨λk c=> ?_,aoO.2 ⟨λd g=> ?_,f⟩⟩
  ·rcases alr.1 c with rfl|c
   ·rfl
   ·exact e k c
  ·have:=h.1 d g;split at this
   ·simpa[eX] using this
   ·cases this
def xk(lk:LK)(z:D)(ok:Bool)(ks vs:List D)(k:D):Option D:=match Ev ks with
 |true=>match k with
  |.int .i64 n=>match lk with
   |.i=>na .i z ok ks vs (.int .i64 n)
   |_=>none
  |_=>none
 |false=>none
def zH(σ:List aq)(lk:LK)(z:D)(ok:Bool)(m k:D):Option D:=
 match m with
 |.map l=>match σ[l]? with
  |some (.map a b)=>na lk z ok a b k
  |_=>none
 |.cmap a b=>na lk z ok a b k
 |.pmap a b=>xk lk z ok a b k
 |.nilmap=>if (ig lk k k).isSome then some (zY z ok none) else none
 |_=>none
def LZ{ok:Bool}{d:D}{v:Value}(b:Bool)(a:Rep G d v):Rep G (if ok then .tuple [d,.bool b] else d) (if ok then .tuple #[v,.bool b] else v):=by
 cases ok
 ·exact a
 ·simp only[al1,Rep,af];exact⟨_,rfl,v,_,rfl,a,_,_,rfl,rfl,rfl⟩
def CI{t:TypeId}{z:D}(H:zF P t=some (Z,z)){ok:Bool}{ks vs:List D}{k d:D}{b c:Nat}{es:Array MapEntry}(h:na Z z ok ks vs k=some d)
 (K:w.heap[b]?=some (.map es c))(A:af G ks (es.toList.map (·.key)))(L:af G vs (es.toList.map (·.val)))(x:Rep G k Y):
 ∃u,(Instr.lookup t (.map (some b)) Y ok).run P w=.ok u w/\Rep G d u:=by
 obtain⟨Q,e,O,i,M,y,a,l,E,J,q⟩:=CH H;have r:Rep G z M:=FX G q;have f:(getObj b).run P w=.ok (.map es c) w:=by simp[getObj,Sem.run,K]
 unfold na at h;split at h<;>try (cases h;done)
 ·rename_i j o;obtain⟨m,s⟩:=uR l x ks es.toList 0 (some j) o A;obtain⟨_,F⟩:=s j rfl;simp only[amK]at h;obtain⟨N,n,rfl⟩:=h;obtain⟨v,I,g⟩:=L.get j n;have p:es[j]?.map (·.val)=some v:=by simpa using I
  refine⟨_,?_,LZ (ok:=ok) true g⟩;unfold Instr.lookup Instr.findKey;simp only[alh,ald y,ak9,f,als,rx l a,ald a,m,amA,aoI];have:(es.toList[j]?.map (·.val)).getD undef=v:=by
   have C:es.toList[j]?=es[j]? :=by simp
   rw[C,p];rfl
  rw[this]
 ·rename_i o;obtain⟨m,s⟩:=uR l x ks es.toList 0 none o A;cases h;refine⟨_,?_,LZ (ok:=ok) false r⟩;unfold Instr.lookup Instr.findKey;simp[ald y,f,rx l a,ald a,m,zeroValue,typeInfo,E,J]
def YO(E:Rel B G σ w){t:TypeId}{z:D}(A:zF P t=some (Z,z)){ok:Bool}{m k d:D}{mv W:Value}(h:zH σ Z z ok m k=some d)(g:Rep G m mv)(I:Rep G k W):
 ∃u,(Instr.lookup t mv W ok).run P w=.ok u w/\Rep G d u:=by
 cases m<;>simp only[zH]at h<;>try (cases h;done)
 ·rename_i l;split at h<;>try (cases h;done)
  rename_i c f J;simp only[Rep]at g;obtain⟨b,X,rfl⟩:=g;obtain⟨U,o1,o2,o3⟩:=E.obj _ _ b J X;exact CI A h o1.1 o2 o3 I
 ·split at h<;>try (cases h;done)
  obtain⟨kt,e,kd,i,zv,hu,r,hl,Y,C,O⟩:=CH A;have Q:Rep G z zv:=FX G O;cases h;simp only[Rep]at g;subst g;refine⟨_,?_,LZ (ok:=ok) false Q⟩;unfold Instr.lookup Instr.findKey;simp[ald hu,rx hl r,ald r,Instr.findNow,zeroValue,typeInfo,Y,C]
 ·simp only[Rep]at g;obtain⟨b,U,rfl,q,x,y⟩:=g;obtain⟨F,_⟩:=E.mimm _ _ q;exact CI A h F x y I
 ·rename_i c f;simp only[Rep]at g;obtain⟨b,U,π,rfl,q,R,x,y⟩:=g;obtain⟨F,_⟩:=E.mimm _ _ q;unfold xk at h;split at h<;>try (cases h;done)
  rename_i o;split at h<;>try (cases h;done)
  split at h<;>try (cases h;done)
  obtain⟨o,M⟩:=F3 o;have V:c.length=f.length:=by rw[x.length,y.length];simp
  have v:(c.zip f).map (·.1)=c:=aos omq;have T:(c.zip f).map (·.2)=f:=aot omq;have L:F2 G (c.zip f) π:=⟨by rw[v];exact x,by rw[T];exact y⟩;obtain⟨S,p1,p2,p3⟩:=Ns R L;have C:∀p∈c.zip f,kJ p.1=true:=λp K=>o _ (by rw[<-v];exact alW.2 ⟨p,K,rfl⟩);have N:∀p∈S,kJ p.1=true:=λp K=>C p (p1.subset K);have s:(c.zip f).Pairwise λa b=>eX a.1≠eX b.1:=by
   have j:((c.zip f).map (·.1)).Pairwise λa b=>eX a≠eX b:=by rw[v];exact M
   rw[List.pairwise_map]at j;exact j
  have H:=uS (z:=z) (ok:=ok) (n:=‹Int›) C;rw[v,T,h]at H;rw[Lg p1.symm s,<-uS N]at H;exact CI A H.symm F p2 p3 I
def SQ(σ:List aq)(lk:LK)(m k x:D):Option (List aq):=
 match m with
 |.map l=>match σ[l]? with
  |some (.map a b)=>match iE lk k a 0 with
   |some (some i)=>some (σ.set l (.map a (b.set i x)))
   |some none=>if k.isCell=true then some (σ.set l (.map (a++[k]) (b++[x]))) else none
   |none=>none
  |_=>none
 |_=>none
end
end Go.Fw
def alK:=@Array.getElem?_toList
def al9:=@List.map_append
def amj:=@List.map_nil
def amy:=@beq_iff_eq
def amN:=@Int.toNat_of_nonneg
def am4:=@Array.getElem?_setIfInBounds_ne
def am7:=@List.set_cons_zero
def anJ:=@List.set_cons_succ
def aoh:=@decide_eq_false_iff_not
def aoy:=@Bool.or_eq_false_iff
def aoD:=@Int.natCast_mul
def aoW:=@beq_self_eq_true
namespace Go.Fw
open Go.RowKit
section
variable {P:Program}{B:bE P}{G:Gh}{σ:List aq}{w:World}
variable{Z Y:Value}{X:LK}
def Lf{k:D}(d:Rep G k Z):∀(ks:List D)(es:List MapEntry)(i j:Nat),iE X k ks i=some (some j)->af G ks (es.map (·.key))->
 ∃e,es[j-i]?=some e/\e.key=Z/\i<=j/\Instr.sameBits 10000 e.key Z=true
 |[],es,i,j,h,c=>by simp[iE]at h
 |a::l,es,i,j,h,c=>by
  match es,c with
  |[],c=>simp only[amj,af]at c;obtain⟨_,_,h,_⟩:=c;cases h
  |e::es,c=>
   simp only[alc,af]at c;obtain⟨v,t,r,f,q⟩:=c;cases r;simp only[iE]at h;split at h<;>try (cases h;done)
   ·rename_i b;simp only[ak1]at h;subst h;refine⟨e,by simp,?_⟩;cases X<;>cases k<;>cases a<;>simp only[ig]at b<;>try (cases b;done)
    all_goals simp only[Rep]at d f
    ·subst d;rw[f];simp only[ak1,amy]at b;subst b;exact⟨rfl,ak7 _,by simp[Instr.sameBits]⟩
    ·subst d;rw[f];split at b<;>try (cases b;done)
     rename_i g;subst g;simp only[ak1,amy]at b;subst b;exact⟨rfl,ak7 _,by simp[Instr.sameBits]⟩
    ·subst d;rw[f];simp only[ak1,amy]at b;subst b;exact⟨rfl,ak7 _,by simp only[Instr.sameBits,beq_toListBytes,aoW]⟩
   ·obtain⟨m,n,o,s,p⟩:=Lf d l es (i+1) j h q;refine⟨m,?_,o,omq,p⟩;have:j-i=(j-(i+1))+1:=omq;rw[this,aml];exact n
def af.set{G:Gh}:∀{ds:List D}{vs:List Value}(i:Nat){d:D}{v:Value},af G ds vs->Rep G d v->af G (ds.set i d) (vs.set i v)
 |[],_,_,_,_,h,_=>by simp only[af]at h;subst h;simp[af]
 |_::_,_,0,_,_,h,b=>by
  simp only[af]at h;obtain⟨_,r,rfl,_,a⟩:=h;simp only[am7,af];exact⟨_,r,rfl,b,a⟩
 |_::_,_,i+1,_,_,h,b=>by
  simp only[af]at h;obtain⟨v,r,rfl,c,a⟩:=h;simp only[anJ,af];exact⟨v,_,rfl,c,af.set i a b⟩
def zA(i:Rel B G σ w){l b:Nat}{ob a:aq}(N:σ[l]?=some ob)(s:G.blk l 0=some b){o o':Obj}(F:w.heap[b]?=some o)(p:ob.ver=0)(h:a.ver=0)(z:a.len=0)(y:a.frz=0)
 (j:∀r t f,o≠.cells r t f)(D:∀r f u,a≠.cells r f u)(C:G.mimm b=none)(m:∀K:World,K.heap[b]?=some o'->oP G K b a):
 Rel B G (σ.set l a) {w with heap:=w.heap.setIfInBounds b o'}:=by
 have A:=bB F;have d:∀k,k≠b->(w.heap.setIfInBounds b o')[k]?=w.heap[k]? :=λk J=>am4 (amO J);have g:(w.heap.setIfInBounds b o')[b]?=some o':=by simp[A]
 have M:=(i.blk _ _ _ s).2.1;refine i.update N (by rw[p];exact s) (.refl G) (λ_ _ _ x=>.inl x) (by rw[h];exact s) ?_ rfl rfl ?_ siq d ?_ C (m _ g) (λr L u e=>absurd e (D _ _ _)) omq omq
 ·intro q Q v I;refine⟨?_,λ_=>I⟩;have c:=i.imm _ _ _ I;have E:q≠b:=by
   rintro rfl;unfold World.cell? at c;rw[F]at c;cases o<;>first|exact absurd rfl (j _ _ _)|simp at c
  unfold World.cell? at c⊢;have:({w with heap:=w.heap.setIfInBounds b o'}:World).heap[q]?=w.heap[q]? :=d q E;simp only[this];exact c
 ·exact i.below.trans ⟨rfl,rfl,rfl,by simp,λk J=>d k omq⟩
 ·intro n O;obtain⟨S,R,f,H,_⟩:=i.siz _ _ O;rw[F]at H;cases H;exact absurd rfl (j _ _ _)
def YH(F:Rel B G σ w){t:TypeId}{z:D}(ht:zF P t=some (X,z)){m k x:D}{mv g n:Value}{σ':List aq}(h:SQ σ X m k x=some σ')(V:Rep G m mv)(J:Rep G k g)(Y:Rep G x n):
 ∃L,(Instr.mapUpdate t mv g n).run P w=.ok () L/\Rel B G σ' L:=by
 obtain⟨kt,e,kd,i,zv,W,o,K,hi,hz,e9⟩:=CH ht;cases m<;>simp only[SQ]at h<;>try (cases h;done)
 rename_i l;split at h<;>try (cases h;done)
 rename_i S vs p;simp only[Rep]at V;obtain⟨b,H,rfl⟩:=V;obtain⟨a,⟨C,u⟩,E,Z⟩:=F.obj _ _ b p H;generalize Q:a.size=c at C;have v:(getObj b).run P w=.ok (.map a c) w:=by simp[getObj,Sem.run,C]
 have A:∀o',(setObj b o').run P w=.ok () {w with heap:=w.heap.setIfInBounds b o'}:=λo'=>by simp[setObj,Sem.run,C]
 have y:G.mimm b=none:=F.ownm _ _ _ _ p H;split at h<;>try (cases h;done)
 ·rename_i j I;cases h;obtain⟨N,g2⟩:=uR K J S a.toList 0 (some j) I E;obtain⟨U,T,e2,_,e4⟩:=Lf J S a.toList 0 j I E;simp only[aoI]at T;have f:a[j]?=some U:=by simpa using T
  have r:(Instr.keyThatStays (((a[j]?).map (·.key)).getD g) g).run P w=.ok g w:=by
   rw[f];simp only[amA,Option.getD_some];unfold Instr.keyThatStays;rw[e4];rfl
  refine⟨_,?_,zA F p H C rfl rfl rfl rfl siq siq y (o':=.map (a.modify j λe=>{e with key:=g,val:=n}) c) ?_⟩
  ·unfold Instr.mapUpdate Instr.findKey;simp only[alh,ald W,ak9,v,rx K o,ald o,N,amA,als,r,A]
  ·intro L s;refine⟨a.modify j λe=>{e with key:=g,val:=n},⟨by rw[s];simp[Q],λq M d=> ?_⟩,?_,?_⟩
   ·rw[anQ]at d;by_cases e:j=q
    ·subst e;simp only[al1,f,amA,ak1]at d;rw[<-d];exact u j U f
    ·simp only[e,alV]at d;exact u q M d
   ·have:(a.modify j λe=>{e with key:=g,val:=n}).toList.map (·.key)=a.toList.map (·.key):=by
     apply amv;intro q;simp only[al4,alK,anQ];by_cases d:j=q
     ·subst d;simp[f,e2]
     ·simp[d]
    rw[this];exact E
   ·have:(a.modify j λe=>{e with key:=g,val:=n}).toList.map (·.val)=(a.toList.map (·.val)).set j n:=by
     apply amv;intro q;simp only[al4,alK,anQ];by_cases d:j=q
     ·subst d;have R:j<a.size:=by
       rcases alf j a.size with O|O
       ·exact O
       ·rw[anp O]at f;cases f
      rw[alP (by simpa using R)];simp[f]
     ·rw[alI d];simp[d]
    rw[this];exact Z.set j Y
 ·rename_i I;split at h<;>try (cases h;done)
  cases h;obtain⟨N,g2⟩:=uR K J S a.toList 0 none I E;refine⟨_,?_,zA F p H C rfl rfl rfl rfl siq siq y (o':=.map (a.push {key:=g,val:=n,born:=c}) (c+1)) ?_⟩
  ·unfold Instr.mapUpdate Instr.findKey;simp only[alh,ald W,ak9,v,rx K o,ald o,N,Option.map_none,als,A]
  ·intro L s;refine⟨a.push {key:=g,val:=n,born:=c},⟨by rw[s];simp[Q],λq M d=> ?_⟩,?_,?_⟩
   ·rw[an3]at d;split at d
    ·rename_i e;cases d;rw[<-Q];exact e.symm
    ·exact u q M d
   ·simp only[Array.toList_push,al9,alc,amj];exact E.append (by simp only[af];exact⟨g,[],rfl,J,rfl⟩)
   ·simp only[Array.toList_push,al9,alc,amj];exact Z.append (by simp only[af];exact⟨n,[],rfl,Y,rfl⟩)
def Rl(a:Option (List D×Nat))(d:Option (Nat×Nat))(σ:List aq)(l c:D):Option (D×List aq):=
 match a,d,kw l,kw c with
 |some (z,e),some (_,b),some n,some m=>
  if 0<=n/\n<=m/\m<=ba/\m.toNat*b<=ba then some (.sl σ.length 0 0 n.toNat e (decide (n=m)),σ++[.cells (ie z n.toNat) 0 0]) else none
 |_,_,_,_=>none
def SI(z:List D):∀a b,ie z (a+b)=ie z a++ie z b
 |0,b=>by simp[ie]
 |a+1,b=>by rw[show a+1+b=(a+b)+1 from omq,ie,ie,SI z a b,alp]
def af.split{G:Gh}:∀{ds es:List D}{vs:List Value},af G (ds++es) vs->∃a b,vs=a++b/\af G ds a/\af G es b
 |[],_,vs,h=>⟨[],vs,rfl,by simp[af],h⟩
 |d::ds,es,vs,h=>by
  simp only[alT,af]at h;obtain⟨v,r,rfl,c,e⟩:=h;obtain⟨a,b,rfl,f,g⟩:=af.split e;exact⟨v::a,b,rfl,by simp only[af];exact⟨v,a,rfl,c,f⟩,g⟩
def SJ(hR:Rel B G σ w){t:TypeId}{l c d:D}{σ':List aq}{p:Option (List D×Nat)}{C:Option (Nat×Nat)}(q:∀x,p=some x->IV P t=some x)(A:∀x,C=some x->wO P t=some x)(h:Rl p C σ l c=some (d,σ'))(hl:Rep G l Z)(hc:Rep G c Y):
 ∃u W o,(Instr.makeSlice t Z Y).run P w=.ok u W/\G.Le o/\Rel B o σ' W/\Rep o d u:=by
 unfold Rl at h;split at h<;>try (cases h;done)
 rename_i z sz e9 X n m hn hm;have a:=q _ rfl;have L:=A _ rfl;split at h<;>try (cases h;done)
 rename_i I;obtain⟨h0,h1,E,T⟩:=I;cases h;obtain⟨k1,rfl⟩:=pE hn hl;obtain⟨k2,rfl⟩:=pE hm hc;obtain⟨e,i,V,s,_,H⟩:=FZ L;unfold IV at a;rw[V]at a;simp only at a;split at a<;>try (cases a;done)
 rename_i z' i' hz y;rw[s]at y;cases y;split at a<;>try (cases a;done)
 rename_i Q;obtain⟨R,U⟩:=Q;cases a;obtain⟨j4,v,g,hv,r⟩:=lD hz;rw[s]at g;cases g;have S:=mY G r;have j:=LV S m.toNat;rw[R]at j;have b:ie z m.toNat=ie z n.toNat++ie z (m.toNat-n.toNat):=by
  rw[<-SI];congr 1;omega
 rw[b]at j;obtain⟨hd,tl,M,K,_⟩:=j.split;obtain⟨o,g1,g2,g3,g4⟩:=CF hR K tl e ((Array.range (m.toNat*i.size)).map (v.cells[· % v.cells.size]!)) M;have N:IntKind.i64.wrap n=n:=IntWalk.i64_in n (by unfold ba at E;omega);have O:IntKind.i64.wrap m=m:=IntWalk.i64_in m (by unfold ba at E;omega);refine⟨.slice (some ⟨w.heap.size,0,none⟩) n.toNat m.toNat,_,o,?_,g1,g2,?_⟩
 ·unfold Instr.makeSlice;have J:(m.toNat:Int)=m:=amN omq;have F:¬((i.bytes:Int)*m>2 ^ 48):=by
   have:((m.toNat*i.bytes:Nat):Int)<=(ba:Int):=by
    rw[<-H]at T;exact Int.ofNat_le.2 T
   rw[aoD,J,Int.mul_comm]at this;unfold ba at this;omega
  simp only[ald V,alh,asInt,asIntOf,als,ak9,typeInfo,amq,s,N,O];have c1:((decide (m<0)||decide ((i.bytes:Int)*m>2 ^ 48))||decide (n<0)||decide (n>m))=false:=by
   simp only[aoy,aoh];refine⟨⟨⟨omq,F⟩,omq⟩,omq⟩
  rw[alJ (by rw[c1];simp)];simp only[run_askRoom,ak9,sizeOf,typeInfo,alh,amq,s,als];by_cases k:m.toNat*i.size=0
  ·have j3:m.toNat=0:=by
    rcases aoE.1 k with h|h<;>omega
   have e0:∀f:Nat->Value,Array.map f (Array.range 0)= #[]:=by intro f;simp
   simp only[k,al1,als,ak9,e0,newRow,alh,anI];rfl
  ·simp only[k,alV,alh,zeroValue,typeInfo,amq,ak9,s,als,hv,newRow,anI];rfl
 ·simp only[Rep];refine .inl ⟨w.heap.size,m.toNat,_,g3,rfl,omq,by unfold ba at E;omega,?_,g4,?_⟩
  ·intro hf;simp only[alL]at hf;omega
  ·simp
def UU(f:Rel B G σ w){t:TypeId}(g:P.underlying t=some .string)(s:List UInt8):
 ∃u c a,(Instr.range t (.string ⟨s.toArray⟩)).run P w=.ok u c/\G.Le a/\Rel B a (σ++[.siter s 0]) c/\Rep a (.ptr σ.length 0 0) u:=by
 obtain⟨d,e⟩:=f.bindOther (.stringIter ⟨s.toArray⟩ 0) (.siter s 0) siq (λa _ c b=>b);refine⟨.pointer (some ⟨w.heap.size,0,none⟩),_,_,?_,d,e,by simp only[Rep];exact⟨_,by simp[Gh.bind0],rfl⟩⟩;unfold Instr.range;simp[ald g]
def Bk(σ:List aq)(a:D):Option (D×List aq):=
 match a with
 |.ptr l 0 0=>match σ[l]? with
  |some (.siter s pos)=>
   if pos<s.length then
    some (.tuple [.bool true,.int .i64 pos,.int .i32 (Utf8.decode ⟨s.toArray⟩ pos).1],σ.set l (.siter s (pos+(Utf8.decode ⟨s.toArray⟩ pos).2)))
   else some (.tuple [.bool false],σ)
  |_=>none
 |_=>none
def WM(g:Rel B G σ w){q d:D}{σ':List aq}{v:Value}(ty:TypeId)(h:Bk σ q=some (d,σ'))(p:Rep G q v):
 ∃u m,(Instr.next v true ty).run P w=.ok u m/\Rel B G σ' m/\Rep G d u:=by
 unfold Bk at h;split at h<;>try (cases h;done)
 rename_i l;split at h<;>try (cases h;done)
 rename_i s a f;simp only[Rep]at p;obtain⟨b,n,rfl⟩:=p;have i:w.heap[b]?=some (.stringIter ⟨s.toArray⟩ a):=g.obj _ _ b f n;have e:(getObj b).run P w=.ok (.stringIter ⟨s.toArray⟩ a) w:=by simp[getObj,Sem.run,i]
 have j:G.mimm b=none:=by
  cases r:G.mimm b with
  |none=>rfl
  |some t=>
   obtain⟨o,_⟩:=g.mimm _ _ r;rw[i]at o;cases o
 split at h
 ·rename_i c;cases h;refine⟨.tuple #[.bool true,goInt a,.int .i32 (Utf8.decode ⟨s.toArray⟩ a).1],_,?_,zA g f n i rfl rfl rfl rfl siq siq j (o':=.stringIter ⟨s.toArray⟩ (a+(Utf8.decode ⟨s.toArray⟩ a).2)) (λm k=>k),?_⟩
  ·unfold Instr.next;simp only[alh,e,ak9,nE,c,al1];have:(setObj b (.stringIter ⟨s.toArray⟩ (a+(Utf8.decode ⟨s.toArray⟩ a).2))).run P w=.ok () {w with heap:=w.heap.setIfInBounds b (.stringIter ⟨s.toArray⟩ (a+(Utf8.decode ⟨s.toArray⟩ a).2))}:=by simp[setObj,Sem.run,i]
   simp only[this,ak9,als]
  ·simp only[Rep,af];exact⟨_,rfl,_,_,rfl,rfl,_,_,rfl,rfl,_,_,rfl,rfl,rfl⟩
 ·rename_i c;cases h;refine⟨.tuple #[.bool false],w,?_,g,by simp only[Rep,af];exact⟨_,rfl,_,_,rfl,rfl,rfl⟩⟩;unfold Instr.next;simp only[alh,e,ak9,nE,c,alV,als]
end
end Go.Fw
def ami:=@List.eq_nil_iff_forall_not_mem
def anP:=@List.mem_filter
def aob:=@Nat.eq_zero_or_pos
def aoS:=@bne_self_eq_false
def aoZ:=@bne_iff_ne
namespace Go.Fw
open Go.RowKit
section
variable {P:Program}{B:bE P}{G:Gh}{σ σ' :List aq}{w:World}
def UV(l:Rel B G σ w){t k e:TypeId}(s:P.underlying t=some (.map k e)){ks vs:List D}{v:Value}(n:Rep G (.cmap ks vs) v):
 ∃u i f,(Instr.range t v).run P w=.ok u i/\G.Le f/\Rel B f (σ++[.miter ks vs (List.range ks.length) none]) i/\Rep f (.ptr σ.length 0 0) u:=by
 simp only[Rep]at n;obtain⟨b,c,rfl,m,j,q⟩:=n;obtain⟨r,_⟩:=l.mimm _ _ m;have d:ks.length=c.size:=by have:=j.length;simpa using this
 obtain⟨o,p⟩:=l.bindOther (.mapIter (some b) c.size #[] c.size) (.miter ks vs (List.range ks.length) none) siq
  (λf a i h=>⟨b,c,#[],h,a.mimm _ _ m,af.mono a _ _ j,af.mono a _ _ q,by simp[d],by simp⟩)
 refine⟨.pointer (some ⟨w.heap.size,0,none⟩),_,_,?_,o,p,by simp only[Rep];exact⟨_,by simp[Gh.bind0],rfl⟩⟩;have g:(getObj b).run P w=.ok (.map c c.size) w:=by simp[getObj,Sem.run,r]
 unfold Instr.range;simp[ald s,g]
def YI(n:Nat)(c:0<n):∃k a,(choose (.mapNext n)).run P w=.ok k a/\k<n/\(a=w∨a=w.drew):=by
 have h:(choose (.mapNext n)).run P w=if (Question.mapNext n).forced then .ok 0 w else .ok ((Question.mapNext n).cut (w.tape w.drawn (.mapNext n))) {w with drawn:=w.drawn+1}:=rfl
 by_cases b:(Question.mapNext n).forced=true
 ·exact⟨0,w,by rw[h,ali b],c,.inl rfl⟩
 ·exact⟨(w.tape w.drawn (.mapNext n)) % n,w.drew,by rw[h,alJ b];rfl,Nat.mod_lt _ c,.inr rfl⟩
def WN(E:Rel B G σ w){l:Nat}{ks vs:List D}{p:List Nat}{Z:Option Nat}{v:Value}(ty:TypeId)(hl:σ[l]?=some (.miter ks vs p Z))(hv:Rep G (.ptr l 0 0) v):
 ∃u Y,(Instr.next v false ty).run P w=.ok u Y/\
  ((p=[]/\Rel B G σ Y/\Rep G (.tuple [.bool false]) u)∨
   (∃i a b,i∈p/\ks[i]?=some a/\vs[i]?=some b/\Rel B G (σ.set l (.miter ks vs (p.filter (· !=i)) (some i))) Y/\Rep G (.tuple [.bool true,a,b]) u)):=by
 simp only[Rep]at hv;obtain⟨b,hb,rfl⟩:=hv;obtain⟨m,d,seen,o1,o2,o3,o4,o5,o6⟩:=E.obj _ _ b hl hb;obtain⟨hm,g⟩:=E.mimm _ _ o2;have K:(getObj b).run P w=.ok (.mapIter (some m) d.size seen d.size) w:=by simp[getObj,Sem.run,o1]
 have J:(getObj m).run P w=.ok (.map d d.size) w:=by simp[getObj,Sem.run,hm]
 have o:(!seen.isEmpty&& !d.isEmpty&&d.all (·.born>=d.size))=false:=by
  by_cases f:d.isEmpty=true
  ·simp[f]
  ·have t:0<d.size:=by
    rcases aob d.size with h|h
    ·exact absurd (by simp[Array.isEmpty,h]) f
    ·exact h
   have:d.all (·.born>=d.size)=false:=by
    rw[Array.all_eq_false];refine⟨0,t,?_⟩;have:=g 0 d[0] (alo t);rw[alL,this];omega
   simp[this]
 have S:∀(l:Array MapEntry),(∀e∈l,e∈d)->l.filter (·.born<d.size)=l/\l.filter (·.born>=d.size)= #[]:=by
  intro l j5;have R:∀e∈l,e.born<d.size:=by
   intro e f;obtain⟨i,s,rfl⟩:=Array.getElem_of_mem (j5 e f);rw[g i _ (alo s)];exact s
  constructor
  ·rw[Array.filter_eq_self];intro e f;simpa using R e f
  ·rw[Array.filter_eq_empty_iff];intro e f;simpa using R e f
 generalize n:(d.filter λe=> !seen.contains e.born)=left;have x:∀e∈left,e∈d/\seen.contains e.born=false:=by
  intro e f;rw[<-n,Array.mem_filter]at f;exact⟨f.1,by simpa using f.2⟩
 obtain⟨O,Q⟩:=S left λe f=>(x e f).1;have y:0<((if left.isEmpty then #[none] else #[])++(left++ #[]).map some:Array (Option MapEntry)).size:=by
  by_cases f:left.isEmpty=true
  ·simp[f];omega
  ·have:0<left.size:=by
    rcases aob left.size with h|h
    ·exact absurd (by simp[Array.isEmpty,h]) f
    ·exact h
   simp[f];exact this
 obtain⟨k,A,hk,M,W⟩:=YI (P:=P) (w:=w) _ y;have F:Rel B G σ A:=by rcases W with rfl|rfl;exact E;exact E.drew
 have z:A.heap=w.heap:=by rcases W with rfl|rfl<;>rfl
 have X:A.heap[b]?=some (.mapIter (some m) d.size seen d.size):=by rw[z];exact o1
 have j6:G.mimm b=none:=by
  cases hx:G.mimm b with
  |none=>rfl
  |some k8=>
   obtain⟨r,_⟩:=E.mimm _ _ hx;rw[o1]at r;cases r
 obtain⟨c,r⟩:∃c,((if left.isEmpty then #[none] else #[])++(left++ #[]).map some:Array (Option MapEntry))[k]?=some c:=⟨_,alo M⟩;cases c with
 |none=>
  refine⟨.tuple #[.bool false],A,?_,.inl ⟨?_,F,by simp only[Rep,af];exact⟨_,rfl,_,_,rfl,rfl,rfl⟩⟩⟩
  ·unfold Instr.next;simp only[alh,K,ak9,J,o,alU,alV,n,O,Q,hk,r,als]
  ·have I:left= #[]:=by
    by_cases f:left.isEmpty=true
    ·simpa using f
    ·rw[alJ f]at r;simp at r
   rw[ami];intro i s;obtain⟨C,q⟩:=(o5 i).1 s;have:d[i]∈left:=by
    rw[<-n,Array.mem_filter];exact⟨Array.getElem_mem _,by rw[g i _ (alo C)];simpa using q⟩
   rw[I]at this;simp at this
 |some e=>
  have e9:e∈left:=by
   have:=Array.mem_of_getElem? r;simp only[Array.mem_append,Array.mem_map,ak1,exists_eq_right]at this;rcases this with h|h
   ·split at h<;>simp at h
   ·simpa using h
  obtain⟨j3,T⟩:=x e e9;obtain⟨i,s,rfl⟩:=Array.getElem_of_mem j3;have H:=g i _ (alo s);rw[H]at T;have L:i<ks.length:=by have:=o3.length;simp at this;omega
  have U:i<vs.length:=by have:=o4.length;simp at this;omega
  obtain⟨kv,N,j4⟩:=o3.get i (akZ L);obtain⟨vv,V,j8⟩:=o4.get i (akZ U);simp[s]at N V;subst N V;refine⟨.tuple #[.bool true,d[i].key,d[i].val],_,?_,.inr ⟨i,ks[i],vs[i],(o5 i).2 ⟨s,T⟩,akZ L,akZ U,
   zA F hl hb X rfl rfl rfl rfl siq siq j6 (o':=.mapIter (some m) d.size (seen.push i) d.size) (λY j9=>⟨m,d,seen.push i,j9,o2,o3,o4,λj=> ?_,λj hj=> ?_⟩),
   by simp only[Rep,af];exact⟨_,rfl,_,_,rfl,rfl,_,_,rfl,j4,_,_,rfl,j8,rfl⟩⟩⟩
  ·unfold Instr.next;have j7:(setObj b (.mapIter (some m) d.size (seen.push d[i].born) d.size)).run P A=.ok () {A with heap:=A.heap.setIfInBounds b (.mapIter (some m) d.size (seen.push i) d.size)}:=by
    rw[H];simp[setObj,Sem.run,X]
   simp only[alh,K,ak9,J,o,alU,alV,n,O,Q,hk,r,j7,als]
  ·simp only[anP,o5 j,aoZ,ne_eq];constructor
   ·rintro⟨⟨C,q⟩,h3⟩;refine⟨C,?_⟩;simp at q⊢;exact⟨q,h3⟩
   ·rintro⟨C,q⟩;simp at q⊢;exact⟨⟨C,q.1⟩,q.2⟩
  ·cases hj;simp
def Nm(σ:List aq)(c:D):Option D:=
 match c with
 |.ptr l 0 0=>match σ[l]? with
  |some (.miter d e _ (some i))=>match d[i]?,e[i]? with
   |some a,some b=>some (.tuple [a,b])
   |_,_=>none
  |_=>none
 |_=>none
def UW(x:Rel B G σ w){z d:D}{v:Value}(h:Nm σ z=some d)(y:Rep G z v):∃u,(Instr.entry v).run P w=.ok u w/\Rep G d u:=by
 unfold Nm at h;split at h<;>try (cases h;done)
 rename_i l;split at h<;>try (cases h;done)
 rename_i Q T N i F;split at h<;>try (cases h;done)
 rename_i a c A E;cases h;simp only[Rep]at y;obtain⟨b,C,rfl⟩:=y;obtain⟨m,e,seen,I,J,K,L,S,M⟩:=x.obj _ _ b F C;obtain⟨H,f⟩:=x.mimm _ _ J;have q:(getObj b).run P w=.ok (.mapIter (some m) e.size seen e.size) w:=by simp[getObj,Sem.run,I]
 have p:(getObj m).run P w=.ok (.map e e.size) w:=by simp[getObj,Sem.run,H]
 obtain⟨R,g,s⟩:=K.get i A;obtain⟨U,n,t⟩:=L.get i E;have r:i<e.size:=by
  rcases alf i e.size with o|o
  ·exact o
  ·rw[alg (by simpa using o)]at g;cases g
 simp[r]at g n;subst g n;have k:e.find? (·.born==i)=some e[i]:=by
  rw[Array.find?_eq_some_iff_getElem];refine⟨by simp[f i _ (alo r)],i,r,rfl,λj O=> ?_⟩;have:=f j e[j] (alo omq);simp[this];omega
 refine⟨.tuple #[e[i].key,e[i].val],?_,by simp only[Rep,af];exact⟨_,rfl,_,_,rfl,s,_,_,rfl,t,rfl⟩⟩;unfold Instr.entry;simp only[alh,q,ak9,M i rfl,p,aoS,alU,alV,k,als]
end
end Go.Fw
def ak6:=@Array.getD_eq_getD_getElem?
def alb:=@Nat.le_of_ble_eq_true
def alM:=@List.mem_append
def amp:=@Nat.eq_of_beq_eq_true
namespace Go.Fw
open Go.RowKit
def get:List (Nat×D)->Nat->Option D
 |[],_=>none
 |(i,d)::r,t=>if i=t then some d else get r t
structure de(G:Gh)(N:Nat)(τ:List (Nat×D))(a:Act):Prop where
 size:a.tmps.size=N
 defers:a.defers=[]
 slot:∀t d,get τ t=some d->Rep G d (a.tmps.getD t undef)
def de.mono{G G':Gh}{N:Nat}{τ:List (Nat×D)}{a:Act}(h:de G N τ a)(b:G.Le G'):de G' N τ a:=
 ⟨h.size,h.defers,λt d c=>Rep.mono b _ _ (h.slot t d c)⟩
def de.sub{G:Gh}{N:Nat}{τ τ':List (Nat×D)}{a:Act}(h:de G N τ a)(b:∀t d,get τ' t=some d->get τ t=some d):de G N τ' a:=
 ⟨h.size,h.defers,λt d c=>h.slot t d (b t d c)⟩
def de.put{G:Gh}{N:Nat}{τ:List (Nat×D)}{a:Act}(h:de G N τ a){t:Nat}(g:t<N){d:D}{v:Value}(i:Rep G d v):de G N ((t,d)::τ) (a.put (some t) v):=by
 refine⟨by simp[Act.put,h.size],h.defers,λc f b=> ?_⟩;simp only[get]at b;simp only[Act.put];by_cases e:t=c
 ·subst e;simp only[al1,ak1]at b;subst b;have:t<a.tmps.size:=by rw[h.size];exact g
  simp[ak6,this,i]
 ·simp only[e,alV]at b;have:=h.slot c f b;simpa[ak6,am4 e] using this
def ev(τ:List (Nat×D)):Operand->Option D
 |.tmp t=>get τ t
 |.const v=>Er v
 |.func f=>some (.func (.func f) [] [])
 |.global _=>none
def bg{G:Gh}{N:Nat}{τ:List (Nat×D)}{a:Act}(h:de G N τ a){x:Operand}{d:D}(b:ev τ x=some d):Rep G d (a.eval x):=by
 cases x<;>simp only[ev]at b
 ·exact h.slot _ _ b
 ·exact FX G b
 ·cases b
 ·cases b;simp only[Act.eval,Rep,af];exact⟨_,_,rfl,rfl,rfl⟩
def evs(τ:List (Nat×D)):List Operand->Option (List D)
 |[]=>some []
 |x::b=>match ev τ x with
  |some d=>match evs τ b with
   |some a=>some (d::a)
   |none=>none
  |none=>none
def Al{G:Gh}{N:Nat}{τ:List (Nat×D)}{a:Act}(h:de G N τ a):∀{xs:List Operand}{ds:List D},evs τ xs=some ds->af G ds (xs.map a.eval)
 |[],_,b=>by simp only[evs,ak1]at b;subst b;simp[af]
 |x::xs,_,b=>by
  simp only[evs]at b;split at b<;>try (cases b;done)
  rename_i d e;split at b<;>try (cases b;done)
  rename_i ds c;cases b;simp only[alc,af];exact⟨_,_,rfl,bg h e,Al h c⟩
def evo(τ:List (Nat×D)):Option Operand->Option (Option D)
 |none=>some none
 |some x=>match ev τ x with
  |some d=>some (some d)
  |none=>none
def RG{G:Gh}{N:Nat}{τ:List (Nat×D)}{a:Act}(h:de G N τ a){x:Option Operand}{d:Option D}(b:evo τ x=some d):agV G d (x.map a.eval):=by
 cases x with
 |none=>simp only[evo,ak1]at b;subst b;trivial
 |some x=>
  simp only[evo]at b;split at b<;>try (cases b;done)
  rename_i e c;cases b;exact bg h c
def evp(τ:List (Nat×D)):List (Nat×Operand)->Option (List (Nat×D))
 |[]=>some []
 |(i,x)::b=>match ev τ x with
  |some d=>match evp τ b with
   |some a=>some ((i,d)::a)
   |none=>none
  |none=>none
def MH{G:Gh}{N:Nat}{τ:List (Nat×D)}{a:Act}(h:de G N τ a):∀{xs:List (Nat×Operand)}{ds:List (Nat×D)},evp τ xs=some ds->
 ds.length=xs.length/\∀(j i:Nat)(d:D),ds[j]?=some (i,d)->∃v,(xs.map λ(i,x)=>(i,a.eval x))[j]?=some (i,v)/\Rep G d v
 |[],_,b=>by simp only[evp,ak1]at b;subst b;simp
 |(i,x)::xs,_,b=>by
  simp only[evp]at b;split at b<;>try (cases b;done)
  rename_i d l;split at b<;>try (cases b;done)
  rename_i ds e;cases b;obtain⟨g,k⟩:=MH h e;refine⟨by simp[g],λj m f c=> ?_⟩;cases j with
  |zero=>
   simp only[aoe,ak1,aln]at c;obtain⟨rfl,rfl⟩:=c;exact⟨_,rfl,bg h l⟩
  |succ j=>
   simp only[aml]at c;simpa using k j m f c
inductive SK where
 |slice(sz:Nat)|string|array(n sz:Nat)
def zU(P:Program)(t:TypeId):Option SK:=
 match P.underlying t with
 |some .string=>some .string
 |some (.slice _)=>(wO P t).map λx=>.slice x.1
 |some (.array _ _)=>match JM P t with
  |some (n,a)=>if n<=9223372036854775807 then some (.array n a) else none
  |none=>none
 |_=>none
inductive IK where
 |slice(sz:Nat)|array(n sz:Nat)
def Ra(P:Program)(t:TypeId):Option IK:=
 match P.underlying t with
 |some (.slice _)=>(wO P t).map λx=>.slice x.1
 |some (.array _ _)=>(JM P t).map λx=>.array x.1 x.2
 |_=>none
inductive IVK where
 |string|array(len n:Nat)(agg:Bool)
def MJ(P:Program)(t:TypeId):Option IVK:=
 match P.underlying t with
 |some .string=>some .string
 |some (.array len e)=>match uL P e with
  |some (n,b)=>some (.array len n b)
  |none=>none
 |_=>none
inductive Tr(α:Type) where
 |nil
 |node(l:Tr α)(k:Nat)(x:α)(r:Tr α)
def lk{α:Type}(a:Tr α)(t:Nat):Option α:=
 match a with
 |.nil=>none
 |.node l k x r=>match Nat.beq t k with
  |true=>some x
  |false=>match Nat.ble t k with
   |true=>lk l t
   |false=>lk r t
def lk2{α:Type}(a:Tr α)(s t:Nat):Option α:=
 match Nat.ble t 65535 with
 |true=>lk a (Nat.add (Nat.mul s 65536) t)
 |false=>none
def Tr.toL{α:Type}:Tr α->List (Nat×α)
 |.nil=>[]
 |.node l k x r=>l.toL++(k,x)::r.toL
def RH{α:Type}:∀{a:Tr α}{t:Nat}{x:α},lk a t=some x->(t,x)∈a.toL
 |.nil,_,_,h=>by simp[lk]at h
 |.node l k y r,t,x,h=>by
  simp only[lk]at h;simp only[Tr.toL,alM,alr];split at h
  ·rename_i e;have:=amp e;cases h;subst this;exact .inr (.inl rfl)
  ·split at h
   ·exact .inl (RH h)
   ·exact .inr (.inr (RH h))
def cg{α:Type}(f:Nat->Option α)(a:Tr α):Prop:=(a.toL.map λp=>f p.1)=a.toL.map λp=>some p.2
def fU{α:Type}{f:Nat->Option α}{a:Tr α}(b:cg f a){t:Nat}{x:α}(h:lk a t=some x):f t=some x:=by
 have c:=RH h;obtain⟨n,d,e⟩:=List.getElem_of_mem c;have:=alD (·[n]?) b;simpa[d,e] using this
def MK{α:Type}{f:Nat->Nat->Option α}{b:Tr α}(e:cg (λk=>f (k / 65536) (k % 65536)) b){s t:Nat}{x:α}(h:lk2 b s t=some x):f s t=some x:=by
 unfold lk2 at h;split at h<;>try (cases h;done)
 rename_i a;have a:=alb a;have:=fU e h;have c:(Nat.add (Nat.mul s 65536) t) / 65536=s:=by
  show(s*65536+t) / 65536=s;omega
 have d:(Nat.add (Nat.mul s 65536) t) % 65536=t:=by
  show(s*65536+t) % 65536=t;omega
 rw[c,d]at this;exact this
def H2(P:Program)(t:TypeId)(a:String):Option FuncId:=
 match P.info? t with
 |some i=>match i.methods.find? (·.name==a) with
  |some m=>match m.path.toList,m.func,P.underlying t with
   |[],some (f,false),some (.struct _)=>some f
   |_,_,_=>none
  |none=>none
 |none=>none
def lkM:List (Nat×String×Nat)->Nat->String->Option Nat
 |[],_,_=>none
 |(t,n,f)::r,b,a=>match Nat.beq t b with
  |true=>match n==a with
   |true=>some f
   |false=>lkM r b a
  |false=>lkM r b a
inductive ExK where
 |count|indexByte
def Rb(P:Program)(f:FuncId):Option ExK:=
 match P.funcs[f]? with
 |some a=>match a.body with
  |some _=>none
  |none=>match a.origin== "" with
   |false=>none
   |true=>match a.name== "internal/bytealg.CountString" with
    |true=>some .count
    |false=>match a.name== "internal/bytealg.IndexByteString" with
     |true=>some .indexByte
     |false=>none
 |none=>none
structure Tys where
 ld:Tr (Nat×Bool):=.nil
 fld:Tr Nat:=.nil
 fldV:Tr (Nat×Nat×Bool):=.nil
 zero:Tr (List D):=.nil
 build:Tr (List D×aS):=.nil
 bs:Tr (List D×Nat):=.nil
 msl:Tr (Nat×Nat):=.nil
 eq:Tr EK:=.nil
 conv:Tr CK:=.nil
 conc:Tr Unit:=.nil
 sli:Tr SK:=.nil
 idx:Tr IK:=.nil
 idxV:Tr IVK:=.nil
 map:Tr (LK×D):=.nil
 len:Tr eE:=.nil
 app:Tr (Nat×Nat):=.nil
 meth:List (Nat×String×Nat):=[]
 ext:Tr ExK:=.nil
def RI(P:Program)(t:TypeId):Option Unit:=if zE P t then some () else none
structure TOk(T:Tys)(P:Program):Prop where
 ld:cg (uL P) T.ld
 fld:cg (λk=>Rk P (k / 65536) (k % 65536)) T.fld
 fldV:cg (λk=>Nn P (k / 65536) (k % 65536)) T.fldV
 zero:cg (mZ P) T.zero
 build:cg (JO P) T.build
 bs:cg (IV P) T.bs
 msl:cg (wO P) T.msl
 eq:cg (OY P) T.eq
 conv:cg (λk=>Np P (k / 65536) (k % 65536)) T.conv
 conc:cg (RI P) T.conc
 sli:cg (zU P) T.sli
 idx:cg (Ra P) T.idx
 idxV:cg (MJ P) T.idxV
 map:cg (zF P) T.map
 len:cg (Rm P) T.len
 app:cg (λk=>CG P (k / 65536) (k % 65536)) T.app
 meth:(T.meth.map λp=>H2 P p.1 p.2.1)=T.meth.map λp=>some p.2.2
 ext:cg (Rb P) T.ext
def RJ{f:Nat->String->Option Nat}:∀{l:List (Nat×String×Nat)},(l.map λp=>f p.1 p.2.1)=(l.map λp=>some p.2.2)->∀{t:Nat}{n:String}{x:Nat},lkM l t n=some x->f t n=some x
 |[],_,_,_,_,h=>by simp[lkM]at h
 |(i,m,y)::r,a,t,n,x,h=>by
  simp only[alc,am2]at a;simp only[lkM]at h;split at h
  ·rename_i e;have e:=amp e;split at h
   ·rename_i b;have b:m=n:=by simpa using b
    subst e b;cases h;exact a.1
   ·exact RJ a.2 h
  ·exact RJ a.2 h
section
variable (T:Tys) (τ:List (Nat×D)) (σ:List aq)
def Re(c a b:Operand):Option D:=
 match ev τ c with
 |some (.bool r)=>ev τ (if r then a else b)
 |_=>none
def aa3(x:Operand):Option (D×List aq):=
 match ev τ x with
 |some d=>match d.cells? with
  |some a=>some (.ptr σ.length 0 0,σ++[.cells a 0 0])
  |none=>none
 |none=>none
def RK(t:TypeId)(b:List (Nat×Operand)):Option D:=
 match lk T.build t,evp τ b with
 |some (z,bk),some a=>(mu bk.place z a).map .agg
 |_,_=>none
def C2(t:TypeId)(len:Nat)(d:List (Nat×Operand)):Option D:=
 match lk T.bs t,evp τ d with
 |some (z,a),some c=>if len*a<=16777216 then(mu (λi=>some (i*a,a)) (ie z len) c).map λb=>.list b len true else none
 |_,_=>none
def Rf(b:Bool)(cs:List D):Option D:=if b then some (.agg cs) else match cs with|[x]=>some x|_=>none
def ML(t:TypeId)(x:Operand):Option D:=
 match lk T.ld t,ev τ x with
 |some (n,b),some d=>if b=true∨n=1 then(match lC σ d n with|some a=>Rf b a|none=>none) else none
 |_,_=>none
def RL(t:TypeId)(p x:Operand):Option (List aq):=
 match lk T.ld t,ev τ p,ev τ x with
 |some (n,_),some d,some e=>match e.cells? with
  |some a=>if a.length=n then wP σ d a else none
  |none=>none
 |_,_,_=>none
def C3(x:Operand):Option D:=
 match ev τ x with
 |some (.ptr l u o)=>some (.ptr l u o)
 |some (.rptr c o)=>some (.rptr c o)
 |some (.iface t v)=>some (.iface t v)
 |some .anyi=>some .anyi
 |some (.func (.func f) a b)=>some (.func (.func f) a b)
 |_=>none
def Wo(a:BinOp)(t:TypeId)(x y:Operand):Option D:=
 match ev τ x,ev τ y with
 |some d,some e=>F1 (lk T.eq t) a (F0 x||F0 y) d e
 |_,_=>none
def oUn(a:UnOp)(x:Operand):Option D:=
 match ev τ x with
 |some d=>unD a d
 |none=>none
def Wp(s t:TypeId)(x:Operand):Option D:=
 match lk2 T.conv s t,ev τ x with
 |some ck,some d=>uQ σ ck d
 |_,_=>none
def RM(t:TypeId)(x:Operand):Option D:=
 match ev τ x with
 |some d=>match lk T.conc t with|some _=>some (.iface t d)|none=>none
 |none=>none
def Wq(fn:Fn)(a b:List Operand):Option D:=
 match evs τ a,evs τ b with
 |some c,some d=>some (.func fn c d)
 |_,_=>none
def E3(t:TypeId)(l c:Operand):Option (D×List aq):=
 match ev τ l,ev τ c with
 |some d,some e=>Rl (lk T.bs t) (lk T.msl t) σ d e
 |_,_=>none
def Rg(x:D)(l h:Option Int):Option D:=
 match x with
 |.str s=>match oz s.length true l h none with
  |some (l,h,_)=>some (.str ((s.take h).drop l))
  |none=>none
 |_=>none
def RN(t:TypeId)(x:Operand)(c b mx:Option Operand):Option D:=
 match lk T.sli t,ev τ x,evo τ c,evo τ b,evo τ mx with
 |some sk,some d,some l,some h,some m=>match ru l,ru h,ru m with
  |some l,some h,some m=>match sk with
   |.slice a=>Bm a d l h m
   |.string=>(match m with|none=>Rg d l h|some _=>none)
   |.array n a=>match lC σ d (n*a) with
    |some _=>IX n a d l h m
    |none=>none
  |_,_,_=>none
 |_,_,_,_,_=>none
def E4(s:TypeId)(x:Operand)(f:Nat):Option D:=
 match lk2 T.fld s f,ev τ x with
 |some off,some d=>uM d off
 |_,_=>none
def RO(s:TypeId)(x:Operand)(f:Nat):Option D:=
 match lk2 T.fldV s f,ev τ x with
 |some (off,n,b),some (.agg a)=>zD a off n b
 |_,_=>none
def E5(t:TypeId)(x i:Operand):Option D:=
 match lk T.idx t,ev τ x,ev τ i with
 |some b,some d,some e=>match kw e with
  |some n=>match b with
   |.slice a=>FY a d n
   |.array len a=>if 0<=n/\n<len then uM d (n.toNat*a) else none
  |none=>none
 |_,_,_=>none
def Wr(s:List UInt8)(n:Int):Option D:=
 if 0<=n then(match s[n.toNat]? with|some b=>some (.int .u8 b.toNat)|none=>none) else none
def MM(t:TypeId)(x i:Operand):Option D:=
 match lk T.idxV t,ev τ x,ev τ i with
 |some f,some d,some e=>match kw e with
  |some n=>match f,d with
   |.string,.str s=>Wr s n
   |.array len a b,.agg c=>if 0<=n/\n<len then zD c (n.toNat*a) a b else none
   |_,_=>none
  |none=>none
 |_,_,_=>none
def JG(t:TypeId)(m k:Operand)(ok:Bool):Option D:=
 match lk T.map t,ev τ m,ev τ k with
 |some (a,z),some d,some e=>zH σ a z ok d e
 |_,_,_=>none
def Ol(t:TypeId)(m k x:Operand):Option (List aq):=
 match lk T.map t,ev τ m,ev τ k,ev τ x with
 |some (a,_),some d,some e,some y=>SQ σ a d e y
 |_,_,_,_=>none
def RP(t:TypeId)(x:Operand):Option (D×List aq):=
 match ev τ x with
 |some (.str s)=>match lk T.sli t with
  |some .string=>some (.ptr σ.length 0 0,σ++[.siter s 0])
  |_=>none
 |some (.cmap a b)=>match lk T.map t with
  |some _=>some (.ptr σ.length 0 0,σ++[.miter a b (List.range a.length) none])
  |none=>none
 |_=>none
def RQ(a:Operand):Option D:=
 match ev τ a with
 |some d=>Nm σ d
 |none=>none
def Ls(x:Operand)(i:Nat):Option D:=
 match ev τ x with
 |some (.tuple a)=>a[i]?
 |_=>none
def aa4:List Operand->List TypeId->Option (D×List aq)
 |[x],[t]=>match lk T.len t,ev τ x with
  |some k,some d=>(LW k d).map λ(n:Nat)=>(.int .i64 n,σ)
  |_,_=>none
 |_,_=>none
def nS:List Operand->List TypeId->Option (D×List aq)
 |[s,x],[t,c]=>match lk2 T.app t c,ev τ s,ev τ x with
  |some (b,a),some d,some e=>IY σ b a d e
  |_,_,_=>none
 |_,_=>none
def oMM(mx:Bool)(xs:List Operand):Option (D×List aq):=
 match evs τ xs with
 |some a=>(mmL mx a).map (·,σ)
 |none=>none
def Am(b:Builtin)(args:List Operand)(a:List TypeId):Option (D×List aq):=
 match b with
 |.len=>aa4 T τ σ args a
 |.append=>nS T τ σ args a
 |.max=>oMM τ σ true args
 |.min=>oMM τ σ false args
 |_=>none
def aop(g:Op):Option (D×List aq):=
 match g with
 |.move x=>(ev τ x).map (·,σ)
 |.assign x=>(ev τ x).map (·,σ)
 |.pick c a b=>(Re τ c a b).map (·,σ)
 |.alloc e=>(lk T.zero e).map λn=>(.ptr σ.length 0 0,σ++[.cells n 0 0])
 |.box _ x=>aa3 τ σ x
 |.build t j=>(RK T τ t j.toList).map (·,σ)
 |.buildSlice t len j=>(C2 T τ t len j.toList).map (·,σ)
 |.load t x=>(ML T τ σ t x).map (·,σ)
 |.store t p x=>(RL T τ σ t p x).map (.junk,·)
 |.nilCheck x=>(C3 τ x).map (·,σ)
 |.binOp g t x y _=>(Wo T τ g t x y).map (·,σ)
 |.unOp g _ x=>(oUn τ g x).map (·,σ)
 |.convert s t x=>(Wp T τ σ s t x).map (·,σ)
 |.makeInterface t x=>(RM T τ t x).map (·,σ)
 |.makeFunc o a b=>(Wq τ o a.toList b.toList).map (·,σ)
 |.makeMap _ none=>some (.map σ.length,σ++[.map [] []])
 |.makeSlice t l c=>E3 T τ σ t l c
 |.slice t x r q u=>(RN T τ σ t x r q u).map (·,σ)
 |.fieldAddr s x f=>(E4 T τ s x f).map (·,σ)
 |.field s x f=>(RO T τ s x f).map (·,σ)
 |.indexAddr t x i=>(E5 T τ t x i).map (·,σ)
 |.index t x i=>(MM T τ t x i).map (·,σ)
 |.lookup t m k ok=>(JG T τ σ t m k ok).map (·,σ)
 |.mapUpdate t m k x=>(Ol T τ σ t m k x).map (.junk,·)
 |.insert t m k x=>(Ol T τ σ t m k x).map (.junk,·)
 |.range t x=>RP T τ σ t x
 |.next h true=>match ev τ h with
  |some d=>Bk σ d
  |none=>none
 |.entry h=>(RQ τ σ h).map (·,σ)
 |.extract x i=>(Ls τ x i).map (·,σ)
 |.call c=>match c.callee with
  |.builtin b=>Am T τ σ b c.args.toList c.argTypes.toList
  |_=>none
 |_=>none
end
end Go.Fw
def aon:=@List.map_toArray
namespace Go.Fw
open Go.RowKit
section
variable {P:Program}{T:Tys}{B:bE P}{G:Gh}{σ σ' :List aq}{w:World}{N:Nat}{τ:List (Nat×D)}{a:Act}{d:D}
def DB{s:Sem Value}{u:Value}{c:World}{G':Gh}(h:s.run P w=.ok u c)(b:G.Le G')(e:Rel B G' σ' c)(hd:Rep G' d u):
 Out B G d σ' ((do pure (Next.value (<-s)):Sem Next).run P w):=
 ⟨u,c,G',.inl (by simp[h]),b,e,hd⟩
def du{s:Sem Value}(b:Rel B G σ w)(h:∃u,s.run P w=.ok u w/\Rep G d u):Out B G d σ ((do pure (Next.value (<-s)):Sem Next).run P w):=by
 obtain⟨u,e,c⟩:=h;exact DB e (.refl G) b c
def ws{s:Sem Value}(h:∃u e b,s.run P w=.ok u e/\G.Le b/\Rel B b σ' e/\Rep b d u):Out B G d σ' ((do pure (Next.value (<-s)):Sem Next).run P w):=by
 obtain⟨u,e,b,i,c,f,g⟩:=h;exact DB i c f g
def Lt{s:Sem Unit}(h:∃b,s.run P w=.ok () b/\Rel B G σ' b):Out B G .junk σ' ((do s;pure Next.skip:Sem Next).run P w):=by
 obtain⟨b,e,c⟩:=h;exact⟨undef,b,G,.inr ⟨by simp[e],rfl⟩,.refl G,c,by simp only[Rep]⟩
def map_some{α c:Type}{x:Option α}{f:α->c}{b:c}(h:x.map f=some b):∃a,x=some a/\f a=b:=by
 cases x with
 |none=>cases h
 |some a=>exact⟨a,rfl,by simpa using h⟩
def mC{x:Option D}(h:x.map (·,σ)=some (d,σ')):x=some d/\σ'=σ:=by
 obtain⟨a,b,c⟩:=map_some h;cases c;exact⟨b,rfl⟩
def aa5{x:Option (List aq)}(h:x.map (D.junk,·)=some (d,σ')):x=some σ'/\d=.junk:=by
 obtain⟨a,b,c⟩:=map_some h;cases c;exact⟨b,rfl⟩
def aep{t:TypeId}{sz:Nat}(h:(wO P t).map (λx=>SK.slice x.1)=some (.slice sz)):∃c,wO P t=some (sz,c):=by
 obtain⟨⟨s,b⟩,e,f⟩:=map_some h;cases f;exact⟨b,e⟩
def DC:Value->Bool
 |.int _ _=>false
 |.float _ _=>false
 |.complex _ _ _=>false
 |.string _=>false
 |_=>true
def Vb{t:TypeId}{u v:Value}(h:DC u=true):(binOp .eql t u v).run P w=((Op.equal t u v).run P w).andThen λr b=>.ok (.bool r) b:=by
 cases u<;>first|(simp[DC]at h;done)|(simp only[binOp];simp)
def aeq{t:TypeId}{u v:Value}(h:DC u=true):(binOp .neq t u v).run P w=((Op.equal t u v).run P w).andThen λr b=>.ok (.bool (!r)) b:=by
 cases u<;>first|(simp[DC]at h;done)|(simp only[binOp];simp)
def agf(p:TOk T P)(E:de G N τ a){o:BinOp}{t:TypeId}{x y:Operand}(h:Wo T τ o t x y=some d):
 ∃u,(do eqGuard o t x y (a.eval x) (a.eval y);binOp o t (a.eval x) (a.eval y):Sem Value).run P w=.ok u w/\Rep G d u:=by
 unfold Wo at h;split at h<;>try (cases h;done)
 rename_i l m I J;have e:=bg E I;have g:=bg E J;generalize a.eval x=u at e;generalize a.eval y=v at g;unfold F1 at h;split at h
 ·simp only[Rep]at e g;subst e g;obtain⟨r,i,k⟩:=agY (P:=P) (G:=G) (w:=w) t h;refine⟨r,?_,k⟩;rw[alh,uP (λ_ _=>.inl siq) (.inl siq)];exact i
 ·simp only[Rep]at e g;subst e g;obtain⟨r,i,k⟩:=agZ (P:=P) (G:=G) (w:=w) t h;refine⟨r,?_,k⟩;rw[alh,uP (λ_ _=>.inl siq) (.inl siq)];exact i
 ·rename_i F H;have s:∀(n:EK)(r:Bool),OY P t=some n->eqD (F0 x||F0 y) n l m=some r->(eqGuard o t x y u v).run P w=.ok () w/\(Op.equal t u v).run P w=.ok r w/\DC u=true:=by
   intro n r j i;have f:=ag0 (P:=P) (G:=G) (w:=w) j i e g;have b:(∀L O,u≠.agg L∨v≠.agg O)->(u≠.nilIface∨v≠.nilIface)->(eqGuard o t x y u v).run P w=.ok () w:=uP;cases n with
   |prim=>cases l<;>cases m<;>simp only[eqD]at i<;>cases i
   |bool=>
    cases l<;>cases m<;>simp only[eqD]at i<;>try (cases i;done)
    simp only[Rep]at e g;subst e g;exact⟨b (λ_ _=>.inl siq) (.inl siq),f,rfl⟩
   |flat Q=>
    cases l<;>cases m<;>simp only[eqD]at i<;>try (cases i;done)
    simp only[Rep]at e g;obtain⟨K,rfl,_⟩:=e;obtain⟨M,rfl,_⟩:=g;have z:P.eqGuardType P.depth t=false:=by
     unfold OY at j;split at j<;>try (cases j;done)
     split at j<;>try (cases j;done)
     rename_i z;exact z
    exact⟨run_eqGuard_agg w o t x y K M z,f,rfl⟩
   |iface=>
    cases l<;>cases m<;>simp only[eqD]at i<;>try (cases i;done)
    all_goals simp only[Rep]at e g
    ·obtain⟨_,rfl,_⟩:=e;subst g;exact⟨b (λ_ _=>.inl siq) (.inl siq),f,rfl⟩
    ·obtain⟨_,rfl,_⟩:=g;subst e;exact⟨b (λ_ _=>.inl siq) (.inr siq),f,rfl⟩
    ·subst e g;refine⟨?_,f,rfl⟩;split at i<;>try (cases i;done)
     rename_i q;unfold eqGuard;cases o<;>first|rfl|skip
     all_goals
      cases x<;>cases y<;>first|rfl|(simp[F0]at q)
    ·obtain⟨_,_,rfl⟩:=g;subst e;exact⟨b (λ_ _=>.inl siq) (.inr siq),f,rfl⟩
    ·obtain⟨_,_,rfl⟩:=e;subst g;exact⟨b (λ_ _=>.inl siq) (.inl siq),f,rfl⟩
   |ptr=>
    cases l<;>cases m<;>simp only[eqD]at i<;>try (cases i;done)
    all_goals simp only[Rep]at e g
    ·subst e g;exact⟨b (λ_ _=>.inl siq) (.inl siq),f,rfl⟩
    ·subst e;exact⟨b (λ_ _=>.inl siq) (.inl siq),f,rfl⟩
    ·subst e;exact⟨b (λ_ _=>.inl siq) (.inl siq),f,rfl⟩
    ·obtain⟨_,_,rfl⟩:=e;exact⟨b (λ_ _=>.inl siq) (.inl siq),f,rfl⟩
    ·obtain⟨_,_,rfl,_⟩:=e;exact⟨b (λ_ _=>.inl siq) (.inl siq),f,rfl⟩
   |func=>
    cases l<;>cases m<;>simp only[eqD]at i<;>try (cases i;done)
    all_goals simp only[Rep]at e g
    ·obtain⟨_,_,rfl,_⟩:=e;exact⟨b (λ_ _=>.inl siq) (.inl siq),f,rfl⟩
    ·subst e;exact⟨b (λ_ _=>.inl siq) (.inl siq),f,rfl⟩
    ·subst e;exact⟨b (λ_ _=>.inl siq) (.inl siq),f,rfl⟩
   |map=>
    cases l<;>cases m<;>simp only[eqD]at i<;>try (cases i;done)
    all_goals simp only[Rep]at e g
    ·obtain⟨_,_,rfl⟩:=e;exact⟨b (λ_ _=>.inl siq) (.inl siq),f,rfl⟩
    ·subst e;exact⟨b (λ_ _=>.inl siq) (.inl siq),f,rfl⟩
    ·subst e;exact⟨b (λ_ _=>.inl siq) (.inl siq),f,rfl⟩
    ·subst e;exact⟨b (λ_ _=>.inl siq) (.inl siq),f,rfl⟩
    ·obtain⟨_,_,rfl,_⟩:=e;exact⟨b (λ_ _=>.inl siq) (.inl siq),f,rfl⟩
  split at h<;>try (cases h;done)
  ·rename_i n j;obtain⟨r,i,rfl⟩:=map_some h;obtain⟨A,C,D⟩:=s n r (fU p.eq j) i;refine⟨.bool r,?_,by simp only[Rep]⟩;rw[alh,A,ak9,Vb D,C];rfl
  ·rename_i n j;obtain⟨r,i,rfl⟩:=map_some h;obtain⟨A,C,D⟩:=s n r (fU p.eq j) i;refine⟨.bool (!r),?_,by simp only[Rep]⟩;rw[alh,A,ak9,aeq D,C];rfl
set_option maxHeartbeats 1000000 in
def agh(F:TOk T P)(E:Rel B G σ w)(D:de G N τ a)(o:Oper)(h:aop T τ σ o.op=some (d,σ')):Out B G d σ' ((execOp a.eval o).run P w):=by
 obtain⟨m9,op,ty,n6,j9,guard⟩:=o;simp only at h;unfold execOp;cases op<;>simp only[aop]at h⊢<;>try (cases h;done)
 case move x=>
  obtain⟨g,rfl⟩:=mC h;exact .here E (bg D g)
 case assign x=>
  obtain⟨g,rfl⟩:=mC h;exact .here E (bg D g)
 case pick c x y=>
  obtain⟨g,rfl⟩:=mC h;unfold Re at g;split at g<;>try (cases g;done)
  rename_i r hc;have j6:=bg D hc;simp only[Rep]at j6;simp only[j6,asBool,alh,als,ak9];cases r
  ·exact .here E (bg D g)
  ·exact .here E (bg D g)
 case alloc e=>
  obtain⟨cs,hz,J⟩:=map_some h;cases J;have hz:=fU F.zero hz;obtain⟨w',G',v,Z,J,h3,h4⟩:=abB E hz;exact DB Z J h3 h4
 case box e x=>
  unfold aa3 at h;split at h<;>try (cases h;done)
  rename_i X g;split at h<;>try (cases h;done)
  rename_i cs R;cases h;obtain⟨w',G',v,Z,J,h3,h4⟩:=agU (P:=P) (t:=e) E R (bg D g);exact DB Z J h3 h4
 case build t ps=>
  obtain⟨g,rfl⟩:=mC h;unfold RK at g;split at g<;>try (cases g;done)
  rename_i z bk ds V hp;have V:=fU F.build V;obtain⟨m8,hf,rfl⟩:=map_some g;obtain⟨hl,j4⟩:=MH D hp;refine du E (abD V hf (by simpa using hl) (λj i d hj=> ?_));obtain⟨v,hv,U⟩:=j4 j i d hj;exact⟨v,by simpa using hv,U⟩
 case buildSlice t len ps=>
  obtain⟨g,rfl⟩:=mC h;unfold C2 at g;split at g<;>try (cases g;done)
  rename_i z sz ds V hp;have V:=fU F.bs V;split at g<;>try (cases g;done)
  rename_i j7;obtain⟨m8,hf,rfl⟩:=map_some g;obtain⟨hl,j4⟩:=MH D hp;refine ws (Q8 E V j7 hf (by simpa using hl) (λj i d hj=> ?_));obtain⟨v,hv,U⟩:=j4 j i d hj;exact⟨v,by simpa using hv,U⟩
 case load t x=>
  obtain⟨g,rfl⟩:=mC h;unfold ML at g;split at g<;>try (cases g;done)
  rename_i n b X H q;have H:=fU F.ld H;split at g<;>try (cases g;done)
  rename_i hb;split at g<;>try (cases g;done)
  rename_i cs R;obtain⟨u,W,I⟩:=Vi E H (bg D q) R hb;refine du E ⟨u,W,?_⟩;unfold Rf at g;cases b with
  |true=>simp only[al1,ak1]at g I;subst g;exact I
  |false=>
   simp only[alU,alV]at g I;obtain⟨y,rfl,hy⟩:=I;simp only[ak1]at g;subst g;exact hy
 case store t p x=>
  obtain⟨g,rfl⟩:=aa5 h;unfold RL at g;split at g<;>try (cases g;done)
  rename_i n b dp X H k9 q;have H:=fU F.ld H;split at g<;>try (cases g;done)
  rename_i cs R;split at g<;>try (cases g;done)
  rename_i hn;exact Lt (abA E H R hn g (bg D k9) (bg D q))
 case nilCheck x=>
  obtain⟨g,rfl⟩:=mC h;unfold C3 at g;split at g<;>try (cases g;done)
  all_goals
   rename_i q;cases g;have U:=bg D q;have M:=U;simp only[Rep]at U
  ·obtain⟨b,_,he⟩:=U;rw[he]at M⊢;exact .here E M
  ·obtain⟨b,_,he,_⟩:=U;rw[he]at M⊢;exact .here E M
  ·obtain⟨b,he,_⟩:=U;rw[he]at M⊢;exact .here E M
  ·obtain⟨b,_,he⟩:=U;rw[he]at M⊢;exact .here E M
  ·obtain⟨b,_,he,_⟩:=U;rw[he]at M⊢;exact .here E M
 case binOp op t x y yt=>
  obtain⟨g,rfl⟩:=mC h;exact du E (agf F D g)
 case unOp op t x=>
  obtain⟨g,rfl⟩:=mC h;unfold oUn at g;split at g<;>try (cases g;done)
  rename_i X q;exact du E (aiJ g (bg D q))
 case convert s t x=>
  obtain⟨g,rfl⟩:=mC h;unfold Wp at g;split at g<;>try (cases g;done)
  rename_i ck X H q;have H:=MK F.conv H;exact ws (aeB E H g (bg D q))
 case makeInterface t x=>
  obtain⟨g,rfl⟩:=mC h;unfold RM at g;split at g<;>try (cases g;done)
  rename_i X q;split at g<;>try (cases g;done)
  rename_i hc0 hc;cases g;have hc:zE P t=true:=by
   have:=fU F.conc hc;unfold RI at this;split at this<;>first|assumption|cases this
  exact du E ⟨_,WT hc _,by simp only[Rep];exact⟨_,rfl,bg D q⟩⟩
 case makeFunc fn fs cs=>
  obtain⟨g,rfl⟩:=mC h;unfold Wq at g;split at g<;>try (cases g;done)
  rename_i ds es Z J;cases g;refine du E ⟨_,rfl,?_⟩;simp only[Rep];exact⟨_,_,rfl,by simpa using Al D Z,by simpa using Al D J⟩
 case makeMap t r=>
  cases r with
  |some r=>simp only[]at h;cases h
  |none=>
   simp only[ak1,aln]at h;obtain⟨rfl,rfl⟩:=h;exact ws (WU E t)
 case makeSlice t l c=>
  unfold E3 at h;split at h<;>try (cases h;done)
  rename_i dl dc hl hc;exact ws (SJ E (λ_ h=>fU F.bs h) (λ_ h=>fU F.msl h) h (bg D hl) (bg D hc))
 case slice t x lo hi mx=>
  obtain⟨g,rfl⟩:=mC h;unfold RN at g;split at g<;>try (cases g;done)
  rename_i sk X dl dh dm A q hl hh hm;have A:=fU F.sli A;split at g<;>try (cases g;done)
  rename_i l h' m ol oh om;have vl:=IW ol (RG D hl);have vh:=IW oh (RG D hh);have vm:=IW om (RG D hm);have L:=bg D q;split at g
  ·rename_i sz;unfold zU at A;split at A<;>try (cases A;done)
   ·obtain⟨k8,m6⟩:=aep A;exact du E (abE m6 g vl vh vm L)
   ·split at A<;>try (cases A;done)
    split at A<;>cases A
  ·unfold zU at A;split at A<;>try (cases A;done)
   ·rename_i W;split at g<;>try (cases g;done)
    unfold Rg at g;split at g<;>try (cases g;done)
    rename_i s;split at g<;>try (cases g;done)
    rename_i l2 J f hb;cases g;simp only[Rep]at L;rw[L];generalize Option.map a.eval mx=mv at vm⊢;cases vm;exact du E ⟨_,UZ W hb vl vh,by simp only[Rep]⟩
   ·obtain⟨_,_,J⟩:=map_some A;cases J
   ·split at A<;>try (cases A;done)
    split at A<;>cases A
  ·rename_i n sz;split at g<;>try (cases g;done)
   rename_i cs R;unfold zU at A;split at A<;>try (cases A;done)
   ·obtain⟨_,_,J⟩:=map_some A;cases J
   ·split at A<;>try (cases A;done)
    rename_i n' n7 m5;split at A<;>try (cases A;done)
    rename_i hn;cases A;exact du E (U0 E m5 hn R g vl vh vm L)
 case fieldAddr s x f=>
  obtain⟨g,rfl⟩:=mC h;unfold E4 at g;split at g<;>try (cases g;done)
  rename_i m7 X H q;have H:=MK F.fld H;exact du E (WO H g (bg D q))
 case field s x f=>
  obtain⟨g,rfl⟩:=mC h;unfold RO at g;split at g<;>try (cases g;done)
  rename_i m7 n b cs H q;have H:=MK F.fldV H;exact du E (abC H g (bg D q))
 case indexAddr t x i=>
  obtain⟨g,rfl⟩:=mC h;unfold E5 at g;split at g<;>try (cases g;done)
  rename_i ik X di C q O;have C:=fU F.idx C;split at g<;>try (cases g;done)
  rename_i n hn;split at g
  ·unfold Ra at C;split at C<;>try (cases C;done)
   ·obtain⟨⟨s,b⟩,Z,J⟩:=map_some C;cases J;exact du E (SL Z hn g (bg D q) (bg D O))
   ·obtain⟨_,_,J⟩:=map_some C;cases J
  ·unfold Ra at C;split at C<;>try (cases C;done)
   ·obtain⟨_,_,J⟩:=map_some C;cases J
   ·obtain⟨⟨l,s⟩,Z,J⟩:=map_some C;cases J;split at g<;>try (cases g;done)
    rename_i hb;exact du E (Q7 Z hn hb.1 hb.2 g (bg D q) (bg D O))
 case index t x i=>
  obtain⟨g,rfl⟩:=mC h;unfold MM at g;split at g<;>try (cases g;done)
  rename_i ik X di C q O;have C:=fU F.idxV C;split at g<;>try (cases g;done)
  rename_i n hn;have L:=bg D q;split at g<;>try (cases g;done)
  ·rename_i s;unfold MJ at C;split at C<;>try (cases C;done)
   ·rename_i W;unfold Wr at g;split at g<;>try (cases g;done)
    rename_i h0;split at g<;>try (cases g;done)
    rename_i b hb;cases g;simp only[Rep]at L;rw[L];exact du E (UX W hn h0 hb (bg D O))
   ·split at C<;>cases C
  ·rename_i len sz b cs;split at g<;>try (cases g;done)
   rename_i hb;unfold MJ at C;split at C<;>try (cases C;done)
   rename_i e W;split at C<;>try (cases C;done)
   rename_i n' b' he;cases C;exact du E (UY W he hn hb.1 hb.2 g L (bg D O))
 case lookup t m k ok=>
  obtain⟨g,rfl⟩:=mC h;unfold JG at g;split at g<;>try (cases g;done)
  rename_i lk z dm dk H hm hk;have H:=fU F.map H;exact du E (YO E H g (bg D hm) (bg D hk))
 case mapUpdate t m k x=>
  obtain⟨g,rfl⟩:=aa5 h;unfold Ol at g;split at g<;>try (cases g;done)
  rename_i lk z dm dk X H hm hk q;have H:=fU F.map H;exact Lt (YH E H g (bg D hm) (bg D hk) (bg D q))
 case insert t m k x=>
  obtain⟨g,rfl⟩:=aa5 h;unfold Ol at g;split at g<;>try (cases g;done)
  rename_i lk z dm dk X H hm hk q;have H:=fU F.map H;exact Lt (YH E H g (bg D hm) (bg D hk) (bg D q))
 case range t x=>
  unfold RP at h;split at h<;>try (cases h;done)
  ·rename_i s q;split at h<;>try (cases h;done)
   rename_i K;cases h;have L:=bg D q;simp only[Rep]at L;have K:=fU F.sli K;unfold zU at K;split at K
   ·rename_i W;rw[L];exact ws (UU E W s)
   ·obtain⟨_,_,J⟩:=map_some K;cases J
   ·split at K<;>try (cases K;done)
    split at K<;>cases K
   ·cases K
  ·rename_i ks vs q;split at h<;>try (cases h;done)
   rename_i lz K;cases h;obtain⟨n5,z⟩:=lz;obtain⟨k,e,kd,i,v,W,_⟩:=CH (fU F.map K);exact ws (UV E W (bg D q))
 case entry it=>
  obtain⟨g,rfl⟩:=mC h;unfold RQ at g;split at g<;>try (cases g;done)
  rename_i di O;exact du E (UW E g (bg D O))
 case next it isS=>
  cases isS with
  |false=>simp only[]at h;cases h
  |true=>
   simp only at h;split at h<;>try (cases h;done)
   rename_i di O;obtain⟨u,w',Z,J,h3⟩:=WM (P:=P) E ty h (bg D O);exact DB Z (.refl G) J h3
 case extract x i=>
  obtain⟨g,rfl⟩:=mC h;unfold Ls at g;split at g<;>try (cases g;done)
  rename_i ds S;exact du E (WS g (bg D S))
 case call c=>
  obtain⟨e9,Y,Q⟩:=c;cases e9<;>simp only[]at h<;>try (cases h;done)
  rename_i b;simp only[resolve,alh,als,ak9,invoke];unfold Am at h;generalize j3:Y.toList=al at h;generalize j8:Q.toList=tl at h;split at h<;>try (cases h;done)
  ·unfold aa4 at h;split at h<;>try (cases h;done)
   rename_i x t;split at h<;>try (cases h;done)
   rename_i k X hk q;have hk:=fU F.len hk;obtain⟨n,hn,J⟩:=map_some h;cases J;have ha:Y= #[x]:=by apply ank;simpa using j3
   have H:Q= #[t]:=by apply ank;simpa using j8
   subst ha H;simp only[builtin,aon,alc,amj];have I:Rep G (.int .i64 (n:Int)) (.int .i64 (n:Int)):=by simp only[Rep]
   exact du E ⟨.int .i64 n,agW hk hn (bg D q),I⟩
  ·unfold nS at h;split at h<;>try (cases h;done)
   rename_i s x t tx;split at h<;>try (cases h;done)
   rename_i sz k8 ds X j5 S q;have j5:=MK F.app j5;have ha:Y= #[s,x]:=by apply ank;simpa using j3
   have H:Q= #[t,tx]:=by apply ank;simpa using j8
   subst ha H;simp only[builtin,aon,alc,amj];exact ws (YN E j5 h (bg D S) (bg D q))
  ·unfold oMM at h;split at h<;>try (cases h;done)
   rename_i ds S;obtain⟨r,U,J⟩:=map_some h;cases J;obtain⟨u,W,I⟩:=ag2 (P:=P) (w:=w) Q ty U (Al D S);refine du (s:=Builtin.max_ Q ty _) E ⟨u,?_,I⟩;rw[<-W,<-j3];congr 2;apply ank;simp
  ·unfold oMM at h;split at h<;>try (cases h;done)
   rename_i ds S;obtain⟨r,U,J⟩:=map_some h;cases J;obtain⟨u,W,I⟩:=ag3 (P:=P) (w:=w) Q ty U (Al D S);refine du (s:=Builtin.min_ Q ty _) E ⟨u,?_,I⟩;rw[<-W,<-j3];congr 2;apply ank;simp
end
end Go.Fw
def alX:=@Option.some.inj
def amg:=@List.getElem?_eq_some_iff
namespace Go.Fw
open Go.RowKit
section
variable {P:Program}{B:bE P}{G:Gh}{σ σ' :List aq}{w:World}
def Rel.frzUp(c:Rel B G σ w){l frz u:Nat}{cs:List D}(i:σ[l]?=some (.cells cs frz u)):Rel B G (σ.set l (.cells cs cs.length u)) w:=by
 have j:l<σ.length:=(amg.1 i).1;have look:∀{a:Nat}{d:aq},(σ.set l (.cells cs cs.length u))[a]?=some d->(a=l/\d=.cells cs cs.length u)∨(a≠l/\σ[a]?=some d):=by
  intro a d h;by_cases e:a=l
  ·subst e;rw[alP j]at h;exact .inl ⟨rfl,(alX h).symm⟩
  ·rw[alI (amO e)]at h;exact .inr ⟨e,h⟩
 refine⟨c.below,c.imm,c.mimm,c.siz,λa n b f=> ?_,c.inj,λa d b g f=> ?_,λa p k n b g f o v m=> ?_,λa r s b g f=> ?_,λa d g=> ?_,λa d g=> ?_,c.bimm,c.bmimm⟩
 ·rw[ams];exact c.blk a n b f
 ·rcases look g with⟨rfl,rfl⟩|⟨_,h⟩
  ·exact c.obj a (.cells cs frz u) b i f
  ·exact c.obj a d b h f
 ·rcases look g with⟨rfl,h⟩|⟨_,h⟩
  ·cases h;exact alO (c.own a _ _ _ b i f o v m) (c.frzle a _ i)
  ·exact c.own a _ _ _ b h f o v m
 ·rcases look g with⟨_,h⟩|⟨_,h⟩
  ·cases h
  ·exact c.ownm a r s b h f
 ·rcases look g with⟨rfl,rfl⟩|⟨_,h⟩
  ·have q:=c.ver a _ i;exact q
  ·exact c.ver a d h
 ·rcases look g with⟨_,rfl⟩|⟨_,h⟩
  ·exact ak7 _
  ·exact c.frzle a d h
def B5(g:Rel B G σ w){l u o n sz frz:Nat}{s:Bool}{cs:List D}{v:Value}(z:σ[l]?=some (.cells cs frz u))(T:o+n*sz<=cs.length)(V:Rep G (.sl l u o n sz s) v):
 ∃c,G.Le c/\Rel B c (σ.set l (.cells cs cs.length u)) w/\Rep c (.list ((cs.drop o).take (n*sz)) n s) v:=by
 simp only[Rep]at V;rcases V with⟨b,I,j3,E,rfl,Z,h2,h3,h4,h5⟩|⟨rfl,a,rfl⟩
 ·obtain⟨H,Y,Q,o2,tl,m,W,R⟩:=g.obj _ _ b z E;have e9:=R.length;have i:∀j v,m[j]?=some v->w.cell? ⟨b,j,none⟩=some v:=by
   intro j v t;have L:j<m.length:=by
    rcases alf j m.length with J|J
    ·exact J
    ·rw[alg J]at t;cases t
   unfold World.cell?;rw[Q];show H[j]?=some v;have:H[j]?=H.toList[j]? :=by simp
   rw[this,W,ak8 L];exact t
  let c:Gh:={G with imm:=λy j=>if y=b/\j<m.length then m[j]? else G.imm y j};have q:G.Le c:=by
   refine⟨λy j v f=> ?_,λ_ _ x=>x,λ_ _ _ x=>x,λ_ _ x=>x⟩;by_cases e:y=b/\j<m.length
   ·obtain⟨rfl,t⟩:=e;have F:=g.imm _ _ _ f;have:=i j _ (akZ t);rw[F]at this;cases this;simp[c,t]
   ·simp only[c,e,alV];exact f
  have M:G.mimm b=none:=by
   cases hm:G.mimm b with
   |none=>rfl
   |some es=>
    obtain⟨F,_⟩:=g.mimm _ _ hm;rw[Q]at F;cases F
  refine⟨c,q,?_,?_⟩
  ·refine g.update z E q (λ_ _ _ x=>.inl x) E ?_ rfl rfl g.below rfl (λ_ _=>rfl) (λk hk=>g.siz b k hk) M ?_ ?_ ⟨ak7 _,(g.ver _ _ z).1⟩ (ak7 _)
   ·intro y j v f;by_cases e:y=b/\j<m.length
    ·obtain⟨rfl,t⟩:=e;simp only[c,t,and_self,al1]at f;exact⟨i j v f,λh=>absurd rfl h⟩
    ·simp only[c,e,alV]at f;exact⟨g.imm _ _ _ f,λ_=>f⟩
   ·exact⟨H,Y,Q,o2,tl,m,W,af.mono q _ _ R⟩
   ·intro X S u' e j v f;cases e;by_cases e:j<m.length
    ·omega
    ·have f:G.imm b j=some v:=by simpa[c,e] using f
     have h6:=g.own _ _ _ _ _ z E j v f;have h7:=g.frzle _ _ z;simp only[aq.frz,aq.len]at h7;omega
  ·simp only[Rep];refine⟨_,I,rfl,Z,h2,h3,.inl ⟨b,o,rfl,?_⟩⟩;have O:∀(A:List D)(p r:List Value),m=p++r->af c A r->Cells c b p.length A:=by
    intro A;induction A with
    |nil=>intro p r _ _;simp only[Cells]
    |cons d A ih=>
     intro p r e U;simp only[af]at U;obtain⟨v,r',rfl,K,N⟩:=U;simp only[Cells];refine⟨⟨v,by simp[c,e],K⟩,?_⟩;have:=ih (p++[v]) r' (by simp[e]) N;simpa using this
   have C:=O cs [] m rfl (af.mono q _ _ R);have:=(C.drop o).take (n*sz);simpa using this
 ·refine⟨G,.refl G,g.frzUp z,?_⟩;simp only[Rep];exact⟨a,0,rfl,ak7 _,al2 _,λ_=>rfl,.inr siq⟩
def H8(σ:List aq)(d:D):Option (D×List aq):=
 match d with
 |.sl l u o n b full=>match σ[l]? with
  |some (.cells a _ c)=>if c=u/\o+n*b<=a.length then some (.list ((a.drop o).take (n*b)) n full,σ.set l (.cells a a.length u)) else none
  |_=>none
 |d=>some (d,σ)
def Os(e:Rel B G σ w){d c:D}{v:Value}(h:H8 σ d=some (c,σ'))(f:Rep G d v):∃b,G.Le b/\Rel B b σ' w/\Rep b c v:=by
 unfold H8 at h;split at h
 ·split at h<;>try (cases h;done)
  rename_i i;split at h<;>try (cases h;done)
  rename_i g;obtain⟨rfl,a⟩:=g;cases h;exact B5 e i a f
 ·cases h;exact⟨G,.refl G,e,f⟩
def xh(σ:List aq):List D->Option (List D×List aq)
 |[]=>some ([],σ)
 |d::f=>match H8 σ d with
  |some (e,b)=>match xh b f with
   |some (a,c)=>some (e::a,c)
   |none=>none
  |none=>none
def Fj:∀{ds a:List D}{G:Gh}{σ σ':List aq}{vs:List Value},Rel B G σ w->xh σ ds=some (a,σ')->af G ds vs->∃c,G.Le c/\Rel B c σ' w/\af c a vs
 |[],_,G,σ,σ',vs,hR,h,b=>by
  simp only[xh,ak1,aln]at h;obtain⟨rfl,rfl⟩:=h;exact⟨G,.refl G,hR,b⟩
 |d::ds,_,G,σ,σ',vs,hR,h,b=>by
  simp only[xh]at h;split at h<;>try (cases h;done)
  rename_i u q k;split at h<;>try (cases h;done)
  rename_i a s l;cases h;simp only[af]at b;obtain⟨v,r,rfl,m,n⟩:=b;obtain⟨t,e,i,o⟩:=Os hR k m;obtain⟨g,f,j,p⟩:=Fj i l (af.mono e _ _ n);exact⟨g,e.trans f,j,by simp only[af];exact⟨v,r,rfl,Rep.mono f _ _ o,p⟩⟩
def H9(c:Rel B G σ w){l:Nat}{ks vs:List D}{v:Value}(n:σ[l]?=some (.map ks vs))(F:Rep G (.map l) v):
 ∃j,G.Le j/\Rel B j (σ.set l .gone) w/\Rep j (.cmap ks vs) v:=by
 simp only[Rep]at F;obtain⟨b,o,rfl⟩:=F;obtain⟨E,I,J,K⟩:=c.obj _ _ b n o;have y:=c.ownm _ _ _ b n o;have t:l<σ.length:=by
  rcases alf l σ.length with r|r
  ·exact r
  ·rw[alg r]at n;cases n
 let j:Gh:={G with mimm:=λf=>if f=b then some E else G.mimm f};have k:G.Le j:=by
  refine⟨λ_ _ _ x=>x,λf p m=> ?_,λ_ _ _ x=>x,λ_ _ x=>x⟩;by_cases e:f=b
  ·subst e;rw[y]at m;cases m
  ·simp only[j,e,alV];exact m
 have g:∀(a:Nat)(i:aq),(σ.set l .gone)[a]?=some i->(a=l/\i=.gone)∨(a≠l/\σ[a]?=some i):=by
  intro a i h;by_cases e:a=l
  ·subst e;rw[alP t]at h;cases h;exact .inl ⟨rfl,rfl⟩
  ·rw[alI (amO e)]at h;exact .inr ⟨e,h⟩
 refine⟨j,k,⟨c.below,c.imm,λf p m=> ?_,c.siz,λa u f h=> ?_,c.inj,λa i f d h=> ?_,λa H q u f d h=> ?_,λa A C f d h=> ?_,λa i d=> ?_,λa i d=> ?_,c.bimm,λf h=> ?_⟩,?_⟩
 ·by_cases e:f=b
  ·subst e;simp only[j,al1,ak1]at m;subst m;exact I
  ·simp only[j,e,alV]at m;exact c.mimm _ _ m
 ·rw[ams];exact c.blk a u f h
 ·rcases g a i d with⟨rfl,rfl⟩|⟨_,d⟩
  ·exact(c.blk _ _ _ h).2.2
  ·exact(c.obj a i f d h).keep k rfl
 ·rcases g a _ d with⟨_,s⟩|⟨_,d⟩
  ·cases s
  ·exact c.own a H q u f d h
 ·rcases g a _ d with⟨_,s⟩|⟨z,d⟩
  ·cases s
  ·have:f≠b:=λe=>z (c.inj _ _ _ _ _ h (e▸o));simp only[j,this,alV];exact c.ownm a A C f d h
 ·rcases g a i d with⟨rfl,rfl⟩|⟨_,d⟩
  ·exact⟨ak7 _,(c.ver _ _ n).2⟩
  ·exact c.ver a i d
 ·rcases g a i d with⟨rfl,rfl⟩|⟨_,d⟩
  ·exact ak7 _
  ·exact c.frzle a i d
 ·have:f≠b:=λe=>by have:=(c.blk _ _ _ o).2.1;omega
  simp only[j,this,alV];exact c.bmimm f h
 ·simp only[Rep];exact⟨b,E,rfl,by simp[j],af.mono k _ _ J,af.mono k _ _ K⟩
def Se(σ:List aq)(d:D):Option (D×List aq):=
 match d with
 |.map l=>match σ[l]? with
  |some (.map c e)=>some (.cmap c e,σ.set l .gone)
  |_=>none
 |.agg b=>match xh σ b with
  |some (a,σ')=>some (.agg a,σ')
  |none=>none
 |d=>H8 σ d
def Vf(e:Rel B G σ w){d f:D}{v:Value}(h:Se σ d=some (f,σ'))(c:Rep G d v):∃b,G.Le b/\Rel B b σ' w/\Rep b f v:=by
 unfold Se at h;split at h
 ·split at h<;>try (cases h;done)
  rename_i j;cases h;exact H9 e j c
 ·split at h<;>try (cases h;done)
  rename_i i;cases h;simp only[Rep]at c;obtain⟨a,rfl,k⟩:=c;obtain⟨b,l,g,m⟩:=Fj e i k;exact⟨b,l,g,by simp only[Rep];exact⟨a,rfl,m⟩⟩
 ·exact Os e h c
def MU(σ:List aq):List D->Option (List D×List aq)
 |[]=>some ([],σ)
 |d::f=>match Se σ d with
  |some (e,b)=>match MU b f with
   |some (a,c)=>some (e::a,c)
   |none=>none
  |none=>none
def Sf:∀{ds a:List D}{G:Gh}{σ σ':List aq}{vs:List Value},Rel B G σ w->MU σ ds=some (a,σ')->af G ds vs->∃c,G.Le c/\Rel B c σ' w/\af c a vs
 |[],_,G,σ,σ',vs,hR,h,b=>by
  simp only[MU,ak1,aln]at h;obtain⟨rfl,rfl⟩:=h;exact⟨G,.refl G,hR,b⟩
 |d::ds,_,G,σ,σ',vs,hR,h,b=>by
  simp only[MU]at h;split at h<;>try (cases h;done)
  rename_i u q k;split at h<;>try (cases h;done)
  rename_i a s l;cases h;simp only[af]at b;obtain⟨v,r,rfl,m,n⟩:=b;obtain⟨t,e,i,o⟩:=Vf hR k m;obtain⟨g,f,j,p⟩:=Sf i l (af.mono e _ _ n);exact⟨g,e.trans f,j,by simp only[af];exact⟨v,r,rfl,Rep.mono f _ _ o,p⟩⟩
def C6(σ:List aq)(d:D):Option (D×List aq):=
 match d with
 |.tuple b=>match MU σ b with
  |some (a,σ')=>some (.tuple a,σ')
  |none=>none
 |d=>Se σ d
def aeu(f:Rel B G σ w){d e:D}{v:Value}(h:C6 σ d=some (e,σ'))(c:Rep G d v):∃b,G.Le b/\Rel B b σ' w/\Rep b e v:=by
 unfold C6 at h;split at h
 ·split at h<;>try (cases h;done)
  rename_i i;cases h;simp only[Rep]at c;obtain⟨a,rfl,j⟩:=c;obtain⟨b,k,g,l⟩:=Sf f i j;exact⟨b,k,g,by simp only[Rep];exact⟨a,rfl,l⟩⟩
 ·exact Vf f h c
end
mutual
def D.pure:D->Bool
 |.bool _=>true
 |.int _ _=>true
 |.str _=>true
 |.nilp=>true
 |.ptr _ _ _=>false
 |.rptr cs _=>bo cs
 |.list cs _ _=>bo cs
 |.sl _ _ _ _ _ _=>false
 |.map _=>false
 |.nilmap=>true
 |.cmap ks vs=>bo ks&&bo vs
 |.pmap ks vs=>bo ks&&bo vs
 |.func _ a b=>bo a&&bo b
 |.nilf=>true
 |.iface _ v=>v.pure
 |.nili=>true
 |.anyi=>true
 |.agg cs=>bo cs
 |.tuple cs=>bo cs
 |.junk=>true
def bo:List D->Bool
 |[]=>true
 |d::ds=>d.pure&&bo ds
end
mutual
def Rep.pure{G G':Gh}(hi:∀b o v,G.imm b o=some v->G'.imm b o=some v)(hm:∀b es,G.mimm b=some es->G'.mimm b=some es):∀(d:D)(v:Value),d.pure=true->Rep G d v->Rep G' d v
 |.bool _,_,_,x=>by simpa only[Rep] using x
 |.int _ _,_,_,x=>by simpa only[Rep] using x
 |.str _,_,_,x=>by simpa only[Rep] using x
 |.nilp,_,_,x=>by simpa only[Rep] using x
 |.ptr _ _ _,_,h,_=>by simp[D.pure]at h
 |.rptr cs _,_,h,x=>by
  simp only[Rep]at x⊢;simp only[D.pure]at h;obtain⟨b,o',e,r⟩:=x;exact⟨b,o',e,Cells.pure hi hm b _ cs h r⟩
 |.list cs _ _,_,h,x=>by
  simp only[Rep]at x⊢;simp only[D.pure]at h;obtain⟨a,cap,e,h1,h2,h3,h4⟩:=x;refine⟨a,cap,e,h1,h2,h3,h4.imp ?_ id⟩;rintro⟨b,o,ha,hc⟩;exact⟨b,o,ha,Cells.pure hi hm b _ cs h hc⟩
 |.sl _ _ _ _ _ _,_,h,_=>by simp[D.pure]at h
 |.map _,_,h,_=>by simp[D.pure]at h
 |.nilmap,_,_,x=>by simpa only[Rep] using x
 |.cmap ks vs,_,h,x=>by
  simp only[Rep]at x⊢;simp only[D.pure,akY]at h;obtain⟨b,es,e,hm',h1,h2⟩:=x;exact⟨b,es,e,hm _ _ hm',af.pure hi hm ks _ h.1 h1,af.pure hi hm vs _ h.2 h2⟩
 |.pmap ks vs,_,h,x=>by
  simp only[Rep]at x⊢;simp only[D.pure,akY]at h;obtain⟨b,es,π,e,hm',hπ,h1,h2⟩:=x;exact⟨b,es,π,e,hm _ _ hm',hπ,af.pure hi hm ks _ h.1 h1,af.pure hi hm vs _ h.2 h2⟩
 |.func _ first cap,_,h,x=>by
  simp only[Rep]at x⊢;simp only[D.pure,akY]at h;obtain⟨f,c,e,h1,h2⟩:=x;exact⟨f,c,e,af.pure hi hm first _ h.1 h1,af.pure hi hm cap _ h.2 h2⟩
 |.nilf,_,_,x=>by simpa only[Rep] using x
 |.iface _ d,_,h,x=>by
  simp only[Rep]at x⊢;simp only[D.pure]at h;obtain⟨y,e,h1⟩:=x;exact⟨y,e,Rep.pure hi hm d _ h h1⟩
 |.nili,_,_,x=>by simpa only[Rep] using x
 |.anyi,_,_,x=>by simpa only[Rep] using x
 |.agg cs,_,h,x=>by
  simp only[Rep]at x⊢;simp only[D.pure]at h;obtain⟨a,e,h1⟩:=x;exact⟨a,e,af.pure hi hm cs _ h h1⟩
 |.tuple cs,_,h,x=>by
  simp only[Rep]at x⊢;simp only[D.pure]at h;obtain⟨a,e,h1⟩:=x;exact⟨a,e,af.pure hi hm cs _ h h1⟩
 |.junk,_,_,_=>by simp only[Rep]
def Cells.pure {G G':Gh} (hi:∀b o v,G.imm b o=some v->G'.imm b o=some v) (hm:∀b es,G.mimm b=some es->G'.mimm b=some es) (b:Nat):∀(o:Nat)(ds:List D),bo ds=true->Cells G b o ds->Cells G' b o ds
 |_,[],_,_=>by simp only[Cells]
 |o,d::ds,h,x=>by
  simp only[bo,akY]at h;simp only[Cells]at x⊢;obtain⟨⟨v,e,r⟩,hs⟩:=x;exact⟨⟨v,hi _ _ _ e,Rep.pure hi hm d v h.1 r⟩,Cells.pure hi hm b _ ds h.2 hs⟩
def af.pure {G G':Gh} (hi:∀b o v,G.imm b o=some v->G'.imm b o=some v) (hm:∀b es,G.mimm b=some es->G'.mimm b=some es):∀(ds:List D)(vs:List Value),bo ds=true->af G ds vs->af G' ds vs
 |[],_,_,x=>by simpa only[af] using x
 |d::ds,_,h,x=>by
  simp only[bo,akY]at h;simp only[af]at x⊢;obtain⟨v,r,e,h1,h2⟩:=x;exact⟨v,r,e,Rep.pure hi hm d v h.1 h1,af.pure hi hm ds r h.2 h2⟩
end
end Go.Fw
