/- A framework for proofs about Go programs in this model: part B. Everything is proved; no condition is added. -/
import Derived.Laws.RangeString
import Derived.IntWalk
import Derived.Test.YtlicgchfbhkelaaGreatDoorFwA
set_option linter.unusedVariables false
set_option linter.unusedSimpArgs false
set_option linter.defProp false
def ait:=@List.eq_nil_of_length_eq_zero
def aks:=@Array.getElem?_modify
def akG:=@Array.getElem?_push
def alo:=@Go.run_append_nothing
def alE:=@Nat.mul_pos
def alF:=@Nat.mul_one
namespace Go.Fw
open Go.RowKit
section
variable {P:Program}{B:dN P}{G:Gh}{σ:List am}{w:World}
def Wu(y:Rel B G σ w){t tx ty:TypeId}{sz by':Nat}(ht:BB P t tx=some (sz,by')){s x d:D}{sv xv:Value}{σ':List am}(h:Hn σ sz by' s x=some (d,σ'))(hs:Rep G s sv)(hx:Rep G x xv):
 ∃u w' G',(Builtin.append_ #[t,tx] ty #[sv,xv]).run P w=.ok u w'/\G.Le G'/\Rel B G' σ' w'/\Rep G' d u:=by
 obtain⟨e,i,zv,z,hu,Y,rfl,rfl,j5,hz,R,U,S⟩:=N0 ht;unfold Hn at h;split at h<;>try (cases h;done)
 rename_i new m n8;split at h<;>try (cases h;done)
 rename_i j3;obtain⟨j7,K,g⟩:=ad6 (P:=P) y n8 hx j3 S;have r:m=0->j7=[]:=λW=>by
  have:=K.newsLen;rw[W,ajD]at this;exact ait this
 split at h<;>try (cases h;done)
 ·rename_i M n m6;split at h<;>try (cases h;done)
  rename_i k8;have Z:=hs;simp only[Rep]at hs;obtain⟨a,p,rfl,O,V,h3,h4⟩:=hs;split at h
  ·rename_i W;cases h;subst W;have:=r rfl;subst this;exact⟨_,w,G,alo w t tx ty e i hu Y a n p O xv K,.refl G,y,Z⟩
  ·rename_i W;split at h<;>try (cases h;done)
   rename_i X;obtain⟨H,E,F⟩:=X;cases h;have Q:=h3 H;subst Q;have c:∃v,af G M v/\(Builtin.firstCells i.size p (.slice a p p)).run P w.drew=.ok v.toArray w.drew:=by
    rcases h4 with⟨b,o,rfl,X⟩|rfl
    ·obtain⟨vs,hr,p8⟩:=X.reps;have N:=hr.length;refine⟨vs,hr,?_⟩;have:=ajL (P:=P) w.drew ⟨b,o,none⟩ vs (λj u hj=>by rw[jD];exact y.drew.imm _ _ _ (p8 j u hj));rw[<-N,k8]at this;exact this
    ·refine⟨[],by simp[af],?_⟩;have u0:p*i.size=0:=by simpa using k8.symm
     cases a with
     |none=>simp[Builtin.firstCells]
     |some a=>simp only[Builtin.firstCells,u0];rfl
   obtain⟨v,C,c⟩:=c;exact Dh y hu Y hz R U (l:=σ.length) (ver:=0) (frz:=0) K g C k8 c (by omega) E F (by simp) (λA L=>by
    rcases ah0 A σ.length with h|h
    ·rw[ahT h]
    ·rw[ahZ h,ah3 h];have:A-σ.length≠0:=by omega
     cases S:A-σ.length with
     |zero=>exact absurd S this
     |succ k=>simp) (by simp) (by
      cases h:G.blk σ.length 0 with
      |none=>rfl
      |some b=>exact absurd (y.blk _ _ _ h).1 (aiS _)) ⟨aiJ _,λu' b h=>absurd (y.blk _ _ _ h).1 (aiS _)⟩ (aiJ _)
 ·rename_i l u o n w8 m6;split at h<;>try (cases h;done)
  rename_i M frz u' N;split at h<;>try (cases h;done)
  rename_i X;obtain⟨rfl,rfl,n6⟩:=X;have Z:=hs;simp only[Rep]at hs;rcases hs with⟨b,p,n9,hb,rfl,O,V,h3,h4,h5⟩|⟨rfl,a,rfl⟩
  ·split at h
   ·rename_i W;cases h;subst W;have:=r rfl;subst this;exact⟨_,w,G,alo w t tx ty e i hu Y _ n p O xv K,.refl G,y,Z⟩
   ·rename_i W;split at h<;>try (cases h;done)
    rename_i j8;obtain⟨E,F⟩:=j8;obtain⟨v,T,C,j9⟩:=y.cells_of N hb n6;have c:(Builtin.firstCells i.size n (.slice (some ⟨b,o,none⟩) n p)).run P w.drew=.ok v.toArray w.drew:=by
     have:=ajL (P:=P) w.drew ⟨b,o,none⟩ v (λj u hj=>by rw[jD];exact j9 j u hj);rw[T]at this;exact this
    split at h
    ·rename_i H;cases h;have Q:=h3 H;subst Q;exact Dh y hu Y hz R U (l:=σ.length) (ver:=0) (frz:=0) K g C (by rw[C.length,T]) c (by omega) E F (by simp) (λA L=>by
      rcases ah0 A σ.length with h|h
      ·rw[ahT h]
      ·rw[ahZ h,ah3 h];have:A-σ.length≠0:=by omega
       cases S:A-σ.length with
       |zero=>exact absurd S this
       |succ k=>simp) (by simp) (by
        cases h:G.blk σ.length 0 with
        |none=>rfl
        |some b=>exact absurd (y.blk _ _ _ h).1 (aiS _)) ⟨aiJ _,λu' b h=>absurd (y.blk _ _ _ h).1 (aiS _)⟩ (aiJ _)
    ·split at h<;>try (cases h;done)
     rename_i X;obtain⟨rfl,hn⟩:=X;cases h;have I:=g.length;have r9:=K.newsLen;have l0:0<m*i.size:=alE (by omega) j5;have n7:new≠[]:=by
      intro h0;rw[h0]at I;simp at I;omega
     have f:=y.ver _ _ N;have k9:σ.length>l:=by
      rcases ah0 l σ.length with h'|h'
      ·exact h'
      ·rw[ah3 h']at N;cases N
     by_cases J:n+m<=p
     ·have p9:(n+m)*i.size<=p*i.size:=aiK _ J;have m8:M.length+new.length<=n9:=by
       rw[ajI]at p9;omega
      obtain⟨w',G',j6,m9,o8,o9,t8⟩:=Wt (P:=P) y N hb n7 g h4 m8 j3;refine⟨.slice (some ⟨b,0,none⟩) (n+m) p,w',G',?_,m9,o8,?_⟩
      ·rw[<-hn]at j6;have p7:(Builtin.firstCells i.size m xv).run P w=.ok j7.toArray w:=K.cells;rcases S with⟨e',S⟩|S<;>simp[Builtin.append_,ahW hu,ahW S,sizeOf,typeInfo,Y,K.len,J,p7,j6]
      ·simp only[Rep];refine .inl ⟨b,p,n9,o9,rfl,J,V,by simp,t8,?_⟩;simpa using h5
     ·have m5:af G M v:=by
       have:(M.drop 0).take (n*i.size)=M:=by simp[hn]
       rwa[this]at C
      have q:∀A,A≠l->(σ.set l (.cells (M++new) frz (M++new).length))[A]?=σ[A]? :=λA L=>by rw[aiq (ajt L)]
      refine Dh y hu Y hz R U (l:=l) (ver:=(M++new).length) (frz:=frz) K g m5 (by omega) c (by omega) E F (by simp) q (by rw[aiD k9]) ?_ ?_ ?_
      ·cases hx:G.blk l (M++new).length with
       |none=>rfl
       |some b'=>
        have O:=f.2 _ _ hx;have V:=f.1;simp only[am.ver,am.len,ahN]at O V;omega
      ·refine⟨ahS _,λu7 o7 hx=> ?_⟩;have O:=f.2 _ _ hx;have V:=f.1;simp only[am.ver,am.len,ahN]at O V⊢;omega
      ·have:=y.frzle _ _ N;simp only[am.frz,am.len,ahN]at this⊢;omega
  ·have c:(Builtin.firstCells i.size 0 (.slice a 0 0)).run P w.drew=.ok ([]:List Value).toArray w.drew:=by
    cases a with
    |none=>simp[Builtin.firstCells]
    |some a=>simp only[Builtin.firstCells,ajD];rfl
   have j4:af G [] []:=by simp[af]
   split at h
   ·rename_i W;cases h;subst W;have:=r rfl;subst this;exact⟨_,w,G,alo w t tx ty e i hu Y a 0 0 (ahS _) xv K,.refl G,y,Z⟩
   ·rename_i W;split at h<;>try (cases h;done)
    rename_i j8;obtain⟨E,F⟩:=j8;have f:=y.ver _ _ N;have k9:σ.length>l:=by
     rcases ah0 l σ.length with h'|h'
     ·exact h'
     ·rw[ah3 h']at N;cases N
    split at h
    ·cases h;have e0:(M.drop o).take (0*i.size)=[]:=by simp
     rw[e0];exact Dh y hu Y hz R U (l:=σ.length) (ver:=0) (frz:=0) K g j4 (by simp) c (by omega) E F (by simp) (λA L=>by
      rcases ah0 A σ.length with h|h
      ·rw[ahT h]
      ·rw[ahZ h,ah3 h];have:A-σ.length≠0:=by omega
       cases S:A-σ.length with
       |zero=>exact absurd S this
       |succ k=>simp) (by simp) (by
        cases h:G.blk σ.length 0 with
        |none=>rfl
        |some b=>exact absurd (y.blk _ _ _ h).1 (aiS _)) ⟨aiJ _,λu' b h=>absurd (y.blk _ _ _ h).1 (aiS _)⟩ (aiJ _)
    ·split at h<;>try (cases h;done)
     rename_i X;obtain⟨rfl,hn⟩:=X;have m7:M=[]:=by simpa using hn.symm
     subst m7;cases h;have I:=g.length;have r9:=K.newsLen;have l0:0<m*i.size:=alE (by omega) j5;have t7:0<new.length:=by omega
     have q:∀A,A≠l->(σ.set l (.cells ([]++new) frz ([]++new).length))[A]?=σ[A]? :=λA L=>by rw[aiq (ajt L)]
     refine Dh y hu Y hz R U (l:=l) (ver:=([]++new).length) (frz:=frz) K g j4 (by simp) c (by omega) E F (by simp) q (by rw[aiD k9]) ?_ ?_ ?_
     ·cases hx:G.blk l ([]++new:List D).length with
      |none=>rfl
      |some b'=>
       have O:=f.2 _ _ hx;have V:=f.1;simp only[am.ver,am.len,ahN,ah9]at O V;omega
     ·refine⟨ahS _,λu7 o7 hx=> ?_⟩;have O:=f.2 _ _ hx;have V:=f.1;simp only[am.ver,am.len,ahN,ah9]at O V⊢;omega
     ·have:=y.frzle _ _ N;simp only[am.frz,am.len,ahN,ah9]at this⊢;omega
def unD:UnOp->D->Option D
 |.not,.bool b=>some (.bool (!b))
 |.neg,.int k n=>some (.int k (k.wrap (0-n)))
 |.xor,.int k n=>some (.int k (bits .xor k (if k.signed then-1 else k.max) n))
 |_,_=>none
def afz{a:UnOp}{x d:D}{v:Value}(h:unD a x=some d)(b:Rep G x v):∃u,(Op.unary a v).run P w=.ok u w/\Rep G d u:=by
 cases a<;>cases x<;>simp only[unD]at h<;>try (cases h;done)
 all_goals (simp only[Rep]at b;subst b;cases h)
 ·exact⟨_,rfl,by simp[Rep]⟩
 ·refine⟨_,by simp only[Op.unary,intBits_xor];rfl,by simp[Rep]⟩
 ·exact⟨_,rfl,by simp[Rep]⟩
inductive CK where
 |int(k:IntKind)|idStr|toBytes|toStr
 deriving Inhabited
def LA(P:Program)(a dst:TypeId):Option CK:=
 match P.underlying a,P.underlying dst with
 |some (.int _),some (.int k)=>some (.int k)
 |some .string,some .string=>some .idStr
 |some .string,some (.slice e)=>match P.underlying e,P.info? e with
  |some (.int .u8),some i=>if i.size=1 then some .toBytes else none
  |_,_=>none
 |some (.slice e),some .string=>match P.underlying e with
  |some (.int .u8)=>some .toStr
  |_=>none
 |_,_=>none
def yT:D->Option UInt8
 |.int .u8 n=>some (UInt8.ofNat n.toNat)
 |_=>none
def mf:List D->Option (List UInt8)
 |[]=>some []
 |d::c=>match yT d,mf c with
  |some b,some a=>some (b::a)
  |_,_=>none
def uw(σ:List am):CK->D->Option D
 |.int k,.int _ n=>some (.int k (k.wrap n))
 |.idStr,.str s=>some (.str s)
 |.toBytes,.str s=>if s.length<=cH then some (.list (s.map λb=>.int .u8 b.toNat) s.length false) else none
 |.toStr,.list c d f=>match pG σ 1 (.list c d f) with
  |some (a,_)=>(mf a).map .str
  |none=>none
 |.toStr,.sl l u o d z f=>match pG σ 1 (.sl l u o d z f) with
  |some (a,_)=>(mf a).map .str
  |none=>none
 |_,_=>none
def UO(s:List UInt8)(b:UInt8):(⟨s.toArray⟩:ByteArray).push b=⟨(s++[b]).toArray⟩:=by
 show(⟨s.toArray.push b⟩:ByteArray)=_;simp
def LB:∀{cs:List D}{vs:List Value}{bs:List UInt8},af G cs vs->mf cs=some bs->∃e:List Int,vs=e.map (λn=>.int .u8 n)/\bs=e.map λn=>UInt8.ofNat n.toNat
 |[],_,_,h,a=>by
  simp only[af]at h;simp only[mf,ahM]at a;subst h a;exact⟨[],rfl,rfl⟩
 |d::l,_,_,h,a=>by
  simp only[af]at h;obtain⟨v,r,rfl,g,j⟩:=h;simp only[mf]at a;split at a<;>try (cases a;done)
  rename_i b i c f;cases a;obtain⟨e,rfl,rfl⟩:=LB j f;cases d<;>simp only[yT]at c<;>try (cases c;done)
  rename_i k n;cases k<;>simp only[ahM]at c<;>try (cases c;done)
  subst c;simp only[Rep]at g;subst g;exact⟨n::e,rfl,rfl⟩
def abQ(M:Rel B G σ w){W dst:TypeId}{ck:CK}(z:LA P W dst=some ck){x d:D}{v:Value}(h:uw σ ck x=some d)(C:Rep G x v):
 ∃u w' L,(convert W dst v).run P w=.ok u w'/\G.Le L/\Rel B L σ w'/\Rep L d u:=by
 unfold LA at z;split at z<;>try (cases z;done)
 ·rename_i k0 k S O;cases z;cases x<;>simp only[uw]at h<;>try (cases h;done)
  cases h;simp only[Rep]at C;subst C;rename_i k1 n1;refine⟨.int k (k.wrap n1),w,G,?_,.refl G,M,by simp only[Rep]⟩;unfold convert;simp[ahW S,ahW O,Conv.intToInt]
 ·rename_i S O;cases z;cases x<;>simp only[uw]at h<;>try (cases h;done)
  cases h;have k9:=C;simp only[Rep]at C;subst C;refine⟨_,w,G,?_,.refl G,M,k9⟩;unfold convert;simp[ahW S,ahW O]
 ·rename_i e S O;split at z<;>try (cases z;done)
  rename_i i he hi;split at z<;>try (cases z;done)
  rename_i m8;cases z;cases x<;>simp only[uw]at h<;>try (cases h;done)
  rename_i s;split at h<;>try (cases h;done)
  rename_i K;cases h;simp only[Rep]at C;subst C;let c:=grownCap w s.length 0 e;have j3:s.length<=c:=grownCap_ge w s.length 0 e;have R:c<=maxLen:=aln w s.length 0 e (by unfold maxLen;unfold cH at K;omega);let g:Array Value:=((s.toArray.map λb=>(Value.int .u8 b.toNat))++Array.replicate (c-s.length) (.int .u8 0));have H:=QC M.drew (s.map λb=>Value.int .u8 b.toNat) (List.replicate (c-s.length) (.int .u8 0)) e (g.size,g.size+1) g (by simp[g]);refine⟨.slice (some ⟨w.heap.size,0,none⟩) s.length c,w.drew.alloc (.cells g e (g.size,g.size+1)),_,?_,H.le,M.drew.grow H,?_⟩
  ·unfold convert;simp only[ah1,ahW S,ahW O,ahW he,ahU];unfold Conv.stringToBytes;have hq:(Question.appendCap s.length 0 e).forced=false:=rfl;simp only[pb,ah1,run_choose,hq,aiC,aiE,ahU,newRow,aki,aic];unfold markStringish;have T:({w with heap:=w.heap.push (.cells g e),drawn:=w.drawn+1}:World).shape? w.heap.size=some (e,g.size):=by
    simp[World.shape?]
   show Result.andThen (Sem.run P (markStringish ⟨w.heap.size,0,none⟩) (w.drew.alloc (.cells g e))) _=_;have j4:(w.drew.alloc (.cells g e)).shape? w.heap.size=some (e,g.size):=by
    have:=J2 w.drew (.cells g e);unfold World.shape?;have h2:(w.drew.alloc (.cells g e)).heap[w.heap.size]?=some (.cells g e):=this;rw[h2]
   unfold markStringish;simp only[ah1,run_shape,ahU,j4,run_freeze];congr 1;unfold World.freeze;rw[air (by omega)];show World.mk _ _ _ _ _=World.mk _ _ _ _ _;congr 1;apply Array.ext_getElem?;intro j;show((w.heap.push (.cells g e)).modify w.heap.size _)[j]?=(w.heap.push (.cells g e (g.size,g.size+1)))[j]?;rw[aks,akG,akG];by_cases Q:j=w.heap.size
   ·subst Q;simp
   ·simp[Q,ajt Q]
  ·simp only[Rep];refine⟨_,c,rfl,j3,by unfold maxLen at R;exact R,by simp,.inl ⟨_,_,rfl,?_⟩⟩;refine Ao (b:=w.drew.heap.size) _ (s.map λb=>D.int .u8 b.toNat) [] _ rfl ?_ H.le;clear H j3 R K;induction s with
   |nil=>simp[af]
   |cons a s ih=>simp only[ahX,af];exact⟨_,_,rfl,by simp[Rep],ih⟩
 ·rename_i e S O;split at z<;>try (cases z;done)
  rename_i he;cases z;obtain⟨E,n,p,J,t,rfl,T⟩:∃E n,pG σ 1 x=some (E,n)/\∃J,mf E=some J/\d=.str J/\((∃a b c,x=.list a b c)∨∃a b c d e f,x=.sl a b c d e f):=by
   cases x<;>simp only[uw]at h<;>try (cases h;done)
   all_goals
    split at h<;>try (cases h;done)
    rename_i E n p;simp only[ajo]at h;obtain⟨J,t,rfl⟩:=h
   ·exact⟨E,n,p,J,t,rfl,.inl ⟨_,_,_,rfl⟩⟩
   ·exact⟨E,n,p,J,t,rfl,.inr ⟨_,_,_,_,_,_,rfl⟩⟩
  have m5:E.all D.isCell=true:=by
   clear p T h;induction E generalizing J with
   |nil=>rfl
   |cons a E ih=>
    simp only[mf]at t;split at t<;>try (cases t;done)
    rename_i b m6 j8 Z;simp only[aja,ih _ Z,Bool.and_true];cases a<;>simp[yT]at j8<;>rfl
  have I:∀(a:Option Addr)(U q:Nat)(F:List Value),v=.slice a U q->af G E F->(a=none->F=[])->(∀x,a=some x->(loadCells x U).run P w=.ok F.toArray w)->
   ∃u w' L,(convert W dst v).run P w=.ok u w'/\G.Le L/\Rel B L σ w'/\Rep L (.str J) u:=by
   intro a U q F j5 X hn hl;subst j5;obtain⟨V,rfl,rfl⟩:=LB X t;refine⟨.string ⟨(V.map λn=>UInt8.ofNat n.toNat).toArray⟩,w,G,?_,.refl G,M,by simp only[Rep]⟩;unfold convert;simp only[ah1,ahW S,ahW O,ahU];cases a with
   |none=>
    have:=hn rfl;simp only[List.map_eq_nil_iff]at this;subst this;simp only[ahW he,ahU];unfold Conv.bytesToString;rfl
   |some x=>
    have:=hl x rfl;simp only[ahW he,ahU];unfold Conv.bytesToString;simp only[ah1,this,ahU];have j6:∀(f:Value->ByteArray->Sem (ForInStep ByteArray))(_:∀n r,f (.int .u8 n) r=pure (ForInStep.yield (r.push (UInt8.ofNat n.toNat))))(V:List Int)(A:List UInt8),
     (ForIn.forIn (m:=Sem) (V.map λn=>Value.int .u8 n).toArray (⟨A.toArray⟩:ByteArray) f).run P w=.ok ⟨(A++V.map λn=>UInt8.ofNat n.toNat).toArray⟩ w:=by
     intro f hf V;induction V with
     |nil=>intro A;simp
     |cons n V ih=>
      intro A;have:=ih (A++[UInt8.ofNat n.toNat]);simp only[ahX,List.forIn_toArray,List.forIn_cons,ah1,hf,aic,ahU,UO]at this⊢;rw[this];simp
    have e0:ByteArray.empty=(⟨([]:List UInt8).toArray⟩:ByteArray):=rfl;rw[e0,j6 _ (λ_ _=>rfl)];rfl
  cases x<;>simp only[pG]at p<;>try (cases p;done)
  ·rcases T with⟨_,_,_,h⟩|⟨_,_,_,_,_,_,h⟩<;>cases h
  ·rename_i j7 n' Y;split at p<;>try (cases p;done)
   rename_i y;cases p;simp only[Rep]at C;obtain⟨a,q,rfl,h1,h2,h3,h4⟩:=C;rcases h4 with⟨b,o,rfl,hc⟩|rfl
   ·obtain⟨F,X,j9⟩:=hc.reps;have hl:=X.length;refine I _ _ q F rfl X (by simp) (λx hx=> ?_);cases hx;have:=ajL (P:=P) w ⟨b,o,none⟩ F (λj u Q=>by rw[jD];exact M.imm _ _ _ (j9 j u Q));rw[<-hl,y,alF]at this;exact this
   ·have k8:n=0:=by simpa using y.symm
    subst k8;exact I a 0 q [] rfl (by simp[af]) (λ_=>rfl) (λx hx=>rfl)
  ·rename_i l u o n' m9 Y;split at p<;>try (cases p;done)
   rename_i j7 m7 u' hl;split at p<;>try (cases p;done)
   rename_i hc;obtain⟨rfl,rfl,y⟩:=hc;cases p;simp only[Rep]at C;rcases C with⟨b,q,n6,hb,rfl,h1,h2,h3,h4,h5⟩|⟨rfl,a,rfl⟩
   ·obtain⟨F,l0,X,N⟩:=M.cells_of hl hb y;refine I _ _ q F rfl X (by simp) (λx hx=> ?_);cases hx;have:=ajL (P:=P) w ⟨b,o,none⟩ F (λj u Q=>by rw[jD];exact N j u Q);rw[l0,alF]at this;exact this
   ·refine I a 0 0 [] rfl ?_ (λ_=>rfl) (λx hx=>rfl);simp[af]
end
end Go.Fw
def ah4:=@List.mem_cons_of_mem
def aid:=@beq_eq_false_iff_ne
def aie:=@List.all_eq_true
def aio:=@List.mem_cons_self
def aiG:=@List.mem_map
def aiY:=@Option.isSome_iff_exists
def ai1:=@List.getElem?_cons_succ
def akk:=@Nat.sub_self
def ak5:=@List.map_fst_zip
def ak6:=@List.map_snd_zip
def ali:=@Nat.sub_zero
def alp:=@List.pairwise_cons
namespace Go.Fw
open Go.RowKit
section
variable {P:Program}{B:dN P}{G:Gh}{σ:List am}{w:World}
def UP{ds:List D}{i:Nat}{d:D}{v:Value}(h:ds[i]?=some d)(c:Rep G (.tuple ds) v):∃u,(Instr.extract v i).run P w=.ok u w/\Rep G d u:=by
 simp only[Rep]at c;obtain⟨a,rfl,e⟩:=c;obtain⟨u,f,b⟩:=e.get i h;refine⟨u,?_,b⟩;unfold Instr.extract;have:a[i]?=some u:=by simpa using f
 simp[this]
def yC(P:Program)(t:TypeId):Bool:=
 match P.underlying t with
 |some (.interface _)=>false
 |some _=>true
 |none=>false
def UQ{t:TypeId}(h:yC P t=true)(v:Value):(Instr.makeInterface t v).run P w=.ok (.iface t v) w:=by
 unfold yC at h;split at h<;>try (cases h;done)
 rename_i d b a;unfold Instr.makeInterface;simp only[ah1,ahW a,ahU];rfl
def mmD(mx:Bool):D->List D->Option D
 |.int k a,[]=>some (.int k a)
 |.int k a,.int c b::r=>if k=c then mmD mx (.int k (if mx=true then(if b>a then b else a) else(if b<a then b else a))) r else none
 |_,_=>none
def mmL(mx:Bool):List D->Option D
 |[]=>none
 |a::r=>mmD mx a r
def ad7(p:Array TypeId)(t:TypeId){ds:List D}{vs:List Value}{d:D}(h:mmL true ds=some d)(c:af G ds vs):∃u,(Builtin.max_ p t vs.toArray).run P w=.ok u w/\Rep G d u:=by
 have l:∀(r:List D)(j:List Value)(a:D)(f:Value)(d:D),mmD true a r=some d->Rep G a f->af G r j->∃u,(j.foldlM Builtin.max2 f).run P w=.ok u w/\Rep G d u:=by
  intro r;induction r with
  |nil=>
   intro j a f d h g c;simp only[af]at c;subst c;cases a<;>simp only[mmD]at h<;>try (cases h;done)
   cases h;exact⟨f,by simp,g⟩
  |cons x r o=>
   intro j a f d h g c;simp only[af]at c;obtain⟨v,m,rfl,i,e⟩:=c;cases a<;>cases x<;>simp only[mmD]at h<;>try (cases h;done)
   split at h<;>try (cases h;done)
   rename_i n;subst n;simp only[Rep]at g i;subst g i;obtain⟨u,k,b⟩:=o m _ _ d h (by simp only[Rep];rfl) e;exact⟨u,by simpa[List.foldlM_cons,Builtin.max2] using k,b⟩
 cases ds with
 |nil=>simp[mmL]at h
 |cons a r=>
  simp only[af]at c;obtain⟨v,m,rfl,i,e⟩:=c;obtain⟨u,k,b⟩:=l r m a v d h i e;exact⟨u,by unfold Builtin.max_;simpa using k,b⟩
def ad8(p:Array TypeId)(t:TypeId){ds:List D}{vs:List Value}{d:D}(h:mmL false ds=some d)(c:af G ds vs):∃u,(Builtin.min_ p t vs.toArray).run P w=.ok u w/\Rep G d u:=by
 have l:∀(r:List D)(j:List Value)(a:D)(f:Value)(d:D),mmD false a r=some d->Rep G a f->af G r j->∃u,(j.foldlM Builtin.min2 f).run P w=.ok u w/\Rep G d u:=by
  intro r;induction r with
  |nil=>
   intro j a f d h g c;simp only[af]at c;subst c;cases a<;>simp only[mmD]at h<;>try (cases h;done)
   cases h;exact⟨f,by simp,g⟩
  |cons x r o=>
   intro j a f d h g c;simp only[af]at c;obtain⟨v,m,rfl,i,e⟩:=c;cases a<;>cases x<;>simp only[mmD]at h<;>try (cases h;done)
   split at h<;>try (cases h;done)
   rename_i n;subst n;simp only[Rep]at g i;subst g i;obtain⟨u,k,b⟩:=o m _ _ d h (by simp only[Rep];rfl) e;exact⟨u,by simpa[List.foldlM_cons,Builtin.min2] using k,b⟩
 cases ds with
 |nil=>simp[mmL]at h
 |cons a r=>
  simp only[af]at c;obtain⟨v,m,rfl,i,e⟩:=c;obtain⟨u,k,b⟩:=l r m a v d h i e;exact⟨u,by unfold Builtin.min_;simpa using k,b⟩
def UR(f:Rel B G σ w)(t:TypeId):∃u c a,(Instr.makeMap t none).run P w=.ok u c/\G.Le a/\Rel B a (σ++[.map [] []]) c/\Rep a (.map σ.length) u:=by
 obtain⟨d,e⟩:=f.bindOther (.map #[] 0) (.map [] []) (by simp) (λa _ c b=>⟨#[],⟨b,by simp⟩,by simp[af],by simp[af]⟩);refine⟨.map (some w.heap.size),_,_,?_,d,e,by simp only[Rep];exact⟨_,by simp[Gh.bind0],rfl⟩⟩;unfold Instr.makeMap;simp
def ln(lk:LK)(k:D):List D->Nat->Option (Option Nat)
 |[],_=>some none
 |a::b,i=>match kP lk k a with
  |some true=>some (some i)
  |some false=>ln lk k b (i+1)
  |none=>none
def yD(P:Program)(t:TypeId):Option (LK×D):=
 match P.underlying t with
 |some (.map k e)=>
  match (match P.underlying k with|some (.int _)=>some LK.i|some .string=>some LK.s|some .bool=>some LK.b|_=>none),(match P.info? e with|some i=>(match i.zero with|some v=>De v|none=>none)|none=>none) with
  |some lk,some z=>some (lk,z)
  |_,_=>none
 |_=>none
def At:LK->TypeDesc->Prop
 |.i,.int _=>True
 |.s,.string=>True
 |.b,.bool=>True
 |_,_=>False
variable{Z:LK}{Y:Value}{X:List (D×D)}
def BC{t:TypeId}{z:D}(h:yD P t=some (Z,z)):∃k e c i v,P.underlying t=some (.map k e)/\P.underlying k=some c/\At Z c/\P.info? e=some i/\i.zero=some v/\De v=some z:=by
 unfold yD at h;split at h<;>try (cases h;done)
 rename_i k e g;split at h<;>try (cases h;done)
 rename_i l m b a;cases h;split at a<;>try (cases a;done)
 rename_i i d;split at a<;>try (cases a;done)
 rename_i v j;split at b<;>try (cases b;done)
 all_goals
  rename_i f;cases b;exact⟨k,e,_,i,v,g,f,by simp[At],d,j,a⟩
def LC{kd:TypeDesc}(f:At Z kd){a b:D}{x y:Value}{r:Bool}(h:kP Z a b=some r)(c:Rep G a x)(d:Rep G b y):Instr.sameNow kd x y=some r:=by
 cases Z<;>cases a<;>cases b<;>simp only[kP]at h<;>try (cases h;done)
 all_goals
  simp only[Rep]at c d;subst c d;cases kd<;>simp only[At]at f
 ·simpa[Instr.sameNow] using h
 ·split at h<;>try (cases h;done)
  rename_i e;subst e;simpa[Instr.sameNow] using h
 ·simp only[Instr.sameNow,beq_toListBytes,ut];exact h
def rL{kd:TypeDesc}{k:TypeId}(b:At Z kd)(a:P.underlying k=some kd)(e:Bool)(n:Nat)(x:Value):(Instr.checkKey e (n+1) k x).run P w=.ok () w:=by
 unfold Instr.checkKey;simp only[ah1,ahW a,ahU];cases Z<;>cases kd<;>simp only[At]at b<;>rfl
def ux{kd:TypeDesc}(g:At Z kd){k:D}(f:Rep G k Y):∀(ks:List D)(es:List MapEntry)(i:Nat)(r:Option Nat),ln Z k ks i=some r->af G ks (es.map (·.key))->
 Instr.findNow kd Y es i=some (r.map λj=>(j,((es[j-i]?).map (·.val)).getD undef))/\(∀j,r=some j->i<=j/\j-i<es.length)
 |[],es,i,r,h,b=>by
  simp only[af,List.map_eq_nil_iff]at b;subst b;simp only[ln,ahM]at h;subst h;exact⟨rfl,by simp⟩
 |a::n,es,i,r,h,b=>by
  match es,b with
  |[],b=>simp only[af]at b;obtain⟨_,_,h,_⟩:=b;cases h
  |e::es,b=>
   simp only[ahX,af]at b;obtain⟨v,u,t,m,p⟩:=b;cases t;simp only[ln]at h;split at h<;>try (cases h;done)
   ·rename_i c;cases h;simp only[Instr.findNow,LC g c f m,ai7,akk,akR,Option.getD_some];exact⟨trivial,λj d=>by cases d;simp⟩
   ·rename_i c;obtain⟨o,l⟩:=ux g f n es (i+1) r h p;simp only[Instr.findNow,LC g c f m];refine⟨?_,λj d=> ?_⟩
    ·rw[o];cases r with
     |none=>rfl
     |some j=>
      obtain⟨q,s⟩:=l j rfl;simp only[ai7,ahM,ah7,true_and];have:j-i=(j-(i+1))+1:=by omega
      rw[this,ai1]
    ·obtain⟨q,s⟩:=l j d;simp only[ahP];omega
def yU(z:D)(ok:Bool)(r:Option D):D:=match r with
 |some d=>if ok then .tuple [d,.bool true] else d
 |none=>if ok then .tuple [z,.bool false] else z
def oK(lk:LK)(z:D)(ok:Bool)(ks vs:List D)(k:D):Option D:=
 match ln lk k ks 0 with
 |some (some i)=>(vs[i]?).map λd=>yU z ok (some d)
 |some none=>some (yU z ok none)
 |none=>none
def Di:List D->Bool
 |[]=>true
 |.int .i64 n::r=>(r.all λd=>match d with|.int .i64 m=> !(decide (n=m))|_=>false)&&Di r
 |_::_=>false
def EG(G:Gh)(a:List (D×D))(l:List MapEntry):Prop:=af G (a.map (·.1)) (l.map (·.key))/\af G (a.map (·.2)) (l.map (·.val))
def LE{l l':List MapEntry}(h:l.Perm l'):∀{b:List (D×D)},EG G b l->∃c,c.Perm b/\EG G c l':=by
 induction h with
 |nil=>exact λh=>⟨_,.refl _,h⟩
 |cons e _ E=>
  intro b h;cases b with
  |nil=>obtain⟨a,_⟩:=h;simp[af]at a
  |cons p b=>
   obtain⟨a,d⟩:=h;simp only[ahX,af]at a d;obtain⟨v,r,o,g,j⟩:=a;obtain⟨O,K,x,k,n⟩:=d;cases o;cases x;obtain⟨c,C,f⟩:=E ⟨j,n⟩;exact⟨p::c,C.cons p,by simp only[ahX,af];exact⟨_,_,rfl,g,f.1⟩,by simp only[ahX,af];exact⟨_,_,rfl,k,f.2⟩⟩
 |swap e I l=>
  intro b h;obtain⟨a,d⟩:=h
  match b,a,d with
  |[],a,_=>simp[af]at a
  |[_],a,_=>simp[af]at a
  |p::q::b,a,d=>
   simp only[ahX,af]at a d;obtain⟨v,r,o,g,N,J,t,i,j⟩:=a;obtain⟨u,s,x,k,M,L,y,m,n⟩:=d;cases o;cases t;cases x;cases y;refine⟨q::p::b,.swap _ _ _,?_,?_⟩
   ·simp only[ahX,af];exact⟨_,_,rfl,i,_,_,rfl,g,j⟩
   ·simp only[ahX,af];exact⟨_,_,rfl,m,_,_,rfl,k,n⟩
 |trans _ _ z A=>
  intro b h;obtain⟨p1,C,f⟩:=z h;obtain⟨p2,F,H⟩:=A f;exact⟨p2,F.trans C,H⟩
def mU:D->Bool
 |.int .i64 _=>true
 |_=>false
def ja:D->Int
 |.int _ n=>n
 |_=>0
def mN(k:Int):List (D×D)->Option D
 |[]=>none
 |p::r=>if ja p.1=k then some p.2 else mN k r
def Jq{k:Int}{m c:List (D×D)}(h:m.Perm c)(hd:m.Pairwise λa b=>ja a.1≠ja b.1):mN k m=mN k c:=by
 induction h with
 |nil=>rfl
 |cons p _ n=>simp only[mN];rw[n (alp.1 hd).2]
 |swap p q l=>
  have g:=(alp.1 hd).1 p (aio ..);simp only[mN];by_cases d:ja p.1=k<;>by_cases f:ja q.1=k
  ·exact absurd (f.trans d.symm) g
  ·simp[d,f]
  ·simp[d,f]
  ·simp[d,f]
 |trans g _ i j=>
  rw[i hd];exact j ((g.pairwise_iff λh e=>h e.symm).1 hd)
def N2{n:Int}:∀(c:List (D×D))(i:Nat),(∀p∈c,mU p.1=true)->∃o,ln .i (.int .i64 n) (c.map (·.1)) i=some o/\(∀j,o=some j->i<=j/\((c.map (·.2))[j-i]?=mN n c)/\(mN n c).isSome=true)/\(o=none->mN n c=none)
 |[],i,_=>⟨none,rfl,λj h=>(by cases h),λ_=>rfl⟩
 |p::c,i,h=>by
  obtain⟨a,b⟩:=p;have f:=h (a,b) (aio ..);simp only at f;cases a<;>try (cases f;done)
  rename_i k m;cases k<;>try (cases f;done)
  obtain⟨o,q,r,s⟩:=N2 (n:=n) c (i+1) λp t=>h p (ah4 _ t);by_cases e:n=m
  ·subst e;refine⟨some i,by simp[ln,kP],λj g=> ?_,λh=>by cases h⟩;cases g;simp[mN,ja]
  ·have l:¬m=n:=λh=>e h.symm;have d:mN n ((D.int .i64 m,b)::c)=mN n c:=by simp[mN,ja,l]
   refine⟨o,by simp only[ahX,ln,kP,aiI,aid.2 e];exact q,λj g=> ?_,λh=>by rw[d];exact s h⟩;obtain⟨x,u,v⟩:=r j g;refine⟨by omega,?_,by rw[d];exact v⟩;rw[d,show j-i=(j-(i+1))+1 by omega,ahX,ai1];exact u
def uy{z:D}{ok:Bool}{n:Int}(h:∀p∈X,mU p.1=true):oK .i z ok (X.map (·.1)) (X.map (·.2)) (.int .i64 n)=some (yU z ok (mN n X)):=by
 unfold oK;obtain⟨o,b,c,d⟩:=N2 (n:=n) X 0 h;rw[b];cases o with
 |none=>simp only;rw[d rfl]
 |some j=>
  obtain⟨_,a,f⟩:=c j rfl;simp only;rw[ali]at a;rw[a];obtain⟨x,e⟩:=aiY.1 f;rw[e];rfl
def EH:∀{ks:List D},Di ks=true->(∀k∈ks,mU k=true)/\ks.Pairwise λa b=>ja a≠ja b
 |[],_=>⟨λ_ h=>by simp at h,.nil⟩
 |k::r,h=>by
  cases k<;>try (cases h;done)
  rename_i i n;cases i<;>try (cases h;done)
  simp only[Di,ahJ,aie]at h;obtain⟨e,f⟩:=EH h.2;refine⟨λk c=> ?_,alp.2 ⟨λd g=> ?_,f⟩⟩
  ·rcases aib.1 c with rfl|c
   ·rfl
   ·exact e k c
  ·have:=h.1 d g;split at this
   ·simpa[ja] using this
   ·cases this
def wv(lk:LK)(z:D)(ok:Bool)(ks vs:List D)(k:D):Option D:=match Di ks with
 |true=>match k with
  |.int .i64 n=>match lk with
   |.i=>oK .i z ok ks vs (.int .i64 n)
   |_=>none
  |_=>none
 |false=>none
def yE(σ:List am)(lk:LK)(z:D)(ok:Bool)(m k:D):Option D:=
 match m with
 |.map l=>match σ[l]? with
  |some (.map a b)=>oK lk z ok a b k
  |_=>none
 |.cmap a b=>oK lk z ok a b k
 |.pmap a b=>wv lk z ok a b k
 |.nilmap=>if (kP lk k k).isSome then some (yU z ok none) else none
 |_=>none
def J8{ok:Bool}{d:D}{v:Value}(b:Bool)(a:Rep G d v):Rep G (if ok then .tuple [d,.bool b] else d) (if ok then .tuple #[v,.bool b] else v):=by
 cases ok
 ·exact a
 ·simp only[aiI,Rep,af];exact⟨_,rfl,v,_,rfl,a,_,_,rfl,rfl,rfl⟩
def BD{t:TypeId}{z:D}(H:yD P t=some (Z,z)){ok:Bool}{ks vs:List D}{k d:D}{b c:Nat}{es:Array MapEntry}(h:oK Z z ok ks vs k=some d)
 (K:w.heap[b]?=some (.map es c))(A:af G ks (es.toList.map (·.key)))(L:af G vs (es.toList.map (·.val)))(x:Rep G k Y):
 ∃u,(Instr.lookup t (.map (some b)) Y ok).run P w=.ok u w/\Rep G d u:=by
 obtain⟨Q,e,O,i,M,y,a,l,E,J,q⟩:=BC H;have r:Rep G z M:=EB G q;have f:(getObj b).run P w=.ok (.map es c) w:=by simp[getObj,Sem.run,K]
 unfold oK at h;split at h<;>try (cases h;done)
 ·rename_i j o;obtain⟨m,s⟩:=ux l x ks es.toList 0 (some j) o A;obtain⟨_,F⟩:=s j rfl;simp only[ajo]at h;obtain⟨N,n,rfl⟩:=h;obtain⟨v,I,g⟩:=L.get j n;have p:es[j]?.map (·.val)=some v:=by simpa using I
  refine⟨_,?_,J8 (ok:=ok) true g⟩;unfold Instr.lookup Instr.findKey;simp only[ah1,ahW y,ahU,f,aic,rL l a,ahW a,m,ai7,ali];have:(es.toList[j]?.map (·.val)).getD undef=v:=by
   have C:es.toList[j]?=es[j]? :=by simp
   rw[C,p];rfl
  rw[this]
 ·rename_i o;obtain⟨m,s⟩:=ux l x ks es.toList 0 none o A;cases h;refine⟨_,?_,J8 (ok:=ok) false r⟩;unfold Instr.lookup Instr.findKey;simp[ahW y,f,rL l a,ahW a,m,zeroValue,typeInfo,E,J]
def Wv(E:Rel B G σ w){t:TypeId}{z:D}(A:yD P t=some (Z,z)){ok:Bool}{m k d:D}{mv W:Value}(h:yE σ Z z ok m k=some d)(g:Rep G m mv)(I:Rep G k W):
 ∃u,(Instr.lookup t mv W ok).run P w=.ok u w/\Rep G d u:=by
 cases m<;>simp only[yE]at h<;>try (cases h;done)
 ·rename_i l;split at h<;>try (cases h;done)
  rename_i c f J;simp only[Rep]at g;obtain⟨b,X,rfl⟩:=g;obtain⟨U,o1,o2,o3⟩:=E.obj _ _ b J X;exact BD A h o1.1 o2 o3 I
 ·split at h<;>try (cases h;done)
  obtain⟨kt,e,kd,i,zv,hu,r,hl,Y,C,O⟩:=BC A;have Q:Rep G z zv:=EB G O;cases h;simp only[Rep]at g;subst g;refine⟨_,?_,J8 (ok:=ok) false Q⟩;unfold Instr.lookup Instr.findKey;simp[ahW hu,rL hl r,ahW r,Instr.findNow,zeroValue,typeInfo,Y,C]
 ·simp only[Rep]at g;obtain⟨b,U,rfl,q,x,y⟩:=g;obtain⟨F,_⟩:=E.mimm _ _ q;exact BD A h F x y I
 ·rename_i c f;simp only[Rep]at g;obtain⟨b,U,π,rfl,q,R,x,y⟩:=g;obtain⟨F,_⟩:=E.mimm _ _ q;unfold wv at h;split at h<;>try (cases h;done)
  rename_i o;split at h<;>try (cases h;done)
  split at h<;>try (cases h;done)
  obtain⟨o,M⟩:=EH o;have V:c.length=f.length:=by rw[x.length,y.length];simp
  have v:(c.zip f).map (·.1)=c:=ak5 (by omega);have T:(c.zip f).map (·.2)=f:=ak6 (by omega);have L:EG G (c.zip f) π:=⟨by rw[v];exact x,by rw[T];exact y⟩;obtain⟨S,p1,p2,p3⟩:=LE R L;have C:∀p∈c.zip f,mU p.1=true:=λp K=>o _ (by rw[<-v];exact aiG.2 ⟨p,K,rfl⟩);have N:∀p∈S,mU p.1=true:=λp K=>C p (p1.subset K);have s:(c.zip f).Pairwise λa b=>ja a.1≠ja b.1:=by
   have j:((c.zip f).map (·.1)).Pairwise λa b=>ja a≠ja b:=by rw[v];exact M
   rw[List.pairwise_map]at j;exact j
  have H:=uy (z:=z) (ok:=ok) (n:=‹Int›) C;rw[v,T,h]at H;rw[Jq p1.symm s,<-uy N]at H;exact BD A H.symm F p2 p3 I
def QL(σ:List am)(lk:LK)(m k x:D):Option (List am):=
 match m with
 |.map l=>match σ[l]? with
  |some (.map a b)=>match ln lk k a 0 with
   |some (some i)=>some (σ.set l (.map a (b.set i x)))
   |some none=>if k.isCell=true then some (σ.set l (.map (a++[k]) (b++[x]))) else none
   |none=>none
  |_=>none
 |_=>none
end
end Go.Fw
def ais:=@Array.getElem?_toList
def aiR:=@List.map_append
def ai0:=@List.map_nil
def ajr:=@Int.toNat_of_nonneg
def ajJ:=@Array.getElem?_setIfInBounds_ne
def ajM:=@List.set_cons_zero
def akb:=@beq_iff_eq
def akj:=@List.set_cons_succ
def akU:=@decide_eq_false_iff_not
def ala:=@Bool.or_eq_false_iff
def alv:=@beq_self_eq_true
def alz:=@Int.natCast_mul
namespace Go.Fw
open Go.RowKit
section
variable {P:Program}{B:dN P}{G:Gh}{σ:List am}{w:World}
variable{Z Y:Value}{X:LK}
def Jp{k:D}(d:Rep G k Z):∀(ks:List D)(es:List MapEntry)(i j:Nat),ln X k ks i=some (some j)->af G ks (es.map (·.key))->
 ∃e,es[j-i]?=some e/\e.key=Z/\i<=j/\Instr.sameBits 10000 e.key Z=true
 |[],es,i,j,h,c=>by simp[ln]at h
 |a::l,es,i,j,h,c=>by
  match es,c with
  |[],c=>simp only[ai0,af]at c;obtain⟨_,_,h,_⟩:=c;cases h
  |e::es,c=>
   simp only[ahX,af]at c;obtain⟨v,t,r,f,q⟩:=c;cases r;simp only[ln]at h;split at h<;>try (cases h;done)
   ·rename_i b;simp only[ahM]at h;subst h;refine⟨e,by simp,?_⟩;cases X<;>cases k<;>cases a<;>simp only[kP]at b<;>try (cases b;done)
    all_goals simp only[Rep]at d f
    ·subst d;rw[f];simp only[ahM,akb]at b;subst b;exact⟨rfl,ahS _,by simp[Instr.sameBits]⟩
    ·subst d;rw[f];split at b<;>try (cases b;done)
     rename_i g;subst g;simp only[ahM,akb]at b;subst b;exact⟨rfl,ahS _,by simp[Instr.sameBits]⟩
    ·subst d;rw[f];simp only[ahM,akb]at b;subst b;exact⟨rfl,ahS _,by simp only[Instr.sameBits,beq_toListBytes,alv]⟩
   ·obtain⟨m,n,o,s,p⟩:=Jp d l es (i+1) j h q;refine⟨m,?_,o,by omega,p⟩;have:j-i=(j-(i+1))+1:=by omega
    rw[this,ai1];exact n
def af.set{G:Gh}:∀{ds:List D}{vs:List Value}(i:Nat){d:D}{v:Value},af G ds vs->Rep G d v->af G (ds.set i d) (vs.set i v)
 |[],_,_,_,_,h,_=>by simp only[af]at h;subst h;simp[af]
 |_::_,_,0,_,_,h,b=>by
  simp only[af]at h;obtain⟨_,r,rfl,_,a⟩:=h;simp only[ajM,af];exact⟨_,r,rfl,b,a⟩
 |_::_,_,i+1,_,_,h,b=>by
  simp only[af]at h;obtain⟨v,r,rfl,c,a⟩:=h;simp only[akj,af];exact⟨v,_,rfl,c,af.set i a b⟩
def yA(i:Rel B G σ w){l b:Nat}{ob a:am}(N:σ[l]?=some ob)(s:G.blk l 0=some b){o o':Obj}(F:w.heap[b]?=some o)(p:ob.ver=0)(h:a.ver=0)(z:a.len=0)(y:a.frz=0)
 (j:∀r t f,o≠.cells r t f)(D:∀r f u,a≠.cells r f u)(C:G.mimm b=none)(m:∀K:World,K.heap[b]?=some o'->pP G K b a):
 Rel B G (σ.set l a) {w with heap:=w.heap.setIfInBounds b o'}:=by
 have A:=dG F;have d:∀k,k≠b->(w.heap.setIfInBounds b o')[k]?=w.heap[k]? :=λk J=>ajJ (ajt J);have g:(w.heap.setIfInBounds b o')[b]?=some o':=by simp[A]
 have M:=(i.blk _ _ _ s).2.1;refine i.update N (by rw[p];exact s) (.refl G) (λ_ _ _ x=>.inl x) (by rw[h];exact s) ?_ rfl rfl ?_ (by simp) d ?_ C (m _ g) (λr L u e=>absurd e (D _ _ _)) (by omega) (by omega)
 ·intro q Q v I;refine⟨?_,λ_=>I⟩;have c:=i.imm _ _ _ I;have E:q≠b:=by
   rintro rfl;unfold World.cell? at c;rw[F]at c;cases o<;>first|exact absurd rfl (j _ _ _)|simp at c
  unfold World.cell? at c⊢;have:({w with heap:=w.heap.setIfInBounds b o'}:World).heap[q]?=w.heap[q]? :=d q E;simp only[this];exact c
 ·exact i.below.trans ⟨rfl,rfl,rfl,by simp,λk J=>d k (by omega)⟩
 ·intro n O;obtain⟨S,R,f,H,_⟩:=i.siz _ _ O;rw[F]at H;cases H;exact absurd rfl (j _ _ _)
def Wo(F:Rel B G σ w){t:TypeId}{z:D}(ht:yD P t=some (X,z)){m k x:D}{mv g n:Value}{σ':List am}(h:QL σ X m k x=some σ')(V:Rep G m mv)(J:Rep G k g)(Y:Rep G x n):
 ∃L,(Instr.mapUpdate t mv g n).run P w=.ok () L/\Rel B G σ' L:=by
 obtain⟨kt,e,kd,i,zv,W,o,K,hi,hz,j3⟩:=BC ht;cases m<;>simp only[QL]at h<;>try (cases h;done)
 rename_i l;split at h<;>try (cases h;done)
 rename_i S vs p;simp only[Rep]at V;obtain⟨b,H,rfl⟩:=V;obtain⟨a,⟨C,u⟩,E,Z⟩:=F.obj _ _ b p H;generalize Q:a.size=c at C;have v:(getObj b).run P w=.ok (.map a c) w:=by simp[getObj,Sem.run,C]
 have A:∀o',(setObj b o').run P w=.ok () {w with heap:=w.heap.setIfInBounds b o'}:=λo'=>by simp[setObj,Sem.run,C]
 have y:G.mimm b=none:=F.ownm _ _ _ _ p H;split at h<;>try (cases h;done)
 ·rename_i j I;cases h;obtain⟨N,g2⟩:=ux K J S a.toList 0 (some j) I E;obtain⟨U,T,e2,_,e4⟩:=Jp J S a.toList 0 j I E;simp only[ali]at T;have f:a[j]?=some U:=by simpa using T
  have r:(Instr.keyThatStays (((a[j]?).map (·.key)).getD g) g).run P w=.ok g w:=by
   rw[f];simp only[ai7,Option.getD_some];unfold Instr.keyThatStays;rw[e4];rfl
  refine⟨_,?_,yA F p H C rfl rfl rfl rfl (by simp) (by simp) y (o':=.map (a.modify j λe=>{e with key:=g,val:=n}) c) ?_⟩
  ·unfold Instr.mapUpdate Instr.findKey;simp only[ah1,ahW W,ahU,v,rL K o,ahW o,N,ai7,aic,r,A]
  ·intro L s;refine⟨a.modify j λe=>{e with key:=g,val:=n},⟨by rw[s];simp[Q],λq M d=> ?_⟩,?_,?_⟩
   ·rw[aks]at d;by_cases e:j=q
    ·subst e;simp only[aiI,f,ai7,ahM]at d;rw[<-d];exact u j U f
    ·simp only[e,aiE]at d;exact u q M d
   ·have:(a.modify j λe=>{e with key:=g,val:=n}).toList.map (·.key)=a.toList.map (·.key):=by
     apply ajh;intro q;simp only[aiO,ais,aks];by_cases d:j=q
     ·subst d;simp[f,e2]
     ·simp[d]
    rw[this];exact E
   ·have:(a.modify j λe=>{e with key:=g,val:=n}).toList.map (·.val)=(a.toList.map (·.val)).set j n:=by
     apply ajh;intro q;simp only[aiO,ais,aks];by_cases d:j=q
     ·subst d;have R:j<a.size:=by
       rcases ah0 j a.size with O|O
       ·exact O
       ·rw[aj0 O]at f;cases f
      rw[aiD (by simpa using R)];simp[f]
     ·rw[aiq d];simp[d]
    rw[this];exact Z.set j Y
 ·rename_i I;split at h<;>try (cases h;done)
  cases h;obtain⟨N,g2⟩:=ux K J S a.toList 0 none I E;refine⟨_,?_,yA F p H C rfl rfl rfl rfl (by simp) (by simp) y (o':=.map (a.push {key:=g,val:=n,born:=c}) (c+1)) ?_⟩
  ·unfold Instr.mapUpdate Instr.findKey;simp only[ah1,ahW W,ahU,v,rL K o,ahW o,N,Option.map_none,aic,A]
  ·intro L s;refine⟨a.push {key:=g,val:=n,born:=c},⟨by rw[s];simp[Q],λq M d=> ?_⟩,?_,?_⟩
   ·rw[akG]at d;split at d
    ·rename_i e;cases d;rw[<-Q];exact e.symm
    ·exact u q M d
   ·simp only[Array.toList_push,aiR,ahX,ai0];exact E.append (by simp only[af];exact⟨g,[],rfl,J,rfl⟩)
   ·simp only[Array.toList_push,aiR,ahX,ai0];exact Z.append (by simp only[af];exact⟨n,[],rfl,Y,rfl⟩)
def Pj(a:Option (List D×Nat))(d:Option (Nat×Nat))(σ:List am)(l c:D):Option (D×List am):=
 match a,d,mM l,mM c with
 |some (z,e),some (_,b),some n,some m=>
  if 0<=n/\n<=m/\m<=cH/\m.toNat*b<=cH then some (.sl σ.length 0 0 n.toNat e (decide (n=m)),σ++[.cells (kO z n.toNat) 0 0]) else none
 |_,_,_,_=>none
def QE(z:List D):∀a b,kO z (a+b)=kO z a++kO z b
 |0,b=>by simp[kO]
 |a+1,b=>by rw[show a+1+b=(a+b)+1 from by omega,kO,kO,QE z a b,aia]
def af.split{G:Gh}:∀{ds es:List D}{vs:List Value},af G (ds++es) vs->∃a b,vs=a++b/\af G ds a/\af G es b
 |[],_,vs,h=>⟨[],vs,rfl,by simp[af],h⟩
 |d::ds,es,vs,h=>by
  simp only[aiB,af]at h;obtain⟨v,r,rfl,c,e⟩:=h;obtain⟨a,b,rfl,f,g⟩:=af.split e;exact⟨v::a,b,rfl,by simp only[af];exact⟨v,a,rfl,c,f⟩,g⟩
def QF(hR:Rel B G σ w){t:TypeId}{l c d:D}{σ':List am}{p:Option (List D×Nat)}{C:Option (Nat×Nat)}(q:∀x,p=some x->Hk P t=some x)(A:∀x,C=some x->vX P t=some x)(h:Pj p C σ l c=some (d,σ'))(hl:Rep G l Z)(hc:Rep G c Y):
 ∃u W o,(Instr.makeSlice t Z Y).run P w=.ok u W/\G.Le o/\Rel B o σ' W/\Rep o d u:=by
 unfold Pj at h;split at h<;>try (cases h;done)
 rename_i z sz j3 X n m hn hm;have a:=q _ rfl;have L:=A _ rfl;split at h<;>try (cases h;done)
 rename_i I;obtain⟨h0,h1,E,T⟩:=I;cases h;obtain⟨k1,rfl⟩:=qq hn hl;obtain⟨k2,rfl⟩:=qq hm hc;obtain⟨e,i,V,s,_,H⟩:=ED L;unfold Hk at a;rw[V]at a;simp only at a;split at a<;>try (cases a;done)
 rename_i z' i' hz y;rw[s]at y;cases y;split at a<;>try (cases a;done)
 rename_i Q;obtain⟨R,U⟩:=Q;cases a;obtain⟨j5,v,g,hv,r⟩:=nA hz;rw[s]at g;cases g;have S:=oI G r;have j:=J4 S m.toNat;rw[R]at j;have b:kO z m.toNat=kO z n.toNat++kO z (m.toNat-n.toNat):=by
  rw[<-QE];congr 1;omega
 rw[b]at j;obtain⟨hd,tl,M,K,_⟩:=j.split;obtain⟨o,g1,g2,g3,g4⟩:=BA hR K tl e ((Array.range (m.toNat*i.size)).map (v.cells[· % v.cells.size]!)) M;have N:IntKind.i64.wrap n=n:=IntWalk.i64_in n (by unfold cH at E;omega);have O:IntKind.i64.wrap m=m:=IntWalk.i64_in m (by unfold cH at E;omega);refine⟨.slice (some ⟨w.heap.size,0,none⟩) n.toNat m.toNat,_,o,?_,g1,g2,?_⟩
 ·unfold Instr.makeSlice;have J:(m.toNat:Int)=m:=ajr (by omega);have F:¬((i.bytes:Int)*m>2 ^ 48):=by
   have:((m.toNat*i.bytes:Nat):Int)<=(cH:Int):=by
    rw[<-H]at T;exact Int.ofNat_le.2 T
   rw[alz,J,Int.mul_comm]at this;unfold cH at this;omega
  simp only[ahW V,ah1,asInt,asIntOf,aic,ahU,typeInfo,ai6,s,N,O];have c1:((decide (m<0)||decide ((i.bytes:Int)*m>2 ^ 48))||decide (n<0)||decide (n>m))=false:=by
   simp only[ala,akU];refine⟨⟨⟨by omega,F⟩,by omega⟩,by omega⟩
  rw[air (by rw[c1];simp)];simp only[run_askRoom,ahU,sizeOf,typeInfo,ah1,ai6,s,aic];by_cases k:m.toNat*i.size=0
  ·have j4:m.toNat=0:=by
    rcases alf.1 k with h|h<;>omega
   have e0:∀f:Nat->Value,Array.map f (Array.range 0)= #[]:=by intro f;simp
   simp only[k,aiI,aic,ahU,e0,newRow,ah1,aki];rfl
  ·simp only[k,aiE,ah1,zeroValue,typeInfo,ai6,ahU,s,aic,hv,newRow,aki];rfl
 ·simp only[Rep];refine .inl ⟨w.heap.size,m.toNat,_,g3,rfl,by omega,by unfold cH at E;omega,?_,g4,?_⟩
  ·intro hf;simp only[aiu]at hf;omega
  ·simp
def Sz(f:Rel B G σ w){t:TypeId}(g:P.underlying t=some .string)(s:List UInt8):
 ∃u c a,(Instr.range t (.string ⟨s.toArray⟩)).run P w=.ok u c/\G.Le a/\Rel B a (σ++[.siter s 0]) c/\Rep a (.ptr σ.length 0 0) u:=by
 obtain⟨d,e⟩:=f.bindOther (.stringIter ⟨s.toArray⟩ 0) (.siter s 0) (by simp) (λa _ c b=>b);refine⟨.pointer (some ⟨w.heap.size,0,none⟩),_,_,?_,d,e,by simp only[Rep];exact⟨_,by simp[Gh.bind0],rfl⟩⟩;unfold Instr.range;simp[ahW g]
def Ap(σ:List am)(a:D):Option (D×List am):=
 match a with
 |.ptr l 0 0=>match σ[l]? with
  |some (.siter s pos)=>
   if pos<s.length then
    some (.tuple [.bool true,.int .i64 pos,.int .i32 (Utf8.decode ⟨s.toArray⟩ pos).1],σ.set l (.siter s (pos+(Utf8.decode ⟨s.toArray⟩ pos).2)))
   else some (.tuple [.bool false],σ)
  |_=>none
 |_=>none
def UJ(g:Rel B G σ w){q d:D}{σ':List am}{v:Value}(ty:TypeId)(h:Ap σ q=some (d,σ'))(p:Rep G q v):
 ∃u m,(Instr.next v true ty).run P w=.ok u m/\Rel B G σ' m/\Rep G d u:=by
 unfold Ap at h;split at h<;>try (cases h;done)
 rename_i l;split at h<;>try (cases h;done)
 rename_i s a f;simp only[Rep]at p;obtain⟨b,n,rfl⟩:=p;have i:w.heap[b]?=some (.stringIter ⟨s.toArray⟩ a):=g.obj _ _ b f n;have e:(getObj b).run P w=.ok (.stringIter ⟨s.toArray⟩ a) w:=by simp[getObj,Sem.run,i]
 have j:G.mimm b=none:=by
  cases r:G.mimm b with
  |none=>rfl
  |some t=>
   obtain⟨o,_⟩:=g.mimm _ _ r;rw[i]at o;cases o
 split at h
 ·rename_i c;cases h;refine⟨.tuple #[.bool true,goInt a,.int .i32 (Utf8.decode ⟨s.toArray⟩ a).1],_,?_,yA g f n i rfl rfl rfl rfl (by simp) (by simp) j (o':=.stringIter ⟨s.toArray⟩ (a+(Utf8.decode ⟨s.toArray⟩ a).2)) (λm k=>k),?_⟩
  ·unfold Instr.next;simp only[ah1,e,ahU,pb,c,aiI];have:(setObj b (.stringIter ⟨s.toArray⟩ (a+(Utf8.decode ⟨s.toArray⟩ a).2))).run P w=.ok () {w with heap:=w.heap.setIfInBounds b (.stringIter ⟨s.toArray⟩ (a+(Utf8.decode ⟨s.toArray⟩ a).2))}:=by simp[setObj,Sem.run,i]
   simp only[this,ahU,aic]
  ·simp only[Rep,af];exact⟨_,rfl,_,_,rfl,rfl,_,_,rfl,rfl,_,_,rfl,rfl,rfl⟩
 ·rename_i c;cases h;refine⟨.tuple #[.bool false],w,?_,g,by simp only[Rep,af];exact⟨_,rfl,_,_,rfl,rfl,rfl⟩⟩;unfold Instr.next;simp only[ah1,e,ahU,pb,c,aiE,aic]
end
end Go.Fw
def aiZ:=@List.eq_nil_iff_forall_not_mem
def akq:=@List.mem_filter
def akO:=@Nat.eq_zero_or_pos
def als:=@bne_self_eq_false
namespace Go.Fw
open Go.RowKit
section
variable {P:Program}{B:dN P}{G:Gh}{σ σ' :List am}{w:World}
def SA(l:Rel B G σ w){t k e:TypeId}(s:P.underlying t=some (.map k e)){ks vs:List D}{v:Value}(n:Rep G (.cmap ks vs) v):
 ∃u i f,(Instr.range t v).run P w=.ok u i/\G.Le f/\Rel B f (σ++[.miter ks vs (List.range ks.length) none]) i/\Rep f (.ptr σ.length 0 0) u:=by
 simp only[Rep]at n;obtain⟨b,c,rfl,m,j,q⟩:=n;obtain⟨r,_⟩:=l.mimm _ _ m;have d:ks.length=c.size:=by have:=j.length;simpa using this
 obtain⟨o,p⟩:=l.bindOther (.mapIter (some b) c.size #[] c.size) (.miter ks vs (List.range ks.length) none) (by simp)
  (λf a i h=>⟨b,c,#[],h,a.mimm _ _ m,af.mono a _ _ j,af.mono a _ _ q,by simp[d],by simp⟩)
 refine⟨.pointer (some ⟨w.heap.size,0,none⟩),_,_,?_,o,p,by simp only[Rep];exact⟨_,by simp[Gh.bind0],rfl⟩⟩;have g:(getObj b).run P w=.ok (.map c c.size) w:=by simp[getObj,Sem.run,r]
 unfold Instr.range;simp[ahW s,g]
def Wp(n:Nat)(c:0<n):∃k a,(choose (.mapNext n)).run P w=.ok k a/\k<n/\(a=w∨a=w.drew):=by
 have h:(choose (.mapNext n)).run P w=if (Question.mapNext n).forced then .ok 0 w else .ok ((Question.mapNext n).cut (w.tape w.drawn (.mapNext n))) {w with drawn:=w.drawn+1}:=rfl
 by_cases b:(Question.mapNext n).forced=true
 ·exact⟨0,w,by rw[h,ah2 b],c,.inl rfl⟩
 ·exact⟨(w.tape w.drawn (.mapNext n)) % n,w.drew,by rw[h,air b];rfl,Nat.mod_lt _ c,.inr rfl⟩
def UK(E:Rel B G σ w){l:Nat}{ks vs:List D}{p:List Nat}{Z:Option Nat}{v:Value}(ty:TypeId)(hl:σ[l]?=some (.miter ks vs p Z))(hv:Rep G (.ptr l 0 0) v):
 ∃u Y,(Instr.next v false ty).run P w=.ok u Y/\
  ((p=[]/\Rel B G σ Y/\Rep G (.tuple [.bool false]) u)∨
   (∃i a b,i∈p/\ks[i]?=some a/\vs[i]?=some b/\Rel B G (σ.set l (.miter ks vs (p.filter (· !=i)) (some i))) Y/\Rep G (.tuple [.bool true,a,b]) u)):=by
 simp only[Rep]at hv;obtain⟨b,hb,rfl⟩:=hv;obtain⟨m,d,seen,o1,o2,o3,o4,o5,o6⟩:=E.obj _ _ b hl hb;obtain⟨hm,g⟩:=E.mimm _ _ o2;have K:(getObj b).run P w=.ok (.mapIter (some m) d.size seen d.size) w:=by simp[getObj,Sem.run,o1]
 have J:(getObj m).run P w=.ok (.map d d.size) w:=by simp[getObj,Sem.run,hm]
 have o:(!seen.isEmpty&& !d.isEmpty&&d.all (·.born>=d.size))=false:=by
  by_cases f:d.isEmpty=true
  ·simp[f]
  ·have t:0<d.size:=by
    rcases akO d.size with h|h
    ·exact absurd (by simp[Array.isEmpty,h]) f
    ·exact h
   have:d.all (·.born>=d.size)=false:=by
    rw[Array.all_eq_false];refine⟨0,t,?_⟩;have:=g 0 d[0] (ah8 t);rw[aiu,this];omega
   simp[this]
 have S:∀(l:Array MapEntry),(∀e∈l,e∈d)->l.filter (·.born<d.size)=l/\l.filter (·.born>=d.size)= #[]:=by
  intro l j6;have R:∀e∈l,e.born<d.size:=by
   intro e f;obtain⟨i,s,rfl⟩:=Array.getElem_of_mem (j6 e f);rw[g i _ (ah8 s)];exact s
  constructor
  ·rw[Array.filter_eq_self];intro e f;simpa using R e f
  ·rw[Array.filter_eq_empty_iff];intro e f;simpa using R e f
 generalize n:(d.filter λe=> !seen.contains e.born)=left;have x:∀e∈left,e∈d/\seen.contains e.born=false:=by
  intro e f;rw[<-n,Array.mem_filter]at f;exact⟨f.1,by simpa using f.2⟩
 obtain⟨O,Q⟩:=S left λe f=>(x e f).1;have y:0<((if left.isEmpty then #[none] else #[])++(left++ #[]).map some:Array (Option MapEntry)).size:=by
  by_cases f:left.isEmpty=true
  ·simp[f];omega
  ·have:0<left.size:=by
    rcases akO left.size with h|h
    ·exact absurd (by simp[Array.isEmpty,h]) f
    ·exact h
   simp[f];exact this
 obtain⟨k,A,hk,M,W⟩:=Wp (P:=P) (w:=w) _ y;have F:Rel B G σ A:=by rcases W with rfl|rfl;exact E;exact E.drew
 have z:A.heap=w.heap:=by rcases W with rfl|rfl<;>rfl
 have X:A.heap[b]?=some (.mapIter (some m) d.size seen d.size):=by rw[z];exact o1
 have j7:G.mimm b=none:=by
  cases hx:G.mimm b with
  |none=>rfl
  |some k9=>
   obtain⟨r,_⟩:=E.mimm _ _ hx;rw[o1]at r;cases r
 obtain⟨c,r⟩:∃c,((if left.isEmpty then #[none] else #[])++(left++ #[]).map some:Array (Option MapEntry))[k]?=some c:=⟨_,ah8 M⟩;cases c with
 |none=>
  refine⟨.tuple #[.bool false],A,?_,.inl ⟨?_,F,by simp only[Rep,af];exact⟨_,rfl,_,_,rfl,rfl,rfl⟩⟩⟩
  ·unfold Instr.next;simp only[ah1,K,ahU,J,o,aiC,aiE,n,O,Q,hk,r,aic]
  ·have I:left= #[]:=by
    by_cases f:left.isEmpty=true
    ·simpa using f
    ·rw[air f]at r;simp at r
   rw[aiZ];intro i s;obtain⟨C,q⟩:=(o5 i).1 s;have:d[i]∈left:=by
    rw[<-n,Array.mem_filter];exact⟨Array.getElem_mem _,by rw[g i _ (ah8 C)];simpa using q⟩
   rw[I]at this;simp at this
 |some e=>
  have j3:e∈left:=by
   have:=Array.mem_of_getElem? r;simp only[Array.mem_append,Array.mem_map,ahM,exists_eq_right]at this;rcases this with h|h
   ·split at h<;>simp at h
   ·simpa using h
  obtain⟨j4,T⟩:=x e j3;obtain⟨i,s,rfl⟩:=Array.getElem_of_mem j4;have H:=g i _ (ah8 s);rw[H]at T;have L:i<ks.length:=by have:=o3.length;simp at this;omega
  have U:i<vs.length:=by have:=o4.length;simp at this;omega
  obtain⟨kv,N,j5⟩:=o3.get i (ahK L);obtain⟨vv,V,j9⟩:=o4.get i (ahK U);simp[s]at N V;subst N V;refine⟨.tuple #[.bool true,d[i].key,d[i].val],_,?_,.inr ⟨i,ks[i],vs[i],(o5 i).2 ⟨s,T⟩,ahK L,ahK U,
   yA F hl hb X rfl rfl rfl rfl (by simp) (by simp) j7 (o':=.mapIter (some m) d.size (seen.push i) d.size) (λY k8=>⟨m,d,seen.push i,k8,o2,o3,o4,λj=> ?_,λj hj=> ?_⟩),
   by simp only[Rep,af];exact⟨_,rfl,_,_,rfl,rfl,_,_,rfl,j5,_,_,rfl,j9,rfl⟩⟩⟩
  ·unfold Instr.next;have j8:(setObj b (.mapIter (some m) d.size (seen.push d[i].born) d.size)).run P A=.ok () {A with heap:=A.heap.setIfInBounds b (.mapIter (some m) d.size (seen.push i) d.size)}:=by
    rw[H];simp[setObj,Sem.run,X]
   simp only[ah1,K,ahU,J,o,aiC,aiE,n,O,Q,hk,r,j8,aic]
  ·simp only[akq,o5 j,bne_iff_ne,ne_eq];constructor
   ·rintro⟨⟨C,q⟩,h3⟩;refine⟨C,?_⟩;simp at q⊢;exact⟨q,h3⟩
   ·rintro⟨C,q⟩;simp at q⊢;exact⟨⟨C,q.1⟩,q.2⟩
  ·cases hj;simp
def Lx(σ:List am)(c:D):Option D:=
 match c with
 |.ptr l 0 0=>match σ[l]? with
  |some (.miter d e _ (some i))=>match d[i]?,e[i]? with
   |some a,some b=>some (.tuple [a,b])
   |_,_=>none
  |_=>none
 |_=>none
def SB(x:Rel B G σ w){z d:D}{v:Value}(h:Lx σ z=some d)(y:Rep G z v):∃u,(Instr.entry v).run P w=.ok u w/\Rep G d u:=by
 unfold Lx at h;split at h<;>try (cases h;done)
 rename_i l;split at h<;>try (cases h;done)
 rename_i Q T N i F;split at h<;>try (cases h;done)
 rename_i a c A E;cases h;simp only[Rep]at y;obtain⟨b,C,rfl⟩:=y;obtain⟨m,e,seen,I,J,K,L,S,M⟩:=x.obj _ _ b F C;obtain⟨H,f⟩:=x.mimm _ _ J;have q:(getObj b).run P w=.ok (.mapIter (some m) e.size seen e.size) w:=by simp[getObj,Sem.run,I]
 have p:(getObj m).run P w=.ok (.map e e.size) w:=by simp[getObj,Sem.run,H]
 obtain⟨R,g,s⟩:=K.get i A;obtain⟨U,n,t⟩:=L.get i E;have r:i<e.size:=by
  rcases ah0 i e.size with o|o
  ·exact o
  ·rw[ah3 (by simpa using o)]at g;cases g
 simp[r]at g n;subst g n;have k:e.find? (·.born==i)=some e[i]:=by
  rw[Array.find?_eq_some_iff_getElem];refine⟨by simp[f i _ (ah8 r)],i,r,rfl,λj O=> ?_⟩;have:=f j e[j] (ah8 (by omega));simp[this];omega
 refine⟨.tuple #[e[i].key,e[i].val],?_,by simp only[Rep,af];exact⟨_,rfl,_,_,rfl,s,_,_,rfl,t,rfl⟩⟩;unfold Instr.entry;simp only[ah1,q,ahU,M i rfl,p,als,aiC,aiE,k,aic]
end
end Go.Fw
def ahR:=@Array.getD_eq_getD_getElem?
def ahV:=@Nat.le_of_ble_eq_true
def aiv:=@List.mem_append
def ai5:=@Nat.eq_of_beq_eq_true
namespace Go.Fw
open Go.RowKit
def get:List (Nat×D)->Nat->Option D
 |[],_=>none
 |(i,d)::r,t=>if i=t then some d else get r t
structure gw(G:Gh)(N:Nat)(τ:List (Nat×D))(a:Act):Prop where
 size:a.tmps.size=N
 defers:a.defers=[]
 slot:∀t d,get τ t=some d->Rep G d (a.tmps.getD t undef)
def gw.mono{G G':Gh}{N:Nat}{τ:List (Nat×D)}{a:Act}(h:gw G N τ a)(b:G.Le G'):gw G' N τ a:=
 ⟨h.size,h.defers,λt d c=>Rep.mono b _ _ (h.slot t d c)⟩
def gw.sub{G:Gh}{N:Nat}{τ τ':List (Nat×D)}{a:Act}(h:gw G N τ a)(b:∀t d,get τ' t=some d->get τ t=some d):gw G N τ' a:=
 ⟨h.size,h.defers,λt d c=>h.slot t d (b t d c)⟩
def gw.put{G:Gh}{N:Nat}{τ:List (Nat×D)}{a:Act}(h:gw G N τ a){t:Nat}(g:t<N){d:D}{v:Value}(i:Rep G d v):gw G N ((t,d)::τ) (a.put (some t) v):=by
 refine⟨by simp[Act.put,h.size],h.defers,λc f b=> ?_⟩;simp only[get]at b;simp only[Act.put];by_cases e:t=c
 ·subst e;simp only[aiI,ahM]at b;subst b;have:t<a.tmps.size:=by rw[h.size];exact g
  simp[ahR,this,i]
 ·simp only[e,aiE]at b;have:=h.slot c f b;simpa[ahR,ajJ e] using this
def ev(τ:List (Nat×D)):Operand->Option D
 |.tmp t=>get τ t
 |.const v=>De v
 |.func f=>some (.func (.func f) [] [])
 |.global _=>none
def cN{G:Gh}{N:Nat}{τ:List (Nat×D)}{a:Act}(h:gw G N τ a){x:Operand}{d:D}(b:ev τ x=some d):Rep G d (a.eval x):=by
 cases x<;>simp only[ev]at b
 ·exact h.slot _ _ b
 ·exact EB G b
 ·cases b
 ·cases b;simp only[Act.eval,Rep,af];exact⟨_,_,rfl,rfl,rfl⟩
def evs(τ:List (Nat×D)):List Operand->Option (List D)
 |[]=>some []
 |x::b=>match ev τ x with
  |some d=>match evs τ b with
   |some a=>some (d::a)
   |none=>none
  |none=>none
def zh{G:Gh}{N:Nat}{τ:List (Nat×D)}{a:Act}(h:gw G N τ a):∀{xs:List Operand}{ds:List D},evs τ xs=some ds->af G ds (xs.map a.eval)
 |[],_,b=>by simp only[evs,ahM]at b;subst b;simp[af]
 |x::xs,_,b=>by
  simp only[evs]at b;split at b<;>try (cases b;done)
  rename_i d e;split at b<;>try (cases b;done)
  rename_i ds c;cases b;simp only[ahX,af];exact⟨_,_,rfl,cN h e,zh h c⟩
def evo(τ:List (Nat×D)):Option Operand->Option (Option D)
 |none=>some none
 |some x=>match ev τ x with
  |some d=>some (some d)
  |none=>none
def PD{G:Gh}{N:Nat}{τ:List (Nat×D)}{a:Act}(h:gw G N τ a){x:Option Operand}{d:Option D}(b:evo τ x=some d):ad0 G d (x.map a.eval):=by
 cases x with
 |none=>simp only[evo,ahM]at b;subst b;trivial
 |some x=>
  simp only[evo]at b;split at b<;>try (cases b;done)
  rename_i e c;cases b;exact cN h c
def evp(τ:List (Nat×D)):List (Nat×Operand)->Option (List (Nat×D))
 |[]=>some []
 |(i,x)::b=>match ev τ x with
  |some d=>match evp τ b with
   |some a=>some ((i,d)::a)
   |none=>none
  |none=>none
def KS{G:Gh}{N:Nat}{τ:List (Nat×D)}{a:Act}(h:gw G N τ a):∀{xs:List (Nat×Operand)}{ds:List (Nat×D)},evp τ xs=some ds->
 ds.length=xs.length/\∀(j i:Nat)(d:D),ds[j]?=some (i,d)->∃v,(xs.map λ(i,x)=>(i,a.eval x))[j]?=some (i,v)/\Rep G d v
 |[],_,b=>by simp only[evp,ahM]at b;subst b;simp
 |(i,x)::xs,_,b=>by
  simp only[evp]at b;split at b<;>try (cases b;done)
  rename_i d l;split at b<;>try (cases b;done)
  rename_i ds e;cases b;obtain⟨g,k⟩:=KS h e;refine⟨by simp[g],λj m f c=> ?_⟩;cases j with
  |zero=>
   simp only[akR,ahM,ah7]at c;obtain⟨rfl,rfl⟩:=c;exact⟨_,rfl,cN h l⟩
  |succ j=>
   simp only[ai1]at c;simpa using k j m f c
inductive SK where
 |slice(sz:Nat)|string|array(n sz:Nat)
def yQ(P:Program)(t:TypeId):Option SK:=
 match P.underlying t with
 |some .string=>some .string
 |some (.slice _)=>(vX P t).map λx=>.slice x.1
 |some (.array _ _)=>match Ii P t with
  |some (n,a)=>if n<=9223372036854775807 then some (.array n a) else none
  |none=>none
 |_=>none
inductive IK where
 |slice(sz:Nat)|array(n sz:Nat)
def Pa(P:Program)(t:TypeId):Option IK:=
 match P.underlying t with
 |some (.slice _)=>(vX P t).map λx=>.slice x.1
 |some (.array _ _)=>(Ii P t).map λx=>.array x.1 x.2
 |_=>none
inductive IVK where
 |string|array(len n:Nat)(agg:Bool)
def KT(P:Program)(t:TypeId):Option IVK:=
 match P.underlying t with
 |some .string=>some .string
 |some (.array len e)=>match uq P e with
  |some (n,b)=>some (.array len n b)
  |none=>none
 |_=>none
inductive Tr(α:Type) where
 |nil
 |node(l:Tr α)(k:Nat)(x:α)(r:Tr α)
def lk{α:Type}(a:Tr α)(t:Nat):Option α:=
 match a with
 |.nil=>none
 |.node l k x r=>match Nat.beq t k with
  |true=>some x
  |false=>match Nat.ble t k with
   |true=>lk l t
   |false=>lk r t
def lk2{α:Type}(a:Tr α)(s t:Nat):Option α:=
 match Nat.ble t 65535 with
 |true=>lk a (Nat.add (Nat.mul s 65536) t)
 |false=>none
def Tr.toL{α:Type}:Tr α->List (Nat×α)
 |.nil=>[]
 |.node l k x r=>l.toL++(k,x)::r.toL
def PE{α:Type}:∀{a:Tr α}{t:Nat}{x:α},lk a t=some x->(t,x)∈a.toL
 |.nil,_,_,h=>by simp[lk]at h
 |.node l k y r,t,x,h=>by
  simp only[lk]at h;simp only[Tr.toL,aiv,aib];split at h
  ·rename_i e;have:=ai5 e;cases h;subst this;exact .inr (.inl rfl)
  ·split at h
   ·exact .inl (PE h)
   ·exact .inr (.inr (PE h))
def eU{α:Type}(f:Nat->Option α)(a:Tr α):Prop:=(a.toL.map λp=>f p.1)=a.toL.map λp=>some p.2
def jG{α:Type}{f:Nat->Option α}{a:Tr α}(b:eU f a){t:Nat}{x:α}(h:lk a t=some x):f t=some x:=by
 have c:=PE h;obtain⟨n,d,e⟩:=List.getElem_of_mem c;have:=ain (·[n]?) b;simpa[d,e] using this
def KU{α:Type}{f:Nat->Nat->Option α}{b:Tr α}(e:eU (λk=>f (k / 65536) (k % 65536)) b){s t:Nat}{x:α}(h:lk2 b s t=some x):f s t=some x:=by
 unfold lk2 at h;split at h<;>try (cases h;done)
 rename_i a;have a:=ahV a;have:=jG e h;have c:(Nat.add (Nat.mul s 65536) t) / 65536=s:=by
  show(s*65536+t) / 65536=s;omega
 have d:(Nat.add (Nat.mul s 65536) t) % 65536=t:=by
  show(s*65536+t) % 65536=t;omega
 rw[c,d]at this;exact this
def Gt(P:Program)(t:TypeId)(a:String):Option FuncId:=
 match P.info? t with
 |some i=>match i.methods.find? (·.name==a) with
  |some m=>match m.path.toList,m.func,P.underlying t with
   |[],some (f,false),some (.struct _)=>some f
   |_,_,_=>none
  |none=>none
 |none=>none
def lkM:List (Nat×String×Nat)->Nat->String->Option Nat
 |[],_,_=>none
 |(t,n,f)::r,b,a=>match Nat.beq t b with
  |true=>match n==a with
   |true=>some f
   |false=>lkM r b a
  |false=>lkM r b a
inductive ExK where
 |count|indexByte
def Pb(P:Program)(f:FuncId):Option ExK:=
 match P.funcs[f]? with
 |some a=>match a.body with
  |some _=>none
  |none=>match a.origin== "" with
   |false=>none
   |true=>match a.name== "internal/bytealg.CountString" with
    |true=>some .count
    |false=>match a.name== "internal/bytealg.IndexByteString" with
     |true=>some .indexByte
     |false=>none
 |none=>none
structure Tys where
 ld:Tr (Nat×Bool):=.nil
 fld:Tr Nat:=.nil
 fldV:Tr (Nat×Nat×Bool):=.nil
 zero:Tr (List D):=.nil
 build:Tr (List D×bH):=.nil
 bs:Tr (List D×Nat):=.nil
 msl:Tr (Nat×Nat):=.nil
 eq:Tr EK:=.nil
 conv:Tr CK:=.nil
 conc:Tr Unit:=.nil
 sli:Tr SK:=.nil
 idx:Tr IK:=.nil
 idxV:Tr IVK:=.nil
 map:Tr (LK×D):=.nil
 len:Tr iB:=.nil
 app:Tr (Nat×Nat):=.nil
 meth:List (Nat×String×Nat):=[]
 ext:Tr ExK:=.nil
def PF(P:Program)(t:TypeId):Option Unit:=if yC P t then some () else none
structure TOk(T:Tys)(P:Program):Prop where
 ld:eU (uq P) T.ld
 fld:eU (λk=>Pi P (k / 65536) (k % 65536)) T.fld
 fldV:eU (λk=>Ly P (k / 65536) (k % 65536)) T.fldV
 zero:eU (oJ P) T.zero
 build:eU (Ik P) T.build
 bs:eU (Hk P) T.bs
 msl:eU (vX P) T.msl
 eq:eU (Na P) T.eq
 conv:eU (λk=>LA P (k / 65536) (k % 65536)) T.conv
 conc:eU (PF P) T.conc
 sli:eU (yQ P) T.sli
 idx:eU (Pa P) T.idx
 idxV:eU (KT P) T.idxV
 map:eU (yD P) T.map
 len:eU (Pk P) T.len
 app:eU (λk=>BB P (k / 65536) (k % 65536)) T.app
 meth:(T.meth.map λp=>Gt P p.1 p.2.1)=T.meth.map λp=>some p.2.2
 ext:eU (Pb P) T.ext
def PG{f:Nat->String->Option Nat}:∀{l:List (Nat×String×Nat)},(l.map λp=>f p.1 p.2.1)=(l.map λp=>some p.2.2)->∀{t:Nat}{n:String}{x:Nat},lkM l t n=some x->f t n=some x
 |[],_,_,_,_,h=>by simp[lkM]at h
 |(i,m,y)::r,a,t,n,x,h=>by
  simp only[ahX,ajG]at a;simp only[lkM]at h;split at h
  ·rename_i e;have e:=ai5 e;split at h
   ·rename_i b;have b:m=n:=by simpa using b
    subst e b;cases h;exact a.1
   ·exact PG a.2 h
  ·exact PG a.2 h
section
variable (T:Tys) (τ:List (Nat×D)) (σ:List am)
def Pc(c a b:Operand):Option D:=
 match ev τ c with
 |some (.bool r)=>ev τ (if r then a else b)
 |_=>none
def Yt(x:Operand):Option (D×List am):=
 match ev τ x with
 |some d=>match d.cells? with
  |some a=>some (.ptr σ.length 0 0,σ++[.cells a 0 0])
  |none=>none
 |none=>none
def PH(t:TypeId)(b:List (Nat×Operand)):Option D:=
 match lk T.build t,evp τ b with
 |some (z,bk),some a=>(oa bk.place z a).map .agg
 |_,_=>none
def BU(t:TypeId)(len:Nat)(d:List (Nat×Operand)):Option D:=
 match lk T.bs t,evp τ d with
 |some (z,a),some c=>if len*a<=16777216 then(oa (λi=>some (i*a,a)) (kO z len) c).map λb=>.list b len true else none
 |_,_=>none
def Pd(b:Bool)(cs:List D):Option D:=if b then some (.agg cs) else match cs with|[x]=>some x|_=>none
def KW(t:TypeId)(x:Operand):Option D:=
 match lk T.ld t,ev τ x with
 |some (n,b),some d=>if b=true∨n=1 then(match nz σ d n with|some a=>Pd b a|none=>none) else none
 |_,_=>none
def PJ(t:TypeId)(p x:Operand):Option (List am):=
 match lk T.ld t,ev τ p,ev τ x with
 |some (n,_),some d,some e=>match e.cells? with
  |some a=>if a.length=n then vY σ d a else none
  |none=>none
 |_,_,_=>none
def BV(x:Operand):Option D:=
 match ev τ x with
 |some (.ptr l u o)=>some (.ptr l u o)
 |some (.rptr c o)=>some (.rptr c o)
 |some (.iface t v)=>some (.iface t v)
 |some .anyi=>some .anyi
 |some (.func (.func f) a b)=>some (.func (.func f) a b)
 |_=>none
def Uj(a:BinOp)(t:TypeId)(x y:Operand):Option D:=
 match ev τ x,ev τ y with
 |some d,some e=>EF (lk T.eq t) a (EE x||EE y) d e
 |_,_=>none
def oUn(a:UnOp)(x:Operand):Option D:=
 match ev τ x with
 |some d=>unD a d
 |none=>none
def Uk(s t:TypeId)(x:Operand):Option D:=
 match lk2 T.conv s t,ev τ x with
 |some ck,some d=>uw σ ck d
 |_,_=>none
def PL(t:TypeId)(x:Operand):Option D:=
 match ev τ x with
 |some d=>match lk T.conc t with|some _=>some (.iface t d)|none=>none
 |none=>none
def Ul(fn:Fn)(a b:List Operand):Option D:=
 match evs τ a,evs τ b with
 |some c,some d=>some (.func fn c d)
 |_,_=>none
def DL(t:TypeId)(l c:Operand):Option (D×List am):=
 match ev τ l,ev τ c with
 |some d,some e=>Pj (lk T.bs t) (lk T.msl t) σ d e
 |_,_=>none
def Pe(x:D)(l h:Option Int):Option D:=
 match x with
 |.str s=>match pF s.length true l h none with
  |some (l,h,_)=>some (.str ((s.take h).drop l))
  |none=>none
 |_=>none
def PM(t:TypeId)(x:Operand)(c b mx:Option Operand):Option D:=
 match lk T.sli t,ev τ x,evo τ c,evo τ b,evo τ mx with
 |some sk,some d,some l,some h,some m=>match rK l,rK h,rK m with
  |some l,some h,some m=>match sk with
   |.slice a=>Ar a d l h m
   |.string=>(match m with|none=>Pe d l h|some _=>none)
   |.array n a=>match nz σ d (n*a) with
    |some _=>Hm n a d l h m
    |none=>none
  |_,_,_=>none
 |_,_,_,_,_=>none
def DM(s:TypeId)(x:Operand)(f:Nat):Option D:=
 match lk2 T.fld s f,ev τ x with
 |some off,some d=>ur d off
 |_,_=>none
def PN(s:TypeId)(x:Operand)(f:Nat):Option D:=
 match lk2 T.fldV s f,ev τ x with
 |some (off,n,b),some (.agg a)=>yB a off n b
 |_,_=>none
def DN(t:TypeId)(x i:Operand):Option D:=
 match lk T.idx t,ev τ x,ev τ i with
 |some b,some d,some e=>match mM e with
  |some n=>match b with
   |.slice a=>EC a d n
   |.array len a=>if 0<=n/\n<len then ur d (n.toNat*a) else none
  |none=>none
 |_,_,_=>none
def Um(s:List UInt8)(n:Int):Option D:=
 if 0<=n then(match s[n.toNat]? with|some b=>some (.int .u8 b.toNat)|none=>none) else none
def KY(t:TypeId)(x i:Operand):Option D:=
 match lk T.idxV t,ev τ x,ev τ i with
 |some f,some d,some e=>match mM e with
  |some n=>match f,d with
   |.string,.str s=>Um s n
   |.array len a b,.agg c=>if 0<=n/\n<len then yB c (n.toNat*a) a b else none
   |_,_=>none
  |none=>none
 |_,_,_=>none
def Ic(t:TypeId)(m k:Operand)(ok:Bool):Option D:=
 match lk T.map t,ev τ m,ev τ k with
 |some (a,z),some d,some e=>yE σ a z ok d e
 |_,_,_=>none
def MD(t:TypeId)(m k x:Operand):Option (List am):=
 match lk T.map t,ev τ m,ev τ k,ev τ x with
 |some (a,_),some d,some e,some y=>QL σ a d e y
 |_,_,_,_=>none
def PP(t:TypeId)(x:Operand):Option (D×List am):=
 match ev τ x with
 |some (.str s)=>match lk T.sli t with
  |some .string=>some (.ptr σ.length 0 0,σ++[.siter s 0])
  |_=>none
 |some (.cmap a b)=>match lk T.map t with
  |some _=>some (.ptr σ.length 0 0,σ++[.miter a b (List.range a.length) none])
  |none=>none
 |_=>none
def PQ(a:Operand):Option D:=
 match ev τ a with
 |some d=>Lx σ d
 |none=>none
def JD(x:Operand)(i:Nat):Option D:=
 match ev τ x with
 |some (.tuple a)=>a[i]?
 |_=>none
def Yu:List Operand->List TypeId->Option (D×List am)
 |[x],[t]=>match lk T.len t,ev τ x with
  |some k,some d=>(J5 k d).map λ(n:Nat)=>(.int .i64 n,σ)
  |_,_=>none
 |_,_=>none
def pp:List Operand->List TypeId->Option (D×List am)
 |[s,x],[t,c]=>match lk2 T.app t c,ev τ s,ev τ x with
  |some (b,a),some d,some e=>Hn σ b a d e
  |_,_,_=>none
 |_,_=>none
def oMM(mx:Bool)(xs:List Operand):Option (D×List am):=
 match evs τ xs with
 |some a=>(mmL mx a).map (·,σ)
 |none=>none
def zi(b:Builtin)(args:List Operand)(a:List TypeId):Option (D×List am):=
 match b with
 |.len=>Yu T τ σ args a
 |.append=>pp T τ σ args a
 |.max=>oMM τ σ true args
 |.min=>oMM τ σ false args
 |_=>none
def aop(g:Op):Option (D×List am):=
 match g with
 |.move x=>(ev τ x).map (·,σ)
 |.assign x=>(ev τ x).map (·,σ)
 |.pick c a b=>(Pc τ c a b).map (·,σ)
 |.alloc e=>(lk T.zero e).map λn=>(.ptr σ.length 0 0,σ++[.cells n 0 0])
 |.box _ x=>Yt τ σ x
 |.build t j=>(PH T τ t j.toList).map (·,σ)
 |.buildSlice t len j=>(BU T τ t len j.toList).map (·,σ)
 |.load t x=>(KW T τ σ t x).map (·,σ)
 |.store t p x=>(PJ T τ σ t p x).map (.junk,·)
 |.nilCheck x=>(BV τ x).map (·,σ)
 |.binOp g t x y _=>(Uj T τ g t x y).map (·,σ)
 |.unOp g _ x=>(oUn τ g x).map (·,σ)
 |.convert s t x=>(Uk T τ σ s t x).map (·,σ)
 |.makeInterface t x=>(PL T τ t x).map (·,σ)
 |.makeFunc o a b=>(Ul τ o a.toList b.toList).map (·,σ)
 |.makeMap _ none=>some (.map σ.length,σ++[.map [] []])
 |.makeSlice t l c=>DL T τ σ t l c
 |.slice t x r q u=>(PM T τ σ t x r q u).map (·,σ)
 |.fieldAddr s x f=>(DM T τ s x f).map (·,σ)
 |.field s x f=>(PN T τ s x f).map (·,σ)
 |.indexAddr t x i=>(DN T τ t x i).map (·,σ)
 |.index t x i=>(KY T τ t x i).map (·,σ)
 |.lookup t m k ok=>(Ic T τ σ t m k ok).map (·,σ)
 |.mapUpdate t m k x=>(MD T τ σ t m k x).map (.junk,·)
 |.insert t m k x=>(MD T τ σ t m k x).map (.junk,·)
 |.range t x=>PP T τ σ t x
 |.next h true=>match ev τ h with
  |some d=>Ap σ d
  |none=>none
 |.entry h=>(PQ τ σ h).map (·,σ)
 |.extract x i=>(JD τ x i).map (·,σ)
 |.call c=>match c.callee with
  |.builtin b=>zi T τ σ b c.args.toList c.argTypes.toList
  |_=>none
 |_=>none
end
end Go.Fw
def ak1:=@List.map_toArray
namespace Go.Fw
open Go.RowKit
section
variable {P:Program}{T:Tys}{B:dN P}{G:Gh}{σ σ' :List am}{w:World}{N:Nat}{τ:List (Nat×D)}{a:Act}{d:D}
def Cr{s:Sem Value}{u:Value}{c:World}{G':Gh}(h:s.run P w=.ok u c)(b:G.Le G')(e:Rel B G' σ' c)(hd:Rep G' d u):
 Out B G d σ' ((do pure (Next.value (<-s)):Sem Next).run P w):=
 ⟨u,c,G',.inl (by simp[h]),b,e,hd⟩
def gD{s:Sem Value}(b:Rel B G σ w)(h:∃u,s.run P w=.ok u w/\Rep G d u):Out B G d σ ((do pure (Next.value (<-s)):Sem Next).run P w):=by
 obtain⟨u,e,c⟩:=h;exact Cr e (.refl G) b c
def vL{s:Sem Value}(h:∃u e b,s.run P w=.ok u e/\G.Le b/\Rel B b σ' e/\Rep b d u):Out B G d σ' ((do pure (Next.value (<-s)):Sem Next).run P w):=by
 obtain⟨u,e,b,i,c,f,g⟩:=h;exact Cr i c f g
def JE{s:Sem Unit}(h:∃b,s.run P w=.ok () b/\Rel B G σ' b):Out B G .junk σ' ((do s;pure Next.skip:Sem Next).run P w):=by
 obtain⟨b,e,c⟩:=h;exact⟨undef,b,G,.inr ⟨by simp[e],rfl⟩,.refl G,c,by simp only[Rep]⟩
def map_some{α c:Type}{x:Option α}{f:α->c}{b:c}(h:x.map f=some b):∃a,x=some a/\f a=b:=by
 cases x with
 |none=>cases h
 |some a=>exact⟨a,rfl,by simpa using h⟩
def ou{x:Option D}(h:x.map (·,σ)=some (d,σ')):x=some d/\σ'=σ:=by
 obtain⟨a,b,c⟩:=map_some h;cases c;exact⟨b,rfl⟩
def Yv{x:Option (List am)}(h:x.map (D.junk,·)=some (d,σ')):x=some σ'/\d=.junk:=by
 obtain⟨a,b,c⟩:=map_some h;cases c;exact⟨b,rfl⟩
def abE{t:TypeId}{sz:Nat}(h:(vX P t).map (λx=>SK.slice x.1)=some (.slice sz)):∃c,vX P t=some (sz,c):=by
 obtain⟨⟨s,b⟩,e,f⟩:=map_some h;cases f;exact⟨b,e⟩
def Cs:Value->Bool
 |.int _ _=>false
 |.float _ _=>false
 |.complex _ _ _=>false
 |.string _=>false
 |_=>true
def SU{t:TypeId}{u v:Value}(h:Cs u=true):(binOp .eql t u v).run P w=((Op.equal t u v).run P w).andThen λr b=>.ok (.bool r) b:=by
 cases u<;>first|(simp[Cs]at h;done)|(simp only[binOp];simp)
def abF{t:TypeId}{u v:Value}(h:Cs u=true):(binOp .neq t u v).run P w=((Op.equal t u v).run P w).andThen λr b=>.ok (.bool (!r)) b:=by
 cases u<;>first|(simp[Cs]at h;done)|(simp only[binOp];simp)
def adl(p:TOk T P)(E:gw G N τ a){o:BinOp}{t:TypeId}{x y:Operand}(h:Uj T τ o t x y=some d):
 ∃u,(do eqGuard o t x y (a.eval x) (a.eval y);binOp o t (a.eval x) (a.eval y):Sem Value).run P w=.ok u w/\Rep G d u:=by
 unfold Uj at h;split at h<;>try (cases h;done)
 rename_i l m I J;have e:=cN E I;have g:=cN E J;generalize a.eval x=u at e;generalize a.eval y=v at g;unfold EF at h;split at h
 ·simp only[Rep]at e g;subst e g;obtain⟨r,i,k⟩:=ad3 (P:=P) (G:=G) (w:=w) t h;refine⟨r,?_,k⟩;rw[ah1,uv (λ_ _=>.inl (by simp)) (.inl (by simp))];exact i
 ·simp only[Rep]at e g;subst e g;obtain⟨r,i,k⟩:=ad4 (P:=P) (G:=G) (w:=w) t h;refine⟨r,?_,k⟩;rw[ah1,uv (λ_ _=>.inl (by simp)) (.inl (by simp))];exact i
 ·rename_i F H;have s:∀(n:EK)(r:Bool),Na P t=some n->eqD (EE x||EE y) n l m=some r->(eqGuard o t x y u v).run P w=.ok () w/\(Op.equal t u v).run P w=.ok r w/\Cs u=true:=by
   intro n r j i;have f:=ad5 (P:=P) (G:=G) (w:=w) j i e g;have b:(∀L O,u≠.agg L∨v≠.agg O)->(u≠.nilIface∨v≠.nilIface)->(eqGuard o t x y u v).run P w=.ok () w:=uv;cases n with
   |prim=>cases l<;>cases m<;>simp only[eqD]at i<;>cases i
   |bool=>
    cases l<;>cases m<;>simp only[eqD]at i<;>try (cases i;done)
    simp only[Rep]at e g;subst e g;exact⟨b (λ_ _=>.inl (by simp)) (.inl (by simp)),f,rfl⟩
   |flat Q=>
    cases l<;>cases m<;>simp only[eqD]at i<;>try (cases i;done)
    simp only[Rep]at e g;obtain⟨K,rfl,_⟩:=e;obtain⟨M,rfl,_⟩:=g;have z:P.eqGuardType P.depth t=false:=by
     unfold Na at j;split at j<;>try (cases j;done)
     split at j<;>try (cases j;done)
     rename_i z;exact z
    exact⟨run_eqGuard_agg w o t x y K M z,f,rfl⟩
   |iface=>
    cases l<;>cases m<;>simp only[eqD]at i<;>try (cases i;done)
    all_goals simp only[Rep]at e g
    ·obtain⟨_,rfl,_⟩:=e;subst g;exact⟨b (λ_ _=>.inl (by simp)) (.inl (by simp)),f,rfl⟩
    ·obtain⟨_,rfl,_⟩:=g;subst e;exact⟨b (λ_ _=>.inl (by simp)) (.inr (by simp)),f,rfl⟩
    ·subst e g;refine⟨?_,f,rfl⟩;split at i<;>try (cases i;done)
     rename_i q;unfold eqGuard;cases o<;>first|rfl|skip
     all_goals
      cases x<;>cases y<;>first|rfl|(simp[EE]at q)
    ·obtain⟨_,_,rfl⟩:=g;subst e;exact⟨b (λ_ _=>.inl (by simp)) (.inr (by simp)),f,rfl⟩
    ·obtain⟨_,_,rfl⟩:=e;subst g;exact⟨b (λ_ _=>.inl (by simp)) (.inl (by simp)),f,rfl⟩
   |ptr=>
    cases l<;>cases m<;>simp only[eqD]at i<;>try (cases i;done)
    all_goals simp only[Rep]at e g
    ·subst e g;exact⟨b (λ_ _=>.inl (by simp)) (.inl (by simp)),f,rfl⟩
    ·subst e;exact⟨b (λ_ _=>.inl (by simp)) (.inl (by simp)),f,rfl⟩
    ·subst e;exact⟨b (λ_ _=>.inl (by simp)) (.inl (by simp)),f,rfl⟩
    ·obtain⟨_,_,rfl⟩:=e;exact⟨b (λ_ _=>.inl (by simp)) (.inl (by simp)),f,rfl⟩
    ·obtain⟨_,_,rfl,_⟩:=e;exact⟨b (λ_ _=>.inl (by simp)) (.inl (by simp)),f,rfl⟩
   |func=>
    cases l<;>cases m<;>simp only[eqD]at i<;>try (cases i;done)
    all_goals simp only[Rep]at e g
    ·obtain⟨_,_,rfl,_⟩:=e;exact⟨b (λ_ _=>.inl (by simp)) (.inl (by simp)),f,rfl⟩
    ·subst e;exact⟨b (λ_ _=>.inl (by simp)) (.inl (by simp)),f,rfl⟩
    ·subst e;exact⟨b (λ_ _=>.inl (by simp)) (.inl (by simp)),f,rfl⟩
   |map=>
    cases l<;>cases m<;>simp only[eqD]at i<;>try (cases i;done)
    all_goals simp only[Rep]at e g
    ·obtain⟨_,_,rfl⟩:=e;exact⟨b (λ_ _=>.inl (by simp)) (.inl (by simp)),f,rfl⟩
    ·subst e;exact⟨b (λ_ _=>.inl (by simp)) (.inl (by simp)),f,rfl⟩
    ·subst e;exact⟨b (λ_ _=>.inl (by simp)) (.inl (by simp)),f,rfl⟩
    ·subst e;exact⟨b (λ_ _=>.inl (by simp)) (.inl (by simp)),f,rfl⟩
    ·obtain⟨_,_,rfl,_⟩:=e;exact⟨b (λ_ _=>.inl (by simp)) (.inl (by simp)),f,rfl⟩
  split at h<;>try (cases h;done)
  ·rename_i n j;obtain⟨r,i,rfl⟩:=map_some h;obtain⟨A,C,D⟩:=s n r (jG p.eq j) i;refine⟨.bool r,?_,by simp only[Rep]⟩;rw[ah1,A,ahU,SU D,C];rfl
  ·rename_i n j;obtain⟨r,i,rfl⟩:=map_some h;obtain⟨A,C,D⟩:=s n r (jG p.eq j) i;refine⟨.bool (!r),?_,by simp only[Rep]⟩;rw[ah1,A,ahU,abF D,C];rfl
set_option maxHeartbeats 1000000 in
def adm(F:TOk T P)(E:Rel B G σ w)(D:gw G N τ a)(o:Oper)(h:aop T τ σ o.op=some (d,σ')):Out B G d σ' ((execOp a.eval o).run P w):=by
 obtain⟨m9,op,ty,n7,k8,guard⟩:=o;simp only at h;unfold execOp;cases op<;>simp only[aop]at h⊢<;>try (cases h;done)
 case move x=>
  obtain⟨g,rfl⟩:=ou h;exact .here E (cN D g)
 case assign x=>
  obtain⟨g,rfl⟩:=ou h;exact .here E (cN D g)
 case pick c x y=>
  obtain⟨g,rfl⟩:=ou h;unfold Pc at g;split at g<;>try (cases g;done)
  rename_i r hc;have j7:=cN D hc;simp only[Rep]at j7;simp only[j7,asBool,ah1,aic,ahU];cases r
  ·exact .here E (cN D g)
  ·exact .here E (cN D g)
 case alloc e=>
  obtain⟨cs,hz,J⟩:=map_some h;cases J;have hz:=jG F.zero hz;obtain⟨w',G',v,Z,J,h3,h4⟩:=Zb E hz;exact Cr Z J h3 h4
 case box e x=>
  unfold Yt at h;split at h<;>try (cases h;done)
  rename_i X g;split at h<;>try (cases h;done)
  rename_i cs R;cases h;obtain⟨w',G',v,Z,J,h3,h4⟩:=adZ (P:=P) (t:=e) E R (cN D g);exact Cr Z J h3 h4
 case build t ps=>
  obtain⟨g,rfl⟩:=ou h;unfold PH at g;split at g<;>try (cases g;done)
  rename_i z bk ds V hp;have V:=jG F.build V;obtain⟨m8,hf,rfl⟩:=map_some g;obtain⟨hl,j5⟩:=KS D hp;refine gD E (Zd V hf (by simpa using hl) (λj i d hj=> ?_));obtain⟨v,hv,U⟩:=j5 j i d hj;exact⟨v,by simpa using hv,U⟩
 case buildSlice t len ps=>
  obtain⟨g,rfl⟩:=ou h;unfold BU at g;split at g<;>try (cases g;done)
  rename_i z sz ds V hp;have V:=jG F.bs V;split at g<;>try (cases g;done)
  rename_i j8;obtain⟨m8,hf,rfl⟩:=map_some g;obtain⟨hl,j5⟩:=KS D hp;refine vL (O8 E V j8 hf (by simpa using hl) (λj i d hj=> ?_));obtain⟨v,hv,U⟩:=j5 j i d hj;exact⟨v,by simpa using hv,U⟩
 case load t x=>
  obtain⟨g,rfl⟩:=ou h;unfold KW at g;split at g<;>try (cases g;done)
  rename_i n b X H q;have H:=jG F.ld H;split at g<;>try (cases g;done)
  rename_i hb;split at g<;>try (cases g;done)
  rename_i cs R;obtain⟨u,W,I⟩:=Tc E H (cN D q) R hb;refine gD E ⟨u,W,?_⟩;unfold Pd at g;cases b with
  |true=>simp only[aiI,ahM]at g I;subst g;exact I
  |false=>
   simp only[aiC,aiE]at g I;obtain⟨y,rfl,hy⟩:=I;simp only[ahM]at g;subst g;exact hy
 case store t p x=>
  obtain⟨g,rfl⟩:=Yv h;unfold PJ at g;split at g<;>try (cases g;done)
  rename_i n b dp X H l0 q;have H:=jG F.ld H;split at g<;>try (cases g;done)
  rename_i cs R;split at g<;>try (cases g;done)
  rename_i hn;exact JE (Za E H R hn g (cN D l0) (cN D q))
 case nilCheck x=>
  obtain⟨g,rfl⟩:=ou h;unfold BV at g;split at g<;>try (cases g;done)
  all_goals
   rename_i q;cases g;have U:=cN D q;have M:=U;simp only[Rep]at U
  ·obtain⟨b,_,he⟩:=U;rw[he]at M⊢;exact .here E M
  ·obtain⟨b,_,he,_⟩:=U;rw[he]at M⊢;exact .here E M
  ·obtain⟨b,he,_⟩:=U;rw[he]at M⊢;exact .here E M
  ·obtain⟨b,_,he⟩:=U;rw[he]at M⊢;exact .here E M
  ·obtain⟨b,_,he,_⟩:=U;rw[he]at M⊢;exact .here E M
 case binOp op t x y yt=>
  obtain⟨g,rfl⟩:=ou h;exact gD E (adl F D g)
 case unOp op t x=>
  obtain⟨g,rfl⟩:=ou h;unfold oUn at g;split at g<;>try (cases g;done)
  rename_i X q;exact gD E (afz g (cN D q))
 case convert s t x=>
  obtain⟨g,rfl⟩:=ou h;unfold Uk at g;split at g<;>try (cases g;done)
  rename_i ck X H q;have H:=KU F.conv H;exact vL (abQ E H g (cN D q))
 case makeInterface t x=>
  obtain⟨g,rfl⟩:=ou h;unfold PL at g;split at g<;>try (cases g;done)
  rename_i X q;split at g<;>try (cases g;done)
  rename_i hc0 hc;cases g;have hc:yC P t=true:=by
   have:=jG F.conc hc;unfold PF at this;split at this<;>first|assumption|cases this
  exact gD E ⟨_,UQ hc _,by simp only[Rep];exact⟨_,rfl,cN D q⟩⟩
 case makeFunc fn fs cs=>
  obtain⟨g,rfl⟩:=ou h;unfold Ul at g;split at g<;>try (cases g;done)
  rename_i ds es Z J;cases g;refine gD E ⟨_,rfl,?_⟩;simp only[Rep];exact⟨_,_,rfl,by simpa using zh D Z,by simpa using zh D J⟩
 case makeMap t r=>
  cases r with
  |some r=>simp only[]at h;cases h
  |none=>
   simp only[ahM,ah7]at h;obtain⟨rfl,rfl⟩:=h;exact vL (UR E t)
 case makeSlice t l c=>
  unfold DL at h;split at h<;>try (cases h;done)
  rename_i dl dc hl hc;exact vL (QF E (λ_ h=>jG F.bs h) (λ_ h=>jG F.msl h) h (cN D hl) (cN D hc))
 case slice t x lo hi mx=>
  obtain⟨g,rfl⟩:=ou h;unfold PM at g;split at g<;>try (cases g;done)
  rename_i sk X dl dh dm A q hl hh hm;have A:=jG F.sli A;split at g<;>try (cases g;done)
  rename_i l h' m ol oh om;have vl:=Hl ol (PD D hl);have vh:=Hl oh (PD D hh);have vm:=Hl om (PD D hm);have L:=cN D q;split at g
  ·rename_i sz;unfold yQ at A;split at A<;>try (cases A;done)
   ·obtain⟨k9,m6⟩:=abE A;exact gD E (Ze m6 g vl vh vm L)
   ·split at A<;>try (cases A;done)
    split at A<;>cases A
  ·unfold yQ at A;split at A<;>try (cases A;done)
   ·rename_i W;split at g<;>try (cases g;done)
    unfold Pe at g;split at g<;>try (cases g;done)
    rename_i s;split at g<;>try (cases g;done)
    rename_i l2 J f hb;cases g;simp only[Rep]at L;rw[L];generalize Option.map a.eval mx=mv at vm⊢;cases vm;exact gD E ⟨_,SG W hb vl vh,by simp only[Rep]⟩
   ·obtain⟨_,_,J⟩:=map_some A;cases J
   ·split at A<;>try (cases A;done)
    split at A<;>cases A
  ·rename_i n sz;split at g<;>try (cases g;done)
   rename_i cs R;unfold yQ at A;split at A<;>try (cases A;done)
   ·obtain⟨_,_,J⟩:=map_some A;cases J
   ·split at A<;>try (cases A;done)
    rename_i n' n8 m5;split at A<;>try (cases A;done)
    rename_i hn;cases A;exact gD E (SH E m5 hn R g vl vh vm L)
 case fieldAddr s x f=>
  obtain⟨g,rfl⟩:=ou h;unfold DM at g;split at g<;>try (cases g;done)
  rename_i m7 X H q;have H:=KU F.fld H;exact gD E (UL H g (cN D q))
 case field s x f=>
  obtain⟨g,rfl⟩:=ou h;unfold PN at g;split at g<;>try (cases g;done)
  rename_i m7 n b cs H q;have H:=KU F.fldV H;exact gD E (Zc H g (cN D q))
 case indexAddr t x i=>
  obtain⟨g,rfl⟩:=ou h;unfold DN at g;split at g<;>try (cases g;done)
  rename_i ik X di C q O;have C:=jG F.idx C;split at g<;>try (cases g;done)
  rename_i n hn;split at g
  ·unfold Pa at C;split at C<;>try (cases C;done)
   ·obtain⟨⟨s,b⟩,Z,J⟩:=map_some C;cases J;exact gD E (QG Z hn g (cN D q) (cN D O))
   ·obtain⟨_,_,J⟩:=map_some C;cases J
  ·unfold Pa at C;split at C<;>try (cases C;done)
   ·obtain⟨_,_,J⟩:=map_some C;cases J
   ·obtain⟨⟨l,s⟩,Z,J⟩:=map_some C;cases J;split at g<;>try (cases g;done)
    rename_i hb;exact gD E (O7 Z hn hb.1 hb.2 g (cN D q) (cN D O))
 case index t x i=>
  obtain⟨g,rfl⟩:=ou h;unfold KY at g;split at g<;>try (cases g;done)
  rename_i ik X di C q O;have C:=jG F.idxV C;split at g<;>try (cases g;done)
  rename_i n hn;have L:=cN D q;split at g<;>try (cases g;done)
  ·rename_i s;unfold KT at C;split at C<;>try (cases C;done)
   ·rename_i W;unfold Um at g;split at g<;>try (cases g;done)
    rename_i h0;split at g<;>try (cases g;done)
    rename_i b hb;cases g;simp only[Rep]at L;rw[L];exact gD E (SC W hn h0 hb (cN D O))
   ·split at C<;>cases C
  ·rename_i len sz b cs;split at g<;>try (cases g;done)
   rename_i hb;unfold KT at C;split at C<;>try (cases C;done)
   rename_i e W;split at C<;>try (cases C;done)
   rename_i n' b' he;cases C;exact gD E (SE W he hn hb.1 hb.2 g L (cN D O))
 case lookup t m k ok=>
  obtain⟨g,rfl⟩:=ou h;unfold Ic at g;split at g<;>try (cases g;done)
  rename_i lk z dm dk H hm hk;have H:=jG F.map H;exact gD E (Wv E H g (cN D hm) (cN D hk))
 case mapUpdate t m k x=>
  obtain⟨g,rfl⟩:=Yv h;unfold MD at g;split at g<;>try (cases g;done)
  rename_i lk z dm dk X H hm hk q;have H:=jG F.map H;exact JE (Wo E H g (cN D hm) (cN D hk) (cN D q))
 case insert t m k x=>
  obtain⟨g,rfl⟩:=Yv h;unfold MD at g;split at g<;>try (cases g;done)
  rename_i lk z dm dk X H hm hk q;have H:=jG F.map H;exact JE (Wo E H g (cN D hm) (cN D hk) (cN D q))
 case range t x=>
  unfold PP at h;split at h<;>try (cases h;done)
  ·rename_i s q;split at h<;>try (cases h;done)
   rename_i K;cases h;have L:=cN D q;simp only[Rep]at L;have K:=jG F.sli K;unfold yQ at K;split at K
   ·rename_i W;rw[L];exact vL (Sz E W s)
   ·obtain⟨_,_,J⟩:=map_some K;cases J
   ·split at K<;>try (cases K;done)
    split at K<;>cases K
   ·cases K
  ·rename_i ks vs q;split at h<;>try (cases h;done)
   rename_i lz K;cases h;obtain⟨n6,z⟩:=lz;obtain⟨k,e,kd,i,v,W,_⟩:=BC (jG F.map K);exact vL (SA E W (cN D q))
 case entry it=>
  obtain⟨g,rfl⟩:=ou h;unfold PQ at g;split at g<;>try (cases g;done)
  rename_i di O;exact gD E (SB E g (cN D O))
 case next it isS=>
  cases isS with
  |false=>simp only[]at h;cases h
  |true=>
   simp only at h;split at h<;>try (cases h;done)
   rename_i di O;obtain⟨u,w',Z,J,h3⟩:=UJ (P:=P) E ty h (cN D O);exact Cr Z (.refl G) J h3
 case extract x i=>
  obtain⟨g,rfl⟩:=ou h;unfold JD at g;split at g<;>try (cases g;done)
  rename_i ds S;exact gD E (UP g (cN D S))
 case call c=>
  obtain⟨j3,Y,Q⟩:=c;cases j3<;>simp only[]at h<;>try (cases h;done)
  rename_i b;simp only[resolve,ah1,aic,ahU,invoke];unfold zi at h;generalize j4:Y.toList=al at h;generalize j9:Q.toList=tl at h;split at h<;>try (cases h;done)
  ·unfold Yu at h;split at h<;>try (cases h;done)
   rename_i x t;split at h<;>try (cases h;done)
   rename_i k X hk q;have hk:=jG F.len hk;obtain⟨n,hn,J⟩:=map_some h;cases J;have ha:Y= #[x]:=by apply ajV;simpa using j4
   have H:Q= #[t]:=by apply ajV;simpa using j9
   subst ha H;simp only[builtin,ak1,ahX,ai0];have I:Rep G (.int .i64 (n:Int)) (.int .i64 (n:Int)):=by simp only[Rep]
   exact gD E ⟨.int .i64 n,ad1 hk hn (cN D q),I⟩
  ·unfold pp at h;split at h<;>try (cases h;done)
   rename_i s x t tx;split at h<;>try (cases h;done)
   rename_i sz k9 ds X j6 S q;have j6:=KU F.app j6;have ha:Y= #[s,x]:=by apply ajV;simpa using j4
   have H:Q= #[t,tx]:=by apply ajV;simpa using j9
   subst ha H;simp only[builtin,ak1,ahX,ai0];exact vL (Wu E j6 h (cN D S) (cN D q))
  ·unfold oMM at h;split at h<;>try (cases h;done)
   rename_i ds S;obtain⟨r,U,J⟩:=map_some h;cases J;obtain⟨u,W,I⟩:=ad7 (P:=P) (w:=w) Q ty U (zh D S);refine gD (s:=Builtin.max_ Q ty _) E ⟨u,?_,I⟩;rw[<-W,<-j4];congr 2;apply ajV;simp
  ·unfold oMM at h;split at h<;>try (cases h;done)
   rename_i ds S;obtain⟨r,U,J⟩:=map_some h;cases J;obtain⟨u,W,I⟩:=ad8 (P:=P) (w:=w) Q ty U (zh D S);refine gD (s:=Builtin.min_ Q ty _) E ⟨u,?_,I⟩;rw[<-W,<-j4];congr 2;apply ajV;simp
end
end Go.Fw
def aiM:=@Option.some.inj
def ai8:=@List.getElem?_eq_some_iff
namespace Go.Fw
open Go.RowKit
section
variable {P:Program}{B:dN P}{G:Gh}{σ σ' :List am}{w:World}
def Rel.frzUp(c:Rel B G σ w){l frz u:Nat}{cs:List D}(i:σ[l]?=some (.cells cs frz u)):Rel B G (σ.set l (.cells cs cs.length u)) w:=by
 have j:l<σ.length:=(ai8.1 i).1;have look:∀{a:Nat}{d:am},(σ.set l (.cells cs cs.length u))[a]?=some d->(a=l/\d=.cells cs cs.length u)∨(a≠l/\σ[a]?=some d):=by
  intro a d h;by_cases e:a=l
  ·subst e;rw[aiD j]at h;exact .inl ⟨rfl,(aiM h).symm⟩
  ·rw[aiq (ajt e)]at h;exact .inr ⟨e,h⟩
 refine⟨c.below,c.imm,c.mimm,c.siz,λa n b f=> ?_,c.inj,λa d b g f=> ?_,λa p k n b g f o v m=> ?_,λa r s b g f=> ?_,λa d g=> ?_,λa d g=> ?_,c.bimm,c.bmimm⟩
 ·rw[ajH];exact c.blk a n b f
 ·rcases look g with⟨rfl,rfl⟩|⟨_,h⟩
  ·exact c.obj a (.cells cs frz u) b i f
  ·exact c.obj a d b h f
 ·rcases look g with⟨rfl,h⟩|⟨_,h⟩
  ·cases h;exact aix (c.own a _ _ _ b i f o v m) (c.frzle a _ i)
  ·exact c.own a _ _ _ b h f o v m
 ·rcases look g with⟨_,h⟩|⟨_,h⟩
  ·cases h
  ·exact c.ownm a r s b h f
 ·rcases look g with⟨rfl,rfl⟩|⟨_,h⟩
  ·have q:=c.ver a _ i;exact q
  ·exact c.ver a d h
 ·rcases look g with⟨_,rfl⟩|⟨_,h⟩
  ·exact ahS _
  ·exact c.frzle a d h
def A3(g:Rel B G σ w){l u o n sz frz:Nat}{s:Bool}{cs:List D}{v:Value}(z:σ[l]?=some (.cells cs frz u))(T:o+n*sz<=cs.length)(V:Rep G (.sl l u o n sz s) v):
 ∃c,G.Le c/\Rel B c (σ.set l (.cells cs cs.length u)) w/\Rep c (.list ((cs.drop o).take (n*sz)) n s) v:=by
 simp only[Rep]at V;rcases V with⟨b,I,j4,E,rfl,Z,h2,h3,h4,h5⟩|⟨rfl,a,rfl⟩
 ·obtain⟨H,Y,Q,o2,tl,m,W,R⟩:=g.obj _ _ b z E;have j3:=R.length;have i:∀j v,m[j]?=some v->w.cell? ⟨b,j,none⟩=some v:=by
   intro j v t;have L:j<m.length:=by
    rcases ah0 j m.length with J|J
    ·exact J
    ·rw[ah3 J]at t;cases t
   unfold World.cell?;rw[Q];show H[j]?=some v;have:H[j]?=H.toList[j]? :=by simp
   rw[this,W,ahT L];exact t
  let c:Gh:={G with imm:=λy j=>if y=b/\j<m.length then m[j]? else G.imm y j};have q:G.Le c:=by
   refine⟨λy j v f=> ?_,λ_ _ x=>x,λ_ _ _ x=>x,λ_ _ x=>x⟩;by_cases e:y=b/\j<m.length
   ·obtain⟨rfl,t⟩:=e;have F:=g.imm _ _ _ f;have:=i j _ (ahK t);rw[F]at this;cases this;simp[c,t]
   ·simp only[c,e,aiE];exact f
  have M:G.mimm b=none:=by
   cases hm:G.mimm b with
   |none=>rfl
   |some es=>
    obtain⟨F,_⟩:=g.mimm _ _ hm;rw[Q]at F;cases F
  refine⟨c,q,?_,?_⟩
  ·refine g.update z E q (λ_ _ _ x=>.inl x) E ?_ rfl rfl g.below rfl (λ_ _=>rfl) (λk hk=>g.siz b k hk) M ?_ ?_ ⟨ahS _,(g.ver _ _ z).1⟩ (ahS _)
   ·intro y j v f;by_cases e:y=b/\j<m.length
    ·obtain⟨rfl,t⟩:=e;simp only[c,t,and_self,aiI]at f;exact⟨i j v f,λh=>absurd rfl h⟩
    ·simp only[c,e,aiE]at f;exact⟨g.imm _ _ _ f,λ_=>f⟩
   ·exact⟨H,Y,Q,o2,tl,m,W,af.mono q _ _ R⟩
   ·intro X S u' e j v f;cases e;by_cases e:j<m.length
    ·omega
    ·have f:G.imm b j=some v:=by simpa[c,e] using f
     have h6:=g.own _ _ _ _ _ z E j v f;have h7:=g.frzle _ _ z;simp only[am.frz,am.len]at h7;omega
  ·simp only[Rep];refine⟨_,I,rfl,Z,h2,h3,.inl ⟨b,o,rfl,?_⟩⟩;have O:∀(A:List D)(p r:List Value),m=p++r->af c A r->Cells c b p.length A:=by
    intro A;induction A with
    |nil=>intro p r _ _;simp only[Cells]
    |cons d A ih=>
     intro p r e U;simp only[af]at U;obtain⟨v,r',rfl,K,N⟩:=U;simp only[Cells];refine⟨⟨v,by simp[c,e],K⟩,?_⟩;have:=ih (p++[v]) r' (by simp[e]) N;simpa using this
   have C:=O cs [] m rfl (af.mono q _ _ R);have:=(C.drop o).take (n*sz);simpa using this
 ·refine⟨G,.refl G,g.frzUp z,?_⟩;simp only[Rep];exact⟨a,0,rfl,ahS _,aiJ _,λ_=>rfl,.inr (by simp)⟩
def Gz(σ:List am)(d:D):Option (D×List am):=
 match d with
 |.sl l u o n b full=>match σ[l]? with
  |some (.cells a _ c)=>if c=u/\o+n*b<=a.length then some (.list ((a.drop o).take (n*b)) n full,σ.set l (.cells a a.length u)) else none
  |_=>none
 |d=>some (d,σ)
def MJ(e:Rel B G σ w){d c:D}{v:Value}(h:Gz σ d=some (c,σ'))(f:Rep G d v):∃b,G.Le b/\Rel B b σ' w/\Rep b c v:=by
 unfold Gz at h;split at h
 ·split at h<;>try (cases h;done)
  rename_i i;split at h<;>try (cases h;done)
  rename_i g;obtain⟨rfl,a⟩:=g;cases h;exact A3 e i a f
 ·cases h;exact⟨G,.refl G,e,f⟩
def wu(σ:List am):List D->Option (List D×List am)
 |[]=>some ([],σ)
 |d::f=>match Gz σ d with
  |some (e,b)=>match wu b f with
   |some (a,c)=>some (e::a,c)
   |none=>none
  |none=>none
def D2:∀{ds a:List D}{G:Gh}{σ σ':List am}{vs:List Value},Rel B G σ w->wu σ ds=some (a,σ')->af G ds vs->∃c,G.Le c/\Rel B c σ' w/\af c a vs
 |[],_,G,σ,σ',vs,hR,h,b=>by
  simp only[wu,ahM,ah7]at h;obtain⟨rfl,rfl⟩:=h;exact⟨G,.refl G,hR,b⟩
 |d::ds,_,G,σ,σ',vs,hR,h,b=>by
  simp only[wu]at h;split at h<;>try (cases h;done)
  rename_i u q k;split at h<;>try (cases h;done)
  rename_i a s l;cases h;simp only[af]at b;obtain⟨v,r,rfl,m,n⟩:=b;obtain⟨t,e,i,o⟩:=MJ hR k m;obtain⟨g,f,j,p⟩:=D2 i l (af.mono e _ _ n);exact⟨g,e.trans f,j,by simp only[af];exact⟨v,r,rfl,Rep.mono f _ _ o,p⟩⟩
def GA(c:Rel B G σ w){l:Nat}{ks vs:List D}{v:Value}(n:σ[l]?=some (.map ks vs))(F:Rep G (.map l) v):
 ∃j,G.Le j/\Rel B j (σ.set l .gone) w/\Rep j (.cmap ks vs) v:=by
 simp only[Rep]at F;obtain⟨b,o,rfl⟩:=F;obtain⟨E,I,J,K⟩:=c.obj _ _ b n o;have y:=c.ownm _ _ _ b n o;have t:l<σ.length:=by
  rcases ah0 l σ.length with r|r
  ·exact r
  ·rw[ah3 r]at n;cases n
 let j:Gh:={G with mimm:=λf=>if f=b then some E else G.mimm f};have k:G.Le j:=by
  refine⟨λ_ _ _ x=>x,λf p m=> ?_,λ_ _ _ x=>x,λ_ _ x=>x⟩;by_cases e:f=b
  ·subst e;rw[y]at m;cases m
  ·simp only[j,e,aiE];exact m
 have g:∀(a:Nat)(i:am),(σ.set l .gone)[a]?=some i->(a=l/\i=.gone)∨(a≠l/\σ[a]?=some i):=by
  intro a i h;by_cases e:a=l
  ·subst e;rw[aiD t]at h;cases h;exact .inl ⟨rfl,rfl⟩
  ·rw[aiq (ajt e)]at h;exact .inr ⟨e,h⟩
 refine⟨j,k,⟨c.below,c.imm,λf p m=> ?_,c.siz,λa u f h=> ?_,c.inj,λa i f d h=> ?_,λa H q u f d h=> ?_,λa A C f d h=> ?_,λa i d=> ?_,λa i d=> ?_,c.bimm,λf h=> ?_⟩,?_⟩
 ·by_cases e:f=b
  ·subst e;simp only[j,aiI,ahM]at m;subst m;exact I
  ·simp only[j,e,aiE]at m;exact c.mimm _ _ m
 ·rw[ajH];exact c.blk a u f h
 ·rcases g a i d with⟨rfl,rfl⟩|⟨_,d⟩
  ·exact(c.blk _ _ _ h).2.2
  ·exact(c.obj a i f d h).keep k rfl
 ·rcases g a _ d with⟨_,s⟩|⟨_,d⟩
  ·cases s
  ·exact c.own a H q u f d h
 ·rcases g a _ d with⟨_,s⟩|⟨z,d⟩
  ·cases s
  ·have:f≠b:=λe=>z (c.inj _ _ _ _ _ h (e▸o));simp only[j,this,aiE];exact c.ownm a A C f d h
 ·rcases g a i d with⟨rfl,rfl⟩|⟨_,d⟩
  ·exact⟨ahS _,(c.ver _ _ n).2⟩
  ·exact c.ver a i d
 ·rcases g a i d with⟨rfl,rfl⟩|⟨_,d⟩
  ·exact ahS _
  ·exact c.frzle a i d
 ·have:f≠b:=λe=>by have:=(c.blk _ _ _ o).2.1;omega
  simp only[j,this,aiE];exact c.bmimm f h
 ·simp only[Rep];exact⟨b,E,rfl,by simp[j],af.mono k _ _ J,af.mono k _ _ K⟩
def Qc(σ:List am)(d:D):Option (D×List am):=
 match d with
 |.map l=>match σ[l]? with
  |some (.map c e)=>some (.cmap c e,σ.set l .gone)
  |_=>none
 |.agg b=>match wu σ b with
  |some (a,σ')=>some (.agg a,σ')
  |none=>none
 |d=>Gz σ d
def SZ(e:Rel B G σ w){d f:D}{v:Value}(h:Qc σ d=some (f,σ'))(c:Rep G d v):∃b,G.Le b/\Rel B b σ' w/\Rep b f v:=by
 unfold Qc at h;split at h
 ·split at h<;>try (cases h;done)
  rename_i j;cases h;exact GA e j c
 ·split at h<;>try (cases h;done)
  rename_i i;cases h;simp only[Rep]at c;obtain⟨a,rfl,k⟩:=c;obtain⟨b,l,g,m⟩:=D2 e i k;exact⟨b,l,g,by simp only[Rep];exact⟨a,rfl,m⟩⟩
 ·exact MJ e h c
def K7(σ:List am):List D->Option (List D×List am)
 |[]=>some ([],σ)
 |d::f=>match Qc σ d with
  |some (e,b)=>match K7 b f with
   |some (a,c)=>some (e::a,c)
   |none=>none
  |none=>none
def Qd:∀{ds a:List D}{G:Gh}{σ σ':List am}{vs:List Value},Rel B G σ w->K7 σ ds=some (a,σ')->af G ds vs->∃c,G.Le c/\Rel B c σ' w/\af c a vs
 |[],_,G,σ,σ',vs,hR,h,b=>by
  simp only[K7,ahM,ah7]at h;obtain⟨rfl,rfl⟩:=h;exact⟨G,.refl G,hR,b⟩
 |d::ds,_,G,σ,σ',vs,hR,h,b=>by
  simp only[K7]at h;split at h<;>try (cases h;done)
  rename_i u q k;split at h<;>try (cases h;done)
  rename_i a s l;cases h;simp only[af]at b;obtain⟨v,r,rfl,m,n⟩:=b;obtain⟨t,e,i,o⟩:=SZ hR k m;obtain⟨g,f,j,p⟩:=Qd i l (af.mono e _ _ n);exact⟨g,e.trans f,j,by simp only[af];exact⟨v,r,rfl,Rep.mono f _ _ o,p⟩⟩
def BY(σ:List am)(d:D):Option (D×List am):=
 match d with
 |.tuple b=>match K7 σ b with
  |some (a,σ')=>some (.tuple a,σ')
  |none=>none
 |d=>Qc σ d
def abJ(f:Rel B G σ w){d e:D}{v:Value}(h:BY σ d=some (e,σ'))(c:Rep G d v):∃b,G.Le b/\Rel B b σ' w/\Rep b e v:=by
 unfold BY at h;split at h
 ·split at h<;>try (cases h;done)
  rename_i i;cases h;simp only[Rep]at c;obtain⟨a,rfl,j⟩:=c;obtain⟨b,k,g,l⟩:=Qd f i j;exact⟨b,k,g,by simp only[Rep];exact⟨a,rfl,l⟩⟩
 ·exact SZ f h c
end
mutual
def D.pure:D->Bool
 |.bool _=>true
 |.int _ _=>true
 |.str _=>true
 |.nilp=>true
 |.ptr _ _ _=>false
 |.rptr cs _=>cW cs
 |.list cs _ _=>cW cs
 |.sl _ _ _ _ _ _=>false
 |.map _=>false
 |.nilmap=>true
 |.cmap ks vs=>cW ks&&cW vs
 |.pmap ks vs=>cW ks&&cW vs
 |.func _ a b=>cW a&&cW b
 |.nilf=>true
 |.iface _ v=>v.pure
 |.nili=>true
 |.anyi=>true
 |.agg cs=>cW cs
 |.tuple cs=>cW cs
 |.junk=>true
def cW:List D->Bool
 |[]=>true
 |d::ds=>d.pure&&cW ds
end
mutual
def Rep.pure{G G':Gh}(hi:∀b o v,G.imm b o=some v->G'.imm b o=some v)(hm:∀b es,G.mimm b=some es->G'.mimm b=some es):∀(d:D)(v:Value),d.pure=true->Rep G d v->Rep G' d v
 |.bool _,_,_,x=>by simpa only[Rep] using x
 |.int _ _,_,_,x=>by simpa only[Rep] using x
 |.str _,_,_,x=>by simpa only[Rep] using x
 |.nilp,_,_,x=>by simpa only[Rep] using x
 |.ptr _ _ _,_,h,_=>by simp[D.pure]at h
 |.rptr cs _,_,h,x=>by
  simp only[Rep]at x⊢;simp only[D.pure]at h;obtain⟨b,o',e,r⟩:=x;exact⟨b,o',e,Cells.pure hi hm b _ cs h r⟩
 |.list cs _ _,_,h,x=>by
  simp only[Rep]at x⊢;simp only[D.pure]at h;obtain⟨a,cap,e,h1,h2,h3,h4⟩:=x;refine⟨a,cap,e,h1,h2,h3,h4.imp ?_ id⟩;rintro⟨b,o,ha,hc⟩;exact⟨b,o,ha,Cells.pure hi hm b _ cs h hc⟩
 |.sl _ _ _ _ _ _,_,h,_=>by simp[D.pure]at h
 |.map _,_,h,_=>by simp[D.pure]at h
 |.nilmap,_,_,x=>by simpa only[Rep] using x
 |.cmap ks vs,_,h,x=>by
  simp only[Rep]at x⊢;simp only[D.pure,ahJ]at h;obtain⟨b,es,e,hm',h1,h2⟩:=x;exact⟨b,es,e,hm _ _ hm',af.pure hi hm ks _ h.1 h1,af.pure hi hm vs _ h.2 h2⟩
 |.pmap ks vs,_,h,x=>by
  simp only[Rep]at x⊢;simp only[D.pure,ahJ]at h;obtain⟨b,es,π,e,hm',hπ,h1,h2⟩:=x;exact⟨b,es,π,e,hm _ _ hm',hπ,af.pure hi hm ks _ h.1 h1,af.pure hi hm vs _ h.2 h2⟩
 |.func _ first cap,_,h,x=>by
  simp only[Rep]at x⊢;simp only[D.pure,ahJ]at h;obtain⟨f,c,e,h1,h2⟩:=x;exact⟨f,c,e,af.pure hi hm first _ h.1 h1,af.pure hi hm cap _ h.2 h2⟩
 |.nilf,_,_,x=>by simpa only[Rep] using x
 |.iface _ d,_,h,x=>by
  simp only[Rep]at x⊢;simp only[D.pure]at h;obtain⟨y,e,h1⟩:=x;exact⟨y,e,Rep.pure hi hm d _ h h1⟩
 |.nili,_,_,x=>by simpa only[Rep] using x
 |.anyi,_,_,x=>by simpa only[Rep] using x
 |.agg cs,_,h,x=>by
  simp only[Rep]at x⊢;simp only[D.pure]at h;obtain⟨a,e,h1⟩:=x;exact⟨a,e,af.pure hi hm cs _ h h1⟩
 |.tuple cs,_,h,x=>by
  simp only[Rep]at x⊢;simp only[D.pure]at h;obtain⟨a,e,h1⟩:=x;exact⟨a,e,af.pure hi hm cs _ h h1⟩
 |.junk,_,_,_=>by simp only[Rep]
def Cells.pure {G G':Gh} (hi:∀b o v,G.imm b o=some v->G'.imm b o=some v) (hm:∀b es,G.mimm b=some es->G'.mimm b=some es) (b:Nat):∀(o:Nat)(ds:List D),cW ds=true->Cells G b o ds->Cells G' b o ds
 |_,[],_,_=>by simp only[Cells]
 |o,d::ds,h,x=>by
  simp only[cW,ahJ]at h;simp only[Cells]at x⊢;obtain⟨⟨v,e,r⟩,hs⟩:=x;exact⟨⟨v,hi _ _ _ e,Rep.pure hi hm d v h.1 r⟩,Cells.pure hi hm b _ ds h.2 hs⟩
def af.pure {G G':Gh} (hi:∀b o v,G.imm b o=some v->G'.imm b o=some v) (hm:∀b es,G.mimm b=some es->G'.mimm b=some es):∀(ds:List D)(vs:List Value),cW ds=true->af G ds vs->af G' ds vs
 |[],_,_,x=>by simpa only[af] using x
 |d::ds,_,h,x=>by
  simp only[cW,ahJ]at h;simp only[af]at x⊢;obtain⟨v,r,e,h1,h2⟩:=x;exact⟨v,r,e,Rep.pure hi hm d v h.1 h1,af.pure hi hm ds r h.2 h2⟩
end
end Go.Fw
