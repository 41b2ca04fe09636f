/- A framework for proofs about Go programs in this model: part B. Everything is proved; no condition is added. -/
import Derived.Laws.RangeString
import Derived.IntWalk
import Derived.Test.YtfjfjojmeookfaaGreatDoorFwA
set_option linter.unusedVariables false
set_option linter.unusedSimpArgs false
set_option linter.defProp false
def aip:=@List.eq_nil_of_length_eq_zero
def akl:=@Array.getElem?_modify
def akz:=@Array.getElem?_push
def alg:=@Go.run_append_nothing
def alx:=@Nat.mul_pos
def aly:=@Nat.mul_one
namespace Go.Fw
open Go.RowKit
section
variable {P:Program}{B:dQ P}{G:Gh}{σ:List ak}{w:World}
def WA(y:Rel B G σ w){t tx ty:TypeId}{sz by':Nat}(ht:Bi P t tx=some (sz,by')){s x d:D}{sv xv:Value}{σ':List ak}(h:Hc σ sz by' s x=some (d,σ'))(hs:Rep G s sv)(hx:Rep G x xv):
 ∃u w' G',(Builtin.append_ #[t,tx] ty #[sv,xv]).run P w=.ok u w'/\G.Le G'/\Rel B G' σ' w'/\Rep G' d u:=by
 obtain⟨e,i,zv,z,hu,Y,rfl,rfl,f9,hz,R,U,S⟩:=Ob ht;unfold Hc at h;split at h<;>try (cases h;done)
 rename_i new m n7;split at h<;>try (cases h;done)
 rename_i f7;obtain⟨j4,K,g⟩:=aej (P:=P) y n7 hx f7 S;have r:m=0->j4=[]:=λW=>by
  have:=K.newsLen;rw[W,ajx]at this;exact aip this
 split at h<;>try (cases h;done)
 ·rename_i M n m5;split at h<;>try (cases h;done)
  rename_i j7;have Z:=hs;simp only[Rep]at hs;obtain⟨a,p,rfl,O,V,h3,h4⟩:=hs;split at h
  ·rename_i W;cases h;subst W;have:=r rfl;subst this;exact⟨_,w,G,alg w t tx ty e i hu Y a n p O xv K,.refl G,y,Z⟩
  ·rename_i W;split at h<;>try (cases h;done)
   rename_i X;obtain⟨H,E,F⟩:=X;cases h;have Q:=h3 H;subst Q;have c:∃v,af G M v/\(Builtin.firstCells i.size p (.slice a p p)).run P w.drew=.ok v.toArray w.drew:=by
    rcases h4 with⟨b,o,rfl,X⟩|rfl
    ·obtain⟨vs,hr,p7⟩:=X.reps;have N:=hr.length;refine⟨vs,hr,?_⟩;have:=ajF (P:=P) w.drew ⟨b,o,none⟩ vs (λj u hj=>by rw[jJ];exact y.drew.imm _ _ _ (p7 j u hj));rw[<-N,j7]at this;exact this
    ·refine⟨[],by simp[af],?_⟩;have q8:p*i.size=0:=by simpa using j7.symm
     cases a with
     |none=>simp[Builtin.firstCells]
     |some a=>simp only[Builtin.firstCells,q8];rfl
   obtain⟨v,C,c⟩:=c;exact C6 y hu Y hz R U (l:=σ.length) (ver:=0) (frz:=0) K g C j7 c (by omega) E F (by simp) (λA L=>by
    rcases ahW A σ.length with h|h
    ·rw[ahP h]
    ·rw[ahV h,ahZ h];have:A-σ.length≠0:=by omega
     cases S:A-σ.length with
     |zero=>exact absurd S this
     |succ k=>simp) (by simp) (by
      cases h:G.blk σ.length 0 with
      |none=>rfl
      |some b=>exact absurd (y.blk _ _ _ h).1 (aiO _)) ⟨aiH _,λu' b h=>absurd (y.blk _ _ _ h).1 (aiO _)⟩ (aiH _)
 ·rename_i l u o n r9 m5;split at h<;>try (cases h;done)
  rename_i M frz u' N;split at h<;>try (cases h;done)
  rename_i X;obtain⟨rfl,rfl,m9⟩:=X;have Z:=hs;simp only[Rep]at hs;rcases hs with⟨b,p,n8,hb,rfl,O,V,h3,h4,h5⟩|⟨rfl,a,rfl⟩
  ·split at h
   ·rename_i W;cases h;subst W;have:=r rfl;subst this;exact⟨_,w,G,alg w t tx ty e i hu Y _ n p O xv K,.refl G,y,Z⟩
   ·rename_i W;split at h<;>try (cases h;done)
    rename_i j5;obtain⟨E,F⟩:=j5;obtain⟨v,T,C,j6⟩:=y.cells_of N hb m9;have c:(Builtin.firstCells i.size n (.slice (some ⟨b,o,none⟩) n p)).run P w.drew=.ok v.toArray w.drew:=by
     have:=ajF (P:=P) w.drew ⟨b,o,none⟩ v (λj u hj=>by rw[jJ];exact j6 j u hj);rw[T]at this;exact this
    split at h
    ·rename_i H;cases h;have Q:=h3 H;subst Q;exact C6 y hu Y hz R U (l:=σ.length) (ver:=0) (frz:=0) K g C (by rw[C.length,T]) c (by omega) E F (by simp) (λA L=>by
      rcases ahW A σ.length with h|h
      ·rw[ahP h]
      ·rw[ahV h,ahZ h];have:A-σ.length≠0:=by omega
       cases S:A-σ.length with
       |zero=>exact absurd S this
       |succ k=>simp) (by simp) (by
        cases h:G.blk σ.length 0 with
        |none=>rfl
        |some b=>exact absurd (y.blk _ _ _ h).1 (aiO _)) ⟨aiH _,λu' b h=>absurd (y.blk _ _ _ h).1 (aiO _)⟩ (aiH _)
    ·split at h<;>try (cases h;done)
     rename_i X;obtain⟨rfl,hn⟩:=X;cases h;have I:=g.length;have p9:=K.newsLen;have j9:0<m*i.size:=alx (by omega) f9;have n6:new≠[]:=by
      intro h0;rw[h0]at I;simp at I;omega
     have f:=y.ver _ _ N;have j8:σ.length>l:=by
      rcases ahW l σ.length with h'|h'
      ·exact h'
      ·rw[ahZ h']at N;cases N
     by_cases J:n+m<=p
     ·have p8:(n+m)*i.size<=p*i.size:=aiD _ J;have m7:M.length+new.length<=n8:=by
       rw[ajC]at p8;omega
      obtain⟨w',G',j3,m8,o7,o8,q7⟩:=Wz (P:=P) y N hb n6 g h4 m7 f7;refine⟨.slice (some ⟨b,0,none⟩) (n+m) p,w',G',?_,m8,o7,?_⟩
      ·rw[<-hn]at j3;have o9:(Builtin.firstCells i.size m xv).run P w=.ok j4.toArray w:=K.cells;rcases S with⟨e',S⟩|S<;>simp[Builtin.append_,ahT hu,ahT S,sizeOf,typeInfo,Y,K.len,J,o9,j3]
      ·simp only[Rep];refine .inl ⟨b,p,n8,o8,rfl,J,V,by simp,q7,?_⟩;simpa using h5
     ·have k9:af G M v:=by
       have:(M.drop 0).take (n*i.size)=M:=by simp[hn]
       rwa[this]at C
      have q:∀A,A≠l->(σ.set l (.cells (M++new) frz (M++new).length))[A]?=σ[A]? :=λA L=>by rw[aim (ajm L)]
      refine C6 y hu Y hz R U (l:=l) (ver:=(M++new).length) (frz:=frz) K g k9 (by omega) c (by omega) E F (by simp) q (by rw[aiA j8]) ?_ ?_ ?_
      ·cases hx:G.blk l (M++new).length with
       |none=>rfl
       |some b'=>
        have O:=f.2 _ _ hx;have V:=f.1;simp only[ak.ver,ak.len,ahJ]at O V;omega
      ·refine⟨ahO _,λq9 n9 hx=> ?_⟩;have O:=f.2 _ _ hx;have V:=f.1;simp only[ak.ver,ak.len,ahJ]at O V⊢;omega
      ·have:=y.frzle _ _ N;simp only[ak.frz,ak.len,ahJ]at this⊢;omega
  ·have c:(Builtin.firstCells i.size 0 (.slice a 0 0)).run P w.drew=.ok ([]:List Value).toArray w.drew:=by
    cases a with
    |none=>simp[Builtin.firstCells]
    |some a=>simp only[Builtin.firstCells,ajx];rfl
   have f8:af G [] []:=by simp[af]
   split at h
   ·rename_i W;cases h;subst W;have:=r rfl;subst this;exact⟨_,w,G,alg w t tx ty e i hu Y a 0 0 (ahO _) xv K,.refl G,y,Z⟩
   ·rename_i W;split at h<;>try (cases h;done)
    rename_i j5;obtain⟨E,F⟩:=j5;have f:=y.ver _ _ N;have j8:σ.length>l:=by
     rcases ahW l σ.length with h'|h'
     ·exact h'
     ·rw[ahZ h']at N;cases N
    split at h
    ·cases h;have e0:(M.drop o).take (0*i.size)=[]:=by simp
     rw[e0];exact C6 y hu Y hz R U (l:=σ.length) (ver:=0) (frz:=0) K g f8 (by simp) c (by omega) E F (by simp) (λA L=>by
      rcases ahW A σ.length with h|h
      ·rw[ahP h]
      ·rw[ahV h,ahZ h];have:A-σ.length≠0:=by omega
       cases S:A-σ.length with
       |zero=>exact absurd S this
       |succ k=>simp) (by simp) (by
        cases h:G.blk σ.length 0 with
        |none=>rfl
        |some b=>exact absurd (y.blk _ _ _ h).1 (aiO _)) ⟨aiH _,λu' b h=>absurd (y.blk _ _ _ h).1 (aiO _)⟩ (aiH _)
    ·split at h<;>try (cases h;done)
     rename_i X;obtain⟨rfl,hn⟩:=X;have m6:M=[]:=by simpa using hn.symm
     subst m6;cases h;have I:=g.length;have p9:=K.newsLen;have j9:0<m*i.size:=alx (by omega) f9;have q6:0<new.length:=by omega
     have q:∀A,A≠l->(σ.set l (.cells ([]++new) frz ([]++new).length))[A]?=σ[A]? :=λA L=>by rw[aim (ajm L)]
     refine C6 y hu Y hz R U (l:=l) (ver:=([]++new).length) (frz:=frz) K g f8 (by simp) c (by omega) E F (by simp) q (by rw[aiA j8]) ?_ ?_ ?_
     ·cases hx:G.blk l ([]++new:List D).length with
      |none=>rfl
      |some b'=>
       have O:=f.2 _ _ hx;have V:=f.1;simp only[ak.ver,ak.len,ahJ,ah1]at O V;omega
     ·refine⟨ahO _,λq9 n9 hx=> ?_⟩;have O:=f.2 _ _ hx;have V:=f.1;simp only[ak.ver,ak.len,ahJ,ah1]at O V⊢;omega
     ·have:=y.frzle _ _ N;simp only[ak.frz,ak.len,ahJ,ah1]at this⊢;omega
def unD:UnOp->D->Option D
 |.not,.bool b=>some (.bool (!b))
 |.neg,.int k n=>some (.int k (k.wrap (0-n)))
 |.xor,.int k n=>some (.int k (bits .xor k (if k.signed then-1 else k.max) n))
 |_,_=>none
def afA{a:UnOp}{x d:D}{v:Value}(h:unD a x=some d)(b:Rep G x v):∃u,(Op.unary a v).run P w=.ok u w/\Rep G d u:=by
 cases a<;>cases x<;>simp only[unD]at h<;>try (cases h;done)
 all_goals (simp only[Rep]at b;subst b;cases h)
 ·exact⟨_,rfl,by simp[Rep]⟩
 ·refine⟨_,by simp only[Op.unary,intBits_xor];rfl,by simp[Rep]⟩
 ·exact⟨_,rfl,by simp[Rep]⟩
inductive CK where
 |int(k:IntKind)|idStr|toBytes|toStr
 deriving Inhabited
def LG(P:Program)(a dst:TypeId):Option CK:=
 match P.underlying a,P.underlying dst with
 |some (.int _),some (.int k)=>some (.int k)
 |some .string,some .string=>some .idStr
 |some .string,some (.slice e)=>match P.underlying e,P.info? e with
  |some (.int .u8),some i=>if i.size=1 then some .toBytes else none
  |_,_=>none
 |some (.slice e),some .string=>match P.underlying e with
  |some (.int .u8)=>some .toStr
  |_=>none
 |_,_=>none
def yF:D->Option UInt8
 |.int .u8 n=>some (UInt8.ofNat n.toNat)
 |_=>none
def lV:List D->Option (List UInt8)
 |[]=>some []
 |d::c=>match yF d,lV c with
  |some b,some a=>some (b::a)
  |_,_=>none
def t7(σ:List ak):CK->D->Option D
 |.int k,.int _ n=>some (.int k (k.wrap n))
 |.idStr,.str s=>some (.str s)
 |.toBytes,.str s=>if s.length<=cK then some (.list (s.map λb=>.int .u8 b.toNat) s.length false) else none
 |.toStr,.list c d f=>match pl σ 1 (.list c d f) with
  |some (a,_)=>(lV a).map .str
  |none=>none
 |.toStr,.sl l u o d z f=>match pl σ 1 (.sl l u o d z f) with
  |some (a,_)=>(lV a).map .str
  |none=>none
 |_,_=>none
def UT(s:List UInt8)(b:UInt8):(⟨s.toArray⟩:ByteArray).push b=⟨(s++[b]).toArray⟩:=by
 show(⟨s.toArray.push b⟩:ByteArray)=_;simp
def LH:∀{cs:List D}{vs:List Value}{bs:List UInt8},af G cs vs->lV cs=some bs->∃e:List Int,vs=e.map (λn=>.int .u8 n)/\bs=e.map λn=>UInt8.ofNat n.toNat
 |[],_,_,h,a=>by
  simp only[af]at h;simp only[lV,ahI]at a;subst h a;exact⟨[],rfl,rfl⟩
 |d::l,_,_,h,a=>by
  simp only[af]at h;obtain⟨v,r,rfl,g,j⟩:=h;simp only[lV]at a;split at a<;>try (cases a;done)
  rename_i b i c f;cases a;obtain⟨e,rfl,rfl⟩:=LH j f;cases d<;>simp only[yF]at c<;>try (cases c;done)
  rename_i k n;cases k<;>simp only[ahI]at c<;>try (cases c;done)
  subst c;simp only[Rep]at g;subst g;exact⟨n::e,rfl,rfl⟩
def ab3(M:Rel B G σ w){W dst:TypeId}{ck:CK}(z:LG P W dst=some ck){x d:D}{v:Value}(h:t7 σ ck x=some d)(C:Rep G x v):
 ∃u w' L,(convert W dst v).run P w=.ok u w'/\G.Le L/\Rel B L σ w'/\Rep L d u:=by
 unfold LG at z;split at z<;>try (cases z;done)
 ·rename_i k0 k S O;cases z;cases x<;>simp only[t7]at h<;>try (cases h;done)
  cases h;simp only[Rep]at C;subst C;rename_i k1 n1;refine⟨.int k (k.wrap n1),w,G,?_,.refl G,M,by simp only[Rep]⟩;unfold convert;simp[ahT S,ahT O,Conv.intToInt]
 ·rename_i S O;cases z;cases x<;>simp only[t7]at h<;>try (cases h;done)
  cases h;have j8:=C;simp only[Rep]at C;subst C;refine⟨_,w,G,?_,.refl G,M,j8⟩;unfold convert;simp[ahT S,ahT O]
 ·rename_i e S O;split at z<;>try (cases z;done)
  rename_i i he hi;split at z<;>try (cases z;done)
  rename_i m7;cases z;cases x<;>simp only[t7]at h<;>try (cases h;done)
  rename_i s;split at h<;>try (cases h;done)
  rename_i K;cases h;simp only[Rep]at C;subst C;let c:=grownCap w s.length 0 e;have f7:s.length<=c:=grownCap_ge w s.length 0 e;have R:c<=maxLen:=alf w s.length 0 e (by unfold maxLen;unfold cK at K;omega);let g:Array Value:=((s.toArray.map λb=>(Value.int .u8 b.toNat))++Array.replicate (c-s.length) (.int .u8 0));have H:=QP M.drew (s.map λb=>Value.int .u8 b.toNat) (List.replicate (c-s.length) (.int .u8 0)) e (g.size,g.size+1) g (by simp[g]);refine⟨.slice (some ⟨w.heap.size,0,none⟩) s.length c,w.drew.alloc (.cells g e (g.size,g.size+1)),_,?_,H.le,M.drew.grow H,?_⟩
  ·unfold convert;simp only[ahX,ahT S,ahT O,ahT he,ahQ];unfold Conv.stringToBytes;have hq:(Question.appendCap s.length 0 e).forced=false:=rfl;simp only[oH,ahX,run_choose,hq,aiy,aiB,ahQ,newRow,akb,aia];unfold markStringish;have T:({w with heap:=w.heap.push (.cells g e),drawn:=w.drawn+1}:World).shape? w.heap.size=some (e,g.size):=by
    simp[World.shape?]
   show Result.andThen (Sem.run P (markStringish ⟨w.heap.size,0,none⟩) (w.drew.alloc (.cells g e))) _=_;have f8:(w.drew.alloc (.cells g e)).shape? w.heap.size=some (e,g.size):=by
    have:=J5 w.drew (.cells g e);unfold World.shape?;have h2:(w.drew.alloc (.cells g e)).heap[w.heap.size]?=some (.cells g e):=this;rw[h2]
   unfold markStringish;simp only[ahX,run_shape,ahQ,f8,run_freeze];congr 1;unfold World.freeze;rw[ain (by omega)];show World.mk _ _ _ _ _=World.mk _ _ _ _ _;congr 1;apply Array.ext_getElem?;intro j;show((w.heap.push (.cells g e)).modify w.heap.size _)[j]?=(w.heap.push (.cells g e (g.size,g.size+1)))[j]?;rw[akl,akz,akz];by_cases Q:j=w.heap.size
   ·subst Q;simp
   ·simp[Q,ajm Q]
  ·simp only[Rep];refine⟨_,c,rfl,f7,by unfold maxLen at R;exact R,by simp,.inl ⟨_,_,rfl,?_⟩⟩;refine zV (b:=w.drew.heap.size) _ (s.map λb=>D.int .u8 b.toNat) [] _ rfl ?_ H.le;clear H f7 R K;induction s with
   |nil=>simp[af]
   |cons a s ih=>simp only[ahU,af];exact⟨_,_,rfl,by simp[Rep],ih⟩
 ·rename_i e S O;split at z<;>try (cases z;done)
  rename_i he;cases z;obtain⟨E,n,p,J,t,rfl,T⟩:∃E n,pl σ 1 x=some (E,n)/\∃J,lV E=some J/\d=.str J/\((∃a b c,x=.list a b c)∨∃a b c d e f,x=.sl a b c d e f):=by
   cases x<;>simp only[t7]at h<;>try (cases h;done)
   all_goals
    split at h<;>try (cases h;done)
    rename_i E n p;simp only[ajg]at h;obtain⟨J,t,rfl⟩:=h
   ·exact⟨E,n,p,J,t,rfl,.inl ⟨_,_,_,rfl⟩⟩
   ·exact⟨E,n,p,J,t,rfl,.inr ⟨_,_,_,_,_,_,rfl⟩⟩
  have k9:E.all D.isCell=true:=by
   clear p T h;induction E generalizing J with
   |nil=>rfl
   |cons a E ih=>
    simp only[lV]at t;split at t<;>try (cases t;done)
    rename_i b m5 j5 Z;simp only[ai3,ih _ Z,Bool.and_true];cases a<;>simp[yF]at j5<;>rfl
  have I:∀(a:Option Addr)(U q:Nat)(F:List Value),v=.slice a U q->af G E F->(a=none->F=[])->(∀x,a=some x->(loadCells x U).run P w=.ok F.toArray w)->
   ∃u w' L,(convert W dst v).run P w=.ok u w'/\G.Le L/\Rel B L σ w'/\Rep L (.str J) u:=by
   intro a U q F f9 X hn hl;subst f9;obtain⟨V,rfl,rfl⟩:=LH X t;refine⟨.string ⟨(V.map λn=>UInt8.ofNat n.toNat).toArray⟩,w,G,?_,.refl G,M,by simp only[Rep]⟩;unfold convert;simp only[ahX,ahT S,ahT O,ahQ];cases a with
   |none=>
    have:=hn rfl;simp only[List.map_eq_nil_iff]at this;subst this;simp only[ahT he,ahQ];unfold Conv.bytesToString;rfl
   |some x=>
    have:=hl x rfl;simp only[ahT he,ahQ];unfold Conv.bytesToString;simp only[ahX,this,ahQ];have j3:∀(f:Value->ByteArray->Sem (ForInStep ByteArray))(_:∀n r,f (.int .u8 n) r=pure (ForInStep.yield (r.push (UInt8.ofNat n.toNat))))(V:List Int)(A:List UInt8),
     (ForIn.forIn (m:=Sem) (V.map λn=>Value.int .u8 n).toArray (⟨A.toArray⟩:ByteArray) f).run P w=.ok ⟨(A++V.map λn=>UInt8.ofNat n.toNat).toArray⟩ w:=by
     intro f hf V;induction V with
     |nil=>intro A;simp
     |cons n V ih=>
      intro A;have:=ih (A++[UInt8.ofNat n.toNat]);simp only[ahU,List.forIn_toArray,List.forIn_cons,ahX,hf,aia,ahQ,UT]at this⊢;rw[this];simp
    have e0:ByteArray.empty=(⟨([]:List UInt8).toArray⟩:ByteArray):=rfl;rw[e0,j3 _ (λ_ _=>rfl)];rfl
  cases x<;>simp only[pl]at p<;>try (cases p;done)
  ·rcases T with⟨_,_,_,h⟩|⟨_,_,_,_,_,_,h⟩<;>cases h
  ·rename_i j4 n' Y;split at p<;>try (cases p;done)
   rename_i y;cases p;simp only[Rep]at C;obtain⟨a,q,rfl,h1,h2,h3,h4⟩:=C;rcases h4 with⟨b,o,rfl,hc⟩|rfl
   ·obtain⟨F,X,j6⟩:=hc.reps;have hl:=X.length;refine I _ _ q F rfl X (by simp) (λx hx=> ?_);cases hx;have:=ajF (P:=P) w ⟨b,o,none⟩ F (λj u Q=>by rw[jJ];exact M.imm _ _ _ (j6 j u Q));rw[<-hl,y,aly]at this;exact this
   ·have j7:n=0:=by simpa using y.symm
    subst j7;exact I a 0 q [] rfl (by simp[af]) (λ_=>rfl) (λx hx=>rfl)
  ·rename_i l u o n' m8 Y;split at p<;>try (cases p;done)
   rename_i j4 m6 u' hl;split at p<;>try (cases p;done)
   rename_i hc;obtain⟨rfl,rfl,y⟩:=hc;cases p;simp only[Rep]at C;rcases C with⟨b,q,m9,hb,rfl,h1,h2,h3,h4,h5⟩|⟨rfl,a,rfl⟩
   ·obtain⟨F,j9,X,N⟩:=M.cells_of hl hb y;refine I _ _ q F rfl X (by simp) (λx hx=> ?_);cases hx;have:=ajF (P:=P) w ⟨b,o,none⟩ F (λj u Q=>by rw[jJ];exact N j u Q);rw[j9,aly]at this;exact this
   ·refine I a 0 0 [] rfl ?_ (λ_=>rfl) (λx hx=>rfl);simp[af]
end
end Go.Fw
def ah0:=@List.mem_cons_of_mem
def ah7:=@List.all_eq_true
def aic:=@beq_eq_false_iff_ne
def aik:=@List.mem_cons_self
def aiz:=@List.mem_map
def aiT:=@Option.isSome_iff_exists
def aiV:=@List.getElem?_cons_succ
def akd:=@Nat.sub_self
def akX:=@List.map_fst_zip
def akY:=@List.map_snd_zip
def alb:=@Nat.sub_zero
def alh:=@List.pairwise_cons
namespace Go.Fw
open Go.RowKit
section
variable {P:Program}{B:dQ P}{G:Gh}{σ:List ak}{w:World}
def UU{ds:List D}{i:Nat}{d:D}{v:Value}(h:ds[i]?=some d)(c:Rep G (.tuple ds) v):∃u,(Instr.extract v i).run P w=.ok u w/\Rep G d u:=by
 simp only[Rep]at c;obtain⟨a,rfl,e⟩:=c;obtain⟨u,f,b⟩:=e.get i h;refine⟨u,?_,b⟩;unfold Instr.extract;have:a[i]?=some u:=by simpa using f
 simp[this]
def yn(P:Program)(t:TypeId):Bool:=
 match P.underlying t with
 |some (.interface _)=>false
 |some _=>true
 |none=>false
def UV{t:TypeId}(h:yn P t=true)(v:Value):(Instr.makeInterface t v).run P w=.ok (.iface t v) w:=by
 unfold yn at h;split at h<;>try (cases h;done)
 rename_i d b a;unfold Instr.makeInterface;simp only[ahX,ahT a,ahQ];rfl
def mmD(mx:Bool):D->List D->Option D
 |.int k a,[]=>some (.int k a)
 |.int k a,.int c b::r=>if k=c then mmD mx (.int k (if mx=true then(if b>a then b else a) else(if b<a then b else a))) r else none
 |_,_=>none
def mmL(mx:Bool):List D->Option D
 |[]=>none
 |a::r=>mmD mx a r
def aek(p:Array TypeId)(t:TypeId){ds:List D}{vs:List Value}{d:D}(h:mmL true ds=some d)(c:af G ds vs):∃u,(Builtin.max_ p t vs.toArray).run P w=.ok u w/\Rep G d u:=by
 have l:∀(r:List D)(j:List Value)(a:D)(f:Value)(d:D),mmD true a r=some d->Rep G a f->af G r j->∃u,(j.foldlM Builtin.max2 f).run P w=.ok u w/\Rep G d u:=by
  intro r;induction r with
  |nil=>
   intro j a f d h g c;simp only[af]at c;subst c;cases a<;>simp only[mmD]at h<;>try (cases h;done)
   cases h;exact⟨f,by simp,g⟩
  |cons x r o=>
   intro j a f d h g c;simp only[af]at c;obtain⟨v,m,rfl,i,e⟩:=c;cases a<;>cases x<;>simp only[mmD]at h<;>try (cases h;done)
   split at h<;>try (cases h;done)
   rename_i n;subst n;simp only[Rep]at g i;subst g i;obtain⟨u,k,b⟩:=o m _ _ d h (by simp only[Rep];rfl) e;exact⟨u,by simpa[List.foldlM_cons,Builtin.max2] using k,b⟩
 cases ds with
 |nil=>simp[mmL]at h
 |cons a r=>
  simp only[af]at c;obtain⟨v,m,rfl,i,e⟩:=c;obtain⟨u,k,b⟩:=l r m a v d h i e;exact⟨u,by unfold Builtin.max_;simpa using k,b⟩
def ael(p:Array TypeId)(t:TypeId){ds:List D}{vs:List Value}{d:D}(h:mmL false ds=some d)(c:af G ds vs):∃u,(Builtin.min_ p t vs.toArray).run P w=.ok u w/\Rep G d u:=by
 have l:∀(r:List D)(j:List Value)(a:D)(f:Value)(d:D),mmD false a r=some d->Rep G a f->af G r j->∃u,(j.foldlM Builtin.min2 f).run P w=.ok u w/\Rep G d u:=by
  intro r;induction r with
  |nil=>
   intro j a f d h g c;simp only[af]at c;subst c;cases a<;>simp only[mmD]at h<;>try (cases h;done)
   cases h;exact⟨f,by simp,g⟩
  |cons x r o=>
   intro j a f d h g c;simp only[af]at c;obtain⟨v,m,rfl,i,e⟩:=c;cases a<;>cases x<;>simp only[mmD]at h<;>try (cases h;done)
   split at h<;>try (cases h;done)
   rename_i n;subst n;simp only[Rep]at g i;subst g i;obtain⟨u,k,b⟩:=o m _ _ d h (by simp only[Rep];rfl) e;exact⟨u,by simpa[List.foldlM_cons,Builtin.min2] using k,b⟩
 cases ds with
 |nil=>simp[mmL]at h
 |cons a r=>
  simp only[af]at c;obtain⟨v,m,rfl,i,e⟩:=c;obtain⟨u,k,b⟩:=l r m a v d h i e;exact⟨u,by unfold Builtin.min_;simpa using k,b⟩
def UW(f:Rel B G σ w)(t:TypeId):∃u c a,(Instr.makeMap t none).run P w=.ok u c/\G.Le a/\Rel B a (σ++[.map [] []]) c/\Rep a (.map σ.length) u:=by
 obtain⟨d,e⟩:=f.bindOther (.map #[] 0) (.map [] []) (by simp) (λa _ c b=>⟨#[],⟨b,by simp⟩,by simp[af],by simp[af]⟩);refine⟨.map (some w.heap.size),_,_,?_,d,e,by simp only[Rep];exact⟨_,by simp[Gh.bind0],rfl⟩⟩;unfold Instr.makeMap;simp
def lc(lk:LK)(k:D):List D->Nat->Option (Option Nat)
 |[],_=>some none
 |a::b,i=>match kI lk k a with
  |some true=>some (some i)
  |some false=>lc lk k b (i+1)
  |none=>none
def yo(P:Program)(t:TypeId):Option (LK×D):=
 match P.underlying t with
 |some (.map k e)=>
  match (match P.underlying k with|some (.int _)=>some LK.i|some .string=>some LK.s|some .bool=>some LK.b|_=>none),(match P.info? e with|some i=>(match i.zero with|some v=>C3 v|none=>none)|none=>none) with
  |some lk,some z=>some (lk,z)
  |_,_=>none
 |_=>none
def z6:LK->TypeDesc->Prop
 |.i,.int _=>True
 |.s,.string=>True
 |.b,.bool=>True
 |_,_=>False
variable{Z:LK}{Y:Value}{X:List (D×D)}
def Bj{t:TypeId}{z:D}(h:yo P t=some (Z,z)):∃k e c i v,P.underlying t=some (.map k e)/\P.underlying k=some c/\z6 Z c/\P.info? e=some i/\i.zero=some v/\C3 v=some z:=by
 unfold yo at h;split at h<;>try (cases h;done)
 rename_i k e g;split at h<;>try (cases h;done)
 rename_i l m b a;cases h;split at a<;>try (cases a;done)
 rename_i i d;split at a<;>try (cases a;done)
 rename_i v j;split at b<;>try (cases b;done)
 all_goals
  rename_i f;cases b;exact⟨k,e,_,i,v,g,f,by simp[z6],d,j,a⟩
def LI{kd:TypeDesc}(f:z6 Z kd){a b:D}{x y:Value}{r:Bool}(h:kI Z a b=some r)(c:Rep G a x)(d:Rep G b y):Instr.sameNow kd x y=some r:=by
 cases Z<;>cases a<;>cases b<;>simp only[kI]at h<;>try (cases h;done)
 all_goals
  simp only[Rep]at c d;subst c d;cases kd<;>simp only[z6]at f
 ·simpa[Instr.sameNow] using h
 ·split at h<;>try (cases h;done)
  rename_i e;subst e;simpa[Instr.sameNow] using h
 ·simp only[Instr.sameNow,beq_toListBytes,tX];exact h
def rk{kd:TypeDesc}{k:TypeId}(b:z6 Z kd)(a:P.underlying k=some kd)(e:Bool)(n:Nat)(x:Value):(Instr.checkKey e (n+1) k x).run P w=.ok () w:=by
 unfold Instr.checkKey;simp only[ahX,ahT a,ahQ];cases Z<;>cases kd<;>simp only[z6]at b<;>rfl
def t8{kd:TypeDesc}(g:z6 Z kd){k:D}(f:Rep G k Y):∀(ks:List D)(es:List MapEntry)(i:Nat)(r:Option Nat),lc Z k ks i=some r->af G ks (es.map (·.key))->
 Instr.findNow kd Y es i=some (r.map λj=>(j,((es[j-i]?).map (·.val)).getD undef))/\(∀j,r=some j->i<=j/\j-i<es.length)
 |[],es,i,r,h,b=>by
  simp only[af,List.map_eq_nil_iff]at b;subst b;simp only[lc,ahI]at h;subst h;exact⟨rfl,by simp⟩
 |a::n,es,i,r,h,b=>by
  match es,b with
  |[],b=>simp only[af]at b;obtain⟨_,_,h,_⟩:=b;cases h
  |e::es,b=>
   simp only[ahU,af]at b;obtain⟨v,u,t,m,p⟩:=b;cases t;simp only[lc]at h;split at h<;>try (cases h;done)
   ·rename_i c;cases h;simp only[Instr.findNow,LI g c f m,ai2,akd,akJ,Option.getD_some];exact⟨trivial,λj d=>by cases d;simp⟩
   ·rename_i c;obtain⟨o,l⟩:=t8 g f n es (i+1) r h p;simp only[Instr.findNow,LI g c f m];refine⟨?_,λj d=> ?_⟩
    ·rw[o];cases r with
     |none=>rfl
     |some j=>
      obtain⟨q,s⟩:=l j rfl;simp only[ai2,ahI,ah3,true_and];have:j-i=(j-(i+1))+1:=by omega
      rw[this,aiV]
    ·obtain⟨q,s⟩:=l j d;simp only[ahL];omega
def yG(z:D)(ok:Bool)(r:Option D):D:=match r with
 |some d=>if ok then .tuple [d,.bool true] else d
 |none=>if ok then .tuple [z,.bool false] else z
def og(lk:LK)(z:D)(ok:Bool)(ks vs:List D)(k:D):Option D:=
 match lc lk k ks 0 with
 |some (some i)=>(vs[i]?).map λd=>yG z ok (some d)
 |some none=>some (yG z ok none)
 |none=>none
def C7:List D->Bool
 |[]=>true
 |.int .i64 n::r=>(r.all λd=>match d with|.int .i64 m=> !(decide (n=m))|_=>false)&&C7 r
 |_::_=>false
def Et(G:Gh)(a:List (D×D))(l:List MapEntry):Prop:=af G (a.map (·.1)) (l.map (·.key))/\af G (a.map (·.2)) (l.map (·.val))
def LJ{l l':List MapEntry}(h:l.Perm l'):∀{b:List (D×D)},Et G b l->∃c,c.Perm b/\Et G c l':=by
 induction h with
 |nil=>exact λh=>⟨_,.refl _,h⟩
 |cons e _ E=>
  intro b h;cases b with
  |nil=>obtain⟨a,_⟩:=h;simp[af]at a
  |cons p b=>
   obtain⟨a,d⟩:=h;simp only[ahU,af]at a d;obtain⟨v,r,o,g,j⟩:=a;obtain⟨O,K,x,k,n⟩:=d;cases o;cases x;obtain⟨c,C,f⟩:=E ⟨j,n⟩;exact⟨p::c,C.cons p,by simp only[ahU,af];exact⟨_,_,rfl,g,f.1⟩,by simp only[ahU,af];exact⟨_,_,rfl,k,f.2⟩⟩
 |swap e I l=>
  intro b h;obtain⟨a,d⟩:=h
  match b,a,d with
  |[],a,_=>simp[af]at a
  |[_],a,_=>simp[af]at a
  |p::q::b,a,d=>
   simp only[ahU,af]at a d;obtain⟨v,r,o,g,N,J,t,i,j⟩:=a;obtain⟨u,s,x,k,M,L,y,m,n⟩:=d;cases o;cases t;cases x;cases y;refine⟨q::p::b,.swap _ _ _,?_,?_⟩
   ·simp only[ahU,af];exact⟨_,_,rfl,i,_,_,rfl,g,j⟩
   ·simp only[ahU,af];exact⟨_,_,rfl,m,_,_,rfl,k,n⟩
 |trans _ _ z A=>
  intro b h;obtain⟨p1,C,f⟩:=z h;obtain⟨p2,F,H⟩:=A f;exact⟨p2,F.trans C,H⟩
def mM:D->Bool
 |.int .i64 _=>true
 |_=>false
def jj:D->Int
 |.int _ n=>n
 |_=>0
def mJ(k:Int):List (D×D)->Option D
 |[]=>none
 |p::r=>if jj p.1=k then some p.2 else mJ k r
def Jp{k:Int}{m c:List (D×D)}(h:m.Perm c)(hd:m.Pairwise λa b=>jj a.1≠jj b.1):mJ k m=mJ k c:=by
 induction h with
 |nil=>rfl
 |cons p _ n=>simp only[mJ];rw[n (alh.1 hd).2]
 |swap p q l=>
  have g:=(alh.1 hd).1 p (aik ..);simp only[mJ];by_cases d:jj p.1=k<;>by_cases f:jj q.1=k
  ·exact absurd (f.trans d.symm) g
  ·simp[d,f]
  ·simp[d,f]
  ·simp[d,f]
 |trans g _ i j=>
  rw[i hd];exact j ((g.pairwise_iff λh e=>h e.symm).1 hd)
def Od{n:Int}:∀(c:List (D×D))(i:Nat),(∀p∈c,mM p.1=true)->∃o,lc .i (.int .i64 n) (c.map (·.1)) i=some o/\(∀j,o=some j->i<=j/\((c.map (·.2))[j-i]?=mJ n c)/\(mJ n c).isSome=true)/\(o=none->mJ n c=none)
 |[],i,_=>⟨none,rfl,λj h=>(by cases h),λ_=>rfl⟩
 |p::c,i,h=>by
  obtain⟨a,b⟩:=p;have f:=h (a,b) (aik ..);simp only at f;cases a<;>try (cases f;done)
  rename_i k m;cases k<;>try (cases f;done)
  obtain⟨o,q,r,s⟩:=Od (n:=n) c (i+1) λp t=>h p (ah0 _ t);by_cases e:n=m
  ·subst e;refine⟨some i,by simp[lc,kI],λj g=> ?_,λh=>by cases h⟩;cases g;simp[mJ,jj]
  ·have l:¬m=n:=λh=>e h.symm;have d:mJ n ((D.int .i64 m,b)::c)=mJ n c:=by simp[mJ,jj,l]
   refine⟨o,by simp only[ahU,lc,kI,aiG,aic.2 e];exact q,λj g=> ?_,λh=>by rw[d];exact s h⟩;obtain⟨x,u,v⟩:=r j g;refine⟨by omega,?_,by rw[d];exact v⟩;rw[d,show j-i=(j-(i+1))+1 by omega,ahU,aiV];exact u
def ua{z:D}{ok:Bool}{n:Int}(h:∀p∈X,mM p.1=true):og .i z ok (X.map (·.1)) (X.map (·.2)) (.int .i64 n)=some (yG z ok (mJ n X)):=by
 unfold og;obtain⟨o,b,c,d⟩:=Od (n:=n) X 0 h;rw[b];cases o with
 |none=>simp only;rw[d rfl]
 |some j=>
  obtain⟨_,a,f⟩:=c j rfl;simp only;rw[alb]at a;rw[a];obtain⟨x,e⟩:=aiT.1 f;rw[e];rfl
def Eu:∀{ks:List D},C7 ks=true->(∀k∈ks,mM k=true)/\ks.Pairwise λa b=>jj a≠jj b
 |[],_=>⟨λ_ h=>by simp at h,.nil⟩
 |k::r,h=>by
  cases k<;>try (cases h;done)
  rename_i i n;cases i<;>try (cases h;done)
  simp only[C7,ahF,ah7]at h;obtain⟨e,f⟩:=Eu h.2;refine⟨λk c=> ?_,alh.2 ⟨λd g=> ?_,f⟩⟩
  ·rcases ah8.1 c with rfl|c
   ·rfl
   ·exact e k c
  ·have:=h.1 d g;split at this
   ·simpa[jj] using this
   ·cases this
def vY(lk:LK)(z:D)(ok:Bool)(ks vs:List D)(k:D):Option D:=match C7 ks with
 |true=>match k with
  |.int .i64 n=>match lk with
   |.i=>og .i z ok ks vs (.int .i64 n)
   |_=>none
  |_=>none
 |false=>none
def yp(σ:List ak)(lk:LK)(z:D)(ok:Bool)(m k:D):Option D:=
 match m with
 |.map l=>match σ[l]? with
  |some (.map a b)=>og lk z ok a b k
  |_=>none
 |.cmap a b=>og lk z ok a b k
 |.pmap a b=>vY lk z ok a b k
 |.nilmap=>if (kI lk k k).isSome then some (yG z ok none) else none
 |_=>none
def Kb{ok:Bool}{d:D}{v:Value}(b:Bool)(a:Rep G d v):Rep G (if ok then .tuple [d,.bool b] else d) (if ok then .tuple #[v,.bool b] else v):=by
 cases ok
 ·exact a
 ·simp only[aiG,Rep,af];exact⟨_,rfl,v,_,rfl,a,_,_,rfl,rfl,rfl⟩
def Bk{t:TypeId}{z:D}(H:yo P t=some (Z,z)){ok:Bool}{ks vs:List D}{k d:D}{b c:Nat}{es:Array MapEntry}(h:og Z z ok ks vs k=some d)
 (K:w.heap[b]?=some (.map es c))(A:af G ks (es.toList.map (·.key)))(L:af G vs (es.toList.map (·.val)))(x:Rep G k Y):
 ∃u,(Instr.lookup t (.map (some b)) Y ok).run P w=.ok u w/\Rep G d u:=by
 obtain⟨Q,e,O,i,M,y,a,l,E,J,q⟩:=Bj H;have r:Rep G z M:=En G q;have f:(getObj b).run P w=.ok (.map es c) w:=by simp[getObj,Sem.run,K]
 unfold og at h;split at h<;>try (cases h;done)
 ·rename_i j o;obtain⟨m,s⟩:=t8 l x ks es.toList 0 (some j) o A;obtain⟨_,F⟩:=s j rfl;simp only[ajg]at h;obtain⟨N,n,rfl⟩:=h;obtain⟨v,I,g⟩:=L.get j n;have p:es[j]?.map (·.val)=some v:=by simpa using I
  refine⟨_,?_,Kb (ok:=ok) true g⟩;unfold Instr.lookup Instr.findKey;simp only[ahX,ahT y,ahQ,f,aia,rk l a,ahT a,m,ai2,alb];have:(es.toList[j]?.map (·.val)).getD undef=v:=by
   have C:es.toList[j]?=es[j]? :=by simp
   rw[C,p];rfl
  rw[this]
 ·rename_i o;obtain⟨m,s⟩:=t8 l x ks es.toList 0 none o A;cases h;refine⟨_,?_,Kb (ok:=ok) false r⟩;unfold Instr.lookup Instr.findKey;simp[ahT y,f,rk l a,ahT a,m,zeroValue,typeInfo,E,J]
def WB(E:Rel B G σ w){t:TypeId}{z:D}(A:yo P t=some (Z,z)){ok:Bool}{m k d:D}{mv W:Value}(h:yp σ Z z ok m k=some d)(g:Rep G m mv)(I:Rep G k W):
 ∃u,(Instr.lookup t mv W ok).run P w=.ok u w/\Rep G d u:=by
 cases m<;>simp only[yp]at h<;>try (cases h;done)
 ·rename_i l;split at h<;>try (cases h;done)
  rename_i c f J;simp only[Rep]at g;obtain⟨b,X,rfl⟩:=g;obtain⟨U,o1,o2,o3⟩:=E.obj _ _ b J X;exact Bk A h o1.1 o2 o3 I
 ·split at h<;>try (cases h;done)
  obtain⟨kt,e,kd,i,zv,hu,r,hl,Y,C,O⟩:=Bj A;have Q:Rep G z zv:=En G O;cases h;simp only[Rep]at g;subst g;refine⟨_,?_,Kb (ok:=ok) false Q⟩;unfold Instr.lookup Instr.findKey;simp[ahT hu,rk hl r,ahT r,Instr.findNow,zeroValue,typeInfo,Y,C]
 ·simp only[Rep]at g;obtain⟨b,U,rfl,q,x,y⟩:=g;obtain⟨F,_⟩:=E.mimm _ _ q;exact Bk A h F x y I
 ·rename_i c f;simp only[Rep]at g;obtain⟨b,U,π,rfl,q,R,x,y⟩:=g;obtain⟨F,_⟩:=E.mimm _ _ q;unfold vY at h;split at h<;>try (cases h;done)
  rename_i o;split at h<;>try (cases h;done)
  split at h<;>try (cases h;done)
  obtain⟨o,M⟩:=Eu o;have V:c.length=f.length:=by rw[x.length,y.length];simp
  have v:(c.zip f).map (·.1)=c:=akX (by omega);have T:(c.zip f).map (·.2)=f:=akY (by omega);have L:Et G (c.zip f) π:=⟨by rw[v];exact x,by rw[T];exact y⟩;obtain⟨S,p1,p2,p3⟩:=LJ R L;have C:∀p∈c.zip f,mM p.1=true:=λp K=>o _ (by rw[<-v];exact aiz.2 ⟨p,K,rfl⟩);have N:∀p∈S,mM p.1=true:=λp K=>C p (p1.subset K);have s:(c.zip f).Pairwise λa b=>jj a.1≠jj b.1:=by
   have j:((c.zip f).map (·.1)).Pairwise λa b=>jj a≠jj b:=by rw[v];exact M
   rw[List.pairwise_map]at j;exact j
  have H:=ua (z:=z) (ok:=ok) (n:=‹Int›) C;rw[v,T,h]at H;rw[Jp p1.symm s,<-ua N]at H;exact Bk A H.symm F p2 p3 I
def QX(σ:List ak)(lk:LK)(m k x:D):Option (List ak):=
 match m with
 |.map l=>match σ[l]? with
  |some (.map a b)=>match lc lk k a 0 with
   |some (some i)=>some (σ.set l (.map a (b.set i x)))
   |some none=>if k.isCell=true then some (σ.set l (.map (a++[k]) (b++[x]))) else none
   |none=>none
  |_=>none
 |_=>none
end
end Go.Fw
def aio:=@Array.getElem?_toList
def aiN:=@List.map_append
def ai0:=@List.map_nil
def ajl:=@Int.toNat_of_nonneg
def ajD:=@Array.getElem?_setIfInBounds_ne
def ajG:=@List.set_cons_zero
def ajY:=@beq_iff_eq
def akc:=@List.set_cons_succ
def akM:=@decide_eq_false_iff_not
def ak3:=@Bool.or_eq_false_iff
def aln:=@beq_self_eq_true
def alr:=@Int.natCast_mul
namespace Go.Fw
open Go.RowKit
section
variable {P:Program}{B:dQ P}{G:Gh}{σ:List ak}{w:World}
variable{Z X:Value}{Y:LK}
def Jo{k:D}(d:Rep G k Z):∀(ks:List D)(es:List MapEntry)(i j:Nat),lc Y k ks i=some (some j)->af G ks (es.map (·.key))->
 ∃e,es[j-i]?=some e/\e.key=Z/\i<=j/\Instr.sameBits 10000 e.key Z=true
 |[],es,i,j,h,c=>by simp[lc]at h
 |a::l,es,i,j,h,c=>by
  match es,c with
  |[],c=>simp only[ai0,af]at c;obtain⟨_,_,h,_⟩:=c;cases h
  |e::es,c=>
   simp only[ahU,af]at c;obtain⟨v,t,r,f,q⟩:=c;cases r;simp only[lc]at h;split at h<;>try (cases h;done)
   ·rename_i b;simp only[ahI]at h;subst h;refine⟨e,by simp,?_⟩;cases Y<;>cases k<;>cases a<;>simp only[kI]at b<;>try (cases b;done)
    all_goals simp only[Rep]at d f
    ·subst d;rw[f];simp only[ahI,ajY]at b;subst b;exact⟨rfl,ahO _,by simp[Instr.sameBits]⟩
    ·subst d;rw[f];split at b<;>try (cases b;done)
     rename_i g;subst g;simp only[ahI,ajY]at b;subst b;exact⟨rfl,ahO _,by simp[Instr.sameBits]⟩
    ·subst d;rw[f];simp only[ahI,ajY]at b;subst b;exact⟨rfl,ahO _,by simp only[Instr.sameBits,beq_toListBytes,aln]⟩
   ·obtain⟨m,n,o,s,p⟩:=Jo d l es (i+1) j h q;refine⟨m,?_,o,by omega,p⟩;have:j-i=(j-(i+1))+1:=by omega
    rw[this,aiV];exact n
def af.set{G:Gh}:∀{ds:List D}{vs:List Value}(i:Nat){d:D}{v:Value},af G ds vs->Rep G d v->af G (ds.set i d) (vs.set i v)
 |[],_,_,_,_,h,_=>by simp only[af]at h;subst h;simp[af]
 |_::_,_,0,_,_,h,b=>by
  simp only[af]at h;obtain⟨_,r,rfl,_,a⟩:=h;simp only[ajG,af];exact⟨_,r,rfl,b,a⟩
 |_::_,_,i+1,_,_,h,b=>by
  simp only[af]at h;obtain⟨v,r,rfl,c,a⟩:=h;simp only[akc,af];exact⟨v,_,rfl,c,af.set i a b⟩
def yl(i:Rel B G σ w){l b:Nat}{ob a:ak}(N:σ[l]?=some ob)(s:G.blk l 0=some b){o o':Obj}(F:w.heap[b]?=some o)(p:ob.ver=0)(h:a.ver=0)(z:a.len=0)(y:a.frz=0)
 (j:∀r t f,o≠.cells r t f)(D:∀r f u,a≠.cells r f u)(C:G.mimm b=none)(m:∀K:World,K.heap[b]?=some o'->pz G K b a):
 Rel B G (σ.set l a) {w with heap:=w.heap.setIfInBounds b o'}:=by
 have A:=dD F;have d:∀k,k≠b->(w.heap.setIfInBounds b o')[k]?=w.heap[k]? :=λk J=>ajD (ajm J);have g:(w.heap.setIfInBounds b o')[b]?=some o':=by simp[A]
 have M:=(i.blk _ _ _ s).2.1;refine i.update N (by rw[p];exact s) (.refl G) (λ_ _ _ x=>.inl x) (by rw[h];exact s) ?_ rfl rfl ?_ (by simp) d ?_ C (m _ g) (λr L u e=>absurd e (D _ _ _)) (by omega) (by omega)
 ·intro q Q v I;refine⟨?_,λ_=>I⟩;have c:=i.imm _ _ _ I;have E:q≠b:=by
   rintro rfl;unfold World.cell? at c;rw[F]at c;cases o<;>first|exact absurd rfl (j _ _ _)|simp at c
  unfold World.cell? at c⊢;have:({w with heap:=w.heap.setIfInBounds b o'}:World).heap[q]?=w.heap[q]? :=d q E;simp only[this];exact c
 ·exact i.below.trans ⟨rfl,rfl,rfl,by simp,λk J=>d k (by omega)⟩
 ·intro n O;obtain⟨S,R,f,H,_⟩:=i.siz _ _ O;rw[F]at H;cases H;exact absurd rfl (j _ _ _)
def Wu(F:Rel B G σ w){t:TypeId}{z:D}(ht:yo P t=some (Y,z)){m k x:D}{mv g n:Value}{σ':List ak}(h:QX σ Y m k x=some σ')(V:Rep G m mv)(J:Rep G k g)(X:Rep G x n):
 ∃L,(Instr.mapUpdate t mv g n).run P w=.ok () L/\Rel B G σ' L:=by
 obtain⟨kt,e,kd,i,zv,W,o,K,hi,hz,f7⟩:=Bj ht;cases m<;>simp only[QX]at h<;>try (cases h;done)
 rename_i l;split at h<;>try (cases h;done)
 rename_i S vs p;simp only[Rep]at V;obtain⟨b,H,rfl⟩:=V;obtain⟨a,⟨C,u⟩,E,Z⟩:=F.obj _ _ b p H;generalize Q:a.size=c at C;have v:(getObj b).run P w=.ok (.map a c) w:=by simp[getObj,Sem.run,C]
 have A:∀o',(setObj b o').run P w=.ok () {w with heap:=w.heap.setIfInBounds b o'}:=λo'=>by simp[setObj,Sem.run,C]
 have y:G.mimm b=none:=F.ownm _ _ _ _ p H;split at h<;>try (cases h;done)
 ·rename_i j I;cases h;obtain⟨N,g2⟩:=t8 K J S a.toList 0 (some j) I E;obtain⟨U,T,e2,_,e4⟩:=Jo J S a.toList 0 j I E;simp only[alb]at T;have f:a[j]?=some U:=by simpa using T
  have r:(Instr.keyThatStays (((a[j]?).map (·.key)).getD g) g).run P w=.ok g w:=by
   rw[f];simp only[ai2,Option.getD_some];unfold Instr.keyThatStays;rw[e4];rfl
  refine⟨_,?_,yl F p H C rfl rfl rfl rfl (by simp) (by simp) y (o':=.map (a.modify j λe=>{e with key:=g,val:=n}) c) ?_⟩
  ·unfold Instr.mapUpdate Instr.findKey;simp only[ahX,ahT W,ahQ,v,rk K o,ahT o,N,ai2,aia,r,A]
  ·intro L s;refine⟨a.modify j λe=>{e with key:=g,val:=n},⟨by rw[s];simp[Q],λq M d=> ?_⟩,?_,?_⟩
   ·rw[akl]at d;by_cases e:j=q
    ·subst e;simp only[aiG,f,ai2,ahI]at d;rw[<-d];exact u j U f
    ·simp only[e,aiB]at d;exact u q M d
   ·have:(a.modify j λe=>{e with key:=g,val:=n}).toList.map (·.key)=a.toList.map (·.key):=by
     apply ajb;intro q;simp only[aiJ,aio,akl];by_cases d:j=q
     ·subst d;simp[f,e2]
     ·simp[d]
    rw[this];exact E
   ·have:(a.modify j λe=>{e with key:=g,val:=n}).toList.map (·.val)=(a.toList.map (·.val)).set j n:=by
     apply ajb;intro q;simp only[aiJ,aio,akl];by_cases d:j=q
     ·subst d;have R:j<a.size:=by
       rcases ahW j a.size with O|O
       ·exact O
       ·rw[ajU O]at f;cases f
      rw[aiA (by simpa using R)];simp[f]
     ·rw[aim d];simp[d]
    rw[this];exact Z.set j X
 ·rename_i I;split at h<;>try (cases h;done)
  cases h;obtain⟨N,g2⟩:=t8 K J S a.toList 0 none I E;refine⟨_,?_,yl F p H C rfl rfl rfl rfl (by simp) (by simp) y (o':=.map (a.push {key:=g,val:=n,born:=c}) (c+1)) ?_⟩
  ·unfold Instr.mapUpdate Instr.findKey;simp only[ahX,ahT W,ahQ,v,rk K o,ahT o,N,Option.map_none,aia,A]
  ·intro L s;refine⟨a.push {key:=g,val:=n,born:=c},⟨by rw[s];simp[Q],λq M d=> ?_⟩,?_,?_⟩
   ·rw[akz]at d;split at d
    ·rename_i e;cases d;rw[<-Q];exact e.symm
    ·exact u q M d
   ·simp only[Array.toList_push,aiN,ahU,ai0];exact E.append (by simp only[af];exact⟨g,[],rfl,J,rfl⟩)
   ·simp only[Array.toList_push,aiN,ahU,ai0];exact Z.append (by simp only[af];exact⟨n,[],rfl,X,rfl⟩)
def Py(a:Option (List D×Nat))(d:Option (Nat×Nat))(σ:List ak)(l c:D):Option (D×List ak):=
 match a,d,mI l,mI c with
 |some (z,e),some (_,b),some n,some m=>
  if 0<=n/\n<=m/\m<=cK/\m.toNat*b<=cK then some (.sl σ.length 0 0 n.toNat e (decide (n=m)),σ++[.cells (kH z n.toNat) 0 0]) else none
 |_,_,_,_=>none
def QR(z:List D):∀a b,kH z (a+b)=kH z a++kH z b
 |0,b=>by simp[kH]
 |a+1,b=>by rw[show a+1+b=(a+b)+1 from by omega,kH,kH,QR z a b,ah6]
def af.split{G:Gh}:∀{ds es:List D}{vs:List Value},af G (ds++es) vs->∃a b,vs=a++b/\af G ds a/\af G es b
 |[],_,vs,h=>⟨[],vs,rfl,by simp[af],h⟩
 |d::ds,es,vs,h=>by
  simp only[aix,af]at h;obtain⟨v,r,rfl,c,e⟩:=h;obtain⟨a,b,rfl,f,g⟩:=af.split e;exact⟨v::a,b,rfl,by simp only[af];exact⟨v,a,rfl,c,f⟩,g⟩
def QS(hR:Rel B G σ w){t:TypeId}{l c d:D}{σ':List ak}{p:Option (List D×Nat)}{C:Option (Nat×Nat)}(q:∀x,p=some x->G9 P t=some x)(A:∀x,C=some x->vA P t=some x)(h:Py p C σ l c=some (d,σ'))(hl:Rep G l Z)(hc:Rep G c X):
 ∃u W o,(Instr.makeSlice t Z X).run P w=.ok u W/\G.Le o/\Rel B o σ' W/\Rep o d u:=by
 unfold Py at h;split at h<;>try (cases h;done)
 rename_i z sz f7 Y n m hn hm;have a:=q _ rfl;have L:=A _ rfl;split at h<;>try (cases h;done)
 rename_i I;obtain⟨h0,h1,E,T⟩:=I;cases h;obtain⟨k1,rfl⟩:=pY hn hl;obtain⟨k2,rfl⟩:=pY hm hc;obtain⟨e,i,V,s,_,H⟩:=Ep L;unfold G9 at a;rw[V]at a;simp only at a;split at a<;>try (cases a;done)
 rename_i z' i' hz y;rw[s]at y;cases y;split at a<;>try (cases a;done)
 rename_i Q;obtain⟨R,U⟩:=Q;cases a;obtain⟨f9,v,g,hv,r⟩:=nh hz;rw[s]at g;cases g;have S:=od G r;have j:=J7 S m.toNat;rw[R]at j;have b:kH z m.toNat=kH z n.toNat++kH z (m.toNat-n.toNat):=by
  rw[<-QR];congr 1;omega
 rw[b]at j;obtain⟨hd,tl,M,K,_⟩:=j.split;obtain⟨o,g1,g2,g3,g4⟩:=Bh hR K tl e ((Array.range (m.toNat*i.size)).map (v.cells[· % v.cells.size]!)) M;have N:IntKind.i64.wrap n=n:=IntWalk.i64_in n (by unfold cK at E;omega);have O:IntKind.i64.wrap m=m:=IntWalk.i64_in m (by unfold cK at E;omega);refine⟨.slice (some ⟨w.heap.size,0,none⟩) n.toNat m.toNat,_,o,?_,g1,g2,?_⟩
 ·unfold Instr.makeSlice;have J:(m.toNat:Int)=m:=ajl (by omega);have F:¬((i.bytes:Int)*m>2 ^ 48):=by
   have:((m.toNat*i.bytes:Nat):Int)<=(cK:Int):=by
    rw[<-H]at T;exact Int.ofNat_le.2 T
   rw[alr,J,Int.mul_comm]at this;unfold cK at this;omega
  simp only[ahT V,ahX,asInt,asIntOf,aia,ahQ,typeInfo,aiY,s,N,O];have c1:((decide (m<0)||decide ((i.bytes:Int)*m>2 ^ 48))||decide (n<0)||decide (n>m))=false:=by
   simp only[ak3,akM];refine⟨⟨⟨by omega,F⟩,by omega⟩,by omega⟩
  rw[ain (by rw[c1];simp)];simp only[run_askRoom,ahQ,sizeOf,typeInfo,ahX,aiY,s,aia];by_cases k:m.toNat*i.size=0
  ·have f8:m.toNat=0:=by
    rcases ak8.1 k with h|h<;>omega
   have e0:∀f:Nat->Value,Array.map f (Array.range 0)= #[]:=by intro f;simp
   simp only[k,aiG,aia,ahQ,e0,newRow,ahX,akb];rfl
  ·simp only[k,aiB,ahX,zeroValue,typeInfo,aiY,ahQ,s,aia,hv,newRow,akb];rfl
 ·simp only[Rep];refine .inl ⟨w.heap.size,m.toNat,_,g3,rfl,by omega,by unfold cK at E;omega,?_,g4,?_⟩
  ·intro hf;simp only[aij]at hf;omega
  ·simp
def SL(f:Rel B G σ w){t:TypeId}(g:P.underlying t=some .string)(s:List UInt8):
 ∃u c a,(Instr.range t (.string ⟨s.toArray⟩)).run P w=.ok u c/\G.Le a/\Rel B a (σ++[.siter s 0]) c/\Rep a (.ptr σ.length 0 0) u:=by
 obtain⟨d,e⟩:=f.bindOther (.stringIter ⟨s.toArray⟩ 0) (.siter s 0) (by simp) (λa _ c b=>b);refine⟨.pointer (some ⟨w.heap.size,0,none⟩),_,_,?_,d,e,by simp only[Rep];exact⟨_,by simp[Gh.bind0],rfl⟩⟩;unfold Instr.range;simp[ahT g]
def zW(σ:List ak)(a:D):Option (D×List ak):=
 match a with
 |.ptr l 0 0=>match σ[l]? with
  |some (.siter s pos)=>
   if pos<s.length then
    some (.tuple [.bool true,.int .i64 pos,.int .i32 (Utf8.decode ⟨s.toArray⟩ pos).1],σ.set l (.siter s (pos+(Utf8.decode ⟨s.toArray⟩ pos).2)))
   else some (.tuple [.bool false],σ)
  |_=>none
 |_=>none
def UO(g:Rel B G σ w){q d:D}{σ':List ak}{v:Value}(ty:TypeId)(h:zW σ q=some (d,σ'))(p:Rep G q v):
 ∃u m,(Instr.next v true ty).run P w=.ok u m/\Rel B G σ' m/\Rep G d u:=by
 unfold zW at h;split at h<;>try (cases h;done)
 rename_i l;split at h<;>try (cases h;done)
 rename_i s a f;simp only[Rep]at p;obtain⟨b,n,rfl⟩:=p;have i:w.heap[b]?=some (.stringIter ⟨s.toArray⟩ a):=g.obj _ _ b f n;have e:(getObj b).run P w=.ok (.stringIter ⟨s.toArray⟩ a) w:=by simp[getObj,Sem.run,i]
 have j:G.mimm b=none:=by
  cases r:G.mimm b with
  |none=>rfl
  |some t=>
   obtain⟨o,_⟩:=g.mimm _ _ r;rw[i]at o;cases o
 split at h
 ·rename_i c;cases h;refine⟨.tuple #[.bool true,goInt a,.int .i32 (Utf8.decode ⟨s.toArray⟩ a).1],_,?_,yl g f n i rfl rfl rfl rfl (by simp) (by simp) j (o':=.stringIter ⟨s.toArray⟩ (a+(Utf8.decode ⟨s.toArray⟩ a).2)) (λm k=>k),?_⟩
  ·unfold Instr.next;simp only[ahX,e,ahQ,oH,c,aiG];have:(setObj b (.stringIter ⟨s.toArray⟩ (a+(Utf8.decode ⟨s.toArray⟩ a).2))).run P w=.ok () {w with heap:=w.heap.setIfInBounds b (.stringIter ⟨s.toArray⟩ (a+(Utf8.decode ⟨s.toArray⟩ a).2))}:=by simp[setObj,Sem.run,i]
   simp only[this,ahQ,aia]
  ·simp only[Rep,af];exact⟨_,rfl,_,_,rfl,rfl,_,_,rfl,rfl,_,_,rfl,rfl,rfl⟩
 ·rename_i c;cases h;refine⟨.tuple #[.bool false],w,?_,g,by simp only[Rep,af];exact⟨_,rfl,_,_,rfl,rfl,rfl⟩⟩;unfold Instr.next;simp only[ahX,e,ahQ,oH,c,aiB,aia]
end
end Go.Fw
def aiU:=@List.eq_nil_iff_forall_not_mem
def aki:=@List.mem_filter
def akG:=@Nat.eq_zero_or_pos
def alk:=@bne_self_eq_false
namespace Go.Fw
open Go.RowKit
section
variable {P:Program}{B:dQ P}{G:Gh}{σ σ' :List ak}{w:World}
def SN(l:Rel B G σ w){t k e:TypeId}(s:P.underlying t=some (.map k e)){ks vs:List D}{v:Value}(n:Rep G (.cmap ks vs) v):
 ∃u i f,(Instr.range t v).run P w=.ok u i/\G.Le f/\Rel B f (σ++[.miter ks vs (List.range ks.length) none]) i/\Rep f (.ptr σ.length 0 0) u:=by
 simp only[Rep]at n;obtain⟨b,c,rfl,m,j,q⟩:=n;obtain⟨r,_⟩:=l.mimm _ _ m;have d:ks.length=c.size:=by have:=j.length;simpa using this
 obtain⟨o,p⟩:=l.bindOther (.mapIter (some b) c.size #[] c.size) (.miter ks vs (List.range ks.length) none) (by simp)
  (λf a i h=>⟨b,c,#[],h,a.mimm _ _ m,af.mono a _ _ j,af.mono a _ _ q,by simp[d],by simp⟩)
 refine⟨.pointer (some ⟨w.heap.size,0,none⟩),_,_,?_,o,p,by simp only[Rep];exact⟨_,by simp[Gh.bind0],rfl⟩⟩;have g:(getObj b).run P w=.ok (.map c c.size) w:=by simp[getObj,Sem.run,r]
 unfold Instr.range;simp[ahT s,g]
def Wv(n:Nat)(c:0<n):∃k a,(choose (.mapNext n)).run P w=.ok k a/\k<n/\(a=w∨a=w.drew):=by
 have h:(choose (.mapNext n)).run P w=if (Question.mapNext n).forced then .ok 0 w else .ok ((Question.mapNext n).cut (w.tape w.drawn (.mapNext n))) {w with drawn:=w.drawn+1}:=rfl
 by_cases b:(Question.mapNext n).forced=true
 ·exact⟨0,w,by rw[h,ahY b],c,.inl rfl⟩
 ·exact⟨(w.tape w.drawn (.mapNext n)) % n,w.drew,by rw[h,ain b];rfl,Nat.mod_lt _ c,.inr rfl⟩
def UP(E:Rel B G σ w){l:Nat}{ks vs:List D}{p:List Nat}{Z:Option Nat}{v:Value}(ty:TypeId)(hl:σ[l]?=some (.miter ks vs p Z))(hv:Rep G (.ptr l 0 0) v):
 ∃u Y,(Instr.next v false ty).run P w=.ok u Y/\
  ((p=[]/\Rel B G σ Y/\Rep G (.tuple [.bool false]) u)∨
   (∃i a b,i∈p/\ks[i]?=some a/\vs[i]?=some b/\Rel B G (σ.set l (.miter ks vs (p.filter (· !=i)) (some i))) Y/\Rep G (.tuple [.bool true,a,b]) u)):=by
 simp only[Rep]at hv;obtain⟨b,hb,rfl⟩:=hv;obtain⟨m,d,seen,o1,o2,o3,o4,o5,o6⟩:=E.obj _ _ b hl hb;obtain⟨hm,g⟩:=E.mimm _ _ o2;have K:(getObj b).run P w=.ok (.mapIter (some m) d.size seen d.size) w:=by simp[getObj,Sem.run,o1]
 have J:(getObj m).run P w=.ok (.map d d.size) w:=by simp[getObj,Sem.run,hm]
 have o:(!seen.isEmpty&& !d.isEmpty&&d.all (·.born>=d.size))=false:=by
  by_cases f:d.isEmpty=true
  ·simp[f]
  ·have t:0<d.size:=by
    rcases akG d.size with h|h
    ·exact absurd (by simp[Array.isEmpty,h]) f
    ·exact h
   have:d.all (·.born>=d.size)=false:=by
    rw[Array.all_eq_false];refine⟨0,t,?_⟩;have:=g 0 d[0] (ah5 t);rw[aij,this];omega
   simp[this]
 have S:∀(l:Array MapEntry),(∀e∈l,e∈d)->l.filter (·.born<d.size)=l/\l.filter (·.born>=d.size)= #[]:=by
  intro l j3;have R:∀e∈l,e.born<d.size:=by
   intro e f;obtain⟨i,s,rfl⟩:=Array.getElem_of_mem (j3 e f);rw[g i _ (ah5 s)];exact s
  constructor
  ·rw[Array.filter_eq_self];intro e f;simpa using R e f
  ·rw[Array.filter_eq_empty_iff];intro e f;simpa using R e f
 generalize n:(d.filter λe=> !seen.contains e.born)=left;have x:∀e∈left,e∈d/\seen.contains e.born=false:=by
  intro e f;rw[<-n,Array.mem_filter]at f;exact⟨f.1,by simpa using f.2⟩
 obtain⟨O,Q⟩:=S left λe f=>(x e f).1;have y:0<((if left.isEmpty then #[none] else #[])++(left++ #[]).map some:Array (Option MapEntry)).size:=by
  by_cases f:left.isEmpty=true
  ·simp[f];omega
  ·have:0<left.size:=by
    rcases akG left.size with h|h
    ·exact absurd (by simp[Array.isEmpty,h]) f
    ·exact h
   simp[f];exact this
 obtain⟨k,A,hk,M,W⟩:=Wv (P:=P) (w:=w) _ y;have F:Rel B G σ A:=by rcases W with rfl|rfl;exact E;exact E.drew
 have z:A.heap=w.heap:=by rcases W with rfl|rfl<;>rfl
 have X:A.heap[b]?=some (.mapIter (some m) d.size seen d.size):=by rw[z];exact o1
 have j4:G.mimm b=none:=by
  cases hx:G.mimm b with
  |none=>rfl
  |some j8=>
   obtain⟨r,_⟩:=E.mimm _ _ hx;rw[o1]at r;cases r
 obtain⟨c,r⟩:∃c,((if left.isEmpty then #[none] else #[])++(left++ #[]).map some:Array (Option MapEntry))[k]?=some c:=⟨_,ah5 M⟩;cases c with
 |none=>
  refine⟨.tuple #[.bool false],A,?_,.inl ⟨?_,F,by simp only[Rep,af];exact⟨_,rfl,_,_,rfl,rfl,rfl⟩⟩⟩
  ·unfold Instr.next;simp only[ahX,K,ahQ,J,o,aiy,aiB,n,O,Q,hk,r,aia]
  ·have I:left= #[]:=by
    by_cases f:left.isEmpty=true
    ·simpa using f
    ·rw[ain f]at r;simp at r
   rw[aiU];intro i s;obtain⟨C,q⟩:=(o5 i).1 s;have:d[i]∈left:=by
    rw[<-n,Array.mem_filter];exact⟨Array.getElem_mem _,by rw[g i _ (ah5 C)];simpa using q⟩
   rw[I]at this;simp at this
 |some e=>
  have f7:e∈left:=by
   have:=Array.mem_of_getElem? r;simp only[Array.mem_append,Array.mem_map,ahI,exists_eq_right]at this;rcases this with h|h
   ·split at h<;>simp at h
   ·simpa using h
  obtain⟨f8,T⟩:=x e f7;obtain⟨i,s,rfl⟩:=Array.getElem_of_mem f8;have H:=g i _ (ah5 s);rw[H]at T;have L:i<ks.length:=by have:=o3.length;simp at this;omega
  have U:i<vs.length:=by have:=o4.length;simp at this;omega
  obtain⟨kv,N,f9⟩:=o3.get i (ahG L);obtain⟨vv,V,j6⟩:=o4.get i (ahG U);simp[s]at N V;subst N V;refine⟨.tuple #[.bool true,d[i].key,d[i].val],_,?_,.inr ⟨i,ks[i],vs[i],(o5 i).2 ⟨s,T⟩,ahG L,ahG U,
   yl F hl hb X rfl rfl rfl rfl (by simp) (by simp) j4 (o':=.mapIter (some m) d.size (seen.push i) d.size) (λY j7=>⟨m,d,seen.push i,j7,o2,o3,o4,λj=> ?_,λj hj=> ?_⟩),
   by simp only[Rep,af];exact⟨_,rfl,_,_,rfl,rfl,_,_,rfl,f9,_,_,rfl,j6,rfl⟩⟩⟩
  ·unfold Instr.next;have j5:(setObj b (.mapIter (some m) d.size (seen.push d[i].born) d.size)).run P A=.ok () {A with heap:=A.heap.setIfInBounds b (.mapIter (some m) d.size (seen.push i) d.size)}:=by
    rw[H];simp[setObj,Sem.run,X]
   simp only[ahX,K,ahQ,J,o,aiy,aiB,n,O,Q,hk,r,j5,aia]
  ·simp only[aki,o5 j,bne_iff_ne,ne_eq];constructor
   ·rintro⟨⟨C,q⟩,h3⟩;refine⟨C,?_⟩;simp at q⊢;exact⟨q,h3⟩
   ·rintro⟨C,q⟩;simp at q⊢;exact⟨⟨C,q.1⟩,q.2⟩
  ·cases hj;simp
def LC(σ:List ak)(c:D):Option D:=
 match c with
 |.ptr l 0 0=>match σ[l]? with
  |some (.miter d e _ (some i))=>match d[i]?,e[i]? with
   |some a,some b=>some (.tuple [a,b])
   |_,_=>none
  |_=>none
 |_=>none
def SO(x:Rel B G σ w){z d:D}{v:Value}(h:LC σ z=some d)(y:Rep G z v):∃u,(Instr.entry v).run P w=.ok u w/\Rep G d u:=by
 unfold LC at h;split at h<;>try (cases h;done)
 rename_i l;split at h<;>try (cases h;done)
 rename_i Q T N i F;split at h<;>try (cases h;done)
 rename_i a c A E;cases h;simp only[Rep]at y;obtain⟨b,C,rfl⟩:=y;obtain⟨m,e,seen,I,J,K,L,S,M⟩:=x.obj _ _ b F C;obtain⟨H,f⟩:=x.mimm _ _ J;have q:(getObj b).run P w=.ok (.mapIter (some m) e.size seen e.size) w:=by simp[getObj,Sem.run,I]
 have p:(getObj m).run P w=.ok (.map e e.size) w:=by simp[getObj,Sem.run,H]
 obtain⟨R,g,s⟩:=K.get i A;obtain⟨U,n,t⟩:=L.get i E;have r:i<e.size:=by
  rcases ahW i e.size with o|o
  ·exact o
  ·rw[ahZ (by simpa using o)]at g;cases g
 simp[r]at g n;subst g n;have k:e.find? (·.born==i)=some e[i]:=by
  rw[Array.find?_eq_some_iff_getElem];refine⟨by simp[f i _ (ah5 r)],i,r,rfl,λj O=> ?_⟩;have:=f j e[j] (ah5 (by omega));simp[this];omega
 refine⟨.tuple #[e[i].key,e[i].val],?_,by simp only[Rep,af];exact⟨_,rfl,_,_,rfl,s,_,_,rfl,t,rfl⟩⟩;unfold Instr.entry;simp only[ahX,q,ahQ,M i rfl,p,alk,aiy,aiB,k,aia]
end
end Go.Fw
def ahN:=@Array.getD_eq_getD_getElem?
def ahR:=@Nat.le_of_ble_eq_true
def air:=@List.mem_append
def aiX:=@Nat.eq_of_beq_eq_true
namespace Go.Fw
open Go.RowKit
def get:List (Nat×D)->Nat->Option D
 |[],_=>none
 |(i,d)::r,t=>if i=t then some d else get r t
structure gF(G:Gh)(N:Nat)(τ:List (Nat×D))(a:Act):Prop where
 size:a.tmps.size=N
 defers:a.defers=[]
 slot:∀t d,get τ t=some d->Rep G d (a.tmps.getD t undef)
def gF.mono{G G':Gh}{N:Nat}{τ:List (Nat×D)}{a:Act}(h:gF G N τ a)(b:G.Le G'):gF G' N τ a:=
 ⟨h.size,h.defers,λt d c=>Rep.mono b _ _ (h.slot t d c)⟩
def gF.sub{G:Gh}{N:Nat}{τ τ':List (Nat×D)}{a:Act}(h:gF G N τ a)(b:∀t d,get τ' t=some d->get τ t=some d):gF G N τ' a:=
 ⟨h.size,h.defers,λt d c=>h.slot t d (b t d c)⟩
def gF.put{G:Gh}{N:Nat}{τ:List (Nat×D)}{a:Act}(h:gF G N τ a){t:Nat}(g:t<N){d:D}{v:Value}(i:Rep G d v):gF G N ((t,d)::τ) (a.put (some t) v):=by
 refine⟨by simp[Act.put,h.size],h.defers,λc f b=> ?_⟩;simp only[get]at b;simp only[Act.put];by_cases e:t=c
 ·subst e;simp only[aiG,ahI]at b;subst b;have:t<a.tmps.size:=by rw[h.size];exact g
  simp[ahN,this,i]
 ·simp only[e,aiB]at b;have:=h.slot c f b;simpa[ahN,ajD e] using this
def ev(τ:List (Nat×D)):Operand->Option D
 |.tmp t=>get τ t
 |.const v=>C3 v
 |.func f=>some (.func (.func f) [] [])
 |.global _=>none
def cL{G:Gh}{N:Nat}{τ:List (Nat×D)}{a:Act}(h:gF G N τ a){x:Operand}{d:D}(b:ev τ x=some d):Rep G d (a.eval x):=by
 cases x<;>simp only[ev]at b
 ·exact h.slot _ _ b
 ·exact En G b
 ·cases b
 ·cases b;simp only[Act.eval,Rep,af];exact⟨_,_,rfl,rfl,rfl⟩
def evs(τ:List (Nat×D)):List Operand->Option (List D)
 |[]=>some []
 |x::b=>match ev τ x with
  |some d=>match evs τ b with
   |some a=>some (d::a)
   |none=>none
  |none=>none
def yU{G:Gh}{N:Nat}{τ:List (Nat×D)}{a:Act}(h:gF G N τ a):∀{xs:List Operand}{ds:List D},evs τ xs=some ds->af G ds (xs.map a.eval)
 |[],_,b=>by simp only[evs,ahI]at b;subst b;simp[af]
 |x::xs,_,b=>by
  simp only[evs]at b;split at b<;>try (cases b;done)
  rename_i d e;split at b<;>try (cases b;done)
  rename_i ds c;cases b;simp only[ahU,af];exact⟨_,_,rfl,cL h e,yU h c⟩
def evo(τ:List (Nat×D)):Option Operand->Option (Option D)
 |none=>some none
 |some x=>match ev τ x with
  |some d=>some (some d)
  |none=>none
def PW{G:Gh}{N:Nat}{τ:List (Nat×D)}{a:Act}(h:gF G N τ a){x:Option Operand}{d:Option D}(b:evo τ x=some d):aed G d (x.map a.eval):=by
 cases x with
 |none=>simp only[evo,ahI]at b;subst b;trivial
 |some x=>
  simp only[evo]at b;split at b<;>try (cases b;done)
  rename_i e c;cases b;exact cL h c
def evp(τ:List (Nat×D)):List (Nat×Operand)->Option (List (Nat×D))
 |[]=>some []
 |(i,x)::b=>match ev τ x with
  |some d=>match evp τ b with
   |some a=>some ((i,d)::a)
   |none=>none
  |none=>none
def KZ{G:Gh}{N:Nat}{τ:List (Nat×D)}{a:Act}(h:gF G N τ a):∀{xs:List (Nat×Operand)}{ds:List (Nat×D)},evp τ xs=some ds->
 ds.length=xs.length/\∀(j i:Nat)(d:D),ds[j]?=some (i,d)->∃v,(xs.map λ(i,x)=>(i,a.eval x))[j]?=some (i,v)/\Rep G d v
 |[],_,b=>by simp only[evp,ahI]at b;subst b;simp
 |(i,x)::xs,_,b=>by
  simp only[evp]at b;split at b<;>try (cases b;done)
  rename_i d l;split at b<;>try (cases b;done)
  rename_i ds e;cases b;obtain⟨g,k⟩:=KZ h e;refine⟨by simp[g],λj m f c=> ?_⟩;cases j with
  |zero=>
   simp only[akJ,ahI,ah3]at c;obtain⟨rfl,rfl⟩:=c;exact⟨_,rfl,cL h l⟩
  |succ j=>
   simp only[aiV]at c;simpa using k j m f c
inductive SK where
 |slice(sz:Nat)|string|array(n sz:Nat)
def yC(P:Program)(t:TypeId):Option SK:=
 match P.underlying t with
 |some .string=>some .string
 |some (.slice _)=>(vA P t).map λx=>.slice x.1
 |some (.array _ _)=>match Ia P t with
  |some (n,a)=>if n<=9223372036854775807 then some (.array n a) else none
  |none=>none
 |_=>none
inductive IK where
 |slice(sz:Nat)|array(n sz:Nat)
def Po(P:Program)(t:TypeId):Option IK:=
 match P.underlying t with
 |some (.slice _)=>(vA P t).map λx=>.slice x.1
 |some (.array _ _)=>(Ia P t).map λx=>.array x.1 x.2
 |_=>none
inductive IVK where
 |string|array(len n:Nat)(agg:Bool)
def K0(P:Program)(t:TypeId):Option IVK:=
 match P.underlying t with
 |some .string=>some .string
 |some (.array len e)=>match tV P e with
  |some (n,b)=>some (.array len n b)
  |none=>none
 |_=>none
inductive Tr(α:Type) where
 |nil
 |node(l:Tr α)(k:Nat)(x:α)(r:Tr α)
def lk{α:Type}(a:Tr α)(t:Nat):Option α:=
 match a with
 |.nil=>none
 |.node l k x r=>match Nat.beq t k with
  |true=>some x
  |false=>match Nat.ble t k with
   |true=>lk l t
   |false=>lk r t
def lk2{α:Type}(a:Tr α)(s t:Nat):Option α:=
 match Nat.ble t 65535 with
 |true=>lk a (Nat.add (Nat.mul s 65536) t)
 |false=>none
def Tr.toL{α:Type}:Tr α->List (Nat×α)
 |.nil=>[]
 |.node l k x r=>l.toL++(k,x)::r.toL
def PX{α:Type}:∀{a:Tr α}{t:Nat}{x:α},lk a t=some x->(t,x)∈a.toL
 |.nil,_,_,h=>by simp[lk]at h
 |.node l k y r,t,x,h=>by
  simp only[lk]at h;simp only[Tr.toL,air,ah8];split at h
  ·rename_i e;have:=aiX e;cases h;subst this;exact .inr (.inl rfl)
  ·split at h
   ·exact .inl (PX h)
   ·exact .inr (.inr (PX h))
def fc{α:Type}(f:Nat->Option α)(a:Tr α):Prop:=(a.toL.map λp=>f p.1)=a.toL.map λp=>some p.2
def jM{α:Type}{f:Nat->Option α}{a:Tr α}(b:fc f a){t:Nat}{x:α}(h:lk a t=some x):f t=some x:=by
 have c:=PX h;obtain⟨n,d,e⟩:=List.getElem_of_mem c;have:=aii (·[n]?) b;simpa[d,e] using this
def K1{α:Type}{f:Nat->Nat->Option α}{b:Tr α}(e:fc (λk=>f (k / 65536) (k % 65536)) b){s t:Nat}{x:α}(h:lk2 b s t=some x):f s t=some x:=by
 unfold lk2 at h;split at h<;>try (cases h;done)
 rename_i a;have a:=ahR a;have:=jM e h;have c:(Nat.add (Nat.mul s 65536) t) / 65536=s:=by
  show(s*65536+t) / 65536=s;omega
 have d:(Nat.add (Nat.mul s 65536) t) % 65536=t:=by
  show(s*65536+t) % 65536=t;omega
 rw[c,d]at this;exact this
def Gf(P:Program)(t:TypeId)(a:String):Option FuncId:=
 match P.info? t with
 |some i=>match i.methods.find? (·.name==a) with
  |some m=>match m.path.toList,m.func,P.underlying t with
   |[],some (f,false),some (.struct _)=>some f
   |_,_,_=>none
  |none=>none
 |none=>none
def lkM:List (Nat×String×Nat)->Nat->String->Option Nat
 |[],_,_=>none
 |(t,n,f)::r,b,a=>match Nat.beq t b with
  |true=>match n==a with
   |true=>some f
   |false=>lkM r b a
  |false=>lkM r b a
inductive ExK where
 |count|indexByte
def Pp(P:Program)(f:FuncId):Option ExK:=
 match P.funcs[f]? with
 |some a=>match a.body with
  |some _=>none
  |none=>match a.origin== "" with
   |false=>none
   |true=>match a.name== "internal/bytealg.CountString" with
    |true=>some .count
    |false=>match a.name== "internal/bytealg.IndexByteString" with
     |true=>some .indexByte
     |false=>none
 |none=>none
structure Tys where
 ld:Tr (Nat×Bool):=.nil
 fld:Tr Nat:=.nil
 fldV:Tr (Nat×Nat×Bool):=.nil
 zero:Tr (List D):=.nil
 build:Tr (List D×bH):=.nil
 bs:Tr (List D×Nat):=.nil
 msl:Tr (Nat×Nat):=.nil
 eq:Tr EK:=.nil
 conv:Tr CK:=.nil
 conc:Tr Unit:=.nil
 sli:Tr SK:=.nil
 idx:Tr IK:=.nil
 idxV:Tr IVK:=.nil
 map:Tr (LK×D):=.nil
 len:Tr iE:=.nil
 app:Tr (Nat×Nat):=.nil
 meth:List (Nat×String×Nat):=[]
 ext:Tr ExK:=.nil
def PY(P:Program)(t:TypeId):Option Unit:=if yn P t then some () else none
structure TOk(T:Tys)(P:Program):Prop where
 ld:fc (tV P) T.ld
 fld:fc (λk=>Px P (k / 65536) (k % 65536)) T.fld
 fldV:fc (λk=>LE P (k / 65536) (k % 65536)) T.fldV
 zero:fc (oe P) T.zero
 build:fc (Ic P) T.build
 bs:fc (G9 P) T.bs
 msl:fc (vA P) T.msl
 eq:fc (Ni P) T.eq
 conv:fc (λk=>LG P (k / 65536) (k % 65536)) T.conv
 conc:fc (PY P) T.conc
 sli:fc (yC P) T.sli
 idx:fc (Po P) T.idx
 idxV:fc (K0 P) T.idxV
 map:fc (yo P) T.map
 len:fc (Pz P) T.len
 app:fc (λk=>Bi P (k / 65536) (k % 65536)) T.app
 meth:(T.meth.map λp=>Gf P p.1 p.2.1)=T.meth.map λp=>some p.2.2
 ext:fc (Pp P) T.ext
def PZ{f:Nat->String->Option Nat}:∀{l:List (Nat×String×Nat)},(l.map λp=>f p.1 p.2.1)=(l.map λp=>some p.2.2)->∀{t:Nat}{n:String}{x:Nat},lkM l t n=some x->f t n=some x
 |[],_,_,_,_,h=>by simp[lkM]at h
 |(i,m,y)::r,a,t,n,x,h=>by
  simp only[ahU,ajA]at a;simp only[lkM]at h;split at h
  ·rename_i e;have e:=aiX e;split at h
   ·rename_i b;have b:m=n:=by simpa using b
    subst e b;cases h;exact a.1
   ·exact PZ a.2 h
  ·exact PZ a.2 h
section
variable (T:Tys) (τ:List (Nat×D)) (σ:List ak)
def Pq(c a b:Operand):Option D:=
 match ev τ c with
 |some (.bool r)=>ev τ (if r then a else b)
 |_=>none
def Yz(x:Operand):Option (D×List ak):=
 match ev τ x with
 |some d=>match d.cells? with
  |some a=>some (.ptr σ.length 0 0,σ++[.cells a 0 0])
  |none=>none
 |none=>none
def P0(t:TypeId)(b:List (Nat×Operand)):Option D:=
 match lk T.build t,evp τ b with
 |some (z,bk),some a=>(nO bk.place z a).map .agg
 |_,_=>none
def BE(t:TypeId)(len:Nat)(d:List (Nat×Operand)):Option D:=
 match lk T.bs t,evp τ d with
 |some (z,a),some c=>if len*a<=16777216 then(nO (λi=>some (i*a,a)) (kH z len) c).map λb=>.list b len true else none
 |_,_=>none
def Pr(b:Bool)(cs:List D):Option D:=if b then some (.agg cs) else match cs with|[x]=>some x|_=>none
def K3(t:TypeId)(x:Operand):Option D:=
 match lk T.ld t,ev τ x with
 |some (n,b),some d=>if b=true∨n=1 then(match ne σ d n with|some a=>Pr b a|none=>none) else none
 |_,_=>none
def P1(t:TypeId)(p x:Operand):Option (List ak):=
 match lk T.ld t,ev τ p,ev τ x with
 |some (n,_),some d,some e=>match e.cells? with
  |some a=>if a.length=n then vB σ d a else none
  |none=>none
 |_,_,_=>none
def BF(x:Operand):Option D:=
 match ev τ x with
 |some (.ptr l u o)=>some (.ptr l u o)
 |some (.rptr c o)=>some (.rptr c o)
 |some (.iface t v)=>some (.iface t v)
 |some .anyi=>some .anyi
 |some (.func (.func f) a b)=>some (.func (.func f) a b)
 |_=>none
def Ur(a:BinOp)(t:TypeId)(x y:Operand):Option D:=
 match ev τ x,ev τ y with
 |some d,some e=>Es (lk T.eq t) a (Er x||Er y) d e
 |_,_=>none
def oUn(a:UnOp)(x:Operand):Option D:=
 match ev τ x with
 |some d=>unD a d
 |none=>none
def Us(s t:TypeId)(x:Operand):Option D:=
 match lk2 T.conv s t,ev τ x with
 |some ck,some d=>t7 σ ck d
 |_,_=>none
def P2(t:TypeId)(x:Operand):Option D:=
 match ev τ x with
 |some d=>match lk T.conc t with|some _=>some (.iface t d)|none=>none
 |none=>none
def Ut(fn:Fn)(a b:List Operand):Option D:=
 match evs τ a,evs τ b with
 |some c,some d=>some (.func fn c d)
 |_,_=>none
def DA(t:TypeId)(l c:Operand):Option (D×List ak):=
 match ev τ l,ev τ c with
 |some d,some e=>Py (lk T.bs t) (lk T.msl t) σ d e
 |_,_=>none
def Ps(x:D)(l h:Option Int):Option D:=
 match x with
 |.str s=>match pk s.length true l h none with
  |some (l,h,_)=>some (.str ((s.take h).drop l))
  |none=>none
 |_=>none
def P3(t:TypeId)(x:Operand)(c b mx:Option Operand):Option D:=
 match lk T.sli t,ev τ x,evo τ c,evo τ b,evo τ mx with
 |some sk,some d,some l,some h,some m=>match ri l,ri h,ri m with
  |some l,some h,some m=>match sk with
   |.slice a=>zY a d l h m
   |.string=>(match m with|none=>Ps d l h|some _=>none)
   |.array n a=>match ne σ d (n*a) with
    |some _=>Hb n a d l h m
    |none=>none
  |_,_,_=>none
 |_,_,_,_,_=>none
def DB(s:TypeId)(x:Operand)(f:Nat):Option D:=
 match lk2 T.fld s f,ev τ x with
 |some off,some d=>tW d off
 |_,_=>none
def P4(s:TypeId)(x:Operand)(f:Nat):Option D:=
 match lk2 T.fldV s f,ev τ x with
 |some (off,n,b),some (.agg a)=>ym a off n b
 |_,_=>none
def DC(t:TypeId)(x i:Operand):Option D:=
 match lk T.idx t,ev τ x,ev τ i with
 |some b,some d,some e=>match mI e with
  |some n=>match b with
   |.slice a=>Eo a d n
   |.array len a=>if 0<=n/\n<len then tW d (n.toNat*a) else none
  |none=>none
 |_,_,_=>none
def Uu(s:List UInt8)(n:Int):Option D:=
 if 0<=n then(match s[n.toNat]? with|some b=>some (.int .u8 b.toNat)|none=>none) else none
def K4(t:TypeId)(x i:Operand):Option D:=
 match lk T.idxV t,ev τ x,ev τ i with
 |some f,some d,some e=>match mI e with
  |some n=>match f,d with
   |.string,.str s=>Uu s n
   |.array len a b,.agg c=>if 0<=n/\n<len then ym c (n.toNat*a) a b else none
   |_,_=>none
  |none=>none
 |_,_,_=>none
def H5(t:TypeId)(m k:Operand)(ok:Bool):Option D:=
 match lk T.map t,ev τ m,ev τ k with
 |some (a,z),some d,some e=>yp σ a z ok d e
 |_,_,_=>none
def MM(t:TypeId)(m k x:Operand):Option (List ak):=
 match lk T.map t,ev τ m,ev τ k,ev τ x with
 |some (a,_),some d,some e,some y=>QX σ a d e y
 |_,_,_,_=>none
def P5(t:TypeId)(x:Operand):Option (D×List ak):=
 match ev τ x with
 |some (.str s)=>match lk T.sli t with
  |some .string=>some (.ptr σ.length 0 0,σ++[.siter s 0])
  |_=>none
 |some (.cmap a b)=>match lk T.map t with
  |some _=>some (.ptr σ.length 0 0,σ++[.miter a b (List.range a.length) none])
  |none=>none
 |_=>none
def P6(a:Operand):Option D:=
 match ev τ a with
 |some d=>LC σ d
 |none=>none
def JC(x:Operand)(i:Nat):Option D:=
 match ev τ x with
 |some (.tuple a)=>a[i]?
 |_=>none
def YA:List Operand->List TypeId->Option (D×List ak)
 |[x],[t]=>match lk T.len t,ev τ x with
  |some k,some d=>(J8 k d).map λ(n:Nat)=>(.int .i64 n,σ)
  |_,_=>none
 |_,_=>none
def oW:List Operand->List TypeId->Option (D×List ak)
 |[s,x],[t,c]=>match lk2 T.app t c,ev τ s,ev τ x with
  |some (b,a),some d,some e=>Hc σ b a d e
  |_,_,_=>none
 |_,_=>none
def oMM(mx:Bool)(xs:List Operand):Option (D×List ak):=
 match evs τ xs with
 |some a=>(mmL mx a).map (·,σ)
 |none=>none
def yV(b:Builtin)(args:List Operand)(a:List TypeId):Option (D×List ak):=
 match b with
 |.len=>YA T τ σ args a
 |.append=>oW T τ σ args a
 |.max=>oMM τ σ true args
 |.min=>oMM τ σ false args
 |_=>none
def aop(g:Op):Option (D×List ak):=
 match g with
 |.move x=>(ev τ x).map (·,σ)
 |.assign x=>(ev τ x).map (·,σ)
 |.pick c a b=>(Pq τ c a b).map (·,σ)
 |.alloc e=>(lk T.zero e).map λn=>(.ptr σ.length 0 0,σ++[.cells n 0 0])
 |.box _ x=>Yz τ σ x
 |.build t j=>(P0 T τ t j.toList).map (·,σ)
 |.buildSlice t len j=>(BE T τ t len j.toList).map (·,σ)
 |.load t x=>(K3 T τ σ t x).map (·,σ)
 |.store t p x=>(P1 T τ σ t p x).map (.junk,·)
 |.nilCheck x=>(BF τ x).map (·,σ)
 |.binOp g t x y _=>(Ur T τ g t x y).map (·,σ)
 |.unOp g _ x=>(oUn τ g x).map (·,σ)
 |.convert s t x=>(Us T τ σ s t x).map (·,σ)
 |.makeInterface t x=>(P2 T τ t x).map (·,σ)
 |.makeFunc o a b=>(Ut τ o a.toList b.toList).map (·,σ)
 |.makeMap _ none=>some (.map σ.length,σ++[.map [] []])
 |.makeSlice t l c=>DA T τ σ t l c
 |.slice t x r q u=>(P3 T τ σ t x r q u).map (·,σ)
 |.fieldAddr s x f=>(DB T τ s x f).map (·,σ)
 |.field s x f=>(P4 T τ s x f).map (·,σ)
 |.indexAddr t x i=>(DC T τ t x i).map (·,σ)
 |.index t x i=>(K4 T τ t x i).map (·,σ)
 |.lookup t m k ok=>(H5 T τ σ t m k ok).map (·,σ)
 |.mapUpdate t m k x=>(MM T τ σ t m k x).map (.junk,·)
 |.insert t m k x=>(MM T τ σ t m k x).map (.junk,·)
 |.range t x=>P5 T τ σ t x
 |.next h true=>match ev τ h with
  |some d=>zW σ d
  |none=>none
 |.entry h=>(P6 τ σ h).map (·,σ)
 |.extract x i=>(JC τ x i).map (·,σ)
 |.call c=>match c.callee with
  |.builtin b=>yV T τ σ b c.args.toList c.argTypes.toList
  |_=>none
 |_=>none
end
end Go.Fw
def akT:=@List.map_toArray
namespace Go.Fw
open Go.RowKit
section
variable {P:Program}{T:Tys}{B:dQ P}{G:Gh}{σ σ' :List ak}{w:World}{N:Nat}{τ:List (Nat×D)}{a:Act}{d:D}
def Cd{s:Sem Value}{u:Value}{c:World}{G':Gh}(h:s.run P w=.ok u c)(b:G.Le G')(e:Rel B G' σ' c)(hd:Rep G' d u):
 Out B G d σ' ((do pure (Next.value (<-s)):Sem Next).run P w):=
 ⟨u,c,G',.inl (by simp[h]),b,e,hd⟩
def gO{s:Sem Value}(b:Rel B G σ w)(h:∃u,s.run P w=.ok u w/\Rep G d u):Out B G d σ ((do pure (Next.value (<-s)):Sem Next).run P w):=by
 obtain⟨u,e,c⟩:=h;exact Cd e (.refl G) b c
def vg{s:Sem Value}(h:∃u e b,s.run P w=.ok u e/\G.Le b/\Rel B b σ' e/\Rep b d u):Out B G d σ' ((do pure (Next.value (<-s)):Sem Next).run P w):=by
 obtain⟨u,e,b,i,c,f,g⟩:=h;exact Cd i c f g
def JD{s:Sem Unit}(h:∃b,s.run P w=.ok () b/\Rel B G σ' b):Out B G .junk σ' ((do s;pure Next.skip:Sem Next).run P w):=by
 obtain⟨b,e,c⟩:=h;exact⟨undef,b,G,.inr ⟨by simp[e],rfl⟩,.refl G,c,by simp only[Rep]⟩
def map_some{α c:Type}{x:Option α}{f:α->c}{b:c}(h:x.map f=some b):∃a,x=some a/\f a=b:=by
 cases x with
 |none=>cases h
 |some a=>exact⟨a,rfl,by simpa using h⟩
def nT{x:Option D}(h:x.map (·,σ)=some (d,σ')):x=some d/\σ'=σ:=by
 obtain⟨a,b,c⟩:=map_some h;cases c;exact⟨b,rfl⟩
def YB{x:Option (List ak)}(h:x.map (D.junk,·)=some (d,σ')):x=some σ'/\d=.junk:=by
 obtain⟨a,b,c⟩:=map_some h;cases c;exact⟨b,rfl⟩
def abR{t:TypeId}{sz:Nat}(h:(vA P t).map (λx=>SK.slice x.1)=some (.slice sz)):∃c,vA P t=some (sz,c):=by
 obtain⟨⟨s,b⟩,e,f⟩:=map_some h;cases f;exact⟨b,e⟩
def Ce:Value->Bool
 |.int _ _=>false
 |.float _ _=>false
 |.complex _ _ _=>false
 |.string _=>false
 |_=>true
def Te{t:TypeId}{u v:Value}(h:Ce u=true):(binOp .eql t u v).run P w=((Op.equal t u v).run P w).andThen λr b=>.ok (.bool r) b:=by
 cases u<;>first|(simp[Ce]at h;done)|(simp only[binOp];simp)
def abS{t:TypeId}{u v:Value}(h:Ce u=true):(binOp .neq t u v).run P w=((Op.equal t u v).run P w).andThen λr b=>.ok (.bool (!r)) b:=by
 cases u<;>first|(simp[Ce]at h;done)|(simp only[binOp];simp)
def adB(p:TOk T P)(E:gF G N τ a){o:BinOp}{t:TypeId}{x y:Operand}(h:Ur T τ o t x y=some d):
 ∃u,(do eqGuard o t x y (a.eval x) (a.eval y);binOp o t (a.eval x) (a.eval y):Sem Value).run P w=.ok u w/\Rep G d u:=by
 unfold Ur at h;split at h<;>try (cases h;done)
 rename_i l m I J;have e:=cL E I;have g:=cL E J;generalize a.eval x=u at e;generalize a.eval y=v at g;unfold Es at h;split at h
 ·simp only[Rep]at e g;subst e g;obtain⟨r,i,k⟩:=aeg (P:=P) (G:=G) (w:=w) t h;refine⟨r,?_,k⟩;rw[ahX,tZ (λ_ _=>.inl (by simp)) (.inl (by simp))];exact i
 ·simp only[Rep]at e g;subst e g;obtain⟨r,i,k⟩:=aeh (P:=P) (G:=G) (w:=w) t h;refine⟨r,?_,k⟩;rw[ahX,tZ (λ_ _=>.inl (by simp)) (.inl (by simp))];exact i
 ·rename_i F H;have s:∀(n:EK)(r:Bool),Ni P t=some n->eqD (Er x||Er y) n l m=some r->(eqGuard o t x y u v).run P w=.ok () w/\(Op.equal t u v).run P w=.ok r w/\Ce u=true:=by
   intro n r j i;have f:=aei (P:=P) (G:=G) (w:=w) j i e g;have b:(∀L O,u≠.agg L∨v≠.agg O)->(u≠.nilIface∨v≠.nilIface)->(eqGuard o t x y u v).run P w=.ok () w:=tZ;cases n with
   |prim=>cases l<;>cases m<;>simp only[eqD]at i<;>cases i
   |bool=>
    cases l<;>cases m<;>simp only[eqD]at i<;>try (cases i;done)
    simp only[Rep]at e g;subst e g;exact⟨b (λ_ _=>.inl (by simp)) (.inl (by simp)),f,rfl⟩
   |flat Q=>
    cases l<;>cases m<;>simp only[eqD]at i<;>try (cases i;done)
    simp only[Rep]at e g;obtain⟨K,rfl,_⟩:=e;obtain⟨M,rfl,_⟩:=g;have z:P.eqGuardType P.depth t=false:=by
     unfold Ni at j;split at j<;>try (cases j;done)
     split at j<;>try (cases j;done)
     rename_i z;exact z
    exact⟨run_eqGuard_agg w o t x y K M z,f,rfl⟩
   |iface=>
    cases l<;>cases m<;>simp only[eqD]at i<;>try (cases i;done)
    all_goals simp only[Rep]at e g
    ·obtain⟨_,rfl,_⟩:=e;subst g;exact⟨b (λ_ _=>.inl (by simp)) (.inl (by simp)),f,rfl⟩
    ·obtain⟨_,rfl,_⟩:=g;subst e;exact⟨b (λ_ _=>.inl (by simp)) (.inr (by simp)),f,rfl⟩
    ·subst e g;refine⟨?_,f,rfl⟩;split at i<;>try (cases i;done)
     rename_i q;unfold eqGuard;cases o<;>first|rfl|skip
     all_goals
      cases x<;>cases y<;>first|rfl|(simp[Er]at q)
    ·obtain⟨_,_,rfl⟩:=g;subst e;exact⟨b (λ_ _=>.inl (by simp)) (.inr (by simp)),f,rfl⟩
    ·obtain⟨_,_,rfl⟩:=e;subst g;exact⟨b (λ_ _=>.inl (by simp)) (.inl (by simp)),f,rfl⟩
   |ptr=>
    cases l<;>cases m<;>simp only[eqD]at i<;>try (cases i;done)
    all_goals simp only[Rep]at e g
    ·subst e g;exact⟨b (λ_ _=>.inl (by simp)) (.inl (by simp)),f,rfl⟩
    ·subst e;exact⟨b (λ_ _=>.inl (by simp)) (.inl (by simp)),f,rfl⟩
    ·subst e;exact⟨b (λ_ _=>.inl (by simp)) (.inl (by simp)),f,rfl⟩
    ·obtain⟨_,_,rfl⟩:=e;exact⟨b (λ_ _=>.inl (by simp)) (.inl (by simp)),f,rfl⟩
    ·obtain⟨_,_,rfl,_⟩:=e;exact⟨b (λ_ _=>.inl (by simp)) (.inl (by simp)),f,rfl⟩
   |func=>
    cases l<;>cases m<;>simp only[eqD]at i<;>try (cases i;done)
    all_goals simp only[Rep]at e g
    ·obtain⟨_,_,rfl,_⟩:=e;exact⟨b (λ_ _=>.inl (by simp)) (.inl (by simp)),f,rfl⟩
    ·subst e;exact⟨b (λ_ _=>.inl (by simp)) (.inl (by simp)),f,rfl⟩
    ·subst e;exact⟨b (λ_ _=>.inl (by simp)) (.inl (by simp)),f,rfl⟩
   |map=>
    cases l<;>cases m<;>simp only[eqD]at i<;>try (cases i;done)
    all_goals simp only[Rep]at e g
    ·obtain⟨_,_,rfl⟩:=e;exact⟨b (λ_ _=>.inl (by simp)) (.inl (by simp)),f,rfl⟩
    ·subst e;exact⟨b (λ_ _=>.inl (by simp)) (.inl (by simp)),f,rfl⟩
    ·subst e;exact⟨b (λ_ _=>.inl (by simp)) (.inl (by simp)),f,rfl⟩
    ·subst e;exact⟨b (λ_ _=>.inl (by simp)) (.inl (by simp)),f,rfl⟩
    ·obtain⟨_,_,rfl,_⟩:=e;exact⟨b (λ_ _=>.inl (by simp)) (.inl (by simp)),f,rfl⟩
  split at h<;>try (cases h;done)
  ·rename_i n j;obtain⟨r,i,rfl⟩:=map_some h;obtain⟨A,C,D⟩:=s n r (jM p.eq j) i;refine⟨.bool r,?_,by simp only[Rep]⟩;rw[ahX,A,ahQ,Te D,C];rfl
  ·rename_i n j;obtain⟨r,i,rfl⟩:=map_some h;obtain⟨A,C,D⟩:=s n r (jM p.eq j) i;refine⟨.bool (!r),?_,by simp only[Rep]⟩;rw[ahX,A,ahQ,abS D,C];rfl
set_option maxHeartbeats 1000000 in
def adC(F:TOk T P)(E:Rel B G σ w)(D:gF G N τ a)(o:Oper)(h:aop T τ σ o.op=some (d,σ')):Out B G d σ' ((execOp a.eval o).run P w):=by
 obtain⟨m8,op,ty,n6,j7,guard⟩:=o;simp only at h;unfold execOp;cases op<;>simp only[aop]at h⊢<;>try (cases h;done)
 case move x=>
  obtain⟨g,rfl⟩:=nT h;exact .here E (cL D g)
 case assign x=>
  obtain⟨g,rfl⟩:=nT h;exact .here E (cL D g)
 case pick c x y=>
  obtain⟨g,rfl⟩:=nT h;unfold Pq at g;split at g<;>try (cases g;done)
  rename_i r hc;have j4:=cL D hc;simp only[Rep]at j4;simp only[j4,asBool,ahX,aia,ahQ];cases r
  ·exact .here E (cL D g)
  ·exact .here E (cL D g)
 case alloc e=>
  obtain⟨cs,hz,J⟩:=map_some h;cases J;have hz:=jM F.zero hz;obtain⟨w',G',v,Z,J,h3,h4⟩:=Zj E hz;exact Cd Z J h3 h4
 case box e x=>
  unfold Yz at h;split at h<;>try (cases h;done)
  rename_i X g;split at h<;>try (cases h;done)
  rename_i cs R;cases h;obtain⟨w',G',v,Z,J,h3,h4⟩:=aec (P:=P) (t:=e) E R (cL D g);exact Cd Z J h3 h4
 case build t ps=>
  obtain⟨g,rfl⟩:=nT h;unfold P0 at g;split at g<;>try (cases g;done)
  rename_i z bk ds V hp;have V:=jM F.build V;obtain⟨m7,hf,rfl⟩:=map_some g;obtain⟨hl,f9⟩:=KZ D hp;refine gO E (Zl V hf (by simpa using hl) (λj i d hj=> ?_));obtain⟨v,hv,U⟩:=f9 j i d hj;exact⟨v,by simpa using hv,U⟩
 case buildSlice t len ps=>
  obtain⟨g,rfl⟩:=nT h;unfold BE at g;split at g<;>try (cases g;done)
  rename_i z sz ds V hp;have V:=jM F.bs V;split at g<;>try (cases g;done)
  rename_i j5;obtain⟨m7,hf,rfl⟩:=map_some g;obtain⟨hl,f9⟩:=KZ D hp;refine vg (Pm E V j5 hf (by simpa using hl) (λj i d hj=> ?_));obtain⟨v,hv,U⟩:=f9 j i d hj;exact⟨v,by simpa using hv,U⟩
 case load t x=>
  obtain⟨g,rfl⟩:=nT h;unfold K3 at g;split at g<;>try (cases g;done)
  rename_i n b X H q;have H:=jM F.ld H;split at g<;>try (cases g;done)
  rename_i hb;split at g<;>try (cases g;done)
  rename_i cs R;obtain⟨u,W,I⟩:=Tl E H (cL D q) R hb;refine gO E ⟨u,W,?_⟩;unfold Pr at g;cases b with
  |true=>simp only[aiG,ahI]at g I;subst g;exact I
  |false=>
   simp only[aiy,aiB]at g I;obtain⟨y,rfl,hy⟩:=I;simp only[ahI]at g;subst g;exact hy
 case store t p x=>
  obtain⟨g,rfl⟩:=YB h;unfold P1 at g;split at g<;>try (cases g;done)
  rename_i n b dp X H j9 q;have H:=jM F.ld H;split at g<;>try (cases g;done)
  rename_i cs R;split at g<;>try (cases g;done)
  rename_i hn;exact JD (Zi E H R hn g (cL D j9) (cL D q))
 case nilCheck x=>
  obtain⟨g,rfl⟩:=nT h;unfold BF at g;split at g<;>try (cases g;done)
  all_goals
   rename_i q;cases g;have U:=cL D q;have M:=U;simp only[Rep]at U
  ·obtain⟨b,_,he⟩:=U;rw[he]at M⊢;exact .here E M
  ·obtain⟨b,_,he,_⟩:=U;rw[he]at M⊢;exact .here E M
  ·obtain⟨b,he,_⟩:=U;rw[he]at M⊢;exact .here E M
  ·obtain⟨b,_,he⟩:=U;rw[he]at M⊢;exact .here E M
  ·obtain⟨b,_,he,_⟩:=U;rw[he]at M⊢;exact .here E M
 case binOp op t x y yt=>
  obtain⟨g,rfl⟩:=nT h;exact gO E (adB F D g)
 case unOp op t x=>
  obtain⟨g,rfl⟩:=nT h;unfold oUn at g;split at g<;>try (cases g;done)
  rename_i X q;exact gO E (afA g (cL D q))
 case convert s t x=>
  obtain⟨g,rfl⟩:=nT h;unfold Us at g;split at g<;>try (cases g;done)
  rename_i ck X H q;have H:=K1 F.conv H;exact vg (ab3 E H g (cL D q))
 case makeInterface t x=>
  obtain⟨g,rfl⟩:=nT h;unfold P2 at g;split at g<;>try (cases g;done)
  rename_i X q;split at g<;>try (cases g;done)
  rename_i hc0 hc;cases g;have hc:yn P t=true:=by
   have:=jM F.conc hc;unfold PY at this;split at this<;>first|assumption|cases this
  exact gO E ⟨_,UV hc _,by simp only[Rep];exact⟨_,rfl,cL D q⟩⟩
 case makeFunc fn fs cs=>
  obtain⟨g,rfl⟩:=nT h;unfold Ut at g;split at g<;>try (cases g;done)
  rename_i ds es Z J;cases g;refine gO E ⟨_,rfl,?_⟩;simp only[Rep];exact⟨_,_,rfl,by simpa using yU D Z,by simpa using yU D J⟩
 case makeMap t r=>
  cases r with
  |some r=>simp only[]at h;cases h
  |none=>
   simp only[ahI,ah3]at h;obtain⟨rfl,rfl⟩:=h;exact vg (UW E t)
 case makeSlice t l c=>
  unfold DA at h;split at h<;>try (cases h;done)
  rename_i dl dc hl hc;exact vg (QS E (λ_ h=>jM F.bs h) (λ_ h=>jM F.msl h) h (cL D hl) (cL D hc))
 case slice t x lo hi mx=>
  obtain⟨g,rfl⟩:=nT h;unfold P3 at g;split at g<;>try (cases g;done)
  rename_i sk X dl dh dm A q hl hh hm;have A:=jM F.sli A;split at g<;>try (cases g;done)
  rename_i l h' m ol oh om;have vl:=Ha ol (PW D hl);have vh:=Ha oh (PW D hh);have vm:=Ha om (PW D hm);have L:=cL D q;split at g
  ·rename_i sz;unfold yC at A;split at A<;>try (cases A;done)
   ·obtain⟨j8,m5⟩:=abR A;exact gO E (Zm m5 g vl vh vm L)
   ·split at A<;>try (cases A;done)
    split at A<;>cases A
  ·unfold yC at A;split at A<;>try (cases A;done)
   ·rename_i W;split at g<;>try (cases g;done)
    unfold Ps at g;split at g<;>try (cases g;done)
    rename_i s;split at g<;>try (cases g;done)
    rename_i l2 J f hb;cases g;simp only[Rep]at L;rw[L];generalize Option.map a.eval mx=mv at vm⊢;cases vm;exact gO E ⟨_,SR W hb vl vh,by simp only[Rep]⟩
   ·obtain⟨_,_,J⟩:=map_some A;cases J
   ·split at A<;>try (cases A;done)
    split at A<;>cases A
  ·rename_i n sz;split at g<;>try (cases g;done)
   rename_i cs R;unfold yC at A;split at A<;>try (cases A;done)
   ·obtain⟨_,_,J⟩:=map_some A;cases J
   ·split at A<;>try (cases A;done)
    rename_i n' n7 k9;split at A<;>try (cases A;done)
    rename_i hn;cases A;exact gO E (SS E k9 hn R g vl vh vm L)
 case fieldAddr s x f=>
  obtain⟨g,rfl⟩:=nT h;unfold DB at g;split at g<;>try (cases g;done)
  rename_i m6 X H q;have H:=K1 F.fld H;exact gO E (UQ H g (cL D q))
 case field s x f=>
  obtain⟨g,rfl⟩:=nT h;unfold P4 at g;split at g<;>try (cases g;done)
  rename_i m6 n b cs H q;have H:=K1 F.fldV H;exact gO E (Zk H g (cL D q))
 case indexAddr t x i=>
  obtain⟨g,rfl⟩:=nT h;unfold DC at g;split at g<;>try (cases g;done)
  rename_i ik X di C q O;have C:=jM F.idx C;split at g<;>try (cases g;done)
  rename_i n hn;split at g
  ·unfold Po at C;split at C<;>try (cases C;done)
   ·obtain⟨⟨s,b⟩,Z,J⟩:=map_some C;cases J;exact gO E (QT Z hn g (cL D q) (cL D O))
   ·obtain⟨_,_,J⟩:=map_some C;cases J
  ·unfold Po at C;split at C<;>try (cases C;done)
   ·obtain⟨_,_,J⟩:=map_some C;cases J
   ·obtain⟨⟨l,s⟩,Z,J⟩:=map_some C;cases J;split at g<;>try (cases g;done)
    rename_i hb;exact gO E (Pl Z hn hb.1 hb.2 g (cL D q) (cL D O))
 case index t x i=>
  obtain⟨g,rfl⟩:=nT h;unfold K4 at g;split at g<;>try (cases g;done)
  rename_i ik X di C q O;have C:=jM F.idxV C;split at g<;>try (cases g;done)
  rename_i n hn;have L:=cL D q;split at g<;>try (cases g;done)
  ·rename_i s;unfold K0 at C;split at C<;>try (cases C;done)
   ·rename_i W;unfold Uu at g;split at g<;>try (cases g;done)
    rename_i h0;split at g<;>try (cases g;done)
    rename_i b hb;cases g;simp only[Rep]at L;rw[L];exact gO E (SP W hn h0 hb (cL D O))
   ·split at C<;>cases C
  ·rename_i len sz b cs;split at g<;>try (cases g;done)
   rename_i hb;unfold K0 at C;split at C<;>try (cases C;done)
   rename_i e W;split at C<;>try (cases C;done)
   rename_i n' b' he;cases C;exact gO E (SQ W he hn hb.1 hb.2 g L (cL D O))
 case lookup t m k ok=>
  obtain⟨g,rfl⟩:=nT h;unfold H5 at g;split at g<;>try (cases g;done)
  rename_i lk z dm dk H hm hk;have H:=jM F.map H;exact gO E (WB E H g (cL D hm) (cL D hk))
 case mapUpdate t m k x=>
  obtain⟨g,rfl⟩:=YB h;unfold MM at g;split at g<;>try (cases g;done)
  rename_i lk z dm dk X H hm hk q;have H:=jM F.map H;exact JD (Wu E H g (cL D hm) (cL D hk) (cL D q))
 case insert t m k x=>
  obtain⟨g,rfl⟩:=YB h;unfold MM at g;split at g<;>try (cases g;done)
  rename_i lk z dm dk X H hm hk q;have H:=jM F.map H;exact JD (Wu E H g (cL D hm) (cL D hk) (cL D q))
 case range t x=>
  unfold P5 at h;split at h<;>try (cases h;done)
  ·rename_i s q;split at h<;>try (cases h;done)
   rename_i K;cases h;have L:=cL D q;simp only[Rep]at L;have K:=jM F.sli K;unfold yC at K;split at K
   ·rename_i W;rw[L];exact vg (SL E W s)
   ·obtain⟨_,_,J⟩:=map_some K;cases J
   ·split at K<;>try (cases K;done)
    split at K<;>cases K
   ·cases K
  ·rename_i ks vs q;split at h<;>try (cases h;done)
   rename_i lz K;cases h;obtain⟨m9,z⟩:=lz;obtain⟨k,e,kd,i,v,W,_⟩:=Bj (jM F.map K);exact vg (SN E W (cL D q))
 case entry it=>
  obtain⟨g,rfl⟩:=nT h;unfold P6 at g;split at g<;>try (cases g;done)
  rename_i di O;exact gO E (SO E g (cL D O))
 case next it isS=>
  cases isS with
  |false=>simp only[]at h;cases h
  |true=>
   simp only at h;split at h<;>try (cases h;done)
   rename_i di O;obtain⟨u,w',Z,J,h3⟩:=UO (P:=P) E ty h (cL D O);exact Cd Z (.refl G) J h3
 case extract x i=>
  obtain⟨g,rfl⟩:=nT h;unfold JC at g;split at g<;>try (cases g;done)
  rename_i ds S;exact gO E (UU g (cL D S))
 case call c=>
  obtain⟨f7,Y,Q⟩:=c;cases f7<;>simp only[]at h<;>try (cases h;done)
  rename_i b;simp only[resolve,ahX,aia,ahQ,invoke];unfold yV at h;generalize f8:Y.toList=al at h;generalize j6:Q.toList=tl at h;split at h<;>try (cases h;done)
  ·unfold YA at h;split at h<;>try (cases h;done)
   rename_i x t;split at h<;>try (cases h;done)
   rename_i k X hk q;have hk:=jM F.len hk;obtain⟨n,hn,J⟩:=map_some h;cases J;have ha:Y= #[x]:=by apply ajP;simpa using f8
   have H:Q= #[t]:=by apply ajP;simpa using j6
   subst ha H;simp only[builtin,akT,ahU,ai0];have I:Rep G (.int .i64 (n:Int)) (.int .i64 (n:Int)):=by simp only[Rep]
   exact gO E ⟨.int .i64 n,aee hk hn (cL D q),I⟩
  ·unfold oW at h;split at h<;>try (cases h;done)
   rename_i s x t tx;split at h<;>try (cases h;done)
   rename_i sz j8 ds X j3 S q;have j3:=K1 F.app j3;have ha:Y= #[s,x]:=by apply ajP;simpa using f8
   have H:Q= #[t,tx]:=by apply ajP;simpa using j6
   subst ha H;simp only[builtin,akT,ahU,ai0];exact vg (WA E j3 h (cL D S) (cL D q))
  ·unfold oMM at h;split at h<;>try (cases h;done)
   rename_i ds S;obtain⟨r,U,J⟩:=map_some h;cases J;obtain⟨u,W,I⟩:=aek (P:=P) (w:=w) Q ty U (yU D S);refine gO (s:=Builtin.max_ Q ty _) E ⟨u,?_,I⟩;rw[<-W,<-f8];congr 2;apply ajP;simp
  ·unfold oMM at h;split at h<;>try (cases h;done)
   rename_i ds S;obtain⟨r,U,J⟩:=map_some h;cases J;obtain⟨u,W,I⟩:=ael (P:=P) (w:=w) Q ty U (yU D S);refine gO (s:=Builtin.min_ Q ty _) E ⟨u,?_,I⟩;rw[<-W,<-f8];congr 2;apply ajP;simp
end
end Go.Fw
def aiI:=@Option.some.inj
def ai4:=@List.getElem?_eq_some_iff
namespace Go.Fw
open Go.RowKit
section
variable {P:Program}{B:dQ P}{G:Gh}{σ σ' :List ak}{w:World}
def Rel.frzUp(c:Rel B G σ w){l frz u:Nat}{cs:List D}(i:σ[l]?=some (.cells cs frz u)):Rel B G (σ.set l (.cells cs cs.length u)) w:=by
 have j:l<σ.length:=(ai4.1 i).1;have look:∀{a:Nat}{d:ak},(σ.set l (.cells cs cs.length u))[a]?=some d->(a=l/\d=.cells cs cs.length u)∨(a≠l/\σ[a]?=some d):=by
  intro a d h;by_cases e:a=l
  ·subst e;rw[aiA j]at h;exact .inl ⟨rfl,(aiI h).symm⟩
  ·rw[aim (ajm e)]at h;exact .inr ⟨e,h⟩
 refine⟨c.below,c.imm,c.mimm,c.siz,λa n b f=> ?_,c.inj,λa d b g f=> ?_,λa p k n b g f o v m=> ?_,λa r s b g f=> ?_,λa d g=> ?_,λa d g=> ?_,c.bimm,c.bmimm⟩
 ·rw[ajB];exact c.blk a n b f
 ·rcases look g with⟨rfl,rfl⟩|⟨_,h⟩
  ·exact c.obj a (.cells cs frz u) b i f
  ·exact c.obj a d b h f
 ·rcases look g with⟨rfl,h⟩|⟨_,h⟩
  ·cases h;exact aiu (c.own a _ _ _ b i f o v m) (c.frzle a _ i)
  ·exact c.own a _ _ _ b h f o v m
 ·rcases look g with⟨_,h⟩|⟨_,h⟩
  ·cases h
  ·exact c.ownm a r s b h f
 ·rcases look g with⟨rfl,rfl⟩|⟨_,h⟩
  ·have q:=c.ver a _ i;exact q
  ·exact c.ver a d h
 ·rcases look g with⟨_,rfl⟩|⟨_,h⟩
  ·exact ahO _
  ·exact c.frzle a d h
def AN(g:Rel B G σ w){l u o n sz frz:Nat}{s:Bool}{cs:List D}{v:Value}(z:σ[l]?=some (.cells cs frz u))(T:o+n*sz<=cs.length)(V:Rep G (.sl l u o n sz s) v):
 ∃c,G.Le c/\Rel B c (σ.set l (.cells cs cs.length u)) w/\Rep c (.list ((cs.drop o).take (n*sz)) n s) v:=by
 simp only[Rep]at V;rcases V with⟨b,I,f8,E,rfl,Z,h2,h3,h4,h5⟩|⟨rfl,a,rfl⟩
 ·obtain⟨H,Y,Q,o2,tl,m,W,R⟩:=g.obj _ _ b z E;have f7:=R.length;have i:∀j v,m[j]?=some v->w.cell? ⟨b,j,none⟩=some v:=by
   intro j v t;have L:j<m.length:=by
    rcases ahW j m.length with J|J
    ·exact J
    ·rw[ahZ J]at t;cases t
   unfold World.cell?;rw[Q];show H[j]?=some v;have:H[j]?=H.toList[j]? :=by simp
   rw[this,W,ahP L];exact t
  let c:Gh:={G with imm:=λy j=>if y=b/\j<m.length then m[j]? else G.imm y j};have q:G.Le c:=by
   refine⟨λy j v f=> ?_,λ_ _ x=>x,λ_ _ _ x=>x,λ_ _ x=>x⟩;by_cases e:y=b/\j<m.length
   ·obtain⟨rfl,t⟩:=e;have F:=g.imm _ _ _ f;have:=i j _ (ahG t);rw[F]at this;cases this;simp[c,t]
   ·simp only[c,e,aiB];exact f
  have M:G.mimm b=none:=by
   cases hm:G.mimm b with
   |none=>rfl
   |some es=>
    obtain⟨F,_⟩:=g.mimm _ _ hm;rw[Q]at F;cases F
  refine⟨c,q,?_,?_⟩
  ·refine g.update z E q (λ_ _ _ x=>.inl x) E ?_ rfl rfl g.below rfl (λ_ _=>rfl) (λk hk=>g.siz b k hk) M ?_ ?_ ⟨ahO _,(g.ver _ _ z).1⟩ (ahO _)
   ·intro y j v f;by_cases e:y=b/\j<m.length
    ·obtain⟨rfl,t⟩:=e;simp only[c,t,and_self,aiG]at f;exact⟨i j v f,λh=>absurd rfl h⟩
    ·simp only[c,e,aiB]at f;exact⟨g.imm _ _ _ f,λ_=>f⟩
   ·exact⟨H,Y,Q,o2,tl,m,W,af.mono q _ _ R⟩
   ·intro X S u' e j v f;cases e;by_cases e:j<m.length
    ·omega
    ·have f:G.imm b j=some v:=by simpa[c,e] using f
     have h6:=g.own _ _ _ _ _ z E j v f;have h7:=g.frzle _ _ z;simp only[ak.frz,ak.len]at h7;omega
  ·simp only[Rep];refine⟨_,I,rfl,Z,h2,h3,.inl ⟨b,o,rfl,?_⟩⟩;have O:∀(A:List D)(p r:List Value),m=p++r->af c A r->Cells c b p.length A:=by
    intro A;induction A with
    |nil=>intro p r _ _;simp only[Cells]
    |cons d A ih=>
     intro p r e U;simp only[af]at U;obtain⟨v,r',rfl,K,N⟩:=U;simp only[Cells];refine⟨⟨v,by simp[c,e],K⟩,?_⟩;have:=ih (p++[v]) r' (by simp[e]) N;simpa using this
   have C:=O cs [] m rfl (af.mono q _ _ R);have:=(C.drop o).take (n*sz);simpa using this
 ·refine⟨G,.refl G,g.frzUp z,?_⟩;simp only[Rep];exact⟨a,0,rfl,ahO _,aiH _,λ_=>rfl,.inr (by simp)⟩
def Gm(σ:List ak)(d:D):Option (D×List ak):=
 match d with
 |.sl l u o n b full=>match σ[l]? with
  |some (.cells a _ c)=>if c=u/\o+n*b<=a.length then some (.list ((a.drop o).take (n*b)) n full,σ.set l (.cells a a.length u)) else none
  |_=>none
 |d=>some (d,σ)
def MQ(e:Rel B G σ w){d c:D}{v:Value}(h:Gm σ d=some (c,σ'))(f:Rep G d v):∃b,G.Le b/\Rel B b σ' w/\Rep b c v:=by
 unfold Gm at h;split at h
 ·split at h<;>try (cases h;done)
  rename_i i;split at h<;>try (cases h;done)
  rename_i g;obtain⟨rfl,a⟩:=g;cases h;exact AN e i a f
 ·cases h;exact⟨G,.refl G,e,f⟩
def vX(σ:List ak):List D->Option (List D×List ak)
 |[]=>some ([],σ)
 |d::f=>match Gm σ d with
  |some (e,b)=>match vX b f with
   |some (a,c)=>some (e::a,c)
   |none=>none
  |none=>none
def DQ:∀{ds a:List D}{G:Gh}{σ σ':List ak}{vs:List Value},Rel B G σ w->vX σ ds=some (a,σ')->af G ds vs->∃c,G.Le c/\Rel B c σ' w/\af c a vs
 |[],_,G,σ,σ',vs,hR,h,b=>by
  simp only[vX,ahI,ah3]at h;obtain⟨rfl,rfl⟩:=h;exact⟨G,.refl G,hR,b⟩
 |d::ds,_,G,σ,σ',vs,hR,h,b=>by
  simp only[vX]at h;split at h<;>try (cases h;done)
  rename_i u q k;split at h<;>try (cases h;done)
  rename_i a s l;cases h;simp only[af]at b;obtain⟨v,r,rfl,m,n⟩:=b;obtain⟨t,e,i,o⟩:=MQ hR k m;obtain⟨g,f,j,p⟩:=DQ i l (af.mono e _ _ n);exact⟨g,e.trans f,j,by simp only[af];exact⟨v,r,rfl,Rep.mono f _ _ o,p⟩⟩
def Gn(c:Rel B G σ w){l:Nat}{ks vs:List D}{v:Value}(n:σ[l]?=some (.map ks vs))(F:Rep G (.map l) v):
 ∃j,G.Le j/\Rel B j (σ.set l .gone) w/\Rep j (.cmap ks vs) v:=by
 simp only[Rep]at F;obtain⟨b,o,rfl⟩:=F;obtain⟨E,I,J,K⟩:=c.obj _ _ b n o;have y:=c.ownm _ _ _ b n o;have t:l<σ.length:=by
  rcases ahW l σ.length with r|r
  ·exact r
  ·rw[ahZ r]at n;cases n
 let j:Gh:={G with mimm:=λf=>if f=b then some E else G.mimm f};have k:G.Le j:=by
  refine⟨λ_ _ _ x=>x,λf p m=> ?_,λ_ _ _ x=>x,λ_ _ x=>x⟩;by_cases e:f=b
  ·subst e;rw[y]at m;cases m
  ·simp only[j,e,aiB];exact m
 have g:∀(a:Nat)(i:ak),(σ.set l .gone)[a]?=some i->(a=l/\i=.gone)∨(a≠l/\σ[a]?=some i):=by
  intro a i h;by_cases e:a=l
  ·subst e;rw[aiA t]at h;cases h;exact .inl ⟨rfl,rfl⟩
  ·rw[aim (ajm e)]at h;exact .inr ⟨e,h⟩
 refine⟨j,k,⟨c.below,c.imm,λf p m=> ?_,c.siz,λa u f h=> ?_,c.inj,λa i f d h=> ?_,λa H q u f d h=> ?_,λa A C f d h=> ?_,λa i d=> ?_,λa i d=> ?_,c.bimm,λf h=> ?_⟩,?_⟩
 ·by_cases e:f=b
  ·subst e;simp only[j,aiG,ahI]at m;subst m;exact I
  ·simp only[j,e,aiB]at m;exact c.mimm _ _ m
 ·rw[ajB];exact c.blk a u f h
 ·rcases g a i d with⟨rfl,rfl⟩|⟨_,d⟩
  ·exact(c.blk _ _ _ h).2.2
  ·exact(c.obj a i f d h).keep k rfl
 ·rcases g a _ d with⟨_,s⟩|⟨_,d⟩
  ·cases s
  ·exact c.own a H q u f d h
 ·rcases g a _ d with⟨_,s⟩|⟨z,d⟩
  ·cases s
  ·have:f≠b:=λe=>z (c.inj _ _ _ _ _ h (e▸o));simp only[j,this,aiB];exact c.ownm a A C f d h
 ·rcases g a i d with⟨rfl,rfl⟩|⟨_,d⟩
  ·exact⟨ahO _,(c.ver _ _ n).2⟩
  ·exact c.ver a i d
 ·rcases g a i d with⟨rfl,rfl⟩|⟨_,d⟩
  ·exact ahO _
  ·exact c.frzle a i d
 ·have:f≠b:=λe=>by have:=(c.blk _ _ _ o).2.1;omega
  simp only[j,this,aiB];exact c.bmimm f h
 ·simp only[Rep];exact⟨b,E,rfl,by simp[j],af.mono k _ _ J,af.mono k _ _ K⟩
def Qp(σ:List ak)(d:D):Option (D×List ak):=
 match d with
 |.map l=>match σ[l]? with
  |some (.map c e)=>some (.cmap c e,σ.set l .gone)
  |_=>none
 |.agg b=>match vX σ b with
  |some (a,σ')=>some (.agg a,σ')
  |none=>none
 |d=>Gm σ d
def Ti(e:Rel B G σ w){d f:D}{v:Value}(h:Qp σ d=some (f,σ'))(c:Rep G d v):∃b,G.Le b/\Rel B b σ' w/\Rep b f v:=by
 unfold Qp at h;split at h
 ·split at h<;>try (cases h;done)
  rename_i j;cases h;exact Gn e j c
 ·split at h<;>try (cases h;done)
  rename_i i;cases h;simp only[Rep]at c;obtain⟨a,rfl,k⟩:=c;obtain⟨b,l,g,m⟩:=DQ e i k;exact⟨b,l,g,by simp only[Rep];exact⟨a,rfl,m⟩⟩
 ·exact MQ e h c
def Lc(σ:List ak):List D->Option (List D×List ak)
 |[]=>some ([],σ)
 |d::f=>match Qp σ d with
  |some (e,b)=>match Lc b f with
   |some (a,c)=>some (e::a,c)
   |none=>none
  |none=>none
def Qq:∀{ds a:List D}{G:Gh}{σ σ':List ak}{vs:List Value},Rel B G σ w->Lc σ ds=some (a,σ')->af G ds vs->∃c,G.Le c/\Rel B c σ' w/\af c a vs
 |[],_,G,σ,σ',vs,hR,h,b=>by
  simp only[Lc,ahI,ah3]at h;obtain⟨rfl,rfl⟩:=h;exact⟨G,.refl G,hR,b⟩
 |d::ds,_,G,σ,σ',vs,hR,h,b=>by
  simp only[Lc]at h;split at h<;>try (cases h;done)
  rename_i u q k;split at h<;>try (cases h;done)
  rename_i a s l;cases h;simp only[af]at b;obtain⟨v,r,rfl,m,n⟩:=b;obtain⟨t,e,i,o⟩:=Ti hR k m;obtain⟨g,f,j,p⟩:=Qq i l (af.mono e _ _ n);exact⟨g,e.trans f,j,by simp only[af];exact⟨v,r,rfl,Rep.mono f _ _ o,p⟩⟩
def BI(σ:List ak)(d:D):Option (D×List ak):=
 match d with
 |.tuple b=>match Lc σ b with
  |some (a,σ')=>some (.tuple a,σ')
  |none=>none
 |d=>Qp σ d
def abW(f:Rel B G σ w){d e:D}{v:Value}(h:BI σ d=some (e,σ'))(c:Rep G d v):∃b,G.Le b/\Rel B b σ' w/\Rep b e v:=by
 unfold BI at h;split at h
 ·split at h<;>try (cases h;done)
  rename_i i;cases h;simp only[Rep]at c;obtain⟨a,rfl,j⟩:=c;obtain⟨b,k,g,l⟩:=Qq f i j;exact⟨b,k,g,by simp only[Rep];exact⟨a,rfl,l⟩⟩
 ·exact Ti f h c
end
mutual
def D.pure:D->Bool
 |.bool _=>true
 |.int _ _=>true
 |.str _=>true
 |.nilp=>true
 |.ptr _ _ _=>false
 |.rptr cs _=>cV cs
 |.list cs _ _=>cV cs
 |.sl _ _ _ _ _ _=>false
 |.map _=>false
 |.nilmap=>true
 |.cmap ks vs=>cV ks&&cV vs
 |.pmap ks vs=>cV ks&&cV vs
 |.func _ a b=>cV a&&cV b
 |.nilf=>true
 |.iface _ v=>v.pure
 |.nili=>true
 |.anyi=>true
 |.agg cs=>cV cs
 |.tuple cs=>cV cs
 |.junk=>true
def cV:List D->Bool
 |[]=>true
 |d::ds=>d.pure&&cV ds
end
mutual
def Rep.pure{G G':Gh}(hi:∀b o v,G.imm b o=some v->G'.imm b o=some v)(hm:∀b es,G.mimm b=some es->G'.mimm b=some es):∀(d:D)(v:Value),d.pure=true->Rep G d v->Rep G' d v
 |.bool _,_,_,x=>by simpa only[Rep] using x
 |.int _ _,_,_,x=>by simpa only[Rep] using x
 |.str _,_,_,x=>by simpa only[Rep] using x
 |.nilp,_,_,x=>by simpa only[Rep] using x
 |.ptr _ _ _,_,h,_=>by simp[D.pure]at h
 |.rptr cs _,_,h,x=>by
  simp only[Rep]at x⊢;simp only[D.pure]at h;obtain⟨b,o',e,r⟩:=x;exact⟨b,o',e,Cells.pure hi hm b _ cs h r⟩
 |.list cs _ _,_,h,x=>by
  simp only[Rep]at x⊢;simp only[D.pure]at h;obtain⟨a,cap,e,h1,h2,h3,h4⟩:=x;refine⟨a,cap,e,h1,h2,h3,h4.imp ?_ id⟩;rintro⟨b,o,ha,hc⟩;exact⟨b,o,ha,Cells.pure hi hm b _ cs h hc⟩
 |.sl _ _ _ _ _ _,_,h,_=>by simp[D.pure]at h
 |.map _,_,h,_=>by simp[D.pure]at h
 |.nilmap,_,_,x=>by simpa only[Rep] using x
 |.cmap ks vs,_,h,x=>by
  simp only[Rep]at x⊢;simp only[D.pure,ahF]at h;obtain⟨b,es,e,hm',h1,h2⟩:=x;exact⟨b,es,e,hm _ _ hm',af.pure hi hm ks _ h.1 h1,af.pure hi hm vs _ h.2 h2⟩
 |.pmap ks vs,_,h,x=>by
  simp only[Rep]at x⊢;simp only[D.pure,ahF]at h;obtain⟨b,es,π,e,hm',hπ,h1,h2⟩:=x;exact⟨b,es,π,e,hm _ _ hm',hπ,af.pure hi hm ks _ h.1 h1,af.pure hi hm vs _ h.2 h2⟩
 |.func _ first cap,_,h,x=>by
  simp only[Rep]at x⊢;simp only[D.pure,ahF]at h;obtain⟨f,c,e,h1,h2⟩:=x;exact⟨f,c,e,af.pure hi hm first _ h.1 h1,af.pure hi hm cap _ h.2 h2⟩
 |.nilf,_,_,x=>by simpa only[Rep] using x
 |.iface _ d,_,h,x=>by
  simp only[Rep]at x⊢;simp only[D.pure]at h;obtain⟨y,e,h1⟩:=x;exact⟨y,e,Rep.pure hi hm d _ h h1⟩
 |.nili,_,_,x=>by simpa only[Rep] using x
 |.anyi,_,_,x=>by simpa only[Rep] using x
 |.agg cs,_,h,x=>by
  simp only[Rep]at x⊢;simp only[D.pure]at h;obtain⟨a,e,h1⟩:=x;exact⟨a,e,af.pure hi hm cs _ h h1⟩
 |.tuple cs,_,h,x=>by
  simp only[Rep]at x⊢;simp only[D.pure]at h;obtain⟨a,e,h1⟩:=x;exact⟨a,e,af.pure hi hm cs _ h h1⟩
 |.junk,_,_,_=>by simp only[Rep]
def Cells.pure {G G':Gh} (hi:∀b o v,G.imm b o=some v->G'.imm b o=some v) (hm:∀b es,G.mimm b=some es->G'.mimm b=some es) (b:Nat):∀(o:Nat)(ds:List D),cV ds=true->Cells G b o ds->Cells G' b o ds
 |_,[],_,_=>by simp only[Cells]
 |o,d::ds,h,x=>by
  simp only[cV,ahF]at h;simp only[Cells]at x⊢;obtain⟨⟨v,e,r⟩,hs⟩:=x;exact⟨⟨v,hi _ _ _ e,Rep.pure hi hm d v h.1 r⟩,Cells.pure hi hm b _ ds h.2 hs⟩
def af.pure {G G':Gh} (hi:∀b o v,G.imm b o=some v->G'.imm b o=some v) (hm:∀b es,G.mimm b=some es->G'.mimm b=some es):∀(ds:List D)(vs:List Value),cV ds=true->af G ds vs->af G' ds vs
 |[],_,_,x=>by simpa only[af] using x
 |d::ds,_,h,x=>by
  simp only[cV,ahF]at h;simp only[af]at x⊢;obtain⟨v,r,e,h1,h2⟩:=x;exact⟨v,r,e,Rep.pure hi hm d v h.1 h1,af.pure hi hm ds r h.2 h2⟩
end
end Go.Fw
