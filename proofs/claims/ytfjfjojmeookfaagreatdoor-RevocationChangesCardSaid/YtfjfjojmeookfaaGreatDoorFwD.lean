/- A framework for proofs about Go programs in this model: part D. Everything is proved; no condition is added. -/
import Derived.Test.YtfjfjojmeookfaaGreatDoorFwC
set_option linter.unusedVariables false
set_option linter.unusedSimpArgs false
set_option linter.defProp false
namespace Go.Fw
abbrev Bs:=List UInt8
open Go.RowKit
section
variable {P:Program}{T:Tys}{N:Nat}{all:Array Oper}{o:Oper}{r:List Oper}{τ τ' :Env}{σ σ' :Sto}{Kt:Env→Sto→Prop}
def ZN{t ty:TypeId}{x:Operand}{cs:List D}{n:Nat}{f:Bool}{e:TypeId}(q:o.op=.binOp .eql t x (.const (.slice none 0 0)) ty)(u:P.underlying t=some (.slice e))(L:ev τ x=some (.list cs n f)):
 AOp P N o τ σ (λd s=>s=σ/\∃b:Bool,d=.bool b/\(b=true->cs=[])):=by
 intro B G w a C E next Q J
 have k:=bo E L;simp only[Rep]at k;obtain⟨g,c,K,R,S,U,A⟩:=k;have m:∃b:Bool,(Op.equal t (.slice g n c) (.slice none 0 0)).run P w=.ok b w/\(b=true->cs=[]):=by
  have p:∀x y,Op.equal t x y=Op.equalIn (9999+1) t x y:=λ_ _=>rfl;simp only[p];clear p;generalize (9999:Nat)=dep;cases g with
  |none=>
   refine⟨true,by simp[Op.equalIn,amy u],λ_=> ?_⟩;rcases A with⟨b,V,h,_⟩|h
   ·cases h
   ·exact h
  |some g=>exact⟨false,by simp[Op.equalIn,amy u],λh=>by cases h⟩
 obtain⟨b,F,H⟩:=m;have j:(execOp a.eval o).run P w=.ok (.value (.bool b)) w:=by
  obtain⟨v,W,O,M,l,guard⟩:=o;simp only at q;subst q;unfold execOp;have z:a.eval (.const (.slice none 0 0))=.slice none 0 0:=rfl;have I:(eqGuard .eql t x (.const (.slice none 0 0)) (.slice g n c) (.slice none 0 0)).run P w=.ok () w:=vK (λ_ _=>.inl siq) (.inl siq);have i:(binOp .eql t (.slice g n c) (.slice none 0 0)).run P w=.ok (.bool b) w:=by
   rw[Wn (by simp[Ex]),F];rfl
  simp only[K,z,amD,I,amv,i,amQ]
 unfold Oper.wp;rw[j];exact J _ w G _ σ (.refl G) C (by simp only[Rep]) ⟨rfl,b,rfl,H⟩
def ab6{t ty:TypeId}{x:Operand}{cs:List D}{n:Nat}{f:Bool}{e:TypeId}{a:Nat}(c:bA all τ o=some true)(j:o.op=.binOp .eql t x (.const (.slice none 0 0)) ty)(k:P.underlying t=some (.slice e))
 (l:ev τ x=some (.list cs n f))(hd:o.dst=some a)(g:Nat.blt a N=true)(h:∀b:Bool,(b=true->cs=[])->fu P N all r ((a,.bool b)::τ) σ Kt):fu P N all (o::r) τ σ Kt:=by
 refine .inl ⟨c,(ZN j k l).mono ?_⟩;rintro d s ⟨rfl,b,rfl,i⟩;refine⟨(a,.bool b)::τ,?_,h b i⟩;unfold eR;rw[hd];simp only;exact amE (amx g)
end
def afp{T:Tys}{τ:Env}{σ:Sto}{t c:TypeId}{s x:Operand}{sz by' n:Nat}{cs:List D}{f:Bool}(d:lk2 T.app t c=some (sz,by'))(e:ev τ s=some (.list [] 0 true))(g:ev τ x=some (.list cs n f))
 (k:0<n)(j:cs.length=n*sz)(i:cs.all D.isCell=true)(h:n*by'<=bj)(a:n<=bj):aop T τ σ (.call {callee:=.builtin .append,args:= #[s,x],argTypes:= #[t,c]})=some (.sl σ.length 0 0 n sz false,σ++[.cells cs 0 0]):=by
 show ou T τ σ [s,x] [t,c]=_;have b:¬n=0:=omq;simp[ou,d,e,g,JT,oR,j,i,b,h,a]
def afq{σ:Sto}{l u n sz fz:Nat}{cs:List D}{f:Bool}(b:σ[l]?=some (.cells cs fz u))(a:cs.length=n*sz):D3 σ (.sl l u 0 n sz f)=some (.list cs n f,σ.set l (.cells cs cs.length u)):=by
 have c:¬(n*sz)>cs.length:=omq;simp[D3,TA,I3,b,a,amR (Nat.le_of_eq a)]
end Go.Fw
def amT:=@List.length_take
def anj:=@List.length_drop
def anS:=@UInt8.toNat_ofNat'
namespace Go.Fw
open Go.RowKit
def aA(d e:D):Prop:=∀(G:Gh)(v:Value),Rep G d v->Rep G e v
def aA.refl(d:D):aA d d:=λ_ _ h=>h
def aA.list{cs:List D}{n:Nat}{f:Bool}:aA (.list cs n f) (.list cs n false):=by
 intro G v h;simp only[Rep]at h⊢;obtain⟨a,b,e,c,g,_,j⟩:=h;refine⟨a,b,e,c,g,?_,j⟩;intro h;cases h
def bt:List D->List D->Prop
 |[],l=>l=[]
 |d::a,l=>match l with
  |e::b=>aA d e/\bt a b
  |[]=>False
def bt.reps{G:Gh}:∀{ds es:List D}{vs:List Value},bt ds es->af G ds vs->af G es vs
 |[],es,_,h,a=>by
  have h:es=[]:=h;subst h;exact a
 |d::ds,[],_,h,_=>h.elim
 |d::ds,e::es,_,h,a=>by
  simp only[af]at a⊢;obtain⟨v,r,rfl,b,c⟩:=a;exact⟨v,r,rfl,h.1 G v b,bt.reps h.2 c⟩
def aA.agg{ds es:List D}(h:bt ds es):aA (.agg ds) (.agg es):=by
 intro G v b;simp only[Rep]at b⊢;obtain⟨a,e,c⟩:=b;exact⟨a,e,h.reps c⟩
def aA.tuple{ds es:List D}(h:bt ds es):aA (.tuple ds) (.tuple es):=by
 intro G v b;simp only[Rep]at b⊢;obtain⟨a,e,c⟩:=b;exact⟨a,e,h.reps c⟩
def cy.weak{P:Program}{f:FuncId}{ds:List D}{d e:D}(h:cy P f ds d)(n:aA d e):cy P f ds e:=
 λG w a k l m=>(h G w a k l m).mono λ_ _ ⟨v,b,c,g,j⟩=>⟨v,b,c,g,n _ _ j⟩
section
variable {P:Program}{T:Tys}{N:Nat}{all:Array Oper}{o:Oper}{r:List Oper}{τ τ' :Env}{σ σ' :Sto}{d e:D}{Kt:Env→Sto→Prop}
def AOp.weak(h:AOp P N o τ σ λb s=>b=d/\s=σ')(n:aA d e):AOp P N o τ σ λb s=>b=e/\s=σ':=by
 intro B G w a k l next Q m
 refine h B G w a k l next Q ?_
 rintro v p c b s f g j ⟨rfl,rfl⟩;exact m v p c e _ f g (n _ _ j) ⟨rfl,rfl⟩
def goP(b:bA all τ o=some true)(c:AOp P N o τ σ λa s=>a=d/\s=σ')(f:eR N o.dst d τ=some τ')(h:fu P N all r τ' σ' Kt):fu P N all (o::r) τ σ Kt:=
 .inl ⟨b,c.mono (by rintro a s ⟨rfl,rfl⟩;exact⟨τ',f,h⟩)⟩
end
def slc{α:Type}(xs:List α)(b a:Int):Option (List α):=if 0<=b/\b<=a/\a<=xs.length then some ((xs.take a.toNat).drop b.toNat) else none
def Q1{α:Type}{xs ys:List α}{b a:Int}(h:slc xs b a=some ys):0<=b/\b<=a/\a<=xs.length/\ys=(xs.take a.toNat).drop b.toNat/\ys.length=a.toNat-b.toNat:=by
 unfold slc at h;split at h<;>try (cases h;done)
 rename_i c;cases h;refine⟨c.1,c.2.1,c.2.2,rfl,?_⟩;simp only[anj,amT];omega
def Pw{α:Type}(E:Enc α)(xs:List α)(l h:Nat)(a:l<=h):((bN E xs).drop (l*E.sz)).take ((h-l)*E.sz)=bN E ((xs.take h).drop l):=by
 rw[GU,Ou,apD]
section
variable {α:Type}{T:Tys}{τ:Env}{σ:Sto}{E:Enc α}{xs ys:List α}
def cat(a b:List UInt8):Option (List UInt8):=if a.length+b.length<=9223372036854775807 then some (a++b) else none
def mP:Enc UInt8:=mkE 1 (λb=>[.int .u8 b.toNat]) (λ_=>rfl) (λ_=>rfl) (λ_=>rfl)
def ak2:Enc Bool:=mkE 1 (λb=>[.bool b]) (λ_=>rfl) (λ_=>rfl) (λ_=>rfl)
def ak3{a:Type}(F:Enc a):Enc (List a):=mkE 1 (λxs=>[.list (bN F xs) xs.length false]) (λ_=>rfl) (λ_=>by simp[br,D.pure,flat_pure]) (λ_=>rfl)
def H5:∀s:List UInt8,bN mP s=s.map λb=>.int .u8 b.toNat
 |[]=>rfl
 |b::s=>by rw[gz,H5 s];rfl
def H6:∀s:List UInt8,jC (bN mP s)=some s
 |[]=>rfl
 |b::s=>by
  have:A2 (.int .u8 b.toNat)=some b:=by simp[A2]
  show(match A2 (.int .u8 b.toNat),jC (bN mP s) with
   |some b,some a=>some (b::a)
   |_,_=>none)=_
  rw[this,H6 s]
def H7(s:List UInt8):Option (List UInt8):=if s.length<=bj then some s else none
def toB(n:Int):Option UInt8:=if 0<=n/\n<256 then some (UInt8.ofNat n.toNat) else none
def ahp{n:Int}{b:UInt8}(h:toB n=some b):n=(b.toNat:Int):=by
 unfold toB at h;split at h<;>try (cases h;done)
 rename_i a;cases h;simp only[anS];omega
end
section
variable {α:Type}{T:Tys}{τ:Env}{σ:Sto}{E:Enc α}{xs:List α}
end
def H8:List LK->List D->List D->Option Bool
 |[],[],[]=>some true
 |k::g,a::c,b::f=>match iA k a b,H8 g c f with
  |some r,some s=>some (r&&s)
  |_,_=>none
 |_,_,_=>none
def Mx:∀(ks:List LK)(a b:List D)(r:Bool),H8 ks a b=some r->iT ks a b=some r
 |[],[],[],r,h=>h
 |[],[],_::_,r,h=>by cases h
 |[],_::_,_,r,h=>by cases h
 |k::ks,[],_,r,h=>by cases h
 |k::ks,a::c,[],r,h=>by cases h
 |k::ks,a::c,b::f,r,h=>by
  simp only[H8]at h;split at h<;>try (cases h;done)
  rename_i x y g j;cases h;have:=Mx ks c f y j;simp only[iT,g];cases x
  ·rfl
  ·simpa using this
section
variable {T:Tys}{τ:Env}{σ:Sto}
end
section
variable {P:Program}{T:Tys}{N:Nat}{ops:Array Oper}{A:Res}{M:List Nat}{o:Oper}{r:List Oper}{i:Nat}{τ τ2:Env}{S:List Sto}{C:List Nat}{tab:List Rc}{K:Env→Sto→Prop}{σ σ' :Sto}{d:D}
def ajM(a:gK (λ(x:Nat×Nat×List D)=>∃r:Rc,tab[x.1]?=some r/\r.kd=.alloc x.2.1 x.2.2) A)(b:S.getLast?=some σ)(h:K τ σ):ADr P N ops A M [] i τ S C tab K:=⟨a,σ,b,h⟩
def ak4(a:bA ops (rst ops o τ) o=some false)(b:eR N o.dst (.tuple []) τ=some τ2)(h:ADr P N ops A M r (i+1) τ2 S C (tab++[⟨o,rst ops o τ,.tuple [],.skip⟩]) K):ADr P N ops A M (o::r) i τ S C tab K:=
 .inl ⟨a,τ2,b,h⟩
def XI(b:bA ops (rst ops o τ) o=some true)(c:gK (λs=>AOp P N o (rst ops o τ) s λa g=>a=d/\g=s) ((nK (M.getD i 0) S C).flatMap λσ=>(fI A (M.getD i 0)).map (cw · σ)))
 (f:eR N o.dst d τ=some τ2)(h:ADr P N ops A M r (i+1) τ2 S C (tab++[⟨o,rst ops o τ,d,.read⟩]) K):ADr P N ops A M (o::r) i τ S C tab K:=
 .inr (.inl ⟨b,d,τ2,c,f,h⟩)
def aeA(tok:TOk T P){e:TypeId}{l:Nat}{cs:List D}(a:bA ops (rst ops o τ) o=some true)(b:o.op=.alloc e)(c:uw A i=some (l,cs))(f:lk T.zero e=some cs)(g:eR N o.dst (.ptr l 0 0) τ=some τ2)
 (h:ADr P N ops A M r (i+1) τ2 S C (tab++[⟨o,rst ops o τ,.ptr l 0 0,.alloc l cs⟩]) K):ADr P N ops A M (o::r) i τ S C tab K:=
 .inr (.inr (.inr ⟨a,e,l,cs,τ2,b,c,gi tok.zero f,g,h⟩))
end
end Go.Fw
namespace Go.Fw
open Go.RowKit
def acJ{α:Type}{l:List α}{i:Nat}{x:α}(h:l[i]?=some x):l.set i x=l:=by
 apply anQ;intro j;by_cases e:i=j
 ·subst e;rw[ana (ai h),h]
 ·rw[am2 e]
section
variable {P:Program}{B:bL P}{G:Gh}{σ:Sto}{w:World}{N:Nat}{i:Nat}{c:Code}{τ τ' :Env}{σ' :Sto}{Q:AEx→Env→Sto→Prop}
def Rel.newObj(d:Rel B G σ w):Rel B G (σ++[.cells [] 0 0]) w:=by
 have g:∀{l u b:Nat}{f:am},G.blk l u=some b->(σ++[am.cells [] 0 0])[l]?=some f->σ[l]?=some f:=by
  intro l u b f e a;rwa[amu (d.blk _ _ _ e).1]at a
 have look:∀{l:Nat}{f:am},(σ++[am.cells [] 0 0])[l]?=some f->σ[l]?=some f∨(l=σ.length/\f=.cells [] 0 0):=by
  intro l f a;rcases amB l σ.length with h|h
  ·rw[amu h]at a;exact .inl a
  ·rw[amA h]at a;cases m:l-σ.length with
   |zero=>rw[m]at a;simp at a;exact .inr ⟨omq,a.symm⟩
   |succ k=>rw[m]at a;simp at a
 refine⟨d.below,d.imm,d.mimm,d.siz,λl u b e=> ?_,d.inj,λl f b a e=>d.obj l f b (g e a) e,λl n j u b a e=>d.own l n j u b (g e a) e,λl q s b a e=>d.ownm l q s b (g e a) e,λl f a=> ?_,λl f a=> ?_,d.bimm,d.bmimm⟩
 ·obtain⟨t,p⟩:=d.blk l u b e;exact⟨by simp;omega,p⟩
 ·rcases look a with h|⟨rfl,rfl⟩
  ·exact d.ver l f h
  ·exact⟨amt _,λu b e=>absurd (d.blk _ _ _ e).1 (anv _)⟩
 ·rcases look a with h|⟨rfl,rfl⟩
  ·exact d.frzle l f h
  ·exact amt _
def Rel.weakObj(d:Rel B G σ w){l f v:Nat}{cs cs':List D}(n:σ[l]?=some (.cells cs f v))(t:cs'.length=cs.length)(J:∀m,af G cs m->af G cs' m):Rel B G (σ.set l (.cells cs' f v)) w:=by
 have p:=ai n;have look:∀{a:Nat}{g:am},(σ.set l (.cells cs' f v))[a]?=some g->(a=l/\g=.cells cs' f v)∨(a≠l/\σ[a]?=some g):=by
  intro a g h;by_cases e:a=l
  ·subst e;rw[ana p]at h;exact .inl ⟨rfl,(anm h).symm⟩
  ·rw[am2 (an9 e)]at h;exact .inr ⟨e,h⟩
 refine⟨d.below,d.imm,d.mimm,d.siz,λa u b j=> ?_,d.inj,λa g b k j=> ?_,λa y q u b k j o x s=> ?_,λa K m b k j=> ?_,λa g k=> ?_,λa g k=> ?_,d.bimm,d.bmimm⟩
 ·rw[anF];exact d.blk a u b j
 ·rcases look k with⟨rfl,rfl⟩|⟨_,h⟩
  ·obtain⟨m,z,A,C,L,I,F,H⟩:=d.obj a (.cells cs f v) b n j;exact⟨m,z,A,C,L,I,F,J _ H⟩
  ·exact d.obj a g b h j
 ·rcases look k with⟨rfl,h⟩|⟨_,h⟩
  ·cases h;exact d.own a _ _ _ b n j o x s
  ·exact d.own a _ _ _ b h j o x s
 ·rcases look k with⟨_,h⟩|⟨_,h⟩
  ·cases h
  ·exact d.ownm a K m b h j
 ·rcases look k with⟨rfl,rfl⟩|⟨_,h⟩
  ·have:=d.ver a _ n;exact⟨by simp only[am.ver,am.len]at this⊢;omega,this.2⟩
  ·exact d.ver a g h
 ·rcases look k with⟨rfl,rfl⟩|⟨_,h⟩
  ·have:=d.frzle a _ n;simp only[am.frz,am.len]at this⊢;omega
  ·exact d.frzle a g h
def Ft{l sz:Nat}{v:Value}(h:Rep G (.list [] 0 true) v):Rep G (.sl l 0 0 0 sz false) v:=by
 simp only[Rep]at h⊢;obtain⟨a,b,rfl,_,_,d,_⟩:=h;have:=d trivial;subst this;exact .inr ⟨trivial,a,rfl⟩
def af.set_weak{d g:D}(j:∀v,Rep G d v->Rep G g v):∀{cs:List D}{o:Nat}{vs:List Value},cs[o]?=some d->af G cs vs->af G (cs.set o g) vs
 |[],_,_,h,_=>by simp at h
 |x::cs,0,vs,h,a=>by
  simp at h;subst h;simp only[aot,af]at a⊢;obtain⟨v,r,e,b,f⟩:=a;exact⟨v,r,e,j v b,f⟩
 |x::cs,o+1,vs,h,a=>by
  simp only[anE]at h;simp only[ao2,af]at a⊢;obtain⟨v,r,e,b,f⟩:=a;exact⟨v,r,e,b,af.set_weak j h f⟩
end
def app{α:Type}(by':Nat)(xs ys:List α):Option (List α):=if (xs.length+ys.length)*by'<=bj/\xs.length+ys.length<=bj then some (xs++ys) else none
section
variable {α:Type}{P:Program}{T:Tys}{τ τ' :Env}{σ σ' :Sto}{E:Enc α}{xs ys zs:List α}
def AOp.frz{N:Nat}{o:Oper}{d e:D}{σ1:Sto}(h:AOp P N o τ σ λb s=>b=d/\s=σ1)(p:I3 σ1 d=some (e,σ')):AOp P N o τ σ λb s=>b=e/\s=σ':=by
 intro B G w a l m next Q n
 refine h B G w a l m next Q ?_
 rintro v x y b s g j k ⟨rfl,rfl⟩;obtain⟨f,q,t,u⟩:=PH j p k;exact n v x f e _ (g.trans q) t u ⟨rfl,rfl⟩
end
end Go.Fw
namespace Go.Fw
section
variable {P:Program}{T:Tys}{N:Nat}{all:Array Oper}{o:Oper}{r:List Oper}{τ τ' :Env}{σ σ1 σ' :Sto}{Kt:Env→Sto→Prop}
end
end Go.Fw
namespace Go.Fw
open Go.RowKit
section
variable {P:Program}{N:Nat}{all:Array Oper}{Kt:Env→Sto→Prop}
def fu.monoK{K j:Env->Sto->Prop}(g:∀τ σ,K τ σ->j τ σ):∀(l:List Oper)(τ:Env)(σ:Sto),fu P N all l τ σ K->fu P N all l τ σ j
 |[],τ,σ,h=>g τ σ h
 |o::r,τ,σ,h=>by
  rcases h with⟨b,e⟩|⟨b,a,e,f⟩
  ·refine .inl ⟨b,e.mono ?_⟩;rintro d s ⟨a,f,k⟩;exact⟨a,f,fu.monoK g r a s k⟩
  ·exact .inr ⟨b,a,e,fu.monoK g r a σ f⟩
end
end Go.Fw
namespace Go.Fw
section
variable {i:Nat}{P:Program}{N:Nat}{c c1 c2:Code}{τ:Env}{σ:Sto}{Q:AEx→Env→Sto→Prop}
def rg{id:Nat}{ops:Array Oper}(h:fu P N ops ops.toList τ σ (λa σ'=>Q .normal a σ')):AWp i P N (.region id ops false) τ σ Q:=bS h
end
end Go.Fw
namespace Go.Fw
open Go.RowKit
section
variable {P:Program}{T:Tys}{N:Nat}{o:Oper}{τ:Env}{σ σ' :Sto}
def Rel.oneMore{P:Program}{B:bL P}{G:Gh}{w:World}{ob:am}(p:ob.ver=0)(a:Rel B G (σ++[ob]) w):Rel B G (σ++[.gone]) w:=by
 have look:∀{l:Nat}{x:am},(σ++[am.gone])[l]?=some x->(l<σ.length/\(σ++[ob])[l]?=some x)∨(l=σ.length/\x=.gone):=by
  intro l x h;rcases amB l σ.length with f|f
  ·rw[amu f]at h;exact .inl ⟨f,by rw[amu f];exact h⟩
  ·rw[amA f]at h;cases m:l-σ.length with
   |zero=>rw[m]at h;simp at h;exact .inr ⟨omq,h.symm⟩
   |succ k=>rw[m]at h;simp at h
 have j:(σ++[ob])[σ.length]?=some ob:=by simp
 refine⟨a.below,a.imm,a.mimm,a.siz,λl u b d=> ?_,a.inj,λl x b e d=> ?_,λl n g u b e d=> ?_,λl q r b e d=> ?_,λl x e=> ?_,λl x e=> ?_,a.bimm,a.bmimm⟩
 ·have:=a.blk l u b d;exact⟨by simpa using this.1,this.2⟩
 ·rcases look e with⟨_,h⟩|⟨rfl,rfl⟩
  ·exact a.obj l x b h d
  ·exact(a.blk _ _ _ d).2.2
 ·rcases look e with⟨_,h⟩|⟨_,h⟩
  ·exact a.own l n g u b h d
  ·cases h
 ·rcases look e with⟨_,h⟩|⟨_,h⟩
  ·exact a.ownm l q r b h d
  ·cases h
 ·rcases look e with⟨_,h⟩|⟨rfl,rfl⟩
  ·exact a.ver l x h
  ·refine⟨amt _,λu b d=> ?_⟩;have:=(a.ver _ _ j).2 u b d;rw[p]at this;exact this
 ·rcases look e with⟨_,h⟩|⟨_,rfl⟩
  ·exact a.frzle l x h
  ·exact amt _
variable {α:Type}{E:Enc α}{xs ys zs:List α}
end
end Go.Fw
namespace Go.Fw
open Go.RowKit
inductive Node where
 |mk(cls num:Int)(cons:Bool)(content:List UInt8)(kids:List Node)
 deriving Inhabited
def Node.cls:Node->Int|.mk c _ _ _ _=>c
def Node.num:Node->Int|.mk _ m _ _ _=>m
def Node.cons:Node->Bool|.mk _ _ k _ _=>k
def Node.body:Node->List UInt8|.mk _ _ _ b _=>b
def Node.kids:Node->List Node|.mk _ _ _ _ ks=>ks
inductive Spot where
 |mk(at' stop:Int)(nd:Node)(kids:List Spot)
 deriving Inhabited
def Spot.at':Spot->Int|.mk a _ _ _=>a
def Spot.stop:Spot->Int|.mk _ e _ _=>e
def Spot.nd:Spot->Node|.mk _ _ n _=>n
def Spot.kids:Spot->List Spot|.mk _ _ _ ks=>ks
inductive TC where
 |byte|int(k:IntKind)|bool|str|sl(t:TC)|pair(a b:TC)|unit|node|spot
 deriving DecidableEq,Inhabited
@[reducible] def TC.Den:TC->Type
  |.byte=>UInt8
  |.int _=>Int
  |.bool=>Bool
  |.str=>List UInt8
  |.sl t=>List t.Den
  |.pair a b=>a.Den×b.Den
  |.unit=>Unit
  |.node=>Node
  |.spot=>Spot
def OS(b:List UInt8):D:=.list (bN mP b) b.length false
mutual
def DK:Node->List D
 |.mk c n k b ks=>[.int .i64 c,.int .i64 n,.bool k,OS b,.list (ug ks) ks.length false]
def ug:List Node->List D
 |[]=>[]
 |n::ns=>DK n++ug ns
end
def J2{a b:List D}(c:br a=true)(d:br b=true):br (a++b)=true:=by rw[Cf,c,d];rfl
mutual
def Fy:∀n,br (DK n)=true
 |.mk c n k b ks=>by simp[DK,br,D.pure,OS,flat_pure,xL ks]
def xL:∀ns,br (ug ns)=true
 |[]=>rfl
 |n::ns=>by simp only[ug];exact J2 (Fy n) (xL ns)
end
mutual
def DL:Spot->List D
 |.mk a e (.mk c n k b ks) ss=>[.int .i64 a,.int .i64 e,.int .i64 c,.int .i64 n,.bool k,OS b,.list (ug ks) ks.length false,.list (yV ss) ss.length false]
def yV:List Spot->List D
 |[]=>[]
 |n::ns=>DL n++yV ns
end
mutual
def Fz:∀n,br (DL n)=true
 |.mk a e (.mk c n k b ks) ss=>by simp[DL,br,D.pure,OS,flat_pure,xL ks,FA ss]
def FA:∀ns,br (yV ns)=true
 |[]=>rfl
 |n::ns=>by simp only[yV];exact J2 (Fz n) (FA ns)
end
def aj8:Enc Spot:=⟨8,DL,yV,rfl,λ_ _=>rfl,λn=>by cases n with|mk a e n b=>cases n;rfl,Fz,λn=>by cases n with|mk a e n b=>cases n;rfl⟩
def aj9:Enc Node:=⟨5,DK,ug,rfl,λ_ _=>rfl,λn=>by cases n;rfl,Fy,λn=>by cases n;rfl⟩
def aka:Enc Unit:=mkE 0 (λ_=>[]) (λ_=>rfl) (λ_=>rfl) (λ_=>rfl)
def akb{α a:Type}(A:Enc α)(B:Enc a):Enc (α×a):=mkE (A.sz+B.sz) (λx=>A.cells x.1++B.cells x.2) (λx=>by simp[A.len,B.len]) (λx=>J2 (A.pure _) (B.pure _)) (λx=>by simp only[aoP,A.cell,B.cell,an2])
def akc(k:IntKind):Enc Int:=mkE 1 (λn=>[.int k n]) (λ_=>rfl) (λ_=>rfl) (λ_=>rfl)
def vR:Enc (List UInt8):=mkE 1 (λs=>[.str s]) (λ_=>rfl) (λ_=>rfl) (λ_=>rfl)
def TC.enc:(t:TC)->Enc t.Den
 |.byte=>mP
 |.int k=>akc k
 |.bool=>ak2
 |.str=>vR
 |.sl t=>ak3 t.enc
 |.pair a b=>akb a.enc b.enc
 |.unit=>aka
 |.node=>aj9
 |.spot=>aj8
abbrev TC.flat(t:TC)(xs:List t.Den):List D:=bN t.enc xs
abbrev TC.sz(t:TC):Nat:=t.enc.sz
abbrev TC.cells(t:TC)(x:t.Den):List D:=t.enc.cells x
inductive SV where
 |int(k:IntKind)(n:Int)
 |bool(b:Bool)
 |str(s:List UInt8)
 |sl(t:TC)(xs:List t.Den)(full:Bool)
 |nils
 |lst(cs:List SV)(n:Nat)(full:Bool)
 |agg(cs:List SV)
 |tup(cs:List SV)
 |func(fn:Fn)(a b:List SV)
 |iface(t:TypeId)(v:SV)
 |own(l g:Nat)
 |ap(l g:Nat)(i:Int)(o:Nat)
 |rp(t:TC)(x:t.Den)(o:Nat)
 |rc(cs:List SV)(o:Nat)
 |raw(d:D)
 deriving Inhabited
inductive iB where
 |cells(cs:List SV)(fz:Bool)
 |arr(t:TC)(xs:List t.Den)(fz:Bool)(g:Nat)
 |raw(o:am)
 |it(s:List UInt8)(pos:Int)
 |smap(ks:List (List UInt8))
 |junk
 deriving Inhabited
abbrev aw:=List (Nat×SV)
abbrev ae:=List iB
def Cw(S:ae)(σ:Sto)(l g:Nat)(d:D):Prop:=
 l<S.length/\∀t b e a,S[l]?=some (.arr t b e a)->g<=a/\(g=a->∃c u,σ[l]?=some (.cells (t.flat b) c u)/\d=.sl l u 0 b.length t.sz false)
def ApR(S:ae)(σ:Sto)(l g:Nat)(i:Int)(o:Nat)(d:D):Prop:=
 l<S.length/\∀t b e a,S[l]?=some (.arr t b e a)->g<=a/\(g=a->∃c u,σ[l]?=some (.cells (t.flat b) c u)/\d=.ptr l u (i.toNat*t.sz+o))
mutual
def VR(S:ae)(σ:Sto):SV->D->Prop
 |.int k n,d=>d=.int k n
 |.bool b,d=>d=.bool b
 |.str s,d=>d=.str s
 |.sl t xs f,d=>∃f',d=.list (t.flat xs) xs.length f'/\(f=true->f'=true)
 |.nils,d=>d=.list [] 0 true
 |.lst cs n f,d=>∃ds f',d=.list ds n f'/\(f=true->f'=true)/\VRs S σ cs ds
 |.agg cs,d=>∃ds,d=.agg ds/\VRs S σ cs ds
 |.tup cs,d=>∃ds,d=.tuple ds/\VRs S σ cs ds
 |.func fn a b,d=>∃da db,d=.func fn da db/\VRs S σ a da/\VRs S σ b db
 |.iface t v,d=>∃e,d=.iface t e/\VR S σ v e
 |.own l g,d=>Cw S σ l g d
 |.ap l g i o,d=>ApR S σ l g i o d
 |.rp t x o,d=>∃hd tl,d=.rptr (hd++t.cells x++tl) (hd.length+o)
 |.rc cs o,d=>∃ds,d=.rptr ds o/\VRs S σ cs ds
 |.raw e,d=>d=e
def VRs (S:ae) (σ:Sto):List SV->List D->Prop
 |[],ds=>ds=[]
 |v::vs,ds=>∃e es,ds=e::es/\VR S σ v e/\VRs S σ vs es
end
structure aP(S:ae)(σ:Sto)(S':ae)(σ':Sto):Prop where
 own:∀l g d,Cw S σ l g d->Cw S' σ' l g d
 ap:∀l g i o d,ApR S σ l g i o d->ApR S' σ' l g i o d
def aP.refl(S:ae)(σ:Sto):aP S σ S σ:=⟨λ_ _ _ h=>h,λ_ _ _ _ _ h=>h⟩
def aP.trans{S S' b:ae}{σ σ' a:Sto}(h:aP S σ S' σ')(k:aP S' σ' b a):aP S σ b a:=
 ⟨λl g d x=>k.own l g d (h.own l g d x),λl g i o d x=>k.ap l g i o d (h.ap l g i o d x)⟩
mutual
def VR.pres{S S':ae}{σ σ':Sto}(h:aP S σ S' σ'):∀(v:SV)(d:D),VR S σ v d->VR S' σ' v d
 |.int _ _,_,x=>by simpa only[VR] using x
 |.bool _,_,x=>by simpa only[VR] using x
 |.str _,_,x=>by simpa only[VR] using x
 |.sl _ _ _,_,x=>by simpa only[VR] using x
 |.nils,_,x=>by simpa only[VR] using x
 |.lst cs _ _,_,x=>by
  simp only[VR]at x⊢;obtain⟨ds,f',e,hf,hv⟩:=x;exact⟨ds,f',e,hf,VRs.pres h cs ds hv⟩
 |.agg cs,_,x=>by
  simp only[VR]at x⊢;obtain⟨ds,e,hv⟩:=x;exact⟨ds,e,VRs.pres h cs ds hv⟩
 |.tup cs,_,x=>by
  simp only[VR]at x⊢;obtain⟨ds,e,hv⟩:=x;exact⟨ds,e,VRs.pres h cs ds hv⟩
 |.func _ a b,_,x=>by
  simp only[VR]at x⊢;obtain⟨da,db,e,h1,h2⟩:=x;exact⟨da,db,e,VRs.pres h a da h1,VRs.pres h b db h2⟩
 |.iface _ v,_,x=>by
  simp only[VR]at x⊢;obtain⟨e,h1,h2⟩:=x;exact⟨e,h1,VR.pres h v e h2⟩
 |.own _ _,_,x=>by simp only[VR]at x⊢;exact h.own _ _ _ x
 |.ap _ _ _ _,_,x=>by simp only[VR]at x⊢;exact h.ap _ _ _ _ _ x
 |.rp _ _ _,_,x=>by simpa only[VR] using x
 |.rc cs _,_,x=>by
  simp only[VR]at x⊢;obtain⟨ds,e,hv⟩:=x;exact⟨ds,e,VRs.pres h cs ds hv⟩
 |.raw _,_,x=>by simpa only[VR] using x
def VRs.pres {S S':ae} {σ σ':Sto} (h:aP S σ S' σ'):∀(vs:List SV)(ds:List D),VRs S σ vs ds->VRs S' σ' vs ds
 |[],_,x=>by simpa only[VRs] using x
 |v::vs,_,x=>by
  simp only[VRs]at x⊢;obtain⟨e,es,h1,h2,h3⟩:=x;exact⟨e,es,h1,VR.pres h v e h2,VRs.pres h vs es h3⟩
end
mutual
def SV.pure:SV->Bool
 |.lst cs _ _=>SV.pures cs
 |.agg cs=>SV.pures cs
 |.tup cs=>SV.pures cs
 |.func _ a b=>SV.pures a&&SV.pures b
 |.iface _ v=>v.pure
 |.own _ _=>false
 |.ap _ _ _ _=>false
 |.rp _ _ _=>false
 |.rc cs _=>SV.pures cs
 |.raw d=>d.pure
 |_=>true
def SV.pures:List SV->Bool
 |[]=>true
 |v::vs=>v.pure&&SV.pures vs
end
def TC.flat_pure(t:TC)(xs:List t.Den):br (t.flat xs)=true:=Go.Fw.flat_pure _ _
mutual
def VR.pure{S S':ae}{σ σ':Sto}:∀(v:SV)(d:D),v.pure=true->VR S σ v d->VR S' σ' v d/\d.pure=true
 |.int _ _,_,_,x=>by simp only[VR]at x⊢;subst x;exact⟨rfl,rfl⟩
 |.bool _,_,_,x=>by simp only[VR]at x⊢;subst x;exact⟨rfl,rfl⟩
 |.str _,_,_,x=>by simp only[VR]at x⊢;subst x;exact⟨rfl,rfl⟩
 |.sl t xs _,_,_,x=>by simp only[VR]at x⊢;obtain⟨f',rfl,h⟩:=x;exact⟨⟨f',rfl,h⟩,t.flat_pure xs⟩
 |.nils,_,_,x=>by simp only[VR]at x⊢;subst x;exact⟨rfl,rfl⟩
 |.lst cs _ _,_,p,x=>by
  simp only[VR]at x⊢;obtain⟨ds,f',rfl,hf,hv⟩:=x;obtain⟨h1,h2⟩:=VRs.pure cs ds p hv;exact⟨⟨ds,f',rfl,hf,h1⟩,h2⟩
 |.agg cs,_,p,x=>by
  simp only[VR]at x⊢;obtain⟨ds,rfl,hv⟩:=x;obtain⟨h1,h2⟩:=VRs.pure cs ds p hv;exact⟨⟨ds,rfl,h1⟩,h2⟩
 |.tup cs,_,p,x=>by
  simp only[VR]at x⊢;obtain⟨ds,rfl,hv⟩:=x;obtain⟨h1,h2⟩:=VRs.pure cs ds p hv;exact⟨⟨ds,rfl,h1⟩,h2⟩
 |.func _ a b,_,p,x=>by
  simp only[VR]at x⊢;simp only[SV.pure,amk]at p;obtain⟨da,db,rfl,h1,h2⟩:=x;obtain⟨a1,a2⟩:=VRs.pure a da p.1 h1;obtain⟨b1,b2⟩:=VRs.pure b db p.2 h2;exact⟨⟨da,db,rfl,a1,b1⟩,by simp[D.pure,a2,b2]⟩
 |.iface _ v,_,p,x=>by
  simp only[VR]at x⊢;obtain⟨e,rfl,h2⟩:=x;obtain⟨a1,a2⟩:=VR.pure v e p h2;exact⟨⟨e,rfl,a1⟩,a2⟩
 |.own _ _,_,p,_=>by cases p
 |.ap _ _ _ _,_,p,_=>by cases p
 |.rp t y o,_,p,_=>by cases p
 |.rc cs _,_,p,x=>by
  simp only[VR]at x⊢;obtain⟨ds,rfl,hv⟩:=x;obtain⟨h1,h2⟩:=VRs.pure cs ds p hv;exact⟨⟨ds,rfl,h1⟩,h2⟩
 |.raw e,_,p,x=>by simp only[VR]at x⊢;subst x;exact⟨rfl,p⟩
def VRs.pure {S S':ae} {σ σ':Sto}:∀(vs:List SV)(ds:List D),SV.pures vs=true->VRs S σ vs ds->VRs S' σ' vs ds/\br ds=true
 |[],_,_,x=>by simp only[VRs]at x⊢;subst x;exact⟨rfl,rfl⟩
 |v::vs,_,p,x=>by
  simp only[VRs]at x⊢;simp only[SV.pures,amk]at p;obtain⟨e,es,rfl,h2,h3⟩:=x;obtain⟨a1,a2⟩:=VR.pure v e p.1 h2;obtain⟨b1,b2⟩:=VRs.pure vs es p.2 h3;exact⟨⟨e,es,rfl,a1,b1⟩,by simp[br,a2,b2]⟩
end
def Cw.mk{S:ae}{σ:Sto}{l g:Nat}{d:D}{t:TC}{xs:List t.Den}{fz:Bool}{fr u:Nat}(a:S[l]?=some (.arr t xs fz g))(c:σ[l]?=some (.cells (t.flat xs) fr u))(e:d=.sl l u 0 xs.length t.sz false):Cw S σ l g d:=
 ⟨ai a,λj f b i h=>by rw[a]at h;cases h;exact⟨amt _,λ_=>⟨fr,u,c,e⟩⟩⟩
def ApR.mk{S:ae}{σ:Sto}{l g o:Nat}{i:Int}{d:D}{t:TC}{xs:List t.Den}{fz:Bool}{fr u:Nat}(a:S[l]?=some (.arr t xs fz g))(c:σ[l]?=some (.cells (t.flat xs) fr u))(e:d=.ptr l u (i.toNat*t.sz+o)):ApR S σ l g i o d:=
 ⟨ai a,λk f b j h=>by rw[a]at h;cases h;exact⟨amt _,λ_=>⟨fr,u,c,e⟩⟩⟩
mutual
def D.lo(m:Nat):D->Bool
 |.ptr l _ _=>Nat.blt l m
 |.sl l _ _ _ _ _=>Nat.blt l m
 |.map l=>Nat.blt l m
 |.rptr cs _=>D.los m cs
 |.list cs _ _=>D.los m cs
 |.cmap a b=>D.los m a&&D.los m b
 |.pmap a b=>D.los m a&&D.los m b
 |.func _ a b=>D.los m a&&D.los m b
 |.iface _ v=>D.lo m v
 |.agg cs=>D.los m cs
 |.tuple cs=>D.los m cs
 |_=>true
def D.los (m:Nat):List D->Bool
 |[]=>true
 |d::ds=>D.lo m d&&D.los m ds
end
def am.lo(m:Nat):am->Bool
 |.cells c _ _=>D.los m c
 |.map a b=>D.los m a&&D.los m b
 |.miter a b _ _=>D.los m a&&D.los m b
 |_=>true
def ObR(S:ae)(σ:Sto):iB->am->Prop
 |.cells g d,b=>∃e c,b=.cells e c 0/\(d=false->c=0)/\VRs S σ g e
 |.arr t h d _,b=>∃c u,b=.cells (t.flat h) c u/\(d=false->c=0)
 |.raw a,b=>b=a
 |.it s p,b=>b=.siter s p.toNat
 |.smap f,b=>b=.map (f.map .str) (f.map λ_=>.bool true)
 |.junk,b=>b.lo 0=true
structure StR(S:ae)(σ:Sto):Prop where
 len:S.length=σ.length
 obj:∀(l:Nat)(o:iB),S[l]?=some o->∃a,σ[l]?=some a/\ObR S σ o a
def lf:aw->Nat->Option SV
 |[],_=>none
 |(i,v)::r,t=>match Nat.beq i t with
  |true=>some v
  |false=>lf r t
def ER(S:ae)(σ:Sto)(τ:aw)(τ':Env):Prop:=∀t v,lf τ t=some v->∃d,get τ' t=some d/\VR S σ v d
def ER.pres{S S':ae}{σ σ':Sto}{τ:aw}{τ':Env}(h:aP S σ S' σ')(x:ER S σ τ τ'):ER S' σ' τ τ':=
 λt v c=>by obtain⟨d,a,b⟩:=x t v c;exact⟨d,a,VR.pres h v d b⟩
def uh{τ:aw}{i t:Nat}{v:SV}:lf ((i,v)::τ) t=if i=t then some v else lf τ t:=by
 simp only[lf];split
 ·rename_i h;rw[amE (bu h)]
 ·rename_i h;rw[am4 (λe=>by subst e;rw[apm]at h;cases h)]
def ER.push{S:ae}{σ:Sto}{τ:aw}{τ':Env}{t:Nat}{v:SV}{d:D}(x:ER S σ τ τ')(h:VR S σ v d):ER S σ ((t,v)::τ) ((t,d)::τ'):=by
 intro b c a;rw[uh]at a;simp only[get];by_cases e:t=b
 ·rw[amE e]at a⊢;cases a;exact⟨d,rfl,h⟩
 ·rw[am4 e]at a⊢;exact x b c a
def TC.scells:(t:TC)->t.Den->List SV
 |.byte,b=>[.int .u8 b.toNat]
 |.int k,n=>[.int k n]
 |.bool,b=>[.bool b]
 |.str,s=>[.str s]
 |.sl t,c=>[.sl t c false]
 |.pair a b,x=>a.scells x.1++b.scells x.2
 |.unit,_=>[]
 |.node,n=>[.int .i64 n.cls,.int .i64 n.num,.bool n.cons,.sl .byte n.body false,.sl .node n.kids false]
 |.spot,s=>[.int .i64 s.at',.int .i64 s.stop,.int .i64 s.nd.cls,.int .i64 s.nd.num,.bool s.nd.cons,.sl .byte s.nd.body false,.sl .node s.nd.kids false,.sl .spot s.kids false]
def VRs.append{S:ae}{σ:Sto}:∀{a b:List SV}{d c:List D},VRs S σ a d->VRs S σ b c->VRs S σ (a++b) (d++c)
 |[],_,_,_,h,k=>by simp only[VRs]at h;subst h;exact k
 |v::a,b,_,c,h,k=>by
  simp only[VRs]at h;obtain⟨e,f,rfl,g,i⟩:=h;simp only[anf,VRs];exact⟨e,f++c,rfl,g,VRs.append i k⟩
def TC.scells_ok(S:ae)(σ:Sto):∀(t:TC)(x:t.Den),VRs S σ (t.scells x) (t.cells x)
 |.byte,b=>by simp only[TC.scells,VRs,VR];exact⟨_,_,rfl,rfl,rfl⟩
 |.int k,n=>by simp only[TC.scells,VRs,VR];exact⟨_,_,rfl,rfl,rfl⟩
 |.bool,b=>by simp only[TC.scells,VRs,VR];exact⟨_,_,rfl,rfl,rfl⟩
 |.str,s=>by simp only[TC.scells,VRs,VR];exact⟨_,_,rfl,rfl,rfl⟩
 |.sl t,g=>by simp only[TC.scells,VRs,VR];exact⟨_,_,rfl,⟨false,rfl,λh=>by cases h⟩,rfl⟩
 |.pair a b,x=>VRs.append (TC.scells_ok S σ a x.1) (TC.scells_ok S σ b x.2)
 |.unit,_=>by simp only[TC.scells,VRs];rfl
 |.node,.mk c m k b d=>by
  simp only[TC.scells,VRs,VR];exact⟨_,_,rfl,rfl,_,_,rfl,rfl,_,_,rfl,rfl,_,_,rfl,⟨false,rfl,λh=>by cases h⟩,_,_,rfl,⟨false,rfl,λh=>by cases h⟩,rfl⟩
 |.spot,.mk a e (.mk c m k b d) f=>by
  simp only[TC.scells,VRs,VR];exact⟨_,_,rfl,rfl,_,_,rfl,rfl,_,_,rfl,rfl,_,_,rfl,rfl,_,_,rfl,rfl,_,_,rfl,⟨false,rfl,λh=>by cases h⟩,_,_,rfl,⟨false,rfl,λh=>by cases h⟩,_,_,rfl,⟨false,rfl,λh=>by cases h⟩,rfl⟩
def jf(t:TC):SV->Option (List t.Den)
 |.sl u a _=>match decEq u t with
  |isTrue h=>some (h▸a)
  |isFalse _=>none
 |.nils=>some []
 |_=>none
def nH{S:ae}{σ:Sto}{t:TC}{v:SV}{xs:List t.Den}{d:D}(h:jf t v=some xs)(a:VR S σ v d):∃f,d=.list (t.flat xs) xs.length f:=by
 unfold jf at h;split at h
 ·split at h<;>try (cases h;done)
  rename_i e _;subst e;cases h;simp only[VR]at a;obtain⟨b,rfl,_⟩:=a;exact⟨b,rfl⟩
 ·cases h;simp only[VR]at a;subst a;refine⟨true,?_⟩;show D.list [] 0 true=.list (bN t.enc []) 0 true;rw[gU]
 ·cases h
def TC.take{α:Type}:(t:TC)->List SV->(t.Den->List SV->Option α)->Option α
 |.byte,d,K=>match d with
  |.int .u8 n::r=>(toB n).bind λb=>K b r
  |_=>none
 |.int k,d,K=>match d with
  |.int g n::r=>match decEq g k with
   |isTrue _=>K n r
   |isFalse _=>none
  |_=>none
 |.bool,d,K=>match d with
  |.bool b::r=>K b r
  |_=>none
 |.str,d,K=>match d with
  |.str s::r=>K s r
  |_=>none
 |.sl t,d,K=>match d with
  |v::r=>match jf t v with
   |some j=>K j r
   |none=>none
  |_=>none
 |.pair a b,d,K=>a.take d λx r=>b.take r λy h=>K (x,y) h
 |.unit,d,K=>K () d
 |.node,d,K=>match d with
  |.int .i64 c:: .int .i64 m:: .bool k::v::w::r=>match jf .byte v,jf .node w with
   |some b,some f=>K (.mk c m k b f) r
   |_,_=>none
  |_=>none
 |.spot,d,K=>match d with
  |.int .i64 a:: .int .i64 e:: .int .i64 c:: .int .i64 m:: .bool k::v::w::u::r=>match jf .byte v,jf .node w,jf .spot u with
   |some b,some f,some i=>K (.mk a e (.mk c m k b f) i) r
   |_,_,_=>none
  |_=>none
def bt.refl:∀a:List D,bt a a
 |[]=>rfl
 |d::a=>⟨aA.refl d,bt.refl a⟩
def bt.append:∀{a b c d:List D},bt a b->bt c d->bt (a++c) (b++d)
 |[],b,c,d,h,k=>by
  have h:b=[]:=h;subst h;exact k
 |x::a,[],_,_,h,_=>h.elim
 |x::a,y::b,c,d,h,k=>⟨h.1,bt.append h.2 k⟩
def TC.take_ok{α:Type}{S:ae}{σ:Sto}:∀(t:TC)(cs:List SV)(ds:List D)(K:t.Den->List SV->Option α)(r:α),t.take cs K=some r->VRs S σ cs ds->
 ∃x i l d2,K x i=some r/\ds=l++d2/\bt l (t.cells x)/\VRs S σ i d2
 |.byte,cs,ds,K,r,h,c=>by
  simp only[TC.take]at h;split at h<;>try (cases h;done)
  obtain⟨b,j,h⟩:=ak h;simp only[VRs,VR]at c;obtain⟨e,d,rfl,rfl,g⟩:=c;exact⟨b,_,[_],d,h,rfl,by rw[ahp j];exact bt.refl _,g⟩
 |.int k,cs,ds,K,r,h,c=>by
  simp only[TC.take]at h;split at h<;>try (cases h;done)
  split at h<;>try (cases h;done)
  rename_i e _;subst e;simp only[VRs,VR]at c;obtain⟨e,d,rfl,rfl,g⟩:=c;exact⟨_,_,[_],d,h,rfl,bt.refl _,g⟩
 |.bool,cs,ds,K,r,h,c=>by
  simp only[TC.take]at h;split at h<;>try (cases h;done)
  simp only[VRs,VR]at c;obtain⟨e,d,rfl,rfl,g⟩:=c;exact⟨_,_,[_],d,h,rfl,bt.refl _,g⟩
 |.str,cs,ds,K,r,h,c=>by
  simp only[TC.take]at h;split at h<;>try (cases h;done)
  simp only[VRs,VR]at c;obtain⟨e,d,rfl,rfl,g⟩:=c;exact⟨_,_,[_],d,h,rfl,bt.refl _,g⟩
 |.sl t,cs,ds,K,r,h,c=>by
  simp only[TC.take]at h;split at h<;>try (cases h;done)
  split at h<;>try (cases h;done)
  rename_i Z O;simp only[VRs]at c;obtain⟨e,d,rfl,o,g⟩:=c;obtain⟨f,rfl⟩:=nH O o;exact⟨Z,_,[_],d,h,rfl,⟨aA.list,rfl⟩,g⟩
 |.pair a b,cs,ds,K,r,h,c=>by
  simp only[TC.take]at h;obtain⟨x,m,l,d2,G,rfl,X,V⟩:=TC.take_ok a cs ds _ r h c;obtain⟨y,n,u,v,o,rfl,Y,W⟩:=TC.take_ok b m d2 _ r G V;exact⟨(x,y),n,l++u,v,o,by simp,bt.append X Y,W⟩
 |.unit,cs,ds,K,r,h,c=>⟨(),cs,[],ds,h,rfl,rfl,c⟩
 |.node,cs,ds,K,r,h,c=>by
  simp only[TC.take]at h;split at h<;>try (cases h;done)
  split at h<;>try (cases h;done)
  rename_i b P j q;simp only[VRs,VR]at c;obtain⟨w,Q,rfl,rfl,z,R,rfl,rfl,A,T,rfl,rfl,B,r4,rfl,H,C,s,rfl,I,p⟩:=c;obtain⟨f,rfl⟩:=nH j H;obtain⟨E,rfl⟩:=nH q I;exact⟨_,_,[_,_,_,_,_],s,h,rfl,⟨aA.refl _,aA.refl _,aA.refl _,aA.list,aA.list,rfl⟩,p⟩
 |.spot,cs,ds,K,r,h,c=>by
  simp only[TC.take]at h;split at h<;>try (cases h;done)
  split at h<;>try (cases h;done)
  rename_i b P ss j q N;simp only[VRs,VR]at c;obtain⟨w,Q,rfl,rfl,z,R,rfl,rfl,A,T,rfl,rfl,B,r4,rfl,rfl,C,s,rfl,rfl,e6,r6,rfl,p,e7,r7,rfl,J,e8,U,rfl,L,M⟩:=c;obtain⟨f,rfl⟩:=nH j p;obtain⟨E,rfl⟩:=nH q J;obtain⟨F,rfl⟩:=nH N L;exact⟨_,_,[_,_,_,_,_,_,_,_],U,h,rfl,⟨aA.refl _,aA.refl _,aA.refl _,aA.refl _,aA.refl _,aA.list,aA.list,aA.list,rfl⟩,M⟩
end Go.Fw
def amZ:=@of_decide_eq_true
def aqg:=@List.isEmpty_iff
namespace Go.Fw
open Go.RowKit
def aaI(cs:List D)(n:Nat)(f:Bool):Bool:=cs.isEmpty&&Nat.beq n 0&&f
mutual
def ofD:D->SV
 |.int k n=>.int k n
 |.bool b=>.bool b
 |.str s=>.str s
 |.list cs n f=>match aaI cs n f with
  |true=>.nils
  |false=>.lst (kE cs) n f
 |.agg cs=>.agg (kE cs)
 |.tuple cs=>.tup (kE cs)
 |.func fn a b=>.func fn (kE a) (kE b)
 |.iface t v=>.iface t (ofD v)
 |.rptr cs o=>.rc (kE cs) o
 |d=>.raw d
def kE:List D->List SV
 |[]=>[]
 |d::ds=>ofD d::kE ds
end
mutual
def FG(S:ae)(σ:Sto):∀d,VR S σ (ofD d) d
 |.int _ _=>by simp[ofD,VR]
 |.bool _=>by simp[ofD,VR]
 |.str _=>by simp[ofD,VR]
 |.list cs n f=>by
  simp only[ofD];split
  ·rename_i h;simp only[aaI,amk,aqg]at h;simp only[VR];rw[h.1.1,bu h.1.2,h.2]
  ·simp only[VR];exact⟨cs,f,rfl,id,jq S σ cs⟩
 |.agg cs=>by simp only[ofD,VR];exact⟨cs,rfl,jq S σ cs⟩
 |.tuple cs=>by simp only[ofD,VR];exact⟨cs,rfl,jq S σ cs⟩
 |.func _ a b=>by simp only[ofD,VR];exact⟨a,b,rfl,jq S σ a,jq S σ b⟩
 |.iface _ v=>by simp only[ofD,VR];exact⟨v,rfl,FG S σ v⟩
 |.rptr cs _=>by simp only[ofD,VR];exact⟨cs,rfl,jq S σ cs⟩
 |.nilp=>by simp[ofD,VR]
 |.ptr _ _ _=>by simp[ofD,VR]
 |.sl _ _ _ _ _ _=>by simp[ofD,VR]
 |.map _=>by simp[ofD,VR]
 |.nilmap=>by simp[ofD,VR]
 |.cmap _ _=>by simp[ofD,VR]
 |.pmap _ _=>by simp[ofD,VR]
 |.nilf=>by simp[ofD,VR]
 |.nili=>by simp[ofD,VR]
 |.anyi=>by simp[ofD,VR]
 |.junk=>by simp[ofD,VR]
def jq (S:ae) (σ:Sto):∀ds,VRs S σ (kE ds) ds
 |[]=>by simp[kE,VRs]
 |d::ds=>by simp only[kE,VRs];exact⟨d,ds,rfl,FG S σ d,jq S σ ds⟩
end
def sev(τ:aw):Operand->Option SV
 |.tmp t=>lf τ t
 |.const v=>match Fo v with
  |some d=>some (ofD d)
  |none=>none
 |.func f=>some (.func (.func f) [] [])
 |.global _=>none
def El(τ:aw):List Operand->Option (List SV)
 |[]=>some []
 |x::b=>match sev τ x with
  |some d=>match El τ b with
   |some a=>some (d::a)
   |none=>none
  |none=>none
def Nu(τ:aw):List (Nat×Operand)->Option (List (Nat×SV))
 |[]=>some []
 |(i,x)::b=>match sev τ x with
  |some d=>match Nu τ b with
   |some a=>some ((i,d)::a)
   |none=>none
  |none=>none
section
variable {S:ae}{σ:Sto}{τ:aw}{τ' :Env}
def fE(h:ER S σ τ τ'){x:Operand}{v:SV}(a:sev τ x=some v):∃d,ev τ' x=some d/\VR S σ v d:=by
 cases x<;>simp only[sev]at a
 case tmp=>exact h _ _ a
 case const=>
  split at a<;>try (cases a;done)
  rename_i d b;cases a;exact⟨d,b,FG S σ d⟩
 case func=>cases a;exact⟨_,rfl,by simp only[VR,VRs];exact⟨[],[],rfl,rfl,rfl⟩⟩
 case global=>cases a
def xN(h:ER S σ τ τ'):∀{xs:List Operand}{vs:List SV},El τ xs=some vs->∃b,evs τ' xs=some b/\VRs S σ vs b
 |[],_,a=>by simp only[El,amn]at a;subst a;exact⟨[],rfl,by simp only[VRs]⟩
 |x::xs,_,a=>by
  simp only[El]at a;split at a<;>try (cases a;done)
  rename_i v j;split at a<;>try (cases a;done)
  rename_i vs c;cases a;obtain⟨d,e,f⟩:=fE h j;obtain⟨b,g,i⟩:=xN h c;exact⟨d::b,by simp only[evs,e,g],by simp only[VRs];exact⟨d,b,rfl,f,i⟩⟩
def VRp(S:ae)(σ:Sto):List (Nat×SV)->List (Nat×D)->Prop
 |[],a=>a=[]
 |(i,v)::c,a=>∃e b,a=(i,e)::b/\VR S σ v e/\VRp S σ c b
def K8(h:ER S σ τ τ'):∀{xs:List (Nat×Operand)}{vs:List (Nat×SV)},Nu τ xs=some vs->∃b,evp τ' xs=some b/\VRp S σ vs b
 |[],_,a=>by simp only[Nu,amn]at a;subst a;exact⟨[],rfl,by simp only[VRp]⟩
 |(i,x)::xs,_,a=>by
  simp only[Nu]at a;split at a<;>try (cases a;done)
  rename_i v k;split at a<;>try (cases a;done)
  rename_i vs c;cases a;obtain⟨d,e,f⟩:=fE h k;obtain⟨b,g,j⟩:=K8 h c;exact⟨(i,d)::b,by simp only[evp,e,g],by simp only[VRp];exact⟨d,b,rfl,f,j⟩⟩
end
def VRs.length{S:ae}{σ:Sto}:∀{cs:List SV}{ds:List D},VRs S σ cs ds->ds.length=cs.length
 |[],_,h=>by simp only[VRs]at h;subst h;rfl
 |v::cs,_,h=>by
  simp only[VRs]at h;obtain⟨e,b,rfl,_,a⟩:=h;simp[VRs.length a]
def VRs.drop{S:ae}{σ:Sto}:∀(n:Nat){cs:List SV}{ds:List D},VRs S σ cs ds->VRs S σ (cs.drop n) (ds.drop n)
 |0,_,_,h=>by simpa using h
 |n+1,[],_,h=>by simp only[VRs]at h;subst h;simp[VRs]
 |n+1,v::cs,_,h=>by
  simp only[VRs]at h;obtain⟨e,b,rfl,_,a⟩:=h;simpa using VRs.drop n a
def VRs.take{S:ae}{σ:Sto}:∀(n:Nat){cs:List SV}{ds:List D},VRs S σ cs ds->VRs S σ (cs.take n) (ds.take n)
 |0,_,_,_=>by simp[VRs]
 |n+1,[],_,h=>by simp only[VRs]at h;subst h;simp[VRs]
 |n+1,v::cs,_,h=>by
  simp only[VRs]at h;obtain⟨e,a,rfl,b,c⟩:=h;simp only[aol,VRs];exact⟨e,a.take n,rfl,b,VRs.take n c⟩
def VRs.get{S:ae}{σ:Sto}:∀{cs:List SV}{ds:List D}{i:Nat}{v:SV},VRs S σ cs ds->cs[i]?=some v->∃d,ds[i]?=some d/\VR S σ v d
 |[],_,_,_,_,h=>by simp at h
 |v::cs,_,0,_,h,a=>by
  simp only[VRs]at h;obtain⟨e,f,rfl,b,c⟩:=h;simp at a;subst a;exact⟨e,by simp,b⟩
 |v::cs,_,i+1,_,h,a=>by
  simp only[VRs]at h;obtain⟨e,f,rfl,b,c⟩:=h;obtain⟨d,g,j⟩:=VRs.get c (by simpa using a);exact⟨d,by simpa using g,j⟩
def sD(S:ae)(l g:Nat):Bool:=match S[l]? with
 |some (.arr _ _ _ a)=>Nat.beq g a
 |_=>false
def FH(S:ae):SV->Option (List SV)
 |.agg a=>some a
 |.tup _=>none
 |.raw d=>match d.isCell with
  |true=>some [.raw d]
  |false=>none
 |.own l g=>match sD S l g with
  |true=>some [.own l g]
  |false=>none
 |.ap l g i o=>match sD S l g with
  |true=>some [.ap l g i o]
  |false=>none
 |v=>some [v]
def Kb{S:ae}{σ:Sto}{l g:Nat}{d:D}(h:sD S l g=true)(j:Cw S σ l g d):∃t a b c u,S[l]?=some (.arr t a b g)/\σ[l]?=some (.cells (t.flat a) c u)/\d=.sl l u 0 a.length t.sz false:=by
 unfold sD at h;split at h<;>try (cases h;done)
 rename_i t a b k e;have:=bu h;subst this;obtain⟨c,u,f,i⟩:=(j.2 t a b g e).2 rfl;exact⟨t,a,b,c,u,e,f,i⟩
def Hm{S:ae}{σ:Sto}{l g o:Nat}{i:Int}{d:D}(h:sD S l g=true)(k:ApR S σ l g i o d):∃t a b c u,S[l]?=some (.arr t a b g)/\σ[l]?=some (.cells (t.flat a) c u)/\d=.ptr l u (i.toNat*t.sz+o):=by
 unfold sD at h;split at h<;>try (cases h;done)
 rename_i t a b m e;have:=bu h;subst this;obtain⟨c,u,f,j⟩:=(k.2 t a b g e).2 rfl;exact⟨t,a,b,c,u,e,f,j⟩
def Hn{S:ae}{σ:Sto}{v:SV}{cs:List SV}{d:D}(h:FH S v=some cs)(a:VR S σ v d):∃f,d.cells?=some f/\VRs S σ cs f:=by
 have c:∀{v:SV}{d:D},VR S σ v d->VRs S σ [v] [d]:=λa=>by simp only[VRs];exact⟨_,_,rfl,a,rfl⟩
 cases v<;>simp only[FH]at h<;>try (cases h;done)
 case agg=>cases h;simp only[VR]at a;obtain⟨f,rfl,a⟩:=a;exact⟨f,rfl,a⟩
 case raw e=>
  split at h<;>try (cases h;done)
  rename_i j;cases h;have b:=a;simp only[VR]at a;subst a;exact⟨[d],by cases d<;>simp_all[D.isCell,D.cells?],c b⟩
 case own l g=>
  split at h<;>try (cases h;done)
  rename_i j;cases h;have b:=a;simp only[VR]at a;obtain⟨t,n,m,k,u,_,_,rfl⟩:=Kb j a;exact⟨_,rfl,c b⟩
 case ap l g i o=>
  split at h<;>try (cases h;done)
  rename_i j;cases h;have b:=a;simp only[VR]at a;obtain⟨t,n,m,k,u,_,_,rfl⟩:=Hm j a;exact⟨_,rfl,c b⟩
 all_goals
  cases h;have b:=a;simp only[VR]at a
  first
   |(subst a;exact⟨_,rfl,c b⟩)
   |(obtain⟨_,rfl,_⟩:=a;exact⟨_,rfl,c b⟩)
   |(obtain⟨_,_,rfl,_⟩:=a;exact⟨_,rfl,c b⟩)
   |(obtain⟨_,_,rfl⟩:=a;exact⟨_,rfl,c b⟩)
def Ho(S:ae)(a:Nat->Option (Nat×Nat)):List SV->List (Nat×SV)->Option (List SV)
 |cells,[]=>some cells
 |cells,(i,v)::rest=>match a i with
  |some (off,n)=>match FH S v with
   |some b=>match Nat.beq b.length n&&Nat.ble (off+n) cells.length with
    |true=>Ho S a (cells.take off++b++cells.drop (off+n)) rest
    |false=>none
   |none=>none
  |none=>none
def Hp{S:ae}{σ:Sto}{a:Nat->Option (Nat×Nat)}:∀{p:List (Nat×SV)}{cells c:List SV}{ds:List D}{j:List (Nat×D)},Ho S a cells p=some c->VRs S σ cells ds->VRp S σ p j->
 ∃b,mK a ds j=some b/\VRs S σ c b
 |[],cells,c,ds,j,h,g,f=>by
  simp only[VRp]at f;subst f;simp only[Ho,amn]at h;subst h;exact⟨ds,rfl,g⟩
 |(i,v)::rest,cells,c,ds,j,h,g,f=>by
  simp only[VRp]at f;obtain⟨e,B,rfl,t,u⟩:=f;simp only[Ho]at h;split at h<;>try (cases h;done)
  rename_i d n m;split at h<;>try (cases h;done)
  rename_i q l;split at h<;>try (cases h;done)
  rename_i k;simp only[amk]at k;obtain⟨s,w,o⟩:=Hn l t;have C:=o.length;have E:=g.length;have z:q.length=n:=bu k.1;have A:d+n<=cells.length:=amx k.2;obtain⟨b,x,y⟩:=Hp h (((g.take d).append o).append (g.drop (d+n))) u;refine⟨b,?_,y⟩;simp only[mK,m,w];rw[amE ⟨omq,omq⟩];exact x
def ROk{α:Type}(T:Tys)(S:ae)(σ:Sto)(τ':Env)(c:Op)(b:List Nat)(K:SV->Option α)(r:α):Prop:=
 ∃v a d,K v=some r/\VR S σ v d/\aA a d/\∀s:Sto,(∀l∈b,s[l]?=σ[l]?)->aop T τ' s c=some (a,s)
def aY{α:Type}{b:Bool}{x y:Option α}{r:α}(h:cond b x y=some r):(b=true/\x=some r)∨(b=false/\y=some r):=by
 cases b
 ·exact .inr ⟨rfl,h⟩
 ·exact .inl ⟨rfl,h⟩
section
variable {α:Type}{T:Tys}{S:ae}{σ:Sto}{τ:aw}{τ' :Env}{K:SV→Option α}{r:α}
def cD(τ:aw)(x:Operand)(K:SV->Option α):Option α:=match sev τ x with
 |some v=>K v
 |none=>none
def aQ{x:Operand}(h:cD τ x K=some r):∃v,sev τ x=some v/\K v=some r:=by
 unfold cD at h;split at h
 ·exact⟨_,by assumption,h⟩
 ·cases h
def jg{k:IntKind}{n:Int}:VR S σ (.int k n) (.int k n):=by simp only[VR]
def qE{b:Bool}:VR S σ (.bool b) (.bool b):=by simp only[VR]
def FI{b:List UInt8}:VR S σ (.str b) (.str b):=by simp only[VR]
def az(k:IntKind)(a b:Int):Int:=k.wrap (a+b)
def aC(k:IntKind)(a b:Int):Int:=k.wrap (a-b)
def iK(k:IntKind)(a b:Int):Int:=k.wrap (a*b)
def vY(k:IntKind)(a b:Int):Int:=k.wrap (a.tdiv b)
def Qw(k:IntKind)(a b:Int):Int:=k.wrap (a*2 ^ min b.toNat k.bits)
def xO(k:IntKind)(a b:Int):Int:=a.fdiv (2 ^ min b.toNat k.bits)
def adm(c:BinOp)(k d:IntKind)(a b:Int)(K:SV->Option α):Option α:=
 match c with
 |.shl=>cond (decide (0<=b)) (K (.int k (Qw k a b))) none
 |.shr=>cond (decide (0<=b)) (K (.int k (xO k a b))) none
 |c=>match decEq k d with
  |isFalse _=>none
  |isTrue _=>match c with
   |.add=>K (.int k (az k a b))
   |.sub=>K (.int k (aC k a b))
   |.mul=>K (.int k (iK k a b))
   |.quo=>cond (b==0) none (K (.int k (vY k a b)))
   |.rem=>cond (b==0) none (K (.int k (a.tmod b)))
   |.and=>K (.int k (bits .and k a b))
   |.or=>K (.int k (bits .or k a b))
   |.xor=>K (.int k (bits .xor k a b))
   |.andNot=>K (.int k (bits .andNot k a b))
   |.eql=>K (.bool (a==b))
   |.neq=>K (.bool (a !=b))
   |.lss=>K (.bool (decide (a<b)))
   |.leq=>K (.bool (decide (a<=b)))
   |.gtr=>K (.bool (decide (a>b)))
   |.geq=>K (.bool (decide (a>=b)))
   |_=>none
variable{Z:BinOp}{Y:Bool}{X:Option EK}
def af5{k e:IntKind}{a b:Int}(h:adm Z k e a b K=some r):∃v d,K v=some r/\VR S σ v d/\Cm Z k e a b=some d:=by
 unfold adm at h;split at h
 ·rcases aY h with⟨c,h⟩|⟨_,h⟩
  ·exact⟨_,_,h,jg,by simp only[Cm,amZ c,ano];rfl⟩
  ·cases h
 ·rcases aY h with⟨c,h⟩|⟨_,h⟩
  ·exact⟨_,_,h,jg,by simp only[Cm,amZ c,ano];rfl⟩
  ·cases h
 ·split at h<;>try (cases h;done)
  rename_i f _;subst f;split at h
  case h_4=>
   rcases aY h with⟨_,h⟩|⟨c,h⟩
   ·cases h
   ·exact⟨_,_,h,jg,by simp at c;simp[Cm,c];rfl⟩
  case h_5=>
   rcases aY h with⟨_,h⟩|⟨c,h⟩
   ·cases h
   ·exact⟨_,_,h,jg,by simp at c;simp[Cm,c]⟩
  all_goals first
   |(cases h;done)
   |exact⟨_,_,h,jg,by simp only[Cm,ano];rfl⟩
   |exact⟨_,_,h,jg,by simp only[Cm,ano]⟩
   |exact⟨_,_,h,qE,by simp only[Cm,ano]⟩
def adn(d:BinOp)(a b:List UInt8)(K:SV->Option α):Option α:=
 match d with
 |.add=>(cat a b).bind λc=>K (.str c)
 |.eql=>K (.bool (a==b))
 |.neq=>K (.bool (!(a==b)))
 |.lss=>K (.bool (Op.bytesLess a b))
 |.leq=>K (.bool (Op.bytesLess a b||a==b))
 |.gtr=>K (.bool (!(Op.bytesLess a b||a==b)))
 |.geq=>K (.bool (!Op.bytesLess a b))
 |_=>none
def af6{a b:List UInt8}(h:adn Z a b K=some r):∃v d,K v=some r/\VR S σ v d/\Qd Z a b=some d:=by
 unfold adn at h;split at h
 ·obtain⟨c,e,h⟩:=ak h;refine⟨_,_,h,FI,?_⟩;unfold cat at e;split at e<;>try (cases e;done)
  rename_i f;cases e;simp[Qd,f]
 all_goals first
  |(cases h;done)
  |exact⟨_,_,h,qE,by simp only[Qd]⟩
inductive NK where
 |nilp|ptr|nili|ifc|nilf|fn|other
def svK:SV->NK
 |.raw .nilp=>.nilp
 |.raw (.ptr _ _ _)=>.ptr
 |.raw .nili=>.nili
 |.raw .anyi=>.ifc
 |.raw .nilf=>.nilf
 |.rp _ _ _=>.ptr
 |.rc _ _=>.ptr
 |.iface _ _=>.ifc
 |.func _ _ _=>.fn
 |_=>.other
def ado(b:EK)(a:Bool)(x y:NK):Option Bool:=
 match b with
 |.ptr=>match x,y with
  |.nilp,.nilp=>some true
  |.nilp,.ptr=>some false
  |.ptr,.nilp=>some false
  |_,_=>none
 |.iface=>match x,y with
  |.nili,.nili=>match a with
   |true=>some true
   |false=>none
  |.nili,.ifc=>some false
  |.ifc,.nili=>some false
  |_,_=>none
 |.func=>match x,y with
  |.nilf,.nilf=>some true
  |.nilf,.fn=>some false
  |.fn,.nilf=>some false
  |_,_=>none
 |_=>none
def aaJ{v:SV}{d:D}(g:VR S σ v d):match svK v with
 |.nilp=>d=.nilp
 |.ptr=>(∃l u o,d=.ptr l u o)∨∃h o,d=.rptr h o
 |.nili=>d=.nili
 |.ifc=>(∃t e,d=.iface t e)∨d=.anyi
 |.nilf=>d=.nilf
 |.fn=>∃f a b,d=.func f a b
 |.other=>True:=by
 cases v
 case raw e=>
  simp only[VR]at g;subst g;cases d<;>simp[svK]
 case rp=>simp only[VR]at g;obtain⟨_,_,rfl⟩:=g;exact .inr ⟨_,_,rfl⟩
 case rc=>simp only[VR]at g;obtain⟨_,rfl,_⟩:=g;exact .inr ⟨_,_,rfl⟩
 case iface=>simp only[VR]at g;obtain⟨_,rfl,_⟩:=g;exact .inl ⟨_,_,rfl⟩
 case func=>simp only[VR]at g;obtain⟨_,_,rfl,_⟩:=g;exact⟨_,_,_,rfl⟩
 all_goals trivial
def af7{i:EK}{c b:Bool}{v w:SV}{d e:D}(h:ado i c (svK v) (svK w)=some b)(l:VR S σ v d)(m:VR S σ w e):
 eqD c i d e=some b/\(∀a,G5 (some i) a c d e=match a with|.eql=>(eqD c i d e).map .bool|.neq=>(eqD c i d e).map λr=>.bool (!r)|_=>none):=by
 have f:=aaJ l;have g:=aaJ m;unfold ado at h;split at h<;>(try (cases h;done))<;>split at h<;>try (cases h;done)
 all_goals
  rename_i j k;rw[j]at f;rw[k]at g;simp only at f g
 all_goals first
  |(cases h;subst f g;exact⟨rfl,λa=>by cases a<;>rfl⟩)
  |(cases h;subst f;rcases g with⟨_,_,_,rfl⟩|⟨_,_,rfl⟩<;>exact⟨rfl,λa=>by cases a<;>rfl⟩)
  |(cases h;subst g;rcases f with⟨_,_,_,rfl⟩|⟨_,_,rfl⟩<;>exact⟨rfl,λa=>by cases a<;>rfl⟩)
  |(cases h;subst f;rcases g with⟨_,_,rfl⟩|rfl<;>exact⟨rfl,λa=>by cases a<;>rfl⟩)
  |(cases h;subst g;rcases f with⟨_,_,rfl⟩|rfl<;>exact⟨rfl,λa=>by cases a<;>rfl⟩)
  |(cases h;subst f;obtain⟨_,_,_,rfl⟩:=g;exact⟨rfl,λa=>by cases a<;>rfl⟩)
  |(cases h;subst g;obtain⟨_,_,_,rfl⟩:=f;exact⟨rfl,λa=>by cases a<;>rfl⟩)
  |(subst f g;cases c<;>simp only at h<;>cases h;exact⟨rfl,λa=>by cases a<;>rfl⟩)
def FJ:LK->SV->SV->Option Bool
 |.b,.bool a,.bool b=>some (a==b)
 |.i,.int k a,.int c b=>match decEq k c with
  |isTrue _=>some (a==b)
  |isFalse _=>none
 |.s,.str a,.str b=>some (a==b)
 |_,_,_=>none
def kF:List LK->List SV->List SV->Option Bool
 |[],[],[]=>some true
 |[k],[a],[b]=>FJ k a b
 |k::e,a::c,b::d=>match FJ k a b,kF e c d with
  |some r,some s=>some (r&&s)
  |_,_=>none
 |_,_,_=>none
def Hq{k:LK}{v w:SV}{d e:D}{b:Bool}(h:FJ k v w=some b)(a:VR S σ v d)(c:VR S σ w e):iA k d e=some b:=by
 unfold FJ at h;split at h<;>try (cases h;done)
 ·simp only[VR]at a c;subst a c;exact h
 ·split at h<;>try (cases h;done)
  rename_i f _;subst f;simp only[VR]at a c;subst a c;simpa[iA] using h
 ·simp only[VR]at a c;subst a c;exact h
def Rx:∀(ks:List LK){a bs:List SV}{ds es:List D}{b:Bool},kF ks a bs=some b->VRs S σ a ds->VRs S σ bs es->H8 ks ds es=some b/\ds.length=ks.length/\es.length=ks.length
 |[],a,bs,ds,es,b,h,c,f=>by
  unfold kF at h;split at h<;>simp_all[VRs,H8]
 |[k],a,bs,ds,es,b,h,c,f=>by
  match a,bs,h with
  |[x],[y],h=>
   simp only[kF]at h;simp only[VRs]at c f;obtain⟨d,_,rfl,g,rfl⟩:=c;obtain⟨e,_,rfl,j,rfl⟩:=f;have:=Hq h g j;simp[H8,this]
  |[],[],h=>simp[kF]at h
  |[],_::_,h=>simp[kF]at h
  |_::_,[],h=>simp[kF]at h
  |_::_::_,[_],h=>simp[kF]at h
  |[_],_::_::_,h=>simp[kF]at h
  |_::_::_,_::_::_,h=>simp[kF]at h
 |k::v::ks,a,bs,ds,es,b,h,c,f=>by
  match a,bs,h with
  |x::a,y::bs,h=>
   simp only[kF]at h;split at h<;>try (cases h;done)
   rename_i r s o p;cases h;simp only[VRs]at c f;obtain⟨d,m,rfl,g,i⟩:=c;obtain⟨e,n,rfl,j,l⟩:=f;obtain⟨q,t,u⟩:=Rx (v::ks) p i l;have:=Hq o g j;refine⟨?_,by simp[t],by simp[u]⟩;simp only[H8,this];rw[q]
  |[],[],h=>simp[kF]at h
  |[],_::_,h=>simp[kF]at h
  |_::_,[],h=>simp[kF]at h
def eqF(a:BinOp)(b:Bool)(K:SV->Option α):Option α:=match a with
 |.eql=>K (.bool b)
 |.neq=>K (.bool (!b))
 |_=>none
def YB(c:Option EK)(e:BinOp)(a:Bool)(x y:SV)(K:SV->Option α):Option α:=
 match c with
 |some d=>match ado d a (svK x) (svK y) with
  |some b=>eqF e b K
  |none=>none
 |none=>none
def adp(c:Option EK)(d:BinOp)(e:Bool)(x y:SV)(K:SV->Option α):Option α:=
 match x with
 |.int k a=>match y with
  |.int h b=>adm d k h a b K
  |_=>none
 |.str a=>match y with
  |.str b=>adn d a b K
  |_=>none
 |.bool a=>match y,c with
  |.bool b,some .bool=>eqF d (a==b) K
  |_,_=>none
 |.agg f=>match y,c with
  |.agg g,some (.flat i)=>match kF i f g with
   |some b=>eqF d b K
   |none=>none
  |_,_=>none
 |x=>YB c d e x y K
def Qx{b:Bool}(h:eqF Z b K=some r):(Z=.eql/\K (.bool b)=some r)∨(Z=.neq/\K (.bool (!b))=some r):=by
 unfold eqF at h;split at h
 ·exact .inl ⟨rfl,h⟩
 ·exact .inr ⟨rfl,h⟩
 ·cases h
def adq{x y:SV}{d e:D}(h:YB X Z Y x y K=some r)(i:VR S σ x d)(j:VR S σ y e):∃v a,K v=some r/\VR S σ v a/\G5 X Z Y d e=some a:=by
 unfold YB at h;split at h<;>try (cases h;done)
 split at h<;>try (cases h;done)
 rename_i b g;obtain⟨c,f⟩:=af7 g i j;rcases Qx h with⟨rfl,h⟩|⟨rfl,h⟩
 ·exact⟨_,_,h,qE,by rw[f,c];rfl⟩
 ·exact⟨_,_,h,qE,by rw[f,c];rfl⟩
def af8{x y:SV}{d e:D}(h:adp X Z Y x y K=some r)(a:VR S σ x d)(c:VR S σ y e):∃v g,K v=some r/\VR S σ v g/\G5 X Z Y d e=some g:=by
 unfold adp at h;split at h
 ·split at h<;>try (cases h;done)
  simp only[VR]at a c;subst a c;exact af5 h
 ·split at h<;>try (cases h;done)
  simp only[VR]at a c;subst a c;exact af6 h
 ·split at h<;>try (cases h;done)
  simp only[VR]at a c;subst a c;rcases Qx h with⟨rfl,h⟩|⟨rfl,h⟩
  ·exact⟨_,_,h,qE,by simp[G5,eqD]⟩
  ·exact⟨_,_,h,qE,by simp[G5,eqD]⟩
 ·split at h<;>try (cases h;done)
  split at h<;>try (cases h;done)
  rename_i b k;simp only[VR]at a c;obtain⟨l,rfl,a⟩:=a;obtain⟨m,rfl,c⟩:=c;obtain⟨f,i,j⟩:=Rx _ k a c;have f:=Mx _ _ _ _ f;rcases Qx h with⟨rfl,h⟩|⟨rfl,h⟩
  ·exact⟨_,_,h,qE,by simp[G5,eqD,f,i,j]⟩
  ·exact⟨_,_,h,qE,by simp[G5,eqD,f,i,j]⟩
 ·exact adq h a c
end
end Go.Fw
def amG:=@List.append_nil
namespace Go.Fw
open Go.RowKit
def Cells.weak{G:Gh}{b:Nat}:∀{ds es:List D}{o:Nat},bt ds es->Cells G b o ds->Cells G b o es
 |[],es,o,h,a=>by
  have h:es=[]:=h;subst h;exact a
 |d::ds,[],o,h,_=>h.elim
 |d::ds,e::es,o,h,a=>by
  simp only[Cells]at a⊢;obtain⟨⟨v,c,f⟩,g⟩:=a;exact⟨⟨v,c,h.1 _ _ f⟩,Cells.weak h.2 g⟩
def bt.length:∀{ds es:List D},bt ds es->ds.length=es.length
 |[],es,h=>by
  have h:es=[]:=h;subst h;rfl
 |d::ds,[],h=>h.elim
 |d::ds,e::es,h=>by simp[bt.length h.2]
def aA.cellsList{ds es:List D}{n:Nat}{f:Bool}(h:bt ds es):aA (.list ds n f) (.list es n f):=by
 intro G v d;simp only[Rep]at d⊢;obtain⟨a,c,e,g,i,j,k⟩:=d;refine⟨a,c,e,g,i,j,?_⟩;rcases k with⟨b,o,l,m⟩|rfl
 ·exact .inl ⟨b,o,l,m.weak h⟩
 ·have h:es=[]:=h;exact .inr h
def TC.takes{α:Type}(t:TC):Nat->List SV->(List t.Den->List SV->Option α)->Option α
 |0,a,K=>K [] a
 |n+1,a,K=>t.take a λx r=>t.takes n r λc b=>K (x::c) b
def TC.takes_ok{α:Type}{S:ae}{σ:Sto}(t:TC):∀(n:Nat)(cs:List SV)(ds:List D)(K:List t.Den->List SV->Option α)(r:α),t.takes n cs K=some r->VRs S σ cs ds->
 ∃a b c d2,K a b=some r/\ds=c++d2/\bt c (t.flat a)/\VRs S σ b d2/\a.length=n
 |0,cs,ds,K,r,h,f=>⟨[],cs,[],ds,h,rfl,by show bt [] (bN _ []);rw[gU];rfl,f,rfl⟩
 |n+1,cs,ds,K,r,h,f=>by
  simp only[TC.takes]at h;obtain⟨x,d,c,d2,j,rfl,p,m⟩:=TC.take_ok t cs ds _ r h f;obtain⟨a,e,g,i,k,rfl,q,o,l⟩:=TC.takes_ok t n d d2 _ r j m;refine⟨x::a,e,c++g,i,k,by simp,?_,o,by simp[l]⟩;show bt _ (bN _ (x::a));rw[gz];exact bt.append p q
section
variable {α:Type}{T:Tys}{S:ae}{σ:Sto}{τ:aw}{τ' :Env}{K:SV→Option α}{r:α}
def YC(S:ae)(v:SV)(n:Nat)(K:List SV->Option α):Option α:=
 match v with
 |.rp t x o=>match Nat.ble (o+n) (t.scells x).length with
  |true=>K (((t.scells x).drop o).take n)
  |false=>none
 |.rc a o=>match Nat.ble (o+n) a.length with
  |true=>K ((a.drop o).take n)
  |false=>none
 |.raw d=>match d with
  |.ptr l u o=>match S[l]? with
   |some (.cells a _)=>match Nat.beq u 0&&Nat.ble (o+n) a.length with
    |true=>K ((a.drop o).take n)
    |false=>none
   |_=>none
  |_=>none
 |.ap l g i o=>match S[l]? with
  |some (.arr t c _ b)=>match Nat.beq g b with
   |true=>(ix c i).bind λx=>match Nat.ble (o+n) (t.scells x).length with
    |true=>K (((t.scells x).drop o).take n)
    |false=>none
   |false=>none
  |_=>none
 |_=>none
def fpV:SV->List Nat
 |.raw d=>match d with
  |.ptr l _ _=>[l]
  |_=>[]
 |.ap l _ _ _=>[l]
 |.own l _=>[l]
 |_=>[]
def adu(G:StR S σ){v:SV}{n:Nat}{d:D}{K:List SV->Option α}(h:YC S v n K=some r)(c:VR S σ v d):
 ∃q e,K q=some r/\VRs S σ q e/\e.length=n/\∀s:Sto,(∀l∈fpV v,s[l]?=σ[l]?)->lI s d n=some e:=by
 unfold YC at h;split at h
 ·split at h<;>try (cases h;done)
  rename_i t x o _ b;have b:=amx b;simp only[VR]at c;obtain⟨N,P,rfl⟩:=c;have f:=TC.scells_ok S σ t x;have m:=f.length;refine⟨_,((t.cells x).drop o).take n,h,(f.drop o).take n,?_,?_⟩
  ·simp only[amT,anj];omega
  ·intro s _;simp only[lI];rw[amE (by simp only[amo];omega)];congr 1;rw[amL,apc,apS omq,apR (by simp only[anj];omega)]
 ·split at h<;>try (cases h;done)
  rename_i q o _ b;have b:=amx b;simp only[VR]at c;obtain⟨e,rfl,c⟩:=c;have m:=c.length;refine⟨_,(e.drop o).take n,h,(c.drop o).take n,?_,?_⟩
  ·simp only[amT,anj];omega
  ·intro s _;simp only[lI];rw[amE omq]
 ·split at h<;>try (cases h;done)
  split at h<;>try (cases h;done)
  rename_i l u o _ q C m;split at h<;>try (cases h;done)
  rename_i b;simp only[amk]at b;have L:=bu b.1;have b:=amx b.2;subst L;simp only[VR]at c;subst c;obtain⟨a,H,e,B,rfl,_,j⟩:=G.obj _ _ m;have p:=j.length;refine⟨_,(e.drop o).take n,h,(j.drop o).take n,?_,?_⟩
  ·simp only[amT,anj];omega
  ·intro s w;have:=w l (by simp[fpV]);simp only[lI,this,H];rw[amE ⟨trivial,omq⟩]
 ·split at h<;>try (cases h;done)
  rename_i l g i o _ t A C M m;split at h<;>try (cases h;done)
  rename_i k;have k:=bu k;subst k;obtain⟨x,y,h⟩:=ak h;split at h<;>try (cases h;done)
  rename_i b;have b:=amx b;simp only[VR]at c;obtain⟨B,u,F,rfl⟩:=(c.2 _ _ _ _ m).2 rfl;obtain⟨_,O,y⟩:=T0 y;have f:=TC.scells_ok S σ t x;have p:=f.length;have J:(t.cells x).length=t.sz:=t.enc.len x;have k:=Q6 (E:=t.enc) y;have I:i.toNat*t.sz+t.sz<=(t.flat A).length:=by
   rw[fe,<-aoK];exact ank _ omq
  refine⟨_,((t.cells x).drop o).take n,h,(f.drop o).take n,?_,?_⟩
  ·simp only[amT,anj];omega
  ·intro s w;have:=w l (by simp[fpV]);simp only[lI,this,F];rw[amE ⟨trivial,omq⟩];congr 1;show((t.flat A).drop (i.toNat*t.sz+o)).take n=((t.enc.cells x).drop o).take n;have z:t.enc.sz=t.sz:=rfl;rw[<-k,<-anZ,apD,List.take_take];congr 1;omega
 ·cases h
def adv(b:Bool)(cs:List SV)(K:SV->Option α):Option α:=match b with
 |true=>K (.agg cs)
 |false=>match cs with
  |[v]=>K v
  |_=>none
def af9{b:Bool}{cs:List SV}{ds:List D}(h:adv b cs K=some r)(a:VRs S σ cs ds):∃v d,K v=some r/\VR S σ v d/\Sr b ds=some d:=by
 unfold adv at h;split at h
 ·exact⟨_,.agg ds,h,by simp only[VR];exact⟨ds,rfl,a⟩,rfl⟩
 ·split at h<;>try (cases h;done)
  simp only[VRs]at a;obtain⟨e,f,rfl,c,rfl⟩:=a;exact⟨_,e,h,c,rfl⟩
def SH(T:Tys)(τ:aw)(S:ae)(t:TypeId)(x:Operand)(K:SV->Option α):Option α:=
 match lk T.ld t with
 |some (n,b)=>match b||Nat.beq n 1 with
  |true=>cD τ x λv=>YC S v n λa=>adv b a K
  |false=>none
 |none=>none
def fpO(τ:aw)(x:Operand):List Nat:=match sev τ x with
 |some v=>fpV v
 |none=>[]
def UQ(q:StR S σ)(p:ER S σ τ τ'){t:TypeId}{x:Operand}(h:SH T τ S t x K=some r):ROk T S σ τ' (.load t x) (fpO τ x) K r:=by
 unfold SH at h;split at h<;>try (cases h;done)
 rename_i n b e;split at h<;>try (cases h;done)
 rename_i k;obtain⟨v,o,h⟩:=aQ h;obtain⟨d,u,i⟩:=fE p o;obtain⟨B,C,h,c,m,y⟩:=adu q h i;obtain⟨A,j,h,g,w⟩:=af9 h c;refine⟨A,j,j,h,g,aA.refl _,λs z=> ?_⟩;have a:b=true∨n=1:=by
  simp only[anO]at k;exact k.imp id bu
 have f:∀l∈fpV v,s[l]?=σ[l]? :=by
  intro l m;refine z l ?_;unfold fpO;rw[o];exact m
 simp only[aop,NV,e,u,amE a,y s f,w];rfl
def UR(T:Tys)(τ:aw)(S:ae)(t:TypeId)(b:List (Nat×Operand))(K:SV->Option α):Option α:=
 match lk T.build t with
 |some (z,bk)=>match Nu τ b with
  |some c=>match Ho S bk.place (kE z) c with
   |some a=>K (.agg a)
   |none=>none
  |none=>none
 |none=>none
variable{Z:SK}{Y:Array (Nat×Operand)}
def aaK(i:ER S σ τ τ'){t:TypeId}(h:UR T τ S t Y.toList K=some r):ROk T S σ τ' (.build t Y) [] K r:=by
 unfold UR at h;split at h<;>try (cases h;done)
 rename_i z bk j;split at h<;>try (cases h;done)
 rename_i m c;split at h<;>try (cases h;done)
 rename_i k b;obtain⟨l,d,e⟩:=K8 i c;obtain⟨a,f,g⟩:=Hp b (jq S σ z) e;refine⟨_,.agg a,.agg a,h,by simp only[VR];exact⟨a,rfl,g⟩,aA.refl _,λs _=> ?_⟩;simp only[aop,Ta,j,d,f];rfl
def US(z:List SV):Nat->List SV
 |0=>[]
 |n+1=>z++US z n
def Qy{z:List SV}{a:List D}(h:VRs S σ z a):∀n,VRs S σ (US z n) (iz a n)
 |0=>by simp only[US,iz,VRs]
 |n+1=>h.append (Qy h n)
def Em(T:Tys)(H:Tr TC)(τ:aw)(S:ae)(t:TypeId)(len:Nat)(e:List (Nat×Operand))(K:SV->Option α):Option α:=
 match lk T.bs t with
 |some (z,b)=>match Nu τ e,Nat.ble (len*b) 16777216 with
  |some f,true=>match Ho S (λi=>some (i*b,b)) (US (kE z) len) f with
   |some c=>match lk H t with
    |some d=>d.takes len c λg a=>match a with
     |[]=>K (.sl d g true)
     |_=>none
    |none=>K (.lst c len true)
   |none=>none
  |_,_=>none
 |none=>none
def Qz{H:Tr TC}(p:ER S σ τ τ'){t:TypeId}{len:Nat}(h:Em T H τ S t len Y.toList K=some r):ROk T S σ τ' (.buildSlice t len Y) [] K r:=by
 unfold Em at h;split at h<;>try (cases h;done)
 rename_i z A q;split at h<;>try (cases h;done)
 rename_i B e a;have a:=amx a;split at h<;>try (cases h;done)
 rename_i x d;obtain⟨y,m,n⟩:=K8 p e;obtain⟨b,o,f⟩:=Hp d (Qy (jq S σ z) len) n;have c:∀s:Sto,aop T τ' s (.buildSlice t len Y)=some (.list b len true,s):=by
  intro s;simp only[aop,DZ,q,m,amE a,o];rfl
 split at h
 ·rename_i i v;obtain⟨j,k,l,d2,h,rfl,w,g,u⟩:=TC.takes_ok i _ _ _ _ _ h f;split at h<;>try (cases h;done)
  simp only[VRs]at g;subst g;rw[amG]at c;refine⟨_,.list l len true,.list (i.flat j) j.length true,h,by simp only[VR];exact⟨true,rfl,λ_=>rfl⟩,?_,λs _=>c s⟩;rw[u];exact aA.cellsList w
 ·exact⟨_,.list b len true,.list b len true,h,by simp only[VR];exact⟨b,true,rfl,λ_=>rfl,f⟩,aA.refl _,λs _=>c s⟩
def La(τ:aw):Option Operand->Option (Option Int)
 |none=>some none
 |some x=>match sev τ x with
  |some (.int _ n)=>some (some n)
  |_=>none
def Nv(c:ER S σ τ τ'){x:Option Operand}{i:Option Int}(h:La τ x=some i):∃d,evo τ' x=some d/\rZ d=some i:=by
 cases x with
 |none=>simp only[La,amn]at h;subst h;exact⟨none,rfl,rfl⟩
 |some x=>
  simp only[La]at h;split at h<;>try (cases h;done)
  rename_i k n e;cases h;obtain⟨d,b,a⟩:=fE c e;simp only[VR]at a;subst a;exact⟨some (.int k n),by simp only[evo,b],rfl⟩
def isN:Option Int->Bool
 |none=>true
 |some _=>false
def Lb(b:TC)(xs:List b.Den)(f:Bool)(c a:Option Int)(K:SV->Option α):Option α:=
 (slc xs (bC 0 c) (bC xs.length a)).bind λd=>K (.sl b d (f&&isN a))
def WP(s:List UInt8)(l h:Option Int)(K:SV->Option α):Option α:=(slc s (bC 0 l) (bC s.length h)).bind λu=>K (.str u)
def WQ(a:TC)(xs:List a.Den)(l:Option Int)(h m:Int)(K:SV->Option α):Option α:=
 cond (decide (h<=m)&&decide (m<=xs.length)) ((slc xs (bC 0 l) h).bind λb=>K (.sl a b false)) none
def QA(H:Option TC)(sk:SK)(v:SV)(l h m:Option Int)(K:SV->Option α):Option α:=
 match v with
 |.str s=>match sk,m with
  |.string,none=>WP s l h K
  |_,_=>none
 |.sl a c f=>match sk with
  |.slice b=>cond (Nat.beq b a.sz) (match m,h with
   |none,h=>Lb a c f l h K
   |some m,some h=>WQ a c l h m K
   |some _,none=>none) none
  |_=>none
 |.nils=>match sk,H,m with
  |.slice b,some a,none=>cond (Nat.beq b a.sz) (Lb a [] true l h K) none
  |_,_,_=>none
 |_=>none
def UT(T:Tys)(H:Tr TC)(τ:aw)(t:TypeId)(x:Operand)(b a mx:Option Operand)(K:SV->Option α):Option α:=
 (lk T.sli t).bind λsk=>cD τ x λv=>(La τ b).bind λl=>(La τ a).bind λh=>(La τ mx).bind λm=>QA (lk H t) sk v l h m K
def Ry{c:TC}{xs:List c.Den}{f f0:Bool}{b a:Option Int}(h:Lb c xs f b a K=some r)(m:f=true->f0=true):
 ∃v d,K v=some r/\VR S σ v d/\Cl c.sz (.list (c.flat xs) xs.length f0) b a none=some d:=by
 unfold Lb at h;obtain⟨p,o,h⟩:=ak h;obtain⟨g,i,j,rfl,k⟩:=Q1 o;have l:oQ xs.length f0 b a none=some ((bC 0 b).toNat,(bC (xs.length:Int) a).toNat,f0&&decide (bC (xs.length:Int) a=xs.length)):=by
  simp only[oQ];rw[amE ⟨g,i,j⟩]
 refine⟨_,.list (c.flat ((xs.take (bC (xs.length:Int) a).toNat).drop (bC 0 b).toNat)) ((bC (xs.length:Int) a).toNat-(bC 0 b).toNat) (f0&&decide (bC (xs.length:Int) a=xs.length)),h,?_,?_⟩
 ·simp only[VR];refine⟨_,by rw[k],λe=> ?_⟩;simp only[amk]at e;cases a with
  |none=>simp[bC,m e.1]
  |some _=>simp[isN]at e
 ·have n:=fe c.enc xs;simp only[Cl,l];rw[amE n];have:=Pw c.enc xs _ _ (show(bC 0 b).toNat<=(bC (xs.length:Int) a).toNat by omega);simp only[TC.flat,TC.sz]at this⊢;rw[this]
def skD(sk:SK)(d:D)(l h m:Option Int):Option D:=match sk with
 |.slice a=>Cl a d l h m
 |.string=>(match m with|none=>St d l h|some _=>none)
 |.array _ _=>none
def YD{H:Option TC}{v:SV}{d:D}{l h m:Option Int}(a:QA H Z v l h m K=some r)(k:VR S σ v d):∃n y e,K n=some r/\VR S σ n e/\aA y e/\skD Z d l h m=some y:=by
 unfold QA at a;cases v<;>simp only at a<;>try (cases a;done)
 case str s=>
  cases Z<;>(try (simp at a;done));cases m<;>(try (simp at a;done));simp only at a;unfold WP at a;obtain⟨u,g,a⟩:=ak a;simp only[VR]at k;subst k;obtain⟨o,p,w,rfl,x⟩:=Q1 g;have q:oQ s.length true l h none=some ((bC 0 l).toNat,(bC (s.length:Int) h).toNat,true&&decide (bC (s.length:Int) h=s.length)):=by
   simp only[oQ];rw[amE ⟨o,p,w⟩]
  exact⟨_,_,_,a,FI,aA.refl _,by simp only[skD,St,q]⟩
 case sl tc xs f=>
  cases Z<;>(try (simp at a;done));rename_i F;rcases aY a with⟨j,b⟩|⟨_,b⟩<;>try (cases b;done)
  clear a;have a:=b;have j:=bu j;subst j;simp only[VR]at k;obtain⟨B,rfl,C⟩:=k;cases m with
  |none=>
   simp only at a;obtain⟨n,e,a,i,g⟩:=Ry (S:=S) (σ:=σ) a C;exact⟨n,e,e,a,i,aA.refl _,g⟩
  |some t=>
   cases h<;>simp only at a<;>try (cases a;done)
   rename_i c;unfold WQ at a;rcases aY a with⟨z,b⟩|⟨_,b⟩<;>try (cases b;done)
   clear a;have a:=b;simp only[amk,amX]at z;obtain⟨G,g,a⟩:=ak a;obtain⟨o,p,w,rfl,x⟩:=Q1 g;have q:oQ xs.length B l (some c) (some t)=some ((bC 0 l).toNat,c.toNat,decide (t=c)):=by
    simp only[oQ,bC,Option.isSome];rw[amE ⟨trivial,o,p,z⟩];rfl
   refine⟨_,.list (tc.flat ((xs.take c.toNat).drop (bC 0 l).toNat)) (c.toNat-(bC 0 l).toNat) (decide (t=c)),.list (tc.flat ((xs.take c.toNat).drop (bC 0 l).toNat)) ((xs.take c.toNat).drop (bC 0 l).toNat).length false,a,?_,?_,?_⟩
   ·simp only[VR];exact⟨false,rfl,λa=>by cases a⟩
   ·rw[x];exact aA.list
   ·have E:=fe tc.enc xs;have:=Pw tc.enc xs _ _ (show(bC 0 l).toNat<=c.toNat by omega);simp only[skD,Cl,q];simp only[TC.flat,TC.sz]at this⊢;rw[amE E,this]
 case nils=>
  cases Z<;>(try (simp at a;done));cases H<;>(try (simp at a;done));cases m<;>(try (simp at a;done));rename_i F tc;rcases aY a with⟨j,b⟩|⟨_,b⟩<;>try (cases b;done)
  clear a;have a:=b;have j:=bu j;subst j;simp only[VR]at k;subst k;obtain⟨n,e,a,i,g⟩:=Ry (S:=S) (σ:=σ) a (f0:=true) (λ_=>rfl);have A:D.list (tc.flat []) ([]:List tc.Den).length true=.list [] 0 true:=by
   show D.list (bN _ []) _ _=_;rw[gU];rfl
  rw[A]at g;exact⟨n,e,e,a,i,aA.refl _,g⟩
def aaL{t:TypeId}{x:Operand}{i g mx:Option Operand}{d b:D}{e c f:Option D}{l h m:Option Int}(n:lk T.sli t=some Z)(o:ev τ' x=some d)(j:evo τ' i=some e)(a2:evo τ' g=some c)(a3:evo τ' mx=some f)
 (b1:rZ e=some l)(b2:rZ c=some h)(k:rZ f=some m)(a:skD Z d l h m=some b)(s:Sto):aop T τ' s (.slice t x i g mx)=some (b,s):=by
 simp only[aop,Td,n,o,j,a2,a3,b1,b2,k];cases Z with
 |slice p=>simp only[skD]at a;simp only[a];rfl
 |string=>
  cases m with
  |none=>simp only[skD]at a;simp only[a];rfl
  |some _=>cases a
 |array _ _=>cases a
def aaM{H:Tr TC}(a:ER S σ τ τ'){t:TypeId}{x:Operand}{i g mx:Option Operand}(h:UT T H τ t x i g mx K=some r):ROk T S σ τ' (.slice t x i g mx) [] K r:=by
 unfold UT at h;obtain⟨sk,c,h⟩:=ak h;obtain⟨v,y,h⟩:=aQ h;obtain⟨d,p,f⟩:=fE a y;obtain⟨l,q,h⟩:=ak h;obtain⟨J,b,h⟩:=ak h;obtain⟨m,u,h⟩:=ak h;obtain⟨G,A,B⟩:=Nv a q;obtain⟨F,n,o⟩:=Nv a b;obtain⟨I,C,D⟩:=Nv a u;obtain⟨E,k,j,h,e,z,w⟩:=YD h f;exact⟨E,k,j,h,e,z,λs _=>aaL c p A n C B o D w s⟩
def adw(v:SV)(n:Nat):Option SV:=match v with
 |.rp t x o=>some (.rp t x (o+n))
 |.rc a o=>some (.rc a (o+n))
 |.ap l g i o=>some (.ap l g i (o+n))
 |.raw d=>match d with
  |.ptr l u o=>some (.raw (.ptr l u (o+n)))
  |_=>none
 |_=>none
def aga{v0 v:SV}{n:Nat}{d:D}(b:∀l g i o,v0=.ap l g i o->sD S l g=true)(h:adw v0 n=some v)(a:VR S σ v0 d):∃e,vH d n=some e/\VR S σ v e:=by
 cases v0<;>simp only[adw]at h<;>try (cases h;done)
 case rp=>cases h;simp only[VR]at a⊢;obtain⟨m,p,rfl⟩:=a;exact⟨_,rfl,m,p,by rw[aoy]⟩
 case rc=>cases h;simp only[VR]at a⊢;obtain⟨c,rfl,a⟩:=a;exact⟨_,rfl,c,rfl,a⟩
 case ap l g i o=>
  cases h;have k:=b _ _ _ _ rfl;simp only[VR]at a⊢;obtain⟨t,w,s,q,u,f,j,rfl⟩:=Hm k a;exact⟨_,rfl,.mk f j (by rw[aoy])⟩
 case raw e=>
  split at h<;>try (cases h;done)
  cases h;simp only[VR]at a⊢;subst a;exact⟨_,rfl,rfl⟩
end
end Go.Fw
def anb:=@List.drop_zero
def anr:=@Int.toNat_natCast
def anz:=@Classical.choose_spec
def aoX:=@congrFun
def aqm:=@Nat.min_eq_left
namespace Go.Fw
open Go.RowKit
noncomputable section
section
variable {α:Type}{T:Tys}{S:ae}{σ:Sto}{τ:aw}{τ' :Env}{K:SV→Option α}{r:α}
def alU(S:ae):SV->Bool
 |.ap l g _ _=>sD S l g
 |_=>true
def UU(S:ae)(v:SV)(K:SV->Option α):Option α:=match v with
 |.rp t x o=>K (.rp t x o)
 |.rc c o=>K (.rc c o)
 |.ap l g i o=>cond (sD S l g) (K (.ap l g i o)) none
 |.iface t v=>K (.iface t v)
 |.func e a b=>match e with
  |.func f=>K (.func (.func f) a b)
  |_=>none
 |.raw d=>match d with
  |.ptr l u o=>K (.raw (.ptr l u o))
  |.anyi=>K (.raw .anyi)
  |_=>none
 |_=>none
def agb{x:Operand}{v:SV}{d:D}(h:UU S v K=some r)(j:VR S σ v d)(k:ev τ' x=some d):∃m,K m=some r/\VR S σ m d/\D0 τ' x=some d:=by
 cases v<;>(try (simp[UU]at h;done))
 case rp=>have f:=j;simp only[VR]at j;obtain⟨_,_,rfl⟩:=j;exact⟨_,h,f,by simp only[D0,k]⟩
 case rc=>have f:=j;simp only[VR]at j;obtain⟨_,rfl,_⟩:=j;exact⟨_,h,f,by simp only[D0,k]⟩
 case iface=>have f:=j;simp only[VR]at j;obtain⟨_,rfl,_⟩:=j;exact⟨_,h,f,by simp only[D0,k]⟩
 case ap l g i o=>
  rcases aY h with⟨n,h⟩|⟨_,h⟩<;>try (cases h;done)
  have f:=j;simp only[VR]at j;obtain⟨t,y,q,p,u,s,w,rfl⟩:=Hm n j;exact⟨_,h,f,by simp only[D0,k]⟩
 case func fn a b=>
  have f:=j;simp only[VR]at j;obtain⟨_,_,rfl,_⟩:=j;cases fn<;>(try (simp[UU]at h;done));exact⟨_,h,f,by simp only[D0,k]⟩
 case raw e=>
  have f:=j;simp only[VR]at j;subst j;cases d<;>(try (simp[UU]at h;done))
  ·exact⟨_,h,f,by simp only[D0,k]⟩
  ·exact⟨_,h,f,by simp only[D0,k]⟩
def alV(k:IntKind)(n:Int):Int:=k.wrap (0-n)
def alW(k:IntKind)(n:Int):Int:=bits .xor k (if k.signed then-1 else k.max) n
def sUn(a:UnOp)(v:SV)(K:SV->Option α):Option α:=match a with
 |.not=>match v with
  |.bool b=>K (.bool (!b))
  |_=>none
 |.neg=>match v with
  |.int k n=>K (.int k (alV k n))
  |_=>none
 |.xor=>match v with
  |.int k n=>K (.int k (alW k n))
  |_=>none
 |_=>none
def aiy{a:UnOp}{v:SV}{d:D}(h:sUn a v K=some r)(c:VR S σ v d):∃e b,K e=some r/\VR S σ e b/\unD a d=some b:=by
 cases a<;>cases v<;>(try (simp[sUn]at h;done))<;>(simp only[VR]at c;subst c)
 all_goals first
  |exact⟨_,_,h,jg,rfl⟩
  |exact⟨_,_,h,qE,rfl⟩
def aaN(S:ae)(v:SV)(K:SV->Option α):Option α:=match v with
 |.sl .byte a _=>K (.str a)
 |.nils=>K (.str [])
 |.own l g=>match S[l]? with
  |some (.arr .byte a _ b)=>cond (Nat.beq g b) (K (.str a)) none
  |_=>none
 |_=>none
def Hr(S:ae)(ck:CK)(v:SV)(K:SV->Option α):Option α:=match ck with
 |.int k=>match v with
  |.int _ n=>K (.int k (k.wrap n))
  |_=>none
 |.idStr=>match v with
  |.str s=>K (.str s)
  |_=>none
 |.toBytes=>match v with
  |.str s=>(H7 s).bind λc=>K (.sl .byte c false)
  |_=>none
 |.toStr=>aaN S v K
def adx(C:StR S σ){ck:CK}{v:SV}{d:D}(h:Hr S ck v K=some r)(a:VR S σ v d):
 ∃o n,K o=some r/\VR S σ o n/\∀s:Sto,(∀l∈fpV v,s[l]?=σ[l]?)->vL s ck d=some n:=by
 have e:∀b:List UInt8,(TC.flat .byte b).length=b.length*1:=λb=>fe mP b;cases ck
 case int k=>
  cases v<;>(try (simp[Hr]at h;done));simp only[VR]at a;subst a;exact⟨_,_,h,jg,λs _=>rfl⟩
 case idStr=>
  cases v<;>(try (simp[Hr]at h;done));simp only[VR]at a;subst a;exact⟨_,_,h,FI,λs _=>rfl⟩
 case toBytes=>
  cases v<;>(try (simp[Hr]at h;done));simp only[VR]at a;subst a;simp only[Hr]at h;obtain⟨c,i,h⟩:=ak h;unfold H7 at i;split at i<;>try (cases i;done)
  rename_i t;rw[<-anm i]at h;clear i c;rename_i c _;refine⟨_,.list (TC.flat .byte c) c.length false,h,by simp only[VR];exact⟨false,rfl,λh=>by cases h⟩,λs _=> ?_⟩;show vL s .toBytes (.str c)=some (.list (bN mP c) c.length false);simp[vL,t,H5]
 case toStr=>
  simp only[Hr]at h;unfold aaN at h;split at h
  ·rename_i b f;simp only[VR]at a;obtain⟨y,rfl,_⟩:=a;refine⟨_,_,h,FI,λs _=> ?_⟩;simp only[vL,oR,e,ano];show(jC (bN mP b)).map D.str=_;rw[H6];rfl
  ·simp only[VR]at a;subst a;exact⟨_,_,h,FI,λs _=>rfl⟩
  ·split at h<;>try (cases h;done)
   rename_i l g _ b A B w;rcases aY h with⟨m,j⟩|⟨_,j⟩<;>try (cases j;done)
   have m:=bu m;subst m;simp only[VR]at a;obtain⟨z,u,q,rfl⟩:=(a.2 _ _ _ _ w).2 rfl;refine⟨_,_,j,FI,λs x=> ?_⟩;have:=x l (by simp[fpV]);have p:TC.sz .byte=1:=rfl;simp only[vL,oR,this,q,p,e];rw[amE ⟨trivial,trivial,omq⟩];simp only[anb];rw[amR (by rw[e];exact amt _)];show(jC (bN mP b)).map D.str=_;rw[H6];rfl
  ·cases h
def SI(S:ae)(v:SV)(n:Nat)(K:SV->Option α):Option α:=cond (alU S v) ((adw v n).bind K) none
def UV{v:SV}{n:Nat}{d:D}(h:SI S v n K=some r)(k:VR S σ v d):∃b a,K b=some r/\VR S σ b a/\vH d n=some a:=by
 unfold SI at h;rcases aY h with⟨j,h⟩|⟨_,h⟩<;>try (cases h;done)
 obtain⟨w,m,h⟩:=ak h;obtain⟨e,c,f⟩:=aga (λl g i o e=>by subst e;exact j) m k;exact⟨w,e,h,f,c⟩
def SJ(cs:List SV)(off n:Nat)(b:Bool)(K:SV->Option α):Option α:=match b with
 |true=>cond (Nat.ble (off+n) cs.length) (K (.agg ((cs.drop off).take n))) none
 |false=>(cs[off]?).bind K
def UW{cs:List SV}{ds:List D}{off n:Nat}{b:Bool}(h:SJ cs off n b K=some r)(c:VRs S σ cs ds):∃g f,K g=some r/\VR S σ g f/\AJ ds off n b=some f:=by
 unfold SJ at h;cases b
 ·obtain⟨v,e,h⟩:=ak h;obtain⟨d,i,j⟩:=c.get e;exact⟨v,d,h,j,by simpa[AJ] using i⟩
 ·rcases aY h with⟨a,h⟩|⟨_,h⟩<;>try (cases h;done)
  have a:=amx a;refine⟨_,.agg ((ds.drop off).take n),h,by simp only[VR];exact⟨_,rfl,(c.drop off).take n⟩,?_⟩;simp only[AJ,ano];rw[amE (by rw[c.length];exact a)]
def inb(n:Int)(len:Nat):Bool:=decide (0<=n)&&decide (n<len)
def QB{n:Int}{len:Nat}(h:inb n len=true):0<=n/\n<len:=by simpa[inb] using h
def Lc(n:Int)(K:Nat->Option α):Nat->Nat->Option α
 |0,_=>none
 |m+1,i=>cond (n==(i:Int)) (K i) (Lc n K m (i+1))
def Nw{n:Int}{K:Nat->Option α}{r:α}:∀{m i:Nat},Lc n K m i=some r->∃j:Nat,j<i+m/\n=(j:Int)/\K j=some r
 |0,_,h=>by simp[Lc]at h
 |m+1,i,h=>by
  simp only[Lc]at h;rcases aY h with⟨b,h⟩|⟨_,h⟩
  ·exact⟨i,omq,by simpa using b,h⟩
  ·obtain⟨j,c,a⟩:=Nw h;exact⟨j,omq,a⟩
def Nx(S:ae)(f:IK)(v:SV)(n:Int)(K:SV->Option α):Option α:=match f with
 |.slice a=>match v with
  |.sl b c _=>cond (Nat.beq a b.sz&&Nat.blt 0 a) ((ix c n).bind λx=>K (.rp b x 0)) none
  |.lst d len _=>cond (inb n len&&(Nat.blt 0 a&&Nat.beq d.length (len*a))) (K (.rc d (n.toNat*a))) none
  |.own l g=>match S[l]? with
   |some (.arr b c _ e)=>cond (Nat.beq g e&&Nat.beq a b.sz) (cond (inb n c.length) (K (.ap l g n 0)) none) none
   |_=>none
  |_=>none
 |.array len a=>Lc n (λi=>SI S v (i*a) K) len 0
def Wi{y:IK}{v:SV}{n:Int}{d:D}(h:Nx S y v n K=some r)(b:VR S σ v d):∃p m,K p=some r/\VR S σ p m/\
 (match y with|.slice sz=>GY sz d n|.array len sz=>if 0<=n/\n<len then vH d (n.toNat*sz) else none)=some m:=by
 unfold Nx at h;cases y
 case slice sz=>
  cases v<;>(try (simp at h;done))<;>simp only at h
  case sl tc xs f=>
   rcases aY h with⟨a,h⟩|⟨_,h⟩<;>try (cases h;done)
   simp only[amk]at a;have o:=bu a.1;have w:0<sz:=amx a.2;obtain⟨x,I,h⟩:=ak h;obtain⟨c,e,F⟩:=T0 I;simp only[VR]at b;obtain⟨C,rfl,_⟩:=b;have k:=fe tc.enc xs;have s:=Q6 (E:=tc.enc) F;have H:n.toNat*tc.sz+tc.sz<=(tc.flat xs).length:=by
    rw[fe,<-aoK];exact ank _ omq
   refine⟨_,.rptr (tc.flat xs) (n.toNat*sz),h,?_,?_⟩
   ·simp only[VR];refine⟨(tc.flat xs).take (n.toNat*sz),(tc.flat xs).drop (n.toNat*sz+sz),?_⟩;subst o;have A:tc.flat xs=(tc.flat xs).take (n.toNat*tc.sz)++(((tc.flat xs).drop (n.toNat*tc.sz)).take tc.sz++((tc.flat xs).drop (n.toNat*tc.sz)).drop tc.sz):=by
     rw[anD,anD]
    have B:((tc.flat xs).drop (n.toNat*tc.sz)).take tc.sz=tc.cells x:=s;rw[B,anZ]at A;rw[amL,<-A];congr 1;rw[amT,aqm omq];rfl
   ·simp only[GY];rw[amE ⟨c,e,w,by rw[o];exact k⟩]
  case lst cs len f=>
   rcases aY h with⟨a,h⟩|⟨_,h⟩<;>try (cases h;done)
   simp only[amk]at a;obtain⟨c,e⟩:=QB a.1;have w:0<sz:=amx a.2.1;have k:=bu a.2.2;simp only[VR]at b;obtain⟨z,C,rfl,_,b⟩:=b;refine⟨_,.rptr z (n.toNat*sz),h,by simp only[VR];exact⟨z,rfl,b⟩,?_⟩;simp only[GY];rw[amE ⟨c,e,w,by rw[b.length];exact k⟩]
  case own l g=>
   split at h<;>try (cases h;done)
   rename_i tc xs M N k;rcases aY h with⟨a,q⟩|⟨_,q⟩<;>try (cases q;done)
   simp only[amk]at a;have s:=bu a.1;have o:=bu a.2;subst s o;rcases aY q with⟨t,i⟩|⟨_,i⟩<;>try (cases i;done)
   obtain⟨c,e⟩:=QB t;simp only[VR]at b;obtain⟨L,u,J,rfl⟩:=(b.2 _ _ _ _ k).2 rfl;refine⟨_,.ptr l u (0+n.toNat*tc.sz),i,?_,?_⟩
   ·simp only[VR];exact .mk k J siq
   ·simp only[GY];rw[amE ⟨c,e,trivial⟩]
 case array len sz=>
  obtain⟨j,O,rfl,i⟩:=Nw h;obtain⟨p,m,i,c,e⟩:=UV i b;have G:(0:Int)<=(j:Int)/\(j:Int)<len:=omq;exact⟨p,m,i,c,by simp only[amE G,anr];exact e⟩
def aaO(d:IVK)(v:SV)(n:Int)(K:SV->Option α):Option α:=match d with
 |.string=>match v with
  |.str s=>(ix s n).bind λb=>K (.int .u8 b.toNat)
  |_=>none
 |.array len a b=>match v with
  |.agg c=>Lc n (λi=>SJ c (i*a) a b K) len 0
  |_=>none
def ady(S:ae)(k:eP)(v:SV)(K:SV->Option α):Option α:=match k with
 |.slice=>match v with
  |.sl _ a _=>K (.int .i64 a.length)
  |.lst _ n _=>K (.int .i64 n)
  |.nils=>K (.int .i64 0)
  |.own l g=>match S[l]? with
   |some (.arr _ a _ b)=>cond (Nat.beq g b) (K (.int .i64 a.length)) none
   |_=>none
  |_=>none
 |.string=>match v with
  |.str s=>K (.int .i64 s.length)
  |_=>none
 |.array n=>K (.int .i64 n)
def agc{k:eP}{v:SV}{d:D}(h:ady S k v K=some r)(a:VR S σ v d):∃c n,K c=some r/\VR S σ c (.int .i64 (n:Nat))/\M6 k d=some n:=by
 unfold ady at h;cases k
 case slice=>
  cases v<;>(try (simp at h;done))<;>simp only at h
  case sl=>simp only[VR]at a;obtain⟨j,rfl,_⟩:=a;exact⟨_,_,h,jg,rfl⟩
  case lst=>simp only[VR]at a;obtain⟨_,_,rfl,_⟩:=a;exact⟨_,_,h,jg,rfl⟩
  case nils=>simp only[VR]at a;subst a;exact⟨_,0,h,jg,rfl⟩
  case own l g=>
   split at h<;>try (cases h;done)
   rename_i s t o p i;rcases aY h with⟨e,b⟩|⟨_,b⟩<;>try (cases b;done)
   have f:=bu e;subst f;simp only[VR]at a;obtain⟨m,u,q,rfl⟩:=(a.2 _ _ _ _ i).2 rfl;exact⟨_,_,b,jg,rfl⟩
 case string=>
  cases v<;>(try (simp at h;done));simp only[VR]at a;subst a;exact⟨_,_,h,jg,rfl⟩
 case array n=>exact⟨_,_,h,jg,rfl⟩
def gv:Int->Int->Int:=Classical.choose (⟨_,rfl⟩:∃f,f=λa b:Int=>if b>a then b else a)
def rD:Int->Int->Int:=Classical.choose (⟨_,rfl⟩:∃f,f=λa b:Int=>if b<a then b else a)
def WR(a b:Int):gv a b=if b>a then b else a:=aoX (aoX (anz (⟨_,rfl⟩:∃f,f=λa b:Int=>if b>a then b else a)) a) b
def Ld(a b:Int):rD a b=if b<a then b else a:=aoX (aoX (anz (⟨_,rfl⟩:∃f,f=λa b:Int=>if b<a then b else a)) a) b
def jO:gv 0 0=0:=by rw[WR];rfl
def sMM(mx:Bool):SV->List SV->(SV->Option α)->Option α
 |.int k a,[],K=>K (.int k a)
 |.int k a,.int c b::r,K=>match decEq k c with
  |isTrue _=>match mx with
   |true=>sMM true (.int k (gv a b)) r K
   |false=>sMM false (.int k (rD a b)) r K
  |isFalse _=>none
 |_,_,_=>none
def UX{mx:Bool}:∀{vs:List SV}{v:SV}{d:D}{ds:List D},sMM mx v vs K=some r->VR S σ v d->VRs S σ vs ds->∃f c,K f=some r/\VR S σ f c/\mmD mx d ds=some c
 |[],v,d,ds,h,b,a=>by
  cases v<;>(try (simp[sMM]at h;done));simp only[VR]at b;subst b;simp only[VRs]at a;subst a;exact⟨_,_,h,jg,rfl⟩
 |w::vs,v,d,ds,h,b,a=>by
  cases v<;>(try (simp[sMM]at h;done));cases w<;>(try (simp[sMM]at h;done));simp only[sMM]at h;split at h<;>try (cases h;done)
  rename_i k _;subst k;simp only[VR]at b;subst b;simp only[VRs,VR]at a;obtain⟨e,l,rfl,rfl,a⟩:=a;cases mx<;>obtain⟨f,c,g,i,j⟩:=UX h jg a<;>refine⟨f,c,g,i,?_⟩<;>simp only[mmD,ano]<;>simpa[WR,Ld] using j
def Lf(a:LK)(key:SV):List D->List D->(Option D->Option α)->Option α
 |[],_,K=>K none
 |d::e,c,K=>match c with
  |v::c=>(FJ a key (ofD d)).bind λb=>cond b (K (some v)) (Lf a key e c K)
  |[]=>none
variable{Z:LK}
def Ny{key:SV}{d:D}(f:VR S σ key d){K:Option D->Option α}:∀(ks vs:List D)(i:Nat),Lf Z key ks vs K=some r->
 ∃o,K o=some r/\((o=none/\iM Z d ks i=some none)∨∃j v,o=some v/\iM Z d ks i=some (some (i+j))/\vs[j]?=some v)
 |[],vs,i,h=>⟨none,h,.inl ⟨rfl,rfl⟩⟩
 |g::ks,[],i,h=>by simp[Lf]at h
 |g::ks,v::vs,i,h=>by
  simp only[Lf]at h;obtain⟨b,m,h⟩:=ak h;have e:=Hq m f (FG S σ g);rcases aY h with⟨rfl,h⟩|⟨rfl,h⟩
  ·exact⟨_,h,.inr ⟨0,v,rfl,by simp only[iM,e];rfl,rfl⟩⟩
  ·obtain⟨o,k,a⟩:=Ny f ks vs (i+1) h;refine⟨o,k,?_⟩;rcases a with⟨a,c⟩|⟨j,n,a,c,l⟩
   ·exact .inl ⟨a,by simp only[iM,e];exact c⟩
   ·exact .inr ⟨j+1,n,a,by simp only[iM,e];rw[c];congr 2;omega,by simpa using l⟩
def OZ(a:LK)(z:D)(ok:Bool)(m key:SV)(K:SV->Option α):Option α:=match m with
 |.raw d=>match d with
  |.cmap b c=>Lf a key b c λo=>K (ofD (A3 z ok o))
  |.pmap b c=>match Fs b with
   |true=>match a with
    |.i=>match key with
     |.int .i64 n=>Lf .i (.int .i64 n) b c λo=>K (ofD (A3 z ok o))
     |_=>none
    |_=>none
   |false=>none
  |_=>none
 |_=>none
def adz{z:D}{ok:Bool}{m key:SV}{l k:D}(h:OZ Z z ok m key K=some r)(c:VR S σ m l)(g:VR S σ key k):
 ∃p i,K p=some r/\VR S σ p i/\∀s:Sto,AM s Z z ok l k=some i:=by
 cases m<;>(try (simp[OZ]at h;done));rename_i e;cases e<;>(try (simp[OZ]at h;done))
 ·simp only[VR]at c;subst c;obtain⟨o,h,a⟩:=Ny g _ _ 0 h;refine⟨_,_,h,FG S σ _,λs=> ?_⟩;rcases a with⟨rfl,a⟩|⟨j,v,rfl,a,f⟩
  ·simp only[AM,ny,a]
  ·rw[ane]at a;simp only[AM,ny,a,f];rfl
 ·simp only[VR]at c;subst c;simp only[OZ]at h;split at h<;>try (cases h;done)
  rename_i b;split at h<;>try (cases h;done)
  split at h<;>try (cases h;done)
  rename_i n;simp only[VR]at g;subst g;obtain⟨o,h,a⟩:=Ny (S:=S) (σ:=σ) (key:=.int .i64 n) (d:=.int .i64 n) (by simp only[VR]) _ _ 0 h;refine⟨_,_,h,FG S σ _,λs=> ?_⟩;rcases a with⟨rfl,a⟩|⟨j,v,rfl,a,f⟩
  ·simp only[AM,xZ,b,ny,a]
  ·rw[ane]at a;simp only[AM,xZ,b,ny,a,f];rfl
def Lg(τ:aw)(x:Operand)(K:Int->Option α):Option α:=cD τ x λv=>match v with
 |.int _ n=>K n
 |_=>none
def DO{x:Operand}{K:Int->Option α}(h:Lg τ x K=some r):∃k n,sev τ x=some (.int k n)/\K n=some r:=by
 unfold Lg at h;obtain⟨v,a,h⟩:=aQ h;cases v<;>(try (simp at h;done));exact⟨_,_,a,h⟩
def sBi(T:Tys)(S:ae)(τ:aw)(b:Builtin)(args:List Operand)(c:List TypeId)(K:SV->Option α):Option α:=match b with
 |.len=>match args,c with
  |[x],[t]=>(lk T.len t).bind λk=>cD τ x λv=>ady S k v K
  |_,_=>none
 |.max=>(El τ args).bind λa=>match a with
  |v::a=>sMM true v a K
  |[]=>none
 |.min=>(El τ args).bind λa=>match a with
  |v::a=>sMM false v a K
  |[]=>none
 |_=>none
def sR(T:Tys)(H:Tr TC)(τ:aw)(S:ae)(d:Op)(K:SV->Option α):Option α:=match d with
 |.move x=>cD τ x K
 |.assign x=>cD τ x K
 |.pick c a b=>cD τ c λv=>match v with
  |.bool r=>cond r (cD τ a K) (cD τ b K)
  |_=>none
 |.build t h=>UR T τ S t h.toList K
 |.buildSlice t len h=>Em T H τ S t len h.toList K
 |.load t x=>SH T τ S t x K
 |.nilCheck x=>cD τ x λv=>UU S v K
 |.binOp d t x y _=>cD τ x λv=>cD τ y λw=>adp (lk T.eq t) d (G4 x||G4 y) v w K
 |.unOp d _ x=>cD τ x λv=>sUn d v K
 |.convert s t x=>(lk2 T.conv s t).bind λck=>cD τ x λv=>Hr S ck v K
 |.makeInterface t x=>(lk T.conc t).bind λ_=>cD τ x λv=>K (.iface t v)
 |.makeFunc l a b=>(El τ a.toList).bind λz=>(El τ b.toList).bind λA=>K (.func l z A)
 |.slice t x q o u=>UT T H τ t x q o u K
 |.fieldAddr s x f=>(lk2 T.fld s f).bind λg=>cD τ x λv=>SI S v g K
 |.field s x f=>(lk2 T.fldV s f).bind λp=>cD τ x λv=>match v with
  |.agg j=>SJ j p.1 p.2.1 p.2.2 K
  |_=>none
 |.indexAddr t x i=>(lk T.idx t).bind λe=>cD τ x λv=>Lg τ i λn=>Nx S e v n K
 |.index t x i=>(lk T.idxV t).bind λe=>cD τ x λv=>Lg τ i λn=>aaO e v n K
 |.lookup t m k ok=>(lk T.map t).bind λp=>cD τ m λC=>cD τ k λB=>OZ p.1 p.2 ok C B K
 |.extract x i=>cD τ x λv=>match v with
  |.tup D=>(D[i]?).bind K
  |_=>none
 |.call c=>match c.callee with
  |.builtin b=>sBi T S τ b c.args.toList c.argTypes.toList K
  |_=>none
 |_=>none
def En(τ:aw):Op->List Nat
 |.load _ x=>fpO τ x
 |.convert _ _ x=>fpO τ x
 |_=>[]
def YE{H:Tr TC}(hS:StR S σ)(G:ER S σ τ τ'){op:Op}(h:sR T H τ S op K=some r):ROk T S σ τ' op (En τ op) K r:=by
 have D:∀{x:Operand}{v:SV},sev τ x=some v->∃d,ev τ' x=some d/\VR S σ v d:=λhx=>fE G hx;cases op<;>(try (simp[sR]at h;done))<;>simp only[sR]at h
 case move x=>
  obtain⟨v,o,h⟩:=aQ h;obtain⟨d,A,g⟩:=D o;exact⟨v,d,d,h,g,aA.refl _,λs _=>by simp only[aop,A];rfl⟩
 case assign x=>
  obtain⟨v,o,h⟩:=aQ h;obtain⟨d,A,g⟩:=D o;exact⟨v,d,d,h,g,aA.refl _,λs _=>by simp only[aop,A];rfl⟩
 case pick c a b=>
  obtain⟨v,o,h⟩:=aQ h;cases v<;>(try (simp at h;done));rename_i rb;obtain⟨d,A,g⟩:=D o;simp only[VR]at g;subst g;rcases aY h with⟨rfl,h⟩|⟨rfl,h⟩
  ·obtain⟨v,o,h⟩:=aQ h;obtain⟨d,L,g⟩:=D o;exact⟨v,d,d,h,g,aA.refl _,λs _=>by simp only[aop,Sq,A,ano,L];rfl⟩
  ·obtain⟨v,o,h⟩:=aQ h;obtain⟨d,L,g⟩:=D o;exact⟨v,d,d,h,g,aA.refl _,λs _=>by simp only[aop,Sq,A,ang,ani,L];rfl⟩
 case build=>exact aaK G h
 case buildSlice=>exact Qz G h
 case load=>exact UQ hS G h
 case nilCheck x=>
  obtain⟨v,o,h⟩:=aQ h;obtain⟨d,A,g⟩:=D o;obtain⟨C,h,B,q⟩:=agb h g A;exact⟨C,d,d,h,B,aA.refl _,λs _=>by simp only[aop,q];rfl⟩
 case binOp op t x y ty=>
  obtain⟨v,o,h⟩:=aQ h;obtain⟨w,hw,h⟩:=aQ h;obtain⟨d,A,g⟩:=D o;obtain⟨e,he,k9⟩:=D hw;obtain⟨C,z,h,B,q⟩:=af8 h g k9;exact⟨C,z,z,h,B,aA.refl _,λs _=>by simp only[aop,XJ,A,he,q];rfl⟩
 case unOp op t x=>
  obtain⟨v,o,h⟩:=aQ h;obtain⟨d,A,g⟩:=D o;obtain⟨C,z,h,B,q⟩:=aiy h g;exact⟨C,z,z,h,B,aA.refl _,λs _=>by simp only[aop,oUn,A,q];rfl⟩
 case convert s' t x=>
  obtain⟨ck,Z,h⟩:=ak h;obtain⟨v,o,h⟩:=aQ h;obtain⟨d,A,g⟩:=D o;obtain⟨C,z,h,B,q⟩:=adx hS h g;refine⟨C,z,z,h,B,aA.refl _,λs hs=> ?_⟩;have:=q s (λl hl=>hs l (by simp only[En,fpO,o];exact hl));simp only[aop,XK,Z,A,this];rfl
 case makeInterface t x=>
  obtain⟨u,hu,h⟩:=ak h;obtain⟨v,o,h⟩:=aQ h;obtain⟨d,A,g⟩:=D o;exact⟨_,.iface t d,.iface t d,h,by simp only[VR];exact⟨d,rfl,g⟩,aA.refl _,λs _=>by simp only[aop,Tc,A,hu];rfl⟩
 case makeFunc fn a b=>
  obtain⟨va,j6,h⟩:=ak h;obtain⟨vb,j7,h⟩:=ak h;obtain⟨R,B,q⟩:=xN G j6;obtain⟨U,O,P⟩:=xN G j7;exact⟨_,.func fn R U,.func fn R U,h,by simp only[VR];exact⟨R,U,rfl,q,P⟩,aA.refl _,λs _=>by simp only[aop,XL,B,O];rfl⟩
 case slice=>exact aaM G h
 case fieldAddr s' x f=>
  obtain⟨m7,ho,h⟩:=ak h;obtain⟨v,o,h⟩:=aQ h;obtain⟨d,A,g⟩:=D o;obtain⟨C,z,h,B,q⟩:=UV h g;exact⟨C,z,z,h,B,aA.refl _,λs _=>by simp only[aop,F4,ho,A,q];rfl⟩
 case field s' x f=>
  obtain⟨p,hp,h⟩:=ak h;obtain⟨v,o,h⟩:=aQ h;obtain⟨d,A,g⟩:=D o;cases v<;>(try (simp at h;done));simp only[VR]at g;obtain⟨Q,rfl,g⟩:=g;obtain⟨C,z,h,B,q⟩:=UW h g;exact⟨C,z,z,h,B,aA.refl _,λs _=>by simp only[aop,Te,hp,A,q];rfl⟩
 case indexAddr t x i=>
  obtain⟨ik,J,h⟩:=ak h;obtain⟨v,o,h⟩:=aQ h;obtain⟨k,n,hn,h⟩:=DO h;obtain⟨d,A,g⟩:=D o;obtain⟨dn,I,E⟩:=D hn;simp only[VR]at E;subst E;obtain⟨C,z,h,B,q⟩:=Wi h g;refine⟨C,z,z,h,B,aA.refl _,λs _=> ?_⟩;simp only[aop,F5,J,A,I,kC];cases ik<;>simp only at q⊢<;>rw[q]<;>rfl
 case index t x i=>
  obtain⟨ik,J,h⟩:=ak h;obtain⟨v,o,h⟩:=aQ h;obtain⟨k,n,hn,h⟩:=DO h;obtain⟨d,A,g⟩:=D o;obtain⟨dn,I,E⟩:=D hn;simp only[VR]at E;subst E;unfold aaO at h;cases ik
  case string=>
   cases v<;>(try (simp at h;done));simp only at h;obtain⟨b,Y,h⟩:=ak h;obtain⟨a1,a2,a3⟩:=T0 Y;simp only[VR]at g;subst g;exact⟨_,_,_,h,jg,aA.refl _,λs _=>by simp[aop,NW,J,A,I,kC,XM,a1,a3]⟩
  case array=>
   cases v<;>(try (simp at h;done));simp only at h;obtain⟨j,hj,rfl,X⟩:=Nw h;simp only[VR]at g;obtain⟨Q,rfl,g⟩:=g;obtain⟨C,z,X,B,q⟩:=UW X g;have Y:=And.intro (Int.natCast_nonneg j) (Int.ofNat_lt.2 (Nat.lt_of_lt_of_eq hj (ane _)));exact⟨C,z,z,X,B,aA.refl _,λs _=>by simp only[aop,NW,J,A,I,kC,amE Y,anr,q];rfl⟩
 case lookup t m k ok=>
  obtain⟨p,hp,h⟩:=ak h;obtain⟨vm,j9,h⟩:=aQ h;obtain⟨vk,j8,h⟩:=aQ h;obtain⟨dm,j4,hm⟩:=D j9;obtain⟨dk,j3,hk⟩:=D j8;obtain⟨C,z,h,B,q⟩:=adz h hm hk;exact⟨C,z,z,h,B,aA.refl _,λs _=>by simp only[aop,KH,hp,j4,j3,q s];rfl⟩
 case extract x i=>
  obtain⟨v,o,h⟩:=aQ h;obtain⟨d,A,g⟩:=D o;cases v<;>(try (simp at h;done));simp only at h;obtain⟨w,hw,h⟩:=ak h;simp only[VR]at g;obtain⟨Q,rfl,g⟩:=g;obtain⟨e,B,q⟩:=g.get hw;exact⟨w,e,e,h,q,aA.refl _,λs _=>by simp only[aop,My,A,B];rfl⟩
 case call c=>
  obtain⟨F,m6,N⟩:=c;cases F<;>(try (simp at h;done));rename_i b;simp only at h;unfold sBi at h;cases b<;>(try (simp at h;done))<;>simp only at h
  case len=>
   split at h<;>try (cases h;done)
   rename_i x t m5 j5;obtain⟨k,hk,h⟩:=ak h;obtain⟨v,o,h⟩:=aQ h;obtain⟨d,A,g⟩:=D o;obtain⟨C,n,h,B,q⟩:=agc h g;refine⟨C,_,_,h,B,aA.refl _,λs _=> ?_⟩;simp only[aop,Bj,m5,j5,ab4,hk,A,q];rfl
  case max=>
   obtain⟨vs,M,h⟩:=ak h;obtain⟨Q,B,q⟩:=xN G M;cases vs<;>(try (simp at h;done));simp only[VRs]at q;obtain⟨e,es,rfl,O,P⟩:=q;obtain⟨C,z,h,V,W⟩:=UX h O P;exact⟨C,z,z,h,V,aA.refl _,λs _=>by simp only[aop,Bj,oMM,B,mmL,W];rfl⟩
  case min=>
   obtain⟨vs,M,h⟩:=ak h;obtain⟨Q,B,q⟩:=xN G M;cases vs<;>(try (simp at h;done));simp only[VRs]at q;obtain⟨e,es,rfl,O,P⟩:=q;obtain⟨C,z,h,V,W⟩:=UX h O P;exact⟨C,z,z,h,V,aA.refl _,λs _=>by simp only[aop,Bj,oMM,B,mmL,W];rfl⟩
end
end
end Go.Fw
def anc:=@List.nil_append
def apa:=@List.set_append_right
def ap2:=@List.take_zero
namespace Go.Fw
noncomputable section
open Go.RowKit
inductive Upd where
 |same|set(l:Nat)(ob:am)|push(ob:am)
def Upd.ap:Upd->Sto->Sto
 |.same,s=>s
 |.set l a,s=>s.set l a
 |.push a,s=>s++[a]
def Upd.inFp(a:List Nat):Upd->Prop
 |.set l _=>l∈a
 |_=>True
def WOk{α:Type}(P:Program)(N:Nat)(o:Oper)(S:ae)(σ:Sto)(τ':Env)(c:List Nat)(K:SV->ae->Option α)(r:α):Prop:=
 ∃v b d a,K v b=some r/\(∀s:Sto,(∀l∈c,s[l]?=σ[l]?)->s.length=σ.length->AOp P N o τ' s λe f=>e=d/\f=Upd.ap a s)/\VR b (a.ap σ) v d/\StR b (a.ap σ)/\aP S σ b (a.ap σ)/\a.inFp c
def StR.lt{S:ae}{σ:Sto}(h:StR S σ){l:Nat}{o:iB}(a:S[l]?=some o):l<σ.length:=by rw[<-h.len];exact ai a
def aP.push{S:ae}{σ:Sto}(_h:S.length=σ.length)(o:iB)(a:am):aP S σ (S++[o]) (σ++[a]):=by
 have v:∀{l:Nat}{x:am},σ[l]?=some x->(σ++[a])[l]?=some x:=λb=>by rw[amu (ai b)];exact b
 refine⟨λl g d ⟨b,h⟩=>⟨by simp;omega,λt s f j c=> ?_⟩,λl g i o d ⟨b,h⟩=>⟨by simp;omega,λt s f j c=> ?_⟩⟩
 ·rw[amu b]at c;obtain⟨k,m⟩:=h t s f j c;exact⟨k,λq=>by obtain⟨e,u,n,p⟩:=m q;exact⟨e,u,v n,p⟩⟩
 ·rw[amu b]at c;obtain⟨k,m⟩:=h t s f j c;exact⟨k,λq=>by obtain⟨e,u,n,p⟩:=m q;exact⟨e,u,v n,p⟩⟩
def ObR.pres{S S':ae}{σ σ':Sto}(h:aP S σ S' σ'){o:iB}{a:am}(x:ObR S σ o a):ObR S' σ' o a:=by
 cases o with
 |cells i d=>obtain⟨b,c,rfl,e,f⟩:=x;exact⟨b,c,rfl,e,VRs.pres h _ _ f⟩
 |arr t k d g=>exact x
 |raw a=>exact x
 |it s p=>exact x
 |smap j=>exact x
 |junk=>exact x
def StR.push{S:ae}{σ:Sto}(h:StR S σ){o:iB}{a:am}(x:ObR (S++[o]) (σ++[a]) o a):StR (S++[o]) (σ++[a]):=by
 refine⟨by simp[h.len],λl j c=> ?_⟩;rcases amB l S.length with e|d
 ·rw[amu e]at c;obtain⟨b,f,i⟩:=h.obj l j c;exact⟨b,by rw[amu (ai f)];exact f,i.pres (aP.push h.len o a)⟩
 ·rw[amA d]at c;cases g:l-S.length with
  |zero=>
   rw[g]at c;simp at c;subst c;have:l=σ.length:=by rw[<-h.len];omega
   subst this;exact⟨a,by simp,x⟩
  |succ k=>rw[g]at c;simp at c
def gD{α:Type}{l:List α}{i j:Nat}{x:α}(h:i<l.length):(l.set i x)[j]?=if i=j then some x else l[j]? :=by
 by_cases e:i=j
 ·subst e;rw[ana h,amE rfl]
 ·rw[am2 e,am4 e]
def StR.set{S:ae}{σ:Sto}(h:StR S σ){l:Nat}{p o:iB}{a:am}(g:S[l]?=some p)(m:aP S σ (S.set l o) (σ.set l a))(x:ObR (S.set l o) (σ.set l a) o a):StR (S.set l o) (σ.set l a):=by
 have f:=ai g;have d:=h.lt g;refine⟨by simp[h.len],λj n c=> ?_⟩;rw[gD f]at c;rw[gD d];by_cases e:l=j
 ·rw[amE e]at c⊢;cases c;exact⟨a,rfl,x⟩
 ·rw[am4 e]at c⊢;obtain⟨b,i,k⟩:=h.obj j n c;exact⟨b,i,k.pres m⟩
def aP.setGen{S:ae}{σ:Sto}(h:StR S σ){l:Nat}{D o:iB}{a:am}(A:S[l]?=some D)
 (B:∀g d,Cw S σ l g d->∀t c m b,o=.arr t c m b->g<=b/\(g=b->∃p u,a=.cells (t.flat c) p u/\d=.sl l u 0 c.length t.sz false))
 (C:∀g i k d,ApR S σ l g i k d->∀t c m b,o=.arr t c m b->g<=b/\(g=b->∃p u,a=.cells (t.flat c) p u/\d=.ptr l u (i.toNat*t.sz+k))):aP S σ (S.set l o) (σ.set l a):=by
 have s:=ai A;have n:=h.lt A;refine⟨λj g d q=>⟨by rw[anF];exact q.1,λt c m b f=> ?_⟩,λj g i k d q=>⟨by rw[anF];exact q.1,λt c m b f=> ?_⟩⟩
 ·rw[gD s]at f;rw[gD n];by_cases e:l=j
  ·subst e;rw[amE rfl]at f;cases f;obtain⟨v,w⟩:=B g d q t c m b rfl;exact⟨v,λz=>by obtain⟨p,u,x,y⟩:=w z;exact⟨p,u,by rw[amE rfl,x],y⟩⟩
  ·rw[am4 e]at f⊢;exact q.2 t c m b f
 ·rw[gD s]at f;rw[gD n];by_cases e:l=j
  ·subst e;rw[amE rfl]at f;cases f;obtain⟨v,w⟩:=C g i k d q t c m b rfl;exact⟨v,λz=>by obtain⟨p,u,x,y⟩:=w z;exact⟨p,u,by rw[amE rfl,x],y⟩⟩
  ·rw[am4 e]at f⊢;exact q.2 t c m b f
def aP.setCells{S:ae}{σ:Sto}(h:StR S σ){l:Nat}{cs cs':List SV}{fz fz':Bool}{a:am}(b:S[l]?=some (.cells cs fz)):aP S σ (S.set l (.cells cs' fz')) (σ.set l a):=
 aP.setGen h b (λ_ _ _ _ _ _ _ e=>by cases e) (λ_ _ _ _ _ _ _ _ _ e=>by cases e)
def aP.setOther{S:ae}{σ:Sto}(h:StR S σ){l:Nat}{f o:iB}{a:am}(d:S[l]?=some f)(b:∀t i c g,o≠.arr t i c g):aP S σ (S.set l o) (σ.set l a):=
 aP.setGen h d (λ_ _ _ _ _ _ _ e=>absurd e (b _ _ _ _)) (λ_ _ _ _ _ _ _ _ _ e=>absurd e (b _ _ _ _))
def aP.setNext{S:ae}{σ:Sto}(h:StR S σ){l g:Nat}{t:TC}{xs s:List t.Den}{fz fz':Bool}{a:am}(c:S[l]?=some (.arr t xs fz g)):aP S σ (S.set l (.arr t s fz' (g+1))) (σ.set l a):=
 aP.setGen h c (λn d f q j b m e=>by
  have:=(f.2 _ _ _ _ c).1;cases e;exact⟨omq,λp=>omq⟩) (λn i k d f q j b m e=>by
  have:=(f.2 _ _ _ _ c).1;cases e;exact⟨omq,λp=>omq⟩)
def aP.setSame{S:ae}{σ:Sto}(h:StR S σ){l g fr u j:Nat}{t:TC}{xs y:List t.Den}{fz fz':Bool}(v:S[l]?=some (.arr t xs fz g))(f:σ[l]?=some (.cells (t.flat xs) j u))(c:y.length=xs.length):
 aP S σ (S.set l (.arr t y fz' g)) (σ.set l (.cells (t.flat y) fr u)):=
 aP.setGen h v (λA d w B x a z e=>by
  obtain⟨n,p⟩:=w.2 _ _ _ _ v;cases e;refine⟨n,λs=> ?_⟩;obtain⟨m,C,b,q⟩:=p s;rw[f]at b;cases b;exact⟨fr,u,rfl,by rw[q,c]⟩) (λA i k d w B x a z e=>by
  obtain⟨n,p⟩:=w.2 _ _ _ _ v;cases e;refine⟨n,λs=> ?_⟩;obtain⟨m,C,b,q⟩:=p s;rw[f]at b;cases b;exact⟨fr,u,rfl,q⟩)
def AOp.weakSet{P:Program}{N:Nat}{o:Oper}{τ:Env}{s:Sto}{d:D}{l f u:Nat}{cs cs':List D}(q:l<s.length)(h:AOp P N o τ s λb c=>b=d/\c=s.set l (.cells cs f u))(g:bt cs cs'):
 AOp P N o τ s λb c=>b=d/\c=s.set l (.cells cs' f u):=by
 intro B G w a n p next Q t
 refine h B G w a n p next Q ?_
 rintro v y i b c j k m ⟨rfl,rfl⟩;have e:=k.weakObj (l:=l) (f:=f) (v:=u) (cs:=cs) (cs':=cs') (by rw[gD q,amE rfl]) g.length.symm (λz x=>g.reps x);rw[List.set_set]at e;exact t v y i _ _ j e m ⟨rfl,rfl⟩
def AOp.weakPush{P:Program}{N:Nat}{o:Oper}{τ:Env}{s:Sto}{d:D}{f u:Nat}{cs cs':List D}(h:AOp P N o τ s λb c=>b=d/\c=s++[.cells cs f u])(g:bt cs cs'):
 AOp P N o τ s λb c=>b=d/\c=s++[.cells cs' f u]:=by
 intro B G w a n p next Q q
 refine h B G w a n p next Q ?_
 rintro v x i b c j k m ⟨rfl,rfl⟩;have e:=k.weakObj (l:=s.length) (f:=f) (v:=u) (cs:=cs) (cs':=cs') siq g.length.symm (λy t=>g.reps t);rw[apa _ _ (amt _)]at e;simp only[ao3,aot]at e;exact q v x i _ _ j e m ⟨rfl,rfl⟩
section
variable {α:Type}{P:Program}{T:Tys}{N:Nat}{o:Oper}{S:ae}{σ:Sto}{τ:aw}{τ' :Env}{K:SV→ae→Option α}{r:α}
def YF(v:SV)(k:SV->Option α):Option α:=match v with
 |.int a b=>k (.int a b)
 |.bool b=>k (.bool b)
 |.str s=>k (.str s)
 |.sl t e f=>k (.sl t e f)
 |.nils=>k .nils
 |.lst c n f=>k (.lst c n f)
 |.agg c=>k (.agg c)
 |.tup c=>k (.tup c)
 |.func f a b=>k (.func f a b)
 |.iface t v=>k (.iface t v)
 |.own l g=>k (.own l g)
 |.ap l g i o=>k (.ap l g i o)
 |.rp t x o=>k (.rp t x o)
 |.rc c o=>k (.rc c o)
 |.raw d=>k (.raw d)
def WS(v:SV)(k:SV->Option α):YF v k=k v:=by cases v<;>rfl
def YG(l:List SV):(List SV->Option α)->Option α:=List.rec (λk=>k []) (λx _ a k=>YF x λx=>a λb=>k (x::b)) l
def WT:∀(l:List SV)(k:List SV->Option α),YG l k=k l
 |[],_=>rfl
 |x::a,k=>by show YF x (λx=>YG a λb=>k (x::b))=_;rw[WS];exact WT a _
def Hs(l:ae):(ae->Option α)->Option α:=List.rec (λk=>k []) (λo _ b k=>match o with
 |.cells a c=>YG a λa=>b λS=>k (.cells a c::S)
 |o=>b λS=>k (o::S)) l
def qF:∀(S:ae)(k:ae->Option α),Hs S k=k S
 |[],_=>rfl
 |o::S,k=>by cases o<;>first
  |exact qF S _
  |(rename_i a b;show YG a (λa=>Hs S λS=>k (.cells a b::S))=_;rw[WT];exact qF S _)
def Kc{b:Type}:List b->Nat->(Nat->Option α)->Option α
 |[],n,k=>k n
 |_::a,n,k=>Kc a (Nat.add n 1) k
variable{Z:Type}
def Ba:∀(l:List Z)(n:Nat)(k:Nat->Option α),Kc l n k=k (n+l.length)
 |[],_,_=>rfl
 |x::a,n,k=>by rw[Kc,Ba a];congr 1;simp only[amr,Nat.add_eq];omega
def O0(T:Tys)(S:ae)(e:TypeId)(K:SV->ae->Option α):Option α:=(lk T.zero e).bind λz=>Kc S 0 λl=>Hs (S++[.cells (kE z) false]) λa=>K (.raw (.ptr l 0 0)) a
def Rz(tok:TOk T P)(a:StR S σ){e:TypeId}(b:o.op=.alloc e)(h:O0 T S e K=some r):WOk P N o S σ τ' [] K r:=by
 simp only[O0,Ba,qF,ane]at h;obtain⟨z,d,h⟩:=ak h;refine⟨_,_,.ptr σ.length 0 0,.push (.cells z 0 0),h,λs _ c=> ?_,by simp only[VR,a.len],a.push ⟨z,0,rfl,λ_=>rfl,jq _ _ z⟩,aP.push a.len _ _,trivial⟩;refine aT tok ?_;rw[b];simp only[aop,d,Upd.ap,<-c];rfl
def YH(S:ae)(v:SV)(K:SV->ae->Option α):Option α:=(FH S v).bind λb=>Kc S 0 λl=>Hs (S++[.cells b false]) λa=>K (.raw (.ptr l 0 0)) a
def WU(tok:TOk T P)(b:StR S σ)(k:ER S σ τ τ'){t:TypeId}{x:Operand}{v:SV}(m:o.op=.box t x)(p:sev τ x=some v)(h:YH S v K=some r):WOk P N o S σ τ' [] K r:=by
 simp only[YH,Ba,qF,ane]at h;obtain⟨g,c,h⟩:=ak h;obtain⟨d,l,e⟩:=fE k p;obtain⟨a,i,j⟩:=Hn c e;have f:=aP.push b.len (.cells g false) (.cells a 0 0);refine⟨_,_,.ptr σ.length 0 0,.push (.cells a 0 0),h,λs _ n=> ?_,by simp only[VR,b.len],b.push ⟨a,0,rfl,λ_=>rfl,VRs.pres f _ _ j⟩,f,trivial⟩;refine aT tok ?_;rw[m];simp only[aop,ab3,l,i,Upd.ap,<-n]
def Mq(l o:Nat)(new cs:List SV)(S:ae)(K:SV->ae->Option α):Option α:=
 cond (Nat.ble (o+new.length) cs.length) (Hs (S.set l (.cells (cs.take o++new++cs.drop (o+new.length)) false)) λa=>K (.raw .junk) a) none
def CE(S:ae):SV->Bool
 |.agg _=>false
 |.tup _=>false
 |.raw d=>d.isCell
 |.own l g=>sD S l g
 |.ap l g _ _=>sD S l g
 |_=>true
def Wj{v:SV}{d:D}(h:CE S v=true)(a:VR S σ v d):d.isCell=true:=by
 cases v<;>(try (simp[CE]at h;done))<;>simp only[CE]at h<;>simp only[VR]at a
 case own=>obtain⟨t,e,c,b,u,_,_,rfl⟩:=Kb h a;rfl
 case ap=>obtain⟨t,e,c,b,u,_,_,rfl⟩:=Hm h a;rfl
 case raw=>subst a;exact h
 all_goals first
  |(subst a;rfl)
  |(obtain⟨_,rfl,_⟩:=a;rfl)
  |(obtain⟨_,_,rfl,_⟩:=a;rfl)
  |(obtain⟨_,_,rfl⟩:=a;rfl)
def O1:∀{cs:List SV}{ds:List D},cs.all (CE S)=true->VRs S σ cs ds->ds.all D.isCell=true
 |[],_,_,h=>by simp only[VRs]at h;subst h;rfl
 |v::cs,_,a,h=>by
  simp only[anJ,amk]at a;simp only[VRs]at h;obtain⟨e,d,rfl,b,c⟩:=h;simp only[anJ,Wj a.1 b,O1 a.2 c,an2]
def QC(S:ae)(l g:Nat)(i:Int)(o:Nat)(new:List SV)(K:SV->ae->Option α):Option α:=match S[l]? with
 |some (.arr b d f c)=>cond (Nat.beq g c&& !f&&Nat.beq o 0&&Nat.beq new.length b.sz) (cond (inb i d.length)
  (b.take new λx a=>match a with
    |[]=>Hs (S.set l (.arr b (d.set i.toNat x) false c)) λe=>K (.raw .junk) e
    |_=>none) none) none
 |_=>none
def QD(S:ae)(l u o:Nat)(new:List SV)(K:SV->ae->Option α):Option α:=match S[l]? with
 |some (.cells a b)=>cond (Nat.beq u 0&& !b) (Mq l o new a S K) none
 |_=>none
def O2(T:Tys)(S:ae)(t:TypeId)(p v:SV)(K:SV->ae->Option α):Option α:=
 (lk T.ld t).bind λa=>(FH S v).bind λnew=>cond (Nat.beq new.length a.1&&new.all (CE S)) (match p with
   |.raw d=>match d with
    |.ptr l u o=>QD S l u o new K
    |_=>none
   |.ap l g i o=>QC S l g i o new K
   |_=>none) none
def RA(E:Enc Z)(x:Z):∀(xs:List Z)(i:Nat),i<xs.length->bN E (xs.set i x)=(bN E xs).take (i*E.sz)++E.cells x++(bN E xs).drop (i*E.sz+E.sz)
 |[],i,h=>by simp at h
 |y::a,0,h=>by
  simp only[aot,gz,aok,ap2,anc,ane];rw[<-E.len y,List.drop_left]
 |y::a,i+1,h=>by
  have b:=RA E x a i (by simpa using h);simp only[ao2,gz,b];have e:(i+1)*E.sz=(E.cells y).length+i*E.sz:=by rw[E.len,aoo,Nat.one_mul,apC]
  rw[e,ap1,aoy,apc,amL,amL,amL]
def RB(tok:TOk T P)(O:StR S σ)(hE:ER S σ τ τ'){t:TypeId}{x y:Operand}{p v:SV}(ho:o.op=.store t x y)(hp:sev τ x=some p)(hv:sev τ y=some v)
 (h:O2 T S t p v K=some r):WOk P N o S σ τ' (fpV p) K r:=by
 unfold O2 at h;obtain⟨nb,j9,h0⟩:=ak h;clear h;obtain⟨new,W,h⟩:=ak h0;clear h0;rcases aY h with⟨Q,F⟩|⟨_,F⟩<;>try (cases F;done)
 clear h;simp only[amk]at Q;obtain⟨Q,I⟩:=Q;have Q:=bu Q;obtain⟨dp,j5,D⟩:=fE hE hp;obtain⟨dv,j6,m5⟩:=fE hE hv;obtain⟨E,U,A⟩:=Hn W m5;have q:=A.length;have m:=O1 I A;obtain⟨n,b⟩:=nb;have L:∀(s M:Sto),xG s dp E=some M->AOp P N o τ' s λd' s'=>d'=.junk/\s'=M:=by
  intro s M hw;refine aT tok ?_;rw[ho];simp only[aop,Tb,j9,j5,j6,U];rw[amE (show E.length=n by rw[q];exact Q),hw];rfl
 cases p<;>(try (simp at F;done))
 case raw e=>
  cases e<;>(try (simp at F;done));rename_i l u off;have k:QD S l u off new K=some r:=F;clear F;unfold QD at k;split at k<;>try (cases k;done)
  rename_i cs fz H;rcases aY k with⟨R,B⟩|⟨_,B⟩<;>try (cases B;done)
  clear k;simp only[amk,anH]at R;obtain⟨hu,rfl⟩:=R;have hu:=bu hu;subst hu;simp only[Mq,qF]at B;rcases aY B with⟨hb,G⟩|⟨_,G⟩<;>try (cases G;done)
  clear B;have hb:=amx hb;simp only[VR]at D;subst D;obtain⟨a,ha,f,fr,rfl,d,J⟩:=O.obj _ _ H;have d:=d rfl;subst d;have m8:=J.length;have j:aP S σ (S.set l (.cells (cs.take off++new++cs.drop (off+new.length)) false)) (σ.set l (.cells (f.take off++E++f.drop (off+E.length)) 0 0)):=aP.setCells O H;refine⟨_,_,.junk,.set l (.cells (f.take off++E++f.drop (off+E.length)) 0 0),G,λs hs _=> ?_,by simp only[VR],O.set H j ⟨_,0,rfl,λ_=>rfl,?_⟩,j,by simp[fpV,Upd.inFp]⟩
  ·refine L s _ ?_;have:=hs l (by simp[fpV]);simp only[xG,this,ha];rw[amE ⟨trivial,anp _,omq,m⟩];rfl
  ·have hq:VRs S σ (cs.take off++new++cs.drop (off+new.length)) (f.take off++E++f.drop (off+E.length)):=by
    rw[q];exact((J.take off).append A).append (J.drop _)
   exact VRs.pres j _ _ hq
 case ap l g i off=>
  have k:QC S l g i off new K=some r:=F;clear F;simp only[QC,qF]at k;split at k<;>try (cases k;done)
  rename_i c C fz g' H;rcases aY k with⟨R,B⟩|⟨_,B⟩<;>try (cases B;done)
  clear k;simp only[amk,anH]at R;obtain⟨⟨⟨hg,rfl⟩,w⟩,Z⟩:=R;have hg:=bu hg;have w:=bu w;have Z:=bu Z;subst hg w;rcases aY B with⟨j7,G⟩|⟨_,G⟩<;>try (cases G;done)
  clear B;obtain⟨n5,n6⟩:=QB j7;obtain⟨z,m6,d1,d2,h5,rfl,hw,hr⟩:=TC.take_ok c _ _ _ _ G A;clear G;split at h5<;>try (cases h5;done)
  simp only[VRs]at hr;subst hr;rw[amG]at q m U A L;simp only[VR]at D;obtain⟨fr,u,k4,rfl⟩:=(D.2 _ _ _ _ H).2 rfl;obtain⟨a,ha,m7,u',j3,d⟩:=O.obj _ _ H;rw[k4]at ha;cases ha;cases j3;have d:=d rfl;subst d;have j8:i.toNat<C.length:=omq;have m9:=fe c.enc C;have n7:i.toNat*c.sz+c.sz<=(c.flat C).length:=by
   rw[fe,<-aoK];exact ank _ omq
  have X:=RA c.enc z C i.toNat j8;have j:aP S σ (S.set l (.arr c (C.set i.toNat z) false g)) (σ.set l (.cells (c.flat (C.set i.toNat z)) 0 u)):=aP.setSame O H k4 siq;refine⟨_,_,.junk,.set l (.cells (c.flat (C.set i.toNat z)) 0 u),h5,λs hs k9=> ?_,by simp only[VR],O.set H j ⟨0,u,rfl,λ_=>rfl⟩,j,by simp[fpV,Upd.inFp]⟩;have Y:=hs l (by simp[fpV]);have V:l<s.length:=by rw[k9];exact ai k4
  refine AOp.weakSet (cs:=(c.flat C).take (i.toNat*c.sz)++d1++(c.flat C).drop (i.toNat*c.sz+c.sz)) V (L s _ ?_) ?_
  ·have j4:d1.length=c.sz:=omq;simp only[xG,Y,k4,aoQ];rw[amE ⟨trivial,anp _,omq,m⟩,j4]
  ·show bt _ (bN c.enc (C.set i.toNat z));rw[X];exact bt.append (bt.append (bt.refl _) hw) (bt.refl _)
end
end
end Go.Fw
