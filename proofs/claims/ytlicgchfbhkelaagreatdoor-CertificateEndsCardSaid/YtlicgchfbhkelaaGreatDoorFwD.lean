/- A framework for proofs about Go programs in this model: part D. Everything is proved; no condition is added. -/
import Derived.Test.YtlicgchfbhkelaaGreatDoorFwC
set_option linter.unusedVariables false
set_option linter.unusedSimpArgs false
set_option linter.defProp false
namespace Go.Fw
abbrev Bs:=List UInt8
open Go.RowKit
section
variable {P:Program}{T:Tys}{N:Nat}{all:Array Oper}{o:Oper}{r:List Oper}{τ τ' :Env}{σ σ' :Sto}{Kt:Env→Sto→Prop}
def Wd{t ty:TypeId}{x:Operand}{cs:List D}{n:Nat}{f:Bool}{e:TypeId}(q:o.op=.binOp .eql t x (.const (.slice none 0 0)) ty)(u:P.underlying t=some (.slice e))(L:ev τ x=some (.list cs n f)):
 AOp P N o τ σ (λd s=>s=σ/\∃b:Bool,d=.bool b/\(b=true->cs=[])):=by
 intro B G w a C E next Q J
 have k:=cN E L;simp only[Rep]at k;obtain⟨g,c,K,R,S,U,A⟩:=k;have m:∃b:Bool,(Op.equal t (.slice g n c) (.slice none 0 0)).run P w=.ok b w/\(b=true->cs=[]):=by
  have p:∀x y,Op.equal t x y=Op.equalIn (9999+1) t x y:=λ_ _=>rfl;simp only[p];clear p;generalize (9999:Nat)=dep;cases g with
  |none=>
   refine⟨true,by simp[Op.equalIn,ahW u],λ_=> ?_⟩;rcases A with⟨b,V,h,_⟩|h
   ·cases h
   ·exact h
  |some g=>exact⟨false,by simp[Op.equalIn,ahW u],λh=>by cases h⟩
 obtain⟨b,F,H⟩:=m;have j:(execOp a.eval o).run P w=.ok (.value (.bool b)) w:=by
  obtain⟨v,W,O,M,l,guard⟩:=o;simp only at q;subst q;unfold execOp;have z:a.eval (.const (.slice none 0 0))=.slice none 0 0:=rfl;have I:(eqGuard .eql t x (.const (.slice none 0 0)) (.slice g n c) (.slice none 0 0)).run P w=.ok () w:=uv (λ_ _=>.inl (by simp)) (.inl (by simp));have i:(binOp .eql t (.slice g n c) (.slice none 0 0)).run P w=.ok (.bool b) w:=by
   rw[SU (by simp[Cs]),F];rfl
  simp only[K,z,ah1,I,ahU,i,aic]
 unfold Oper.wp;rw[j];exact J _ w G _ σ (.refl G) C (by simp only[Rep]) ⟨rfl,b,rfl,H⟩
def Yw{t ty:TypeId}{x:Operand}{cs:List D}{n:Nat}{f:Bool}{e:TypeId}{a:Nat}(c:df all τ o=some true)(j:o.op=.binOp .eql t x (.const (.slice none 0 0)) ty)(k:P.underlying t=some (.slice e))
 (l:ev τ x=some (.list cs n f))(hd:o.dst=some a)(g:Nat.blt a N=true)(h:∀b:Bool,(b=true->cs=[])->iN P N all r ((a,.bool b)::τ) σ Kt):iN P N all (o::r) τ σ Kt:=by
 refine .inl ⟨c,(Wd j k l).mono ?_⟩;rintro d s ⟨rfl,b,rfl,i⟩;refine⟨(a,.bool b)::τ,?_,h b i⟩;unfold iq;rw[hd];simp only;exact ah2 (ahV g)
end
def abG{T:Tys}{τ:Env}{σ:Sto}{t c:TypeId}{s x:Operand}{sz by' n:Nat}{cs:List D}{f:Bool}(d:lk2 T.app t c=some (sz,by'))(e:ev τ s=some (.list [] 0 true))(g:ev τ x=some (.list cs n f))
 (k:0<n)(j:cs.length=n*sz)(i:cs.all D.isCell=true)(h:n*by'<=cH)(a:n<=cH):aop T τ σ (.call {callee:=.builtin .append,args:= #[s,x],argTypes:= #[t,c]})=some (.sl σ.length 0 0 n sz false,σ++[.cells cs 0 0]):=by
 show pp T τ σ [s,x] [t,c]=_;have b:¬n=0:=by omega
 simp[pp,d,e,g,Hn,pG,j,i,b,h,a]
def abH{σ:Sto}{l u n sz fz:Nat}{cs:List D}{f:Bool}(b:σ[l]?=some (.cells cs fz u))(a:cs.length=n*sz):BY σ (.sl l u 0 n sz f)=some (.list cs n f,σ.set l (.cells cs cs.length u)):=by
 have c:¬(n*sz)>cs.length:=by omega
 simp[BY,Qc,Gz,b,a,aih (Nat.le_of_eq a)]
end Go.Fw
def aig:=@List.length_take
def aiF:=@List.length_drop
def ajl:=@UInt8.toNat_ofNat'
namespace Go.Fw
open Go.RowKit
def aE(d e:D):Prop:=∀(G:Gh)(v:Value),Rep G d v->Rep G e v
def aE.refl(d:D):aE d d:=λ_ _ h=>h
def aE.list{cs:List D}{n:Nat}{f:Bool}:aE (.list cs n f) (.list cs n false):=by
 intro G v h;simp only[Rep]at h⊢;obtain⟨a,b,e,c,g,_,j⟩:=h;refine⟨a,b,e,c,g,?_,j⟩;intro h;cases h
def cZ:List D->List D->Prop
 |[],l=>l=[]
 |d::a,l=>match l with
  |e::b=>aE d e/\cZ a b
  |[]=>False
def cZ.reps{G:Gh}:∀{ds es:List D}{vs:List Value},cZ ds es->af G ds vs->af G es vs
 |[],es,_,h,a=>by
  have h:es=[]:=h;subst h;exact a
 |d::ds,[],_,h,_=>h.elim
 |d::ds,e::es,_,h,a=>by
  simp only[af]at a⊢;obtain⟨v,r,rfl,b,c⟩:=a;exact⟨v,r,rfl,h.1 G v b,cZ.reps h.2 c⟩
def aE.agg{ds es:List D}(h:cZ ds es):aE (.agg ds) (.agg es):=by
 intro G v b;simp only[Rep]at b⊢;obtain⟨a,e,c⟩:=b;exact⟨a,e,h.reps c⟩
def aE.tuple{ds es:List D}(h:cZ ds es):aE (.tuple ds) (.tuple es):=by
 intro G v b;simp only[Rep]at b⊢;obtain⟨a,e,c⟩:=b;exact⟨a,e,h.reps c⟩
def fh.weak{P:Program}{f:FuncId}{ds:List D}{d e:D}(h:fh P f ds d)(n:aE d e):fh P f ds e:=
 λG w a k l m=>(h G w a k l m).mono λ_ _ ⟨v,b,c,g,j⟩=>⟨v,b,c,g,n _ _ j⟩
section
variable {P:Program}{T:Tys}{N:Nat}{all:Array Oper}{o:Oper}{r:List Oper}{τ τ' :Env}{σ σ' :Sto}{d e:D}{Kt:Env→Sto→Prop}
def AOp.weak(h:AOp P N o τ σ λb s=>b=d/\s=σ')(n:aE d e):AOp P N o τ σ λb s=>b=e/\s=σ':=by
 intro B G w a k l next Q m
 refine h B G w a k l next Q ?_
 rintro v p c b s f g j ⟨rfl,rfl⟩;exact m v p c e _ f g (n _ _ j) ⟨rfl,rfl⟩
def goP(b:df all τ o=some true)(c:AOp P N o τ σ λa s=>a=d/\s=σ')(f:iq N o.dst d τ=some τ')(h:iN P N all r τ' σ' Kt):iN P N all (o::r) τ σ Kt:=
 .inl ⟨b,c.mono (by rintro a s ⟨rfl,rfl⟩;exact⟨τ',f,h⟩)⟩
end
def slc{α:Type}(xs:List α)(b a:Int):Option (List α):=if 0<=b/\b<=a/\a<=xs.length then some ((xs.take a.toNat).drop b.toNat) else none
def NO{α:Type}{xs ys:List α}{b a:Int}(h:slc xs b a=some ys):0<=b/\b<=a/\a<=xs.length/\ys=(xs.take a.toNat).drop b.toNat/\ys.length=a.toNat-b.toNat:=by
 unfold slc at h;split at h<;>try (cases h;done)
 rename_i c;cases h;refine⟨c.1,c.2.1,c.2.2,rfl,?_⟩;simp only[aiF,aig];omega
def Mw{α:Type}(E:Enc α)(xs:List α)(l h:Nat)(a:l<=h):((dF E xs).drop (l*E.sz)).take ((h-l)*E.sz)=dF E ((xs.take h).drop l):=by
 rw[Ez,Lw,akW]
section
variable {α:Type}{T:Tys}{τ:Env}{σ:Sto}{E:Enc α}{xs ys:List α}
def cat(a b:List UInt8):Option (List UInt8):=if a.length+b.length<=9223372036854775807 then some (a++b) else none
def mC:Enc UInt8:=mkE 1 (λb=>[.int .u8 b.toNat]) (λ_=>rfl) (λ_=>rfl) (λ_=>rfl)
def agq:Enc Bool:=mkE 1 (λb=>[.bool b]) (λ_=>rfl) (λ_=>rfl) (λ_=>rfl)
def agr{a:Type}(F:Enc a):Enc (List a):=mkE 1 (λxs=>[.list (dF F xs) xs.length false]) (λ_=>rfl) (λ_=>by simp[cW,D.pure,flat_pure]) (λ_=>rfl)
def Fy:∀s:List UInt8,dF mC s=s.map λb=>.int .u8 b.toNat
 |[]=>rfl
 |b::s=>by rw[jU,Fy s];rfl
def Fz:∀s:List UInt8,mf (dF mC s)=some s
 |[]=>rfl
 |b::s=>by
  have:yT (.int .u8 b.toNat)=some b:=by simp[yT]
  show(match yT (.int .u8 b.toNat),mf (dF mC s) with
   |some b,some a=>some (b::a)
   |_,_=>none)=_
  rw[this,Fz s]
def FA(s:List UInt8):Option (List UInt8):=if s.length<=cH then some s else none
def toB(n:Int):Option UInt8:=if 0<=n/\n<256 then some (UInt8.ofNat n.toNat) else none
def ac5{n:Int}{b:UInt8}(h:toB n=some b):n=(b.toNat:Int):=by
 unfold toB at h;split at h<;>try (cases h;done)
 rename_i a;cases h;simp only[ajl];omega
end
section
variable {α:Type}{T:Tys}{τ:Env}{σ:Sto}{E:Enc α}{xs:List α}
end
def FB:List LK->List D->List D->Option Bool
 |[],[],[]=>some true
 |k::g,a::c,b::f=>match kP k a b,FB g c f with
  |some r,some s=>some (r&&s)
  |_,_=>none
 |_,_,_=>none
def JC:∀(ks:List LK)(a b:List D)(r:Bool),FB ks a b=some r->lD ks a b=some r
 |[],[],[],r,h=>h
 |[],[],_::_,r,h=>by cases h
 |[],_::_,_,r,h=>by cases h
 |k::ks,[],_,r,h=>by cases h
 |k::ks,a::c,[],r,h=>by cases h
 |k::ks,a::c,b::f,r,h=>by
  simp only[FB]at h;split at h<;>try (cases h;done)
  rename_i x y g j;cases h;have:=JC ks c f y j;simp only[lD,g];cases x
  ·rfl
  ·simpa using this
section
variable {T:Tys}{τ:Env}{σ:Sto}
end
section
variable {P:Program}{T:Tys}{N:Nat}{ops:Array Oper}{A:Res}{M:List Nat}{o:Oper}{r:List Oper}{i:Nat}{τ τ2:Env}{S:List Sto}{C:List Nat}{tab:List Rc}{K:Env→Sto→Prop}{σ σ' :Sto}{d:D}
def afd(a:kg (λ(x:Nat×Nat×List D)=>∃r:Rc,tab[x.1]?=some r/\r.kd=.alloc x.2.1 x.2.2) A)(b:S.getLast?=some σ)(h:K τ σ):ADr P N ops A M [] i τ S C tab K:=⟨a,σ,b,h⟩
def ags(a:df ops (rst ops o τ) o=some false)(b:iq N o.dst (.tuple []) τ=some τ2)(h:ADr P N ops A M r (i+1) τ2 S C (tab++[⟨o,rst ops o τ,.tuple [],.skip⟩]) K):ADr P N ops A M (o::r) i τ S C tab K:=
 .inl ⟨a,τ2,b,h⟩
def Uc(b:df ops (rst ops o τ) o=some true)(c:kg (λs=>AOp P N o (rst ops o τ) s λa g=>a=d/\g=s) ((oV (M.getD i 0) S C).flatMap λσ=>(jg A (M.getD i 0)).map (fg · σ)))
 (f:iq N o.dst d τ=some τ2)(h:ADr P N ops A M r (i+1) τ2 S C (tab++[⟨o,rst ops o τ,d,.read⟩]) K):ADr P N ops A M (o::r) i τ S C tab K:=
 .inr (.inl ⟨b,d,τ2,c,f,h⟩)
def aaO(tok:TOk T P){e:TypeId}{l:Nat}{cs:List D}(a:df ops (rst ops o τ) o=some true)(b:o.op=.alloc e)(c:tB A i=some (l,cs))(f:lk T.zero e=some cs)(g:iq N o.dst (.ptr l 0 0) τ=some τ2)
 (h:ADr P N ops A M r (i+1) τ2 S C (tab++[⟨o,rst ops o τ,.ptr l 0 0,.alloc l cs⟩]) K):ADr P N ops A M (o::r) i τ S C tab K:=
 .inr (.inr (.inr ⟨a,e,l,cs,τ2,b,c,jG tok.zero f,g,h⟩))
end
end Go.Fw
namespace Go.Fw
open Go.RowKit
def Zf{α:Type}{l:List α}{i:Nat}{x:α}(h:l[i]?=some x):l.set i x=l:=by
 apply ajh;intro j;by_cases e:i=j
 ·subst e;rw[aiD (ah h),h]
 ·rw[aiq e]
section
variable {P:Program}{B:dN P}{G:Gh}{σ:Sto}{w:World}{N:Nat}{i:Nat}{c:Code}{τ τ' :Env}{σ' :Sto}{Q:AEx→Env→Sto→Prop}
def Rel.newObj(d:Rel B G σ w):Rel B G (σ++[.cells [] 0 0]) w:=by
 have g:∀{l u b:Nat}{f:am},G.blk l u=some b->(σ++[am.cells [] 0 0])[l]?=some f->σ[l]?=some f:=by
  intro l u b f e a;rwa[ahT (d.blk _ _ _ e).1]at a
 have look:∀{l:Nat}{f:am},(σ++[am.cells [] 0 0])[l]?=some f->σ[l]?=some f∨(l=σ.length/\f=.cells [] 0 0):=by
  intro l f a;rcases ah0 l σ.length with h|h
  ·rw[ahT h]at a;exact .inl a
  ·rw[ahZ h]at a;cases m:l-σ.length with
   |zero=>rw[m]at a;simp at a;exact .inr ⟨by omega,a.symm⟩
   |succ k=>rw[m]at a;simp at a
 refine⟨d.below,d.imm,d.mimm,d.siz,λl u b e=> ?_,d.inj,λl f b a e=>d.obj l f b (g e a) e,λl n j u b a e=>d.own l n j u b (g e a) e,λl q s b a e=>d.ownm l q s b (g e a) e,λl f a=> ?_,λl f a=> ?_,d.bimm,d.bmimm⟩
 ·obtain⟨t,p⟩:=d.blk l u b e;exact⟨by simp;omega,p⟩
 ·rcases look a with h|⟨rfl,rfl⟩
  ·exact d.ver l f h
  ·exact⟨ahS _,λu b e=>absurd (d.blk _ _ _ e).1 (aiS _)⟩
 ·rcases look a with h|⟨rfl,rfl⟩
  ·exact d.frzle l f h
  ·exact ahS _
def Rel.weakObj(d:Rel B G σ w){l f v:Nat}{cs cs':List D}(n:σ[l]?=some (.cells cs f v))(t:cs'.length=cs.length)(J:∀m,af G cs m->af G cs' m):Rel B G (σ.set l (.cells cs' f v)) w:=by
 have p:=ah n;have look:∀{a:Nat}{g:am},(σ.set l (.cells cs' f v))[a]?=some g->(a=l/\g=.cells cs' f v)∨(a≠l/\σ[a]?=some g):=by
  intro a g h;by_cases e:a=l
  ·subst e;rw[aiD p]at h;exact .inl ⟨rfl,(aiM h).symm⟩
  ·rw[aiq (ajt e)]at h;exact .inr ⟨e,h⟩
 refine⟨d.below,d.imm,d.mimm,d.siz,λa u b j=> ?_,d.inj,λa g b k j=> ?_,λa y q u b k j o x s=> ?_,λa K m b k j=> ?_,λa g k=> ?_,λa g k=> ?_,d.bimm,d.bmimm⟩
 ·rw[ajH];exact d.blk a u b j
 ·rcases look k with⟨rfl,rfl⟩|⟨_,h⟩
  ·obtain⟨m,z,A,C,L,I,F,H⟩:=d.obj a (.cells cs f v) b n j;exact⟨m,z,A,C,L,I,F,J _ H⟩
  ·exact d.obj a g b h j
 ·rcases look k with⟨rfl,h⟩|⟨_,h⟩
  ·cases h;exact d.own a _ _ _ b n j o x s
  ·exact d.own a _ _ _ b h j o x s
 ·rcases look k with⟨_,h⟩|⟨_,h⟩
  ·cases h
  ·exact d.ownm a K m b h j
 ·rcases look k with⟨rfl,rfl⟩|⟨_,h⟩
  ·have:=d.ver a _ n;exact⟨by simp only[am.ver,am.len]at this⊢;omega,this.2⟩
  ·exact d.ver a g h
 ·rcases look k with⟨rfl,rfl⟩|⟨_,h⟩
  ·have:=d.frzle a _ n;simp only[am.frz,am.len]at this⊢;omega
  ·exact d.frzle a g h
def Dj{l sz:Nat}{v:Value}(h:Rep G (.list [] 0 true) v):Rep G (.sl l 0 0 0 sz false) v:=by
 simp only[Rep]at h⊢;obtain⟨a,b,rfl,_,_,d,_⟩:=h;have:=d trivial;subst this;exact .inr ⟨trivial,a,rfl⟩
def af.set_weak{d g:D}(j:∀v,Rep G d v->Rep G g v):∀{cs:List D}{o:Nat}{vs:List Value},cs[o]?=some d->af G cs vs->af G (cs.set o g) vs
 |[],_,_,h,_=>by simp at h
 |x::cs,0,vs,h,a=>by
  simp at h;subst h;simp only[ajM,af]at a⊢;obtain⟨v,r,e,b,f⟩:=a;exact⟨v,r,e,j v b,f⟩
 |x::cs,o+1,vs,h,a=>by
  simp only[ai1]at h;simp only[akj,af]at a⊢;obtain⟨v,r,e,b,f⟩:=a;exact⟨v,r,e,b,af.set_weak j h f⟩
end
def app{α:Type}(by':Nat)(xs ys:List α):Option (List α):=if (xs.length+ys.length)*by'<=cH/\xs.length+ys.length<=cH then some (xs++ys) else none
section
variable {α:Type}{P:Program}{T:Tys}{τ τ' :Env}{σ σ' :Sto}{E:Enc α}{xs ys zs:List α}
def AOp.frz{N:Nat}{o:Oper}{d e:D}{σ1:Sto}(h:AOp P N o τ σ λb s=>b=d/\s=σ1)(p:Gz σ1 d=some (e,σ')):AOp P N o τ σ λb s=>b=e/\s=σ':=by
 intro B G w a l m next Q n
 refine h B G w a l m next Q ?_
 rintro v x y b s g j k ⟨rfl,rfl⟩;obtain⟨f,q,t,u⟩:=MJ j p k;exact n v x f e _ (g.trans q) t u ⟨rfl,rfl⟩
end
end Go.Fw
namespace Go.Fw
section
variable {P:Program}{T:Tys}{N:Nat}{all:Array Oper}{o:Oper}{r:List Oper}{τ τ' :Env}{σ σ1 σ' :Sto}{Kt:Env→Sto→Prop}
end
end Go.Fw
namespace Go.Fw
open Go.RowKit
section
variable {P:Program}{N:Nat}{all:Array Oper}{Kt:Env→Sto→Prop}
def iN.monoK{K j:Env->Sto->Prop}(g:∀τ σ,K τ σ->j τ σ):∀(l:List Oper)(τ:Env)(σ:Sto),iN P N all l τ σ K->iN P N all l τ σ j
 |[],τ,σ,h=>g τ σ h
 |o::r,τ,σ,h=>by
  rcases h with⟨b,e⟩|⟨b,a,e,f⟩
  ·refine .inl ⟨b,e.mono ?_⟩;rintro d s ⟨a,f,k⟩;exact⟨a,f,iN.monoK g r a s k⟩
  ·exact .inr ⟨b,a,e,iN.monoK g r a σ f⟩
end
end Go.Fw
namespace Go.Fw
section
variable {i:Nat}{P:Program}{N:Nat}{c c1 c2:Code}{τ:Env}{σ:Sto}{Q:AEx→Env→Sto→Prop}
def rg{id:Nat}{ops:Array Oper}(h:iN P N ops ops.toList τ σ (λa σ'=>Q .normal a σ')):AWp i P N (.region id ops false) τ σ Q:=eu h
end
end Go.Fw
namespace Go.Fw
open Go.RowKit
section
variable {P:Program}{T:Tys}{N:Nat}{o:Oper}{τ:Env}{σ σ' :Sto}
def Rel.oneMore{P:Program}{B:dN P}{G:Gh}{w:World}{ob:am}(p:ob.ver=0)(a:Rel B G (σ++[ob]) w):Rel B G (σ++[.gone]) w:=by
 have look:∀{l:Nat}{x:am},(σ++[am.gone])[l]?=some x->(l<σ.length/\(σ++[ob])[l]?=some x)∨(l=σ.length/\x=.gone):=by
  intro l x h;rcases ah0 l σ.length with f|f
  ·rw[ahT f]at h;exact .inl ⟨f,by rw[ahT f];exact h⟩
  ·rw[ahZ f]at h;cases m:l-σ.length with
   |zero=>rw[m]at h;simp at h;exact .inr ⟨by omega,h.symm⟩
   |succ k=>rw[m]at h;simp at h
 have j:(σ++[ob])[σ.length]?=some ob:=by simp
 refine⟨a.below,a.imm,a.mimm,a.siz,λl u b d=> ?_,a.inj,λl x b e d=> ?_,λl n g u b e d=> ?_,λl q r b e d=> ?_,λl x e=> ?_,λl x e=> ?_,a.bimm,a.bmimm⟩
 ·have:=a.blk l u b d;exact⟨by simpa using this.1,this.2⟩
 ·rcases look e with⟨_,h⟩|⟨rfl,rfl⟩
  ·exact a.obj l x b h d
  ·exact(a.blk _ _ _ d).2.2
 ·rcases look e with⟨_,h⟩|⟨_,h⟩
  ·exact a.own l n g u b h d
  ·cases h
 ·rcases look e with⟨_,h⟩|⟨_,h⟩
  ·exact a.ownm l q r b h d
  ·cases h
 ·rcases look e with⟨_,h⟩|⟨rfl,rfl⟩
  ·exact a.ver l x h
  ·refine⟨ahS _,λu b d=> ?_⟩;have:=(a.ver _ _ j).2 u b d;rw[p]at this;exact this
 ·rcases look e with⟨_,h⟩|⟨_,rfl⟩
  ·exact a.frzle l x h
  ·exact ahS _
variable {α:Type}{E:Enc α}{xs ys zs:List α}
end
end Go.Fw
namespace Go.Fw
open Go.RowKit
inductive Node where
 |mk(cls num:Int)(cons:Bool)(content:List UInt8)(kids:List Node)
 deriving Inhabited
def Node.cls:Node->Int|.mk c _ _ _ _=>c
def Node.num:Node->Int|.mk _ m _ _ _=>m
def Node.cons:Node->Bool|.mk _ _ k _ _=>k
def Node.body:Node->List UInt8|.mk _ _ _ b _=>b
def Node.kids:Node->List Node|.mk _ _ _ _ ks=>ks
inductive Spot where
 |mk(at' stop:Int)(nd:Node)(kids:List Spot)
 deriving Inhabited
def Spot.at':Spot->Int|.mk a _ _ _=>a
def Spot.stop:Spot->Int|.mk _ e _ _=>e
def Spot.nd:Spot->Node|.mk _ _ n _=>n
def Spot.kids:Spot->List Spot|.mk _ _ _ ks=>ks
inductive TC where
 |byte|int(k:IntKind)|bool|str|sl(t:TC)|pair(a b:TC)|unit|node|spot
 deriving DecidableEq,Inhabited
@[reducible] def TC.Den:TC->Type
  |.byte=>UInt8
  |.int _=>Int
  |.bool=>Bool
  |.str=>List UInt8
  |.sl t=>List t.Den
  |.pair a b=>a.Den×b.Den
  |.unit=>Unit
  |.node=>Node
  |.spot=>Spot
def LS(b:List UInt8):D:=.list (dF mC b) b.length false
mutual
def BG:Node->List D
 |.mk c n k b ks=>[.int .i64 c,.int .i64 n,.bool k,LS b,.list (tg ks) ks.length false]
def tg:List Node->List D
 |[]=>[]
 |n::ns=>BG n++tg ns
end
def Hv{a b:List D}(c:cW a=true)(d:cW b=true):cW (a++b)=true:=by rw[Am,c,d];rfl
mutual
def Dn:∀n,cW (BG n)=true
 |.mk c n k b ks=>by simp[BG,cW,D.pure,LS,flat_pure,wg ks]
def wg:∀ns,cW (tg ns)=true
 |[]=>rfl
 |n::ns=>by simp only[tg];exact Hv (Dn n) (wg ns)
end
mutual
def BH:Spot->List D
 |.mk a e (.mk c n k b ks) ss=>[.int .i64 a,.int .i64 e,.int .i64 c,.int .i64 n,.bool k,LS b,.list (tg ks) ks.length false,.list (xg ss) ss.length false]
def xg:List Spot->List D
 |[]=>[]
 |n::ns=>BH n++xg ns
end
mutual
def Do:∀n,cW (BH n)=true
 |.mk a e (.mk c n k b ks) ss=>by simp[BH,cW,D.pure,LS,flat_pure,wg ks,Dp ss]
def Dp:∀ns,cW (xg ns)=true
 |[]=>rfl
 |n::ns=>by simp only[xg];exact Hv (Do n) (Dp ns)
end
def afJ:Enc Spot:=⟨8,BH,xg,rfl,λ_ _=>rfl,λn=>by cases n with|mk a e n b=>cases n;rfl,Do,λn=>by cases n with|mk a e n b=>cases n;rfl⟩
def afK:Enc Node:=⟨5,BG,tg,rfl,λ_ _=>rfl,λn=>by cases n;rfl,Dn,λn=>by cases n;rfl⟩
def afL:Enc Unit:=mkE 0 (λ_=>[]) (λ_=>rfl) (λ_=>rfl) (λ_=>rfl)
def afM{α a:Type}(A:Enc α)(B:Enc a):Enc (α×a):=mkE (A.sz+B.sz) (λx=>A.cells x.1++B.cells x.2) (λx=>by simp[A.len,B.len]) (λx=>Hv (A.pure _) (B.pure _)) (λx=>by simp only[akp,A.cell,B.cell,ajn])
def afN(k:IntKind):Enc Int:=mkE 1 (λn=>[.int k n]) (λ_=>rfl) (λ_=>rfl) (λ_=>rfl)
def uD:Enc (List UInt8):=mkE 1 (λs=>[.str s]) (λ_=>rfl) (λ_=>rfl) (λ_=>rfl)
def TC.enc:(t:TC)->Enc t.Den
 |.byte=>mC
 |.int k=>afN k
 |.bool=>agq
 |.str=>uD
 |.sl t=>agr t.enc
 |.pair a b=>afM a.enc b.enc
 |.unit=>afL
 |.node=>afK
 |.spot=>afJ
abbrev TC.flat(t:TC)(xs:List t.Den):List D:=dF t.enc xs
abbrev TC.sz(t:TC):Nat:=t.enc.sz
abbrev TC.cells(t:TC)(x:t.Den):List D:=t.enc.cells x
inductive SV where
 |int(k:IntKind)(n:Int)
 |bool(b:Bool)
 |str(s:List UInt8)
 |sl(t:TC)(xs:List t.Den)(full:Bool)
 |nils
 |lst(cs:List SV)(n:Nat)(full:Bool)
 |agg(cs:List SV)
 |tup(cs:List SV)
 |func(fn:Fn)(a b:List SV)
 |iface(t:TypeId)(v:SV)
 |own(l g:Nat)
 |ap(l g:Nat)(i:Int)(o:Nat)
 |rp(t:TC)(x:t.Den)(o:Nat)
 |rc(cs:List SV)(o:Nat)
 |raw(d:D)
 deriving Inhabited
inductive kR where
 |cells(cs:List SV)(fz:Bool)
 |arr(t:TC)(xs:List t.Den)(fz:Bool)(g:Nat)
 |raw(o:am)
 |it(s:List UInt8)(pos:Int)
 |smap(ks:List (List UInt8))
 |junk
 deriving Inhabited
abbrev ax:=List (Nat×SV)
abbrev ae:=List kR
def AB(S:ae)(σ:Sto)(l g:Nat)(d:D):Prop:=
 l<S.length/\∀t b e a,S[l]?=some (.arr t b e a)->g<=a/\(g=a->∃c u,σ[l]?=some (.cells (t.flat b) c u)/\d=.sl l u 0 b.length t.sz false)
def ApR(S:ae)(σ:Sto)(l g:Nat)(i:Int)(o:Nat)(d:D):Prop:=
 l<S.length/\∀t b e a,S[l]?=some (.arr t b e a)->g<=a/\(g=a->∃c u,σ[l]?=some (.cells (t.flat b) c u)/\d=.ptr l u (i.toNat*t.sz+o))
mutual
def VR(S:ae)(σ:Sto):SV->D->Prop
 |.int k n,d=>d=.int k n
 |.bool b,d=>d=.bool b
 |.str s,d=>d=.str s
 |.sl t xs f,d=>∃f',d=.list (t.flat xs) xs.length f'/\(f=true->f'=true)
 |.nils,d=>d=.list [] 0 true
 |.lst cs n f,d=>∃ds f',d=.list ds n f'/\(f=true->f'=true)/\VRs S σ cs ds
 |.agg cs,d=>∃ds,d=.agg ds/\VRs S σ cs ds
 |.tup cs,d=>∃ds,d=.tuple ds/\VRs S σ cs ds
 |.func fn a b,d=>∃da db,d=.func fn da db/\VRs S σ a da/\VRs S σ b db
 |.iface t v,d=>∃e,d=.iface t e/\VR S σ v e
 |.own l g,d=>AB S σ l g d
 |.ap l g i o,d=>ApR S σ l g i o d
 |.rp t x o,d=>∃hd tl,d=.rptr (hd++t.cells x++tl) (hd.length+o)
 |.rc cs o,d=>∃ds,d=.rptr ds o/\VRs S σ cs ds
 |.raw e,d=>d=e
def VRs (S:ae) (σ:Sto):List SV->List D->Prop
 |[],ds=>ds=[]
 |v::vs,ds=>∃e es,ds=e::es/\VR S σ v e/\VRs S σ vs es
end
structure bC(S:ae)(σ:Sto)(S':ae)(σ':Sto):Prop where
 own:∀l g d,AB S σ l g d->AB S' σ' l g d
 ap:∀l g i o d,ApR S σ l g i o d->ApR S' σ' l g i o d
def bC.refl(S:ae)(σ:Sto):bC S σ S σ:=⟨λ_ _ _ h=>h,λ_ _ _ _ _ h=>h⟩
def bC.trans{S S' b:ae}{σ σ' a:Sto}(h:bC S σ S' σ')(k:bC S' σ' b a):bC S σ b a:=
 ⟨λl g d x=>k.own l g d (h.own l g d x),λl g i o d x=>k.ap l g i o d (h.ap l g i o d x)⟩
mutual
def VR.pres{S S':ae}{σ σ':Sto}(h:bC S σ S' σ'):∀(v:SV)(d:D),VR S σ v d->VR S' σ' v d
 |.int _ _,_,x=>by simpa only[VR] using x
 |.bool _,_,x=>by simpa only[VR] using x
 |.str _,_,x=>by simpa only[VR] using x
 |.sl _ _ _,_,x=>by simpa only[VR] using x
 |.nils,_,x=>by simpa only[VR] using x
 |.lst cs _ _,_,x=>by
  simp only[VR]at x⊢;obtain⟨ds,f',e,hf,hv⟩:=x;exact⟨ds,f',e,hf,VRs.pres h cs ds hv⟩
 |.agg cs,_,x=>by
  simp only[VR]at x⊢;obtain⟨ds,e,hv⟩:=x;exact⟨ds,e,VRs.pres h cs ds hv⟩
 |.tup cs,_,x=>by
  simp only[VR]at x⊢;obtain⟨ds,e,hv⟩:=x;exact⟨ds,e,VRs.pres h cs ds hv⟩
 |.func _ a b,_,x=>by
  simp only[VR]at x⊢;obtain⟨da,db,e,h1,h2⟩:=x;exact⟨da,db,e,VRs.pres h a da h1,VRs.pres h b db h2⟩
 |.iface _ v,_,x=>by
  simp only[VR]at x⊢;obtain⟨e,h1,h2⟩:=x;exact⟨e,h1,VR.pres h v e h2⟩
 |.own _ _,_,x=>by simp only[VR]at x⊢;exact h.own _ _ _ x
 |.ap _ _ _ _,_,x=>by simp only[VR]at x⊢;exact h.ap _ _ _ _ _ x
 |.rp _ _ _,_,x=>by simpa only[VR] using x
 |.rc cs _,_,x=>by
  simp only[VR]at x⊢;obtain⟨ds,e,hv⟩:=x;exact⟨ds,e,VRs.pres h cs ds hv⟩
 |.raw _,_,x=>by simpa only[VR] using x
def VRs.pres {S S':ae} {σ σ':Sto} (h:bC S σ S' σ'):∀(vs:List SV)(ds:List D),VRs S σ vs ds->VRs S' σ' vs ds
 |[],_,x=>by simpa only[VRs] using x
 |v::vs,_,x=>by
  simp only[VRs]at x⊢;obtain⟨e,es,h1,h2,h3⟩:=x;exact⟨e,es,h1,VR.pres h v e h2,VRs.pres h vs es h3⟩
end
mutual
def SV.pure:SV->Bool
 |.lst cs _ _=>SV.pures cs
 |.agg cs=>SV.pures cs
 |.tup cs=>SV.pures cs
 |.func _ a b=>SV.pures a&&SV.pures b
 |.iface _ v=>v.pure
 |.own _ _=>false
 |.ap _ _ _ _=>false
 |.rp _ _ _=>false
 |.rc cs _=>SV.pures cs
 |.raw d=>d.pure
 |_=>true
def SV.pures:List SV->Bool
 |[]=>true
 |v::vs=>v.pure&&SV.pures vs
end
def TC.flat_pure(t:TC)(xs:List t.Den):cW (t.flat xs)=true:=Go.Fw.flat_pure _ _
mutual
def VR.pure{S S':ae}{σ σ':Sto}:∀(v:SV)(d:D),v.pure=true->VR S σ v d->VR S' σ' v d/\d.pure=true
 |.int _ _,_,_,x=>by simp only[VR]at x⊢;subst x;exact⟨rfl,rfl⟩
 |.bool _,_,_,x=>by simp only[VR]at x⊢;subst x;exact⟨rfl,rfl⟩
 |.str _,_,_,x=>by simp only[VR]at x⊢;subst x;exact⟨rfl,rfl⟩
 |.sl t xs _,_,_,x=>by simp only[VR]at x⊢;obtain⟨f',rfl,h⟩:=x;exact⟨⟨f',rfl,h⟩,t.flat_pure xs⟩
 |.nils,_,_,x=>by simp only[VR]at x⊢;subst x;exact⟨rfl,rfl⟩
 |.lst cs _ _,_,p,x=>by
  simp only[VR]at x⊢;obtain⟨ds,f',rfl,hf,hv⟩:=x;obtain⟨h1,h2⟩:=VRs.pure cs ds p hv;exact⟨⟨ds,f',rfl,hf,h1⟩,h2⟩
 |.agg cs,_,p,x=>by
  simp only[VR]at x⊢;obtain⟨ds,rfl,hv⟩:=x;obtain⟨h1,h2⟩:=VRs.pure cs ds p hv;exact⟨⟨ds,rfl,h1⟩,h2⟩
 |.tup cs,_,p,x=>by
  simp only[VR]at x⊢;obtain⟨ds,rfl,hv⟩:=x;obtain⟨h1,h2⟩:=VRs.pure cs ds p hv;exact⟨⟨ds,rfl,h1⟩,h2⟩
 |.func _ a b,_,p,x=>by
  simp only[VR]at x⊢;simp only[SV.pure,ahJ]at p;obtain⟨da,db,rfl,h1,h2⟩:=x;obtain⟨a1,a2⟩:=VRs.pure a da p.1 h1;obtain⟨b1,b2⟩:=VRs.pure b db p.2 h2;exact⟨⟨da,db,rfl,a1,b1⟩,by simp[D.pure,a2,b2]⟩
 |.iface _ v,_,p,x=>by
  simp only[VR]at x⊢;obtain⟨e,rfl,h2⟩:=x;obtain⟨a1,a2⟩:=VR.pure v e p h2;exact⟨⟨e,rfl,a1⟩,a2⟩
 |.own _ _,_,p,_=>by cases p
 |.ap _ _ _ _,_,p,_=>by cases p
 |.rp t y o,_,p,_=>by cases p
 |.rc cs _,_,p,x=>by
  simp only[VR]at x⊢;obtain⟨ds,rfl,hv⟩:=x;obtain⟨h1,h2⟩:=VRs.pure cs ds p hv;exact⟨⟨ds,rfl,h1⟩,h2⟩
 |.raw e,_,p,x=>by simp only[VR]at x⊢;subst x;exact⟨rfl,p⟩
def VRs.pure {S S':ae} {σ σ':Sto}:∀(vs:List SV)(ds:List D),SV.pures vs=true->VRs S σ vs ds->VRs S' σ' vs ds/\cW ds=true
 |[],_,_,x=>by simp only[VRs]at x⊢;subst x;exact⟨rfl,rfl⟩
 |v::vs,_,p,x=>by
  simp only[VRs]at x⊢;simp only[SV.pures,ahJ]at p;obtain⟨e,es,rfl,h2,h3⟩:=x;obtain⟨a1,a2⟩:=VR.pure v e p.1 h2;obtain⟨b1,b2⟩:=VRs.pure vs es p.2 h3;exact⟨⟨e,es,rfl,a1,b1⟩,by simp[cW,a2,b2]⟩
end
def AB.mk{S:ae}{σ:Sto}{l g:Nat}{d:D}{t:TC}{xs:List t.Den}{fz:Bool}{fr u:Nat}(a:S[l]?=some (.arr t xs fz g))(c:σ[l]?=some (.cells (t.flat xs) fr u))(e:d=.sl l u 0 xs.length t.sz false):AB S σ l g d:=
 ⟨ah a,λj f b i h=>by rw[a]at h;cases h;exact⟨ahS _,λ_=>⟨fr,u,c,e⟩⟩⟩
def ApR.mk{S:ae}{σ:Sto}{l g o:Nat}{i:Int}{d:D}{t:TC}{xs:List t.Den}{fz:Bool}{fr u:Nat}(a:S[l]?=some (.arr t xs fz g))(c:σ[l]?=some (.cells (t.flat xs) fr u))(e:d=.ptr l u (i.toNat*t.sz+o)):ApR S σ l g i o d:=
 ⟨ah a,λk f b j h=>by rw[a]at h;cases h;exact⟨ahS _,λ_=>⟨fr,u,c,e⟩⟩⟩
mutual
def D.lo(m:Nat):D->Bool
 |.ptr l _ _=>Nat.blt l m
 |.sl l _ _ _ _ _=>Nat.blt l m
 |.map l=>Nat.blt l m
 |.rptr cs _=>D.los m cs
 |.list cs _ _=>D.los m cs
 |.cmap a b=>D.los m a&&D.los m b
 |.pmap a b=>D.los m a&&D.los m b
 |.func _ a b=>D.los m a&&D.los m b
 |.iface _ v=>D.lo m v
 |.agg cs=>D.los m cs
 |.tuple cs=>D.los m cs
 |_=>true
def D.los (m:Nat):List D->Bool
 |[]=>true
 |d::ds=>D.lo m d&&D.los m ds
end
def am.lo(m:Nat):am->Bool
 |.cells c _ _=>D.los m c
 |.map a b=>D.los m a&&D.los m b
 |.miter a b _ _=>D.los m a&&D.los m b
 |_=>true
def ObR(S:ae)(σ:Sto):kR->am->Prop
 |.cells g d,b=>∃e c,b=.cells e c 0/\(d=false->c=0)/\VRs S σ g e
 |.arr t h d _,b=>∃c u,b=.cells (t.flat h) c u/\(d=false->c=0)
 |.raw a,b=>b=a
 |.it s p,b=>b=.siter s p.toNat
 |.smap f,b=>b=.map (f.map .str) (f.map λ_=>.bool true)
 |.junk,b=>b.lo 0=true
structure StR(S:ae)(σ:Sto):Prop where
 len:S.length=σ.length
 obj:∀(l:Nat)(o:kR),S[l]?=some o->∃a,σ[l]?=some a/\ObR S σ o a
def nj:ax->Nat->Option SV
 |[],_=>none
 |(i,v)::r,t=>match Nat.beq i t with
  |true=>some v
  |false=>nj r t
def ER(S:ae)(σ:Sto)(τ:ax)(τ':Env):Prop:=∀t v,nj τ t=some v->∃d,get τ' t=some d/\VR S σ v d
def ER.pres{S S':ae}{σ σ':Sto}{τ:ax}{τ':Env}(h:bC S σ S' σ')(x:ER S σ τ τ'):ER S' σ' τ τ':=
 λt v c=>by obtain⟨d,a,b⟩:=x t v c;exact⟨d,a,VR.pres h v d b⟩
def th{τ:ax}{i t:Nat}{v:SV}:nj ((i,v)::τ) t=if i=t then some v else nj τ t:=by
 simp only[nj];split
 ·rename_i h;rw[ah2 (dd h)]
 ·rename_i h;rw[air (λe=>by subst e;rw[akF]at h;cases h)]
def ER.push{S:ae}{σ:Sto}{τ:ax}{τ':Env}{t:Nat}{v:SV}{d:D}(x:ER S σ τ τ')(h:VR S σ v d):ER S σ ((t,v)::τ) ((t,d)::τ'):=by
 intro b c a;rw[th]at a;simp only[get];by_cases e:t=b
 ·rw[ah2 e]at a⊢;cases a;exact⟨d,rfl,h⟩
 ·rw[air e]at a⊢;exact x b c a
def TC.scells:(t:TC)->t.Den->List SV
 |.byte,b=>[.int .u8 b.toNat]
 |.int k,n=>[.int k n]
 |.bool,b=>[.bool b]
 |.str,s=>[.str s]
 |.sl t,c=>[.sl t c false]
 |.pair a b,x=>a.scells x.1++b.scells x.2
 |.unit,_=>[]
 |.node,n=>[.int .i64 n.cls,.int .i64 n.num,.bool n.cons,.sl .byte n.body false,.sl .node n.kids false]
 |.spot,s=>[.int .i64 s.at',.int .i64 s.stop,.int .i64 s.nd.cls,.int .i64 s.nd.num,.bool s.nd.cons,.sl .byte s.nd.body false,.sl .node s.nd.kids false,.sl .spot s.kids false]
def VRs.append{S:ae}{σ:Sto}:∀{a b:List SV}{d c:List D},VRs S σ a d->VRs S σ b c->VRs S σ (a++b) (d++c)
 |[],_,_,_,h,k=>by simp only[VRs]at h;subst h;exact k
 |v::a,b,_,c,h,k=>by
  simp only[VRs]at h;obtain⟨e,f,rfl,g,i⟩:=h;simp only[aiB,VRs];exact⟨e,f++c,rfl,g,VRs.append i k⟩
def TC.scells_ok(S:ae)(σ:Sto):∀(t:TC)(x:t.Den),VRs S σ (t.scells x) (t.cells x)
 |.byte,b=>by simp only[TC.scells,VRs,VR];exact⟨_,_,rfl,rfl,rfl⟩
 |.int k,n=>by simp only[TC.scells,VRs,VR];exact⟨_,_,rfl,rfl,rfl⟩
 |.bool,b=>by simp only[TC.scells,VRs,VR];exact⟨_,_,rfl,rfl,rfl⟩
 |.str,s=>by simp only[TC.scells,VRs,VR];exact⟨_,_,rfl,rfl,rfl⟩
 |.sl t,g=>by simp only[TC.scells,VRs,VR];exact⟨_,_,rfl,⟨false,rfl,λh=>by cases h⟩,rfl⟩
 |.pair a b,x=>VRs.append (TC.scells_ok S σ a x.1) (TC.scells_ok S σ b x.2)
 |.unit,_=>by simp only[TC.scells,VRs];rfl
 |.node,.mk c m k b d=>by
  simp only[TC.scells,VRs,VR];exact⟨_,_,rfl,rfl,_,_,rfl,rfl,_,_,rfl,rfl,_,_,rfl,⟨false,rfl,λh=>by cases h⟩,_,_,rfl,⟨false,rfl,λh=>by cases h⟩,rfl⟩
 |.spot,.mk a e (.mk c m k b d) f=>by
  simp only[TC.scells,VRs,VR];exact⟨_,_,rfl,rfl,_,_,rfl,rfl,_,_,rfl,rfl,_,_,rfl,rfl,_,_,rfl,rfl,_,_,rfl,⟨false,rfl,λh=>by cases h⟩,_,_,rfl,⟨false,rfl,λh=>by cases h⟩,_,_,rfl,⟨false,rfl,λh=>by cases h⟩,rfl⟩
def lM(t:TC):SV->Option (List t.Den)
 |.sl u a _=>match decEq u t with
  |isTrue h=>some (h▸a)
  |isFalse _=>none
 |.nils=>some []
 |_=>none
def oT{S:ae}{σ:Sto}{t:TC}{v:SV}{xs:List t.Den}{d:D}(h:lM t v=some xs)(a:VR S σ v d):∃f,d=.list (t.flat xs) xs.length f:=by
 unfold lM at h;split at h
 ·split at h<;>try (cases h;done)
  rename_i e _;subst e;cases h;simp only[VR]at a;obtain⟨b,rfl,_⟩:=a;exact⟨b,rfl⟩
 ·cases h;simp only[VR]at a;subst a;refine⟨true,?_⟩;show D.list [] 0 true=.list (dF t.enc []) 0 true;rw[kA]
 ·cases h
def TC.take{α:Type}:(t:TC)->List SV->(t.Den->List SV->Option α)->Option α
 |.byte,d,K=>match d with
  |.int .u8 n::r=>(toB n).bind λb=>K b r
  |_=>none
 |.int k,d,K=>match d with
  |.int g n::r=>match decEq g k with
   |isTrue _=>K n r
   |isFalse _=>none
  |_=>none
 |.bool,d,K=>match d with
  |.bool b::r=>K b r
  |_=>none
 |.str,d,K=>match d with
  |.str s::r=>K s r
  |_=>none
 |.sl t,d,K=>match d with
  |v::r=>match lM t v with
   |some j=>K j r
   |none=>none
  |_=>none
 |.pair a b,d,K=>a.take d λx r=>b.take r λy h=>K (x,y) h
 |.unit,d,K=>K () d
 |.node,d,K=>match d with
  |.int .i64 c:: .int .i64 m:: .bool k::v::w::r=>match lM .byte v,lM .node w with
   |some b,some f=>K (.mk c m k b f) r
   |_,_=>none
  |_=>none
 |.spot,d,K=>match d with
  |.int .i64 a:: .int .i64 e:: .int .i64 c:: .int .i64 m:: .bool k::v::w::u::r=>match lM .byte v,lM .node w,lM .spot u with
   |some b,some f,some i=>K (.mk a e (.mk c m k b f) i) r
   |_,_,_=>none
  |_=>none
def cZ.refl:∀a:List D,cZ a a
 |[]=>rfl
 |d::a=>⟨aE.refl d,cZ.refl a⟩
def cZ.append:∀{a b c d:List D},cZ a b->cZ c d->cZ (a++c) (b++d)
 |[],b,c,d,h,k=>by
  have h:b=[]:=h;subst h;exact k
 |x::a,[],_,_,h,_=>h.elim
 |x::a,y::b,c,d,h,k=>⟨h.1,cZ.append h.2 k⟩
def TC.take_ok{α:Type}{S:ae}{σ:Sto}:∀(t:TC)(cs:List SV)(ds:List D)(K:t.Den->List SV->Option α)(r:α),t.take cs K=some r->VRs S σ cs ds->
 ∃x i l d2,K x i=some r/\ds=l++d2/\cZ l (t.cells x)/\VRs S σ i d2
 |.byte,cs,ds,K,r,h,c=>by
  simp only[TC.take]at h;split at h<;>try (cases h;done)
  obtain⟨b,j,h⟩:=ak h;simp only[VRs,VR]at c;obtain⟨e,d,rfl,rfl,g⟩:=c;exact⟨b,_,[_],d,h,rfl,by rw[ac5 j];exact cZ.refl _,g⟩
 |.int k,cs,ds,K,r,h,c=>by
  simp only[TC.take]at h;split at h<;>try (cases h;done)
  split at h<;>try (cases h;done)
  rename_i e _;subst e;simp only[VRs,VR]at c;obtain⟨e,d,rfl,rfl,g⟩:=c;exact⟨_,_,[_],d,h,rfl,cZ.refl _,g⟩
 |.bool,cs,ds,K,r,h,c=>by
  simp only[TC.take]at h;split at h<;>try (cases h;done)
  simp only[VRs,VR]at c;obtain⟨e,d,rfl,rfl,g⟩:=c;exact⟨_,_,[_],d,h,rfl,cZ.refl _,g⟩
 |.str,cs,ds,K,r,h,c=>by
  simp only[TC.take]at h;split at h<;>try (cases h;done)
  simp only[VRs,VR]at c;obtain⟨e,d,rfl,rfl,g⟩:=c;exact⟨_,_,[_],d,h,rfl,cZ.refl _,g⟩
 |.sl t,cs,ds,K,r,h,c=>by
  simp only[TC.take]at h;split at h<;>try (cases h;done)
  split at h<;>try (cases h;done)
  rename_i Z O;simp only[VRs]at c;obtain⟨e,d,rfl,o,g⟩:=c;obtain⟨f,rfl⟩:=oT O o;exact⟨Z,_,[_],d,h,rfl,⟨aE.list,rfl⟩,g⟩
 |.pair a b,cs,ds,K,r,h,c=>by
  simp only[TC.take]at h;obtain⟨x,m,l,d2,G,rfl,X,V⟩:=TC.take_ok a cs ds _ r h c;obtain⟨y,n,u,v,o,rfl,Y,W⟩:=TC.take_ok b m d2 _ r G V;exact⟨(x,y),n,l++u,v,o,by simp,cZ.append X Y,W⟩
 |.unit,cs,ds,K,r,h,c=>⟨(),cs,[],ds,h,rfl,rfl,c⟩
 |.node,cs,ds,K,r,h,c=>by
  simp only[TC.take]at h;split at h<;>try (cases h;done)
  split at h<;>try (cases h;done)
  rename_i b P j q;simp only[VRs,VR]at c;obtain⟨w,Q,rfl,rfl,z,R,rfl,rfl,A,T,rfl,rfl,B,r4,rfl,H,C,s,rfl,I,p⟩:=c;obtain⟨f,rfl⟩:=oT j H;obtain⟨E,rfl⟩:=oT q I;exact⟨_,_,[_,_,_,_,_],s,h,rfl,⟨aE.refl _,aE.refl _,aE.refl _,aE.list,aE.list,rfl⟩,p⟩
 |.spot,cs,ds,K,r,h,c=>by
  simp only[TC.take]at h;split at h<;>try (cases h;done)
  split at h<;>try (cases h;done)
  rename_i b P ss j q N;simp only[VRs,VR]at c;obtain⟨w,Q,rfl,rfl,z,R,rfl,rfl,A,T,rfl,rfl,B,r4,rfl,rfl,C,s,rfl,rfl,e6,r6,rfl,p,e7,r7,rfl,J,e8,U,rfl,L,M⟩:=c;obtain⟨f,rfl⟩:=oT j p;obtain⟨E,rfl⟩:=oT q J;obtain⟨F,rfl⟩:=oT N L;exact⟨_,_,[_,_,_,_,_,_,_,_],U,h,rfl,⟨aE.refl _,aE.refl _,aE.refl _,aE.refl _,aE.refl _,aE.list,aE.list,aE.list,rfl⟩,M⟩
end Go.Fw
def ail:=@of_decide_eq_true
namespace Go.Fw
open Go.RowKit
def Xd(cs:List D)(n:Nat)(f:Bool):Bool:=cs.isEmpty&&Nat.beq n 0&&f
mutual
def ofD:D->SV
 |.int k n=>.int k n
 |.bool b=>.bool b
 |.str s=>.str s
 |.list cs n f=>match Xd cs n f with
  |true=>.nils
  |false=>.lst (mP cs) n f
 |.agg cs=>.agg (mP cs)
 |.tuple cs=>.tup (mP cs)
 |.func fn a b=>.func fn (mP a) (mP b)
 |.iface t v=>.iface t (ofD v)
 |.rptr cs o=>.rc (mP cs) o
 |d=>.raw d
def mP:List D->List SV
 |[]=>[]
 |d::ds=>ofD d::mP ds
end
mutual
def Dv(S:ae)(σ:Sto):∀d,VR S σ (ofD d) d
 |.int _ _=>by simp[ofD,VR]
 |.bool _=>by simp[ofD,VR]
 |.str _=>by simp[ofD,VR]
 |.list cs n f=>by
  simp only[ofD];split
  ·rename_i h;simp only[Xd,ahJ,List.isEmpty_iff]at h;simp only[VR];rw[h.1.1,dd h.1.2,h.2]
  ·simp only[VR];exact⟨cs,f,rfl,id,lX S σ cs⟩
 |.agg cs=>by simp only[ofD,VR];exact⟨cs,rfl,lX S σ cs⟩
 |.tuple cs=>by simp only[ofD,VR];exact⟨cs,rfl,lX S σ cs⟩
 |.func _ a b=>by simp only[ofD,VR];exact⟨a,b,rfl,lX S σ a,lX S σ b⟩
 |.iface _ v=>by simp only[ofD,VR];exact⟨v,rfl,Dv S σ v⟩
 |.rptr cs _=>by simp only[ofD,VR];exact⟨cs,rfl,lX S σ cs⟩
 |.nilp=>by simp[ofD,VR]
 |.ptr _ _ _=>by simp[ofD,VR]
 |.sl _ _ _ _ _ _=>by simp[ofD,VR]
 |.map _=>by simp[ofD,VR]
 |.nilmap=>by simp[ofD,VR]
 |.cmap _ _=>by simp[ofD,VR]
 |.pmap _ _=>by simp[ofD,VR]
 |.nilf=>by simp[ofD,VR]
 |.nili=>by simp[ofD,VR]
 |.anyi=>by simp[ofD,VR]
 |.junk=>by simp[ofD,VR]
def lX (S:ae) (σ:Sto):∀ds,VRs S σ (mP ds) ds
 |[]=>by simp[mP,VRs]
 |d::ds=>by simp only[mP,VRs];exact⟨d,ds,rfl,Dv S σ d,lX S σ ds⟩
end
def sev(τ:ax):Operand->Option SV
 |.tmp t=>nj τ t
 |.const v=>match De v with
  |some d=>some (ofD d)
  |none=>none
 |.func f=>some (.func (.func f) [] [])
 |.global _=>none
def Ci(τ:ax):List Operand->Option (List SV)
 |[]=>some []
 |x::b=>match sev τ x with
  |some d=>match Ci τ b with
   |some a=>some (d::a)
   |none=>none
  |none=>none
def Kv(τ:ax):List (Nat×Operand)->Option (List (Nat×SV))
 |[]=>some []
 |(i,x)::b=>match sev τ x with
  |some d=>match Kv τ b with
   |some a=>some ((i,d)::a)
   |none=>none
  |none=>none
section
variable {S:ae}{σ:Sto}{τ:ax}{τ' :Env}
def jc(h:ER S σ τ τ'){x:Operand}{v:SV}(a:sev τ x=some v):∃d,ev τ' x=some d/\VR S σ v d:=by
 cases x<;>simp only[sev]at a
 case tmp=>exact h _ _ a
 case const=>
  split at a<;>try (cases a;done)
  rename_i d b;cases a;exact⟨d,b,Dv S σ d⟩
 case func=>cases a;exact⟨_,rfl,by simp only[VR,VRs];exact⟨[],[],rfl,rfl,rfl⟩⟩
 case global=>cases a
def wi(h:ER S σ τ τ'):∀{xs:List Operand}{vs:List SV},Ci τ xs=some vs->∃b,evs τ' xs=some b/\VRs S σ vs b
 |[],_,a=>by simp only[Ci,ahM]at a;subst a;exact⟨[],rfl,by simp only[VRs]⟩
 |x::xs,_,a=>by
  simp only[Ci]at a;split at a<;>try (cases a;done)
  rename_i v j;split at a<;>try (cases a;done)
  rename_i vs c;cases a;obtain⟨d,e,f⟩:=jc h j;obtain⟨b,g,i⟩:=wi h c;exact⟨d::b,by simp only[evs,e,g],by simp only[VRs];exact⟨d,b,rfl,f,i⟩⟩
def VRp(S:ae)(σ:Sto):List (Nat×SV)->List (Nat×D)->Prop
 |[],a=>a=[]
 |(i,v)::c,a=>∃e b,a=(i,e)::b/\VR S σ v e/\VRp S σ c b
def Iv(h:ER S σ τ τ'):∀{xs:List (Nat×Operand)}{vs:List (Nat×SV)},Kv τ xs=some vs->∃b,evp τ' xs=some b/\VRp S σ vs b
 |[],_,a=>by simp only[Kv,ahM]at a;subst a;exact⟨[],rfl,by simp only[VRp]⟩
 |(i,x)::xs,_,a=>by
  simp only[Kv]at a;split at a<;>try (cases a;done)
  rename_i v k;split at a<;>try (cases a;done)
  rename_i vs c;cases a;obtain⟨d,e,f⟩:=jc h k;obtain⟨b,g,j⟩:=Iv h c;exact⟨(i,d)::b,by simp only[evp,e,g],by simp only[VRp];exact⟨d,b,rfl,f,j⟩⟩
end
def VRs.length{S:ae}{σ:Sto}:∀{cs:List SV}{ds:List D},VRs S σ cs ds->ds.length=cs.length
 |[],_,h=>by simp only[VRs]at h;subst h;rfl
 |v::cs,_,h=>by
  simp only[VRs]at h;obtain⟨e,b,rfl,_,a⟩:=h;simp[VRs.length a]
def VRs.drop{S:ae}{σ:Sto}:∀(n:Nat){cs:List SV}{ds:List D},VRs S σ cs ds->VRs S σ (cs.drop n) (ds.drop n)
 |0,_,_,h=>by simpa using h
 |n+1,[],_,h=>by simp only[VRs]at h;subst h;simp[VRs]
 |n+1,v::cs,_,h=>by
  simp only[VRs]at h;obtain⟨e,b,rfl,_,a⟩:=h;simpa using VRs.drop n a
def VRs.take{S:ae}{σ:Sto}:∀(n:Nat){cs:List SV}{ds:List D},VRs S σ cs ds->VRs S σ (cs.take n) (ds.take n)
 |0,_,_,_=>by simp[VRs]
 |n+1,[],_,h=>by simp only[VRs]at h;subst h;simp[VRs]
 |n+1,v::cs,_,h=>by
  simp only[VRs]at h;obtain⟨e,a,rfl,b,c⟩:=h;simp only[ajE,VRs];exact⟨e,a.take n,rfl,b,VRs.take n c⟩
def VRs.get{S:ae}{σ:Sto}:∀{cs:List SV}{ds:List D}{i:Nat}{v:SV},VRs S σ cs ds->cs[i]?=some v->∃d,ds[i]?=some d/\VR S σ v d
 |[],_,_,_,_,h=>by simp at h
 |v::cs,_,0,_,h,a=>by
  simp only[VRs]at h;obtain⟨e,f,rfl,b,c⟩:=h;simp at a;subst a;exact⟨e,by simp,b⟩
 |v::cs,_,i+1,_,h,a=>by
  simp only[VRs]at h;obtain⟨e,f,rfl,b,c⟩:=h;obtain⟨d,g,j⟩:=VRs.get c (by simpa using a);exact⟨d,by simpa using g,j⟩
def rV(S:ae)(l g:Nat):Bool:=match S[l]? with
 |some (.arr _ _ _ a)=>Nat.beq g a
 |_=>false
def Dw(S:ae):SV->Option (List SV)
 |.agg a=>some a
 |.tup _=>none
 |.raw d=>match d.isCell with
  |true=>some [.raw d]
  |false=>none
 |.own l g=>match rV S l g with
  |true=>some [.own l g]
  |false=>none
 |.ap l g i o=>match rV S l g with
  |true=>some [.ap l g i o]
  |false=>none
 |v=>some [v]
def HE{S:ae}{σ:Sto}{l g:Nat}{d:D}(h:rV S l g=true)(j:AB S σ l g d):∃t a b c u,S[l]?=some (.arr t a b g)/\σ[l]?=some (.cells (t.flat a) c u)/\d=.sl l u 0 a.length t.sz false:=by
 unfold rV at h;split at h<;>try (cases h;done)
 rename_i t a b k e;have:=dd h;subst this;obtain⟨c,u,f,i⟩:=(j.2 t a b g e).2 rfl;exact⟨t,a,b,c,u,e,f,i⟩
def E2{S:ae}{σ:Sto}{l g o:Nat}{i:Int}{d:D}(h:rV S l g=true)(k:ApR S σ l g i o d):∃t a b c u,S[l]?=some (.arr t a b g)/\σ[l]?=some (.cells (t.flat a) c u)/\d=.ptr l u (i.toNat*t.sz+o):=by
 unfold rV at h;split at h<;>try (cases h;done)
 rename_i t a b m e;have:=dd h;subst this;obtain⟨c,u,f,j⟩:=(k.2 t a b g e).2 rfl;exact⟨t,a,b,c,u,e,f,j⟩
def E3{S:ae}{σ:Sto}{v:SV}{cs:List SV}{d:D}(h:Dw S v=some cs)(a:VR S σ v d):∃f,d.cells?=some f/\VRs S σ cs f:=by
 have c:∀{v:SV}{d:D},VR S σ v d->VRs S σ [v] [d]:=λa=>by simp only[VRs];exact⟨_,_,rfl,a,rfl⟩
 cases v<;>simp only[Dw]at h<;>try (cases h;done)
 case agg=>cases h;simp only[VR]at a;obtain⟨f,rfl,a⟩:=a;exact⟨f,rfl,a⟩
 case raw e=>
  split at h<;>try (cases h;done)
  rename_i j;cases h;have b:=a;simp only[VR]at a;subst a;exact⟨[d],by cases d<;>simp_all[D.isCell,D.cells?],c b⟩
 case own l g=>
  split at h<;>try (cases h;done)
  rename_i j;cases h;have b:=a;simp only[VR]at a;obtain⟨t,n,m,k,u,_,_,rfl⟩:=HE j a;exact⟨_,rfl,c b⟩
 case ap l g i o=>
  split at h<;>try (cases h;done)
  rename_i j;cases h;have b:=a;simp only[VR]at a;obtain⟨t,n,m,k,u,_,_,rfl⟩:=E2 j a;exact⟨_,rfl,c b⟩
 all_goals
  cases h;have b:=a;simp only[VR]at a
  first
   |(subst a;exact⟨_,rfl,c b⟩)
   |(obtain⟨_,rfl,_⟩:=a;exact⟨_,rfl,c b⟩)
   |(obtain⟨_,_,rfl,_⟩:=a;exact⟨_,rfl,c b⟩)
   |(obtain⟨_,_,rfl⟩:=a;exact⟨_,rfl,c b⟩)
def E4(S:ae)(a:Nat->Option (Nat×Nat)):List SV->List (Nat×SV)->Option (List SV)
 |cells,[]=>some cells
 |cells,(i,v)::rest=>match a i with
  |some (off,n)=>match Dw S v with
   |some b=>match Nat.beq b.length n&&Nat.ble (off+n) cells.length with
    |true=>E4 S a (cells.take off++b++cells.drop (off+n)) rest
    |false=>none
   |none=>none
  |none=>none
def E5{S:ae}{σ:Sto}{a:Nat->Option (Nat×Nat)}:∀{p:List (Nat×SV)}{cells c:List SV}{ds:List D}{j:List (Nat×D)},E4 S a cells p=some c->VRs S σ cells ds->VRp S σ p j->
 ∃b,oa a ds j=some b/\VRs S σ c b
 |[],cells,c,ds,j,h,g,f=>by
  simp only[VRp]at f;subst f;simp only[E4,ahM]at h;subst h;exact⟨ds,rfl,g⟩
 |(i,v)::rest,cells,c,ds,j,h,g,f=>by
  simp only[VRp]at f;obtain⟨e,B,rfl,t,u⟩:=f;simp only[E4]at h;split at h<;>try (cases h;done)
  rename_i d n m;split at h<;>try (cases h;done)
  rename_i q l;split at h<;>try (cases h;done)
  rename_i k;simp only[ahJ]at k;obtain⟨s,w,o⟩:=E3 l t;have C:=o.length;have E:=g.length;have z:q.length=n:=dd k.1;have A:d+n<=cells.length:=ahV k.2;obtain⟨b,x,y⟩:=E5 h (((g.take d).append o).append (g.drop (d+n))) u;refine⟨b,?_,y⟩;simp only[oa,m,w];rw[ah2 ⟨by omega,by omega⟩];exact x
def ROk{α:Type}(T:Tys)(S:ae)(σ:Sto)(τ':Env)(c:Op)(b:List Nat)(K:SV->Option α)(r:α):Prop:=
 ∃v a d,K v=some r/\VR S σ v d/\aE a d/\∀s:Sto,(∀l∈b,s[l]?=σ[l]?)->aop T τ' s c=some (a,s)
def bU{α:Type}{b:Bool}{x y:Option α}{r:α}(h:cond b x y=some r):(b=true/\x=some r)∨(b=false/\y=some r):=by
 cases b
 ·exact .inr ⟨rfl,h⟩
 ·exact .inl ⟨rfl,h⟩
section
variable {α:Type}{T:Tys}{S:ae}{σ:Sto}{τ:ax}{τ' :Env}{K:SV→Option α}{r:α}
def fA(τ:ax)(x:Operand)(K:SV->Option α):Option α:=match sev τ x with
 |some v=>K v
 |none=>none
def bD{x:Operand}(h:fA τ x K=some r):∃v,sev τ x=some v/\K v=some r:=by
 unfold fA at h;split at h
 ·exact⟨_,by assumption,h⟩
 ·cases h
def lN{k:IntKind}{n:Int}:VR S σ (.int k n) (.int k n):=by simp only[VR]
def qN{b:Bool}:VR S σ (.bool b) (.bool b):=by simp only[VR]
def Dx{b:List UInt8}:VR S σ (.str b) (.str b):=by simp only[VR]
def aw(k:IntKind)(a b:Int):Int:=k.wrap (a+b)
def aU(k:IntKind)(a b:Int):Int:=k.wrap (a-b)
def lm(k:IntKind)(a b:Int):Int:=k.wrap (a*b)
def gt(k:IntKind)(a b:Int):Int:=k.wrap (a.tdiv b)
def Nq(k:IntKind)(a b:Int):Int:=k.wrap (a*2 ^ min b.toNat k.bits)
def wj(k:IntKind)(a b:Int):Int:=a.fdiv (2 ^ min b.toNat k.bits)
def ZS(c:BinOp)(k d:IntKind)(a b:Int)(K:SV->Option α):Option α:=
 match c with
 |.shl=>cond (decide (0<=b)) (K (.int k (Nq k a b))) none
 |.shr=>cond (decide (0<=b)) (K (.int k (wj k a b))) none
 |c=>match decEq k d with
  |isFalse _=>none
  |isTrue _=>match c with
   |.add=>K (.int k (aw k a b))
   |.sub=>K (.int k (aU k a b))
   |.mul=>K (.int k (lm k a b))
   |.quo=>cond (b==0) none (K (.int k (gt k a b)))
   |.rem=>cond (b==0) none (K (.int k (a.tmod b)))
   |.and=>K (.int k (bits .and k a b))
   |.or=>K (.int k (bits .or k a b))
   |.xor=>K (.int k (bits .xor k a b))
   |.andNot=>K (.int k (bits .andNot k a b))
   |.eql=>K (.bool (a==b))
   |.neq=>K (.bool (a !=b))
   |.lss=>K (.bool (decide (a<b)))
   |.leq=>K (.bool (decide (a<=b)))
   |.gtr=>K (.bool (decide (a>b)))
   |.geq=>K (.bool (decide (a>=b)))
   |_=>none
variable{Z:BinOp}{Y:Bool}{X:Option EK}
def acn{k e:IntKind}{a b:Int}(h:ZS Z k e a b K=some r):∃v d,K v=some r/\VR S σ v d/\As Z k e a b=some d:=by
 unfold ZS at h;split at h
 ·rcases bU h with⟨c,h⟩|⟨_,h⟩
  ·exact⟨_,_,h,lN,by simp only[As,ail c,aiI];rfl⟩
  ·cases h
 ·rcases bU h with⟨c,h⟩|⟨_,h⟩
  ·exact⟨_,_,h,lN,by simp only[As,ail c,aiI];rfl⟩
  ·cases h
 ·split at h<;>try (cases h;done)
  rename_i f _;subst f;split at h
  case h_4=>
   rcases bU h with⟨_,h⟩|⟨c,h⟩
   ·cases h
   ·exact⟨_,_,h,lN,by simp at c;simp[As,c];rfl⟩
  case h_5=>
   rcases bU h with⟨_,h⟩|⟨c,h⟩
   ·cases h
   ·exact⟨_,_,h,lN,by simp at c;simp[As,c]⟩
  all_goals first
   |(cases h;done)
   |exact⟨_,_,h,lN,by simp only[As,aiI];rfl⟩
   |exact⟨_,_,h,lN,by simp only[As,aiI]⟩
   |exact⟨_,_,h,qN,by simp only[As,aiI]⟩
def ZT(d:BinOp)(a b:List UInt8)(K:SV->Option α):Option α:=
 match d with
 |.add=>(cat a b).bind λc=>K (.str c)
 |.eql=>K (.bool (a==b))
 |.neq=>K (.bool (!(a==b)))
 |.lss=>K (.bool (Op.bytesLess a b))
 |.leq=>K (.bool (Op.bytesLess a b||a==b))
 |.gtr=>K (.bool (!(Op.bytesLess a b||a==b)))
 |.geq=>K (.bool (!Op.bytesLess a b))
 |_=>none
def aco{a b:List UInt8}(h:ZT Z a b K=some r):∃v d,K v=some r/\VR S σ v d/\M9 Z a b=some d:=by
 unfold ZT at h;split at h
 ·obtain⟨c,e,h⟩:=ak h;refine⟨_,_,h,Dx,?_⟩;unfold cat at e;split at e<;>try (cases e;done)
  rename_i f;cases e;simp[M9,f]
 all_goals first
  |(cases h;done)
  |exact⟨_,_,h,qN,by simp only[M9]⟩
inductive NK where
 |nilp|ptr|nili|ifc|nilf|fn|other
def svK:SV->NK
 |.raw .nilp=>.nilp
 |.raw (.ptr _ _ _)=>.ptr
 |.raw .nili=>.nili
 |.raw .anyi=>.ifc
 |.raw .nilf=>.nilf
 |.rp _ _ _=>.ptr
 |.rc _ _=>.ptr
 |.iface _ _=>.ifc
 |.func _ _ _=>.fn
 |_=>.other
def ZU(b:EK)(a:Bool)(x y:NK):Option Bool:=
 match b with
 |.ptr=>match x,y with
  |.nilp,.nilp=>some true
  |.nilp,.ptr=>some false
  |.ptr,.nilp=>some false
  |_,_=>none
 |.iface=>match x,y with
  |.nili,.nili=>match a with
   |true=>some true
   |false=>none
  |.nili,.ifc=>some false
  |.ifc,.nili=>some false
  |_,_=>none
 |.func=>match x,y with
  |.nilf,.nilf=>some true
  |.nilf,.fn=>some false
  |.fn,.nilf=>some false
  |_,_=>none
 |_=>none
def Xe{v:SV}{d:D}(g:VR S σ v d):match svK v with
 |.nilp=>d=.nilp
 |.ptr=>(∃l u o,d=.ptr l u o)∨∃h o,d=.rptr h o
 |.nili=>d=.nili
 |.ifc=>(∃t e,d=.iface t e)∨d=.anyi
 |.nilf=>d=.nilf
 |.fn=>∃f a b,d=.func f a b
 |.other=>True:=by
 cases v
 case raw e=>
  simp only[VR]at g;subst g;cases d<;>simp[svK]
 case rp=>simp only[VR]at g;obtain⟨_,_,rfl⟩:=g;exact .inr ⟨_,_,rfl⟩
 case rc=>simp only[VR]at g;obtain⟨_,rfl,_⟩:=g;exact .inr ⟨_,_,rfl⟩
 case iface=>simp only[VR]at g;obtain⟨_,rfl,_⟩:=g;exact .inl ⟨_,_,rfl⟩
 case func=>simp only[VR]at g;obtain⟨_,_,rfl,_⟩:=g;exact⟨_,_,_,rfl⟩
 all_goals trivial
def acp{i:EK}{c b:Bool}{v w:SV}{d e:D}(h:ZU i c (svK v) (svK w)=some b)(l:VR S σ v d)(m:VR S σ w e):
 eqD c i d e=some b/\(∀a,EF (some i) a c d e=match a with|.eql=>(eqD c i d e).map .bool|.neq=>(eqD c i d e).map λr=>.bool (!r)|_=>none):=by
 have f:=Xe l;have g:=Xe m;unfold ZU at h;split at h<;>(try (cases h;done))<;>split at h<;>try (cases h;done)
 all_goals
  rename_i j k;rw[j]at f;rw[k]at g;simp only at f g
 all_goals first
  |(cases h;subst f g;exact⟨rfl,λa=>by cases a<;>rfl⟩)
  |(cases h;subst f;rcases g with⟨_,_,_,rfl⟩|⟨_,_,rfl⟩<;>exact⟨rfl,λa=>by cases a<;>rfl⟩)
  |(cases h;subst g;rcases f with⟨_,_,_,rfl⟩|⟨_,_,rfl⟩<;>exact⟨rfl,λa=>by cases a<;>rfl⟩)
  |(cases h;subst f;rcases g with⟨_,_,rfl⟩|rfl<;>exact⟨rfl,λa=>by cases a<;>rfl⟩)
  |(cases h;subst g;rcases f with⟨_,_,rfl⟩|rfl<;>exact⟨rfl,λa=>by cases a<;>rfl⟩)
  |(cases h;subst f;obtain⟨_,_,_,rfl⟩:=g;exact⟨rfl,λa=>by cases a<;>rfl⟩)
  |(cases h;subst g;obtain⟨_,_,_,rfl⟩:=f;exact⟨rfl,λa=>by cases a<;>rfl⟩)
  |(subst f g;cases c<;>simp only at h<;>cases h;exact⟨rfl,λa=>by cases a<;>rfl⟩)
def Dy:LK->SV->SV->Option Bool
 |.b,.bool a,.bool b=>some (a==b)
 |.i,.int k a,.int c b=>match decEq k c with
  |isTrue _=>some (a==b)
  |isFalse _=>none
 |.s,.str a,.str b=>some (a==b)
 |_,_,_=>none
def mQ:List LK->List SV->List SV->Option Bool
 |[],[],[]=>some true
 |[k],[a],[b]=>Dy k a b
 |k::e,a::c,b::d=>match Dy k a b,mQ e c d with
  |some r,some s=>some (r&&s)
  |_,_=>none
 |_,_,_=>none
def E6{k:LK}{v w:SV}{d e:D}{b:Bool}(h:Dy k v w=some b)(a:VR S σ v d)(c:VR S σ w e):kP k d e=some b:=by
 unfold Dy at h;split at h<;>try (cases h;done)
 ·simp only[VR]at a c;subst a c;exact h
 ·split at h<;>try (cases h;done)
  rename_i f _;subst f;simp only[VR]at a c;subst a c;simpa[kP] using h
 ·simp only[VR]at a c;subst a c;exact h
def Om:∀(ks:List LK){a bs:List SV}{ds es:List D}{b:Bool},mQ ks a bs=some b->VRs S σ a ds->VRs S σ bs es->FB ks ds es=some b/\ds.length=ks.length/\es.length=ks.length
 |[],a,bs,ds,es,b,h,c,f=>by
  unfold mQ at h;split at h<;>simp_all[VRs,FB]
 |[k],a,bs,ds,es,b,h,c,f=>by
  match a,bs,h with
  |[x],[y],h=>
   simp only[mQ]at h;simp only[VRs]at c f;obtain⟨d,_,rfl,g,rfl⟩:=c;obtain⟨e,_,rfl,j,rfl⟩:=f;have:=E6 h g j;simp[FB,this]
  |[],[],h=>simp[mQ]at h
  |[],_::_,h=>simp[mQ]at h
  |_::_,[],h=>simp[mQ]at h
  |_::_::_,[_],h=>simp[mQ]at h
  |[_],_::_::_,h=>simp[mQ]at h
  |_::_::_,_::_::_,h=>simp[mQ]at h
 |k::v::ks,a,bs,ds,es,b,h,c,f=>by
  match a,bs,h with
  |x::a,y::bs,h=>
   simp only[mQ]at h;split at h<;>try (cases h;done)
   rename_i r s o p;cases h;simp only[VRs]at c f;obtain⟨d,m,rfl,g,i⟩:=c;obtain⟨e,n,rfl,j,l⟩:=f;obtain⟨q,t,u⟩:=Om (v::ks) p i l;have:=E6 o g j;refine⟨?_,by simp[t],by simp[u]⟩;simp only[FB,this];rw[q]
  |[],[],h=>simp[mQ]at h
  |[],_::_,h=>simp[mQ]at h
  |_::_,[],h=>simp[mQ]at h
def eqF(a:BinOp)(b:Bool)(K:SV->Option α):Option α:=match a with
 |.eql=>K (.bool b)
 |.neq=>K (.bool (!b))
 |_=>none
def Vf(c:Option EK)(e:BinOp)(a:Bool)(x y:SV)(K:SV->Option α):Option α:=
 match c with
 |some d=>match ZU d a (svK x) (svK y) with
  |some b=>eqF e b K
  |none=>none
 |none=>none
def ZV(c:Option EK)(d:BinOp)(e:Bool)(x y:SV)(K:SV->Option α):Option α:=
 match x with
 |.int k a=>match y with
  |.int h b=>ZS d k h a b K
  |_=>none
 |.str a=>match y with
  |.str b=>ZT d a b K
  |_=>none
 |.bool a=>match y,c with
  |.bool b,some .bool=>eqF d (a==b) K
  |_,_=>none
 |.agg f=>match y,c with
  |.agg g,some (.flat i)=>match mQ i f g with
   |some b=>eqF d b K
   |none=>none
  |_,_=>none
 |x=>Vf c d e x y K
def Nr{b:Bool}(h:eqF Z b K=some r):(Z=.eql/\K (.bool b)=some r)∨(Z=.neq/\K (.bool (!b))=some r):=by
 unfold eqF at h;split at h
 ·exact .inl ⟨rfl,h⟩
 ·exact .inr ⟨rfl,h⟩
 ·cases h
def ZW{x y:SV}{d e:D}(h:Vf X Z Y x y K=some r)(i:VR S σ x d)(j:VR S σ y e):∃v a,K v=some r/\VR S σ v a/\EF X Z Y d e=some a:=by
 unfold Vf at h;split at h<;>try (cases h;done)
 split at h<;>try (cases h;done)
 rename_i b g;obtain⟨c,f⟩:=acp g i j;rcases Nr h with⟨rfl,h⟩|⟨rfl,h⟩
 ·exact⟨_,_,h,qN,by rw[f,c];rfl⟩
 ·exact⟨_,_,h,qN,by rw[f,c];rfl⟩
def acq{x y:SV}{d e:D}(h:ZV X Z Y x y K=some r)(a:VR S σ x d)(c:VR S σ y e):∃v g,K v=some r/\VR S σ v g/\EF X Z Y d e=some g:=by
 unfold ZV at h;split at h
 ·split at h<;>try (cases h;done)
  simp only[VR]at a c;subst a c;exact acn h
 ·split at h<;>try (cases h;done)
  simp only[VR]at a c;subst a c;exact aco h
 ·split at h<;>try (cases h;done)
  simp only[VR]at a c;subst a c;rcases Nr h with⟨rfl,h⟩|⟨rfl,h⟩
  ·exact⟨_,_,h,qN,by simp[EF,eqD]⟩
  ·exact⟨_,_,h,qN,by simp[EF,eqD]⟩
 ·split at h<;>try (cases h;done)
  split at h<;>try (cases h;done)
  rename_i b k;simp only[VR]at a c;obtain⟨l,rfl,a⟩:=a;obtain⟨m,rfl,c⟩:=c;obtain⟨f,i,j⟩:=Om _ k a c;have f:=JC _ _ _ _ f;rcases Nr h with⟨rfl,h⟩|⟨rfl,h⟩
  ·exact⟨_,_,h,qN,by simp[EF,eqD,f,i,j]⟩
  ·exact⟨_,_,h,qN,by simp[EF,eqD,f,i,j]⟩
 ·exact ZW h a c
end
end Go.Fw
def ah6:=@List.append_nil
namespace Go.Fw
open Go.RowKit
def Cells.weak{G:Gh}{b:Nat}:∀{ds es:List D}{o:Nat},cZ ds es->Cells G b o ds->Cells G b o es
 |[],es,o,h,a=>by
  have h:es=[]:=h;subst h;exact a
 |d::ds,[],o,h,_=>h.elim
 |d::ds,e::es,o,h,a=>by
  simp only[Cells]at a⊢;obtain⟨⟨v,c,f⟩,g⟩:=a;exact⟨⟨v,c,h.1 _ _ f⟩,Cells.weak h.2 g⟩
def cZ.length:∀{ds es:List D},cZ ds es->ds.length=es.length
 |[],es,h=>by
  have h:es=[]:=h;subst h;rfl
 |d::ds,[],h=>h.elim
 |d::ds,e::es,h=>by simp[cZ.length h.2]
def aE.cellsList{ds es:List D}{n:Nat}{f:Bool}(h:cZ ds es):aE (.list ds n f) (.list es n f):=by
 intro G v d;simp only[Rep]at d⊢;obtain⟨a,c,e,g,i,j,k⟩:=d;refine⟨a,c,e,g,i,j,?_⟩;rcases k with⟨b,o,l,m⟩|rfl
 ·exact .inl ⟨b,o,l,m.weak h⟩
 ·have h:es=[]:=h;exact .inr h
def TC.takes{α:Type}(t:TC):Nat->List SV->(List t.Den->List SV->Option α)->Option α
 |0,a,K=>K [] a
 |n+1,a,K=>t.take a λx r=>t.takes n r λc b=>K (x::c) b
def TC.takes_ok{α:Type}{S:ae}{σ:Sto}(t:TC):∀(n:Nat)(cs:List SV)(ds:List D)(K:List t.Den->List SV->Option α)(r:α),t.takes n cs K=some r->VRs S σ cs ds->
 ∃a b c d2,K a b=some r/\ds=c++d2/\cZ c (t.flat a)/\VRs S σ b d2/\a.length=n
 |0,cs,ds,K,r,h,f=>⟨[],cs,[],ds,h,rfl,by show cZ [] (dF _ []);rw[kA];rfl,f,rfl⟩
 |n+1,cs,ds,K,r,h,f=>by
  simp only[TC.takes]at h;obtain⟨x,d,c,d2,j,rfl,p,m⟩:=TC.take_ok t cs ds _ r h f;obtain⟨a,e,g,i,k,rfl,q,o,l⟩:=TC.takes_ok t n d d2 _ r j m;refine⟨x::a,e,c++g,i,k,by simp,?_,o,by simp[l]⟩;show cZ _ (dF _ (x::a));rw[jU];exact cZ.append p q
section
variable {α:Type}{T:Tys}{S:ae}{σ:Sto}{τ:ax}{τ' :Env}{K:SV→Option α}{r:α}
def Vg(S:ae)(v:SV)(n:Nat)(K:List SV->Option α):Option α:=
 match v with
 |.rp t x o=>match Nat.ble (o+n) (t.scells x).length with
  |true=>K (((t.scells x).drop o).take n)
  |false=>none
 |.rc a o=>match Nat.ble (o+n) a.length with
  |true=>K ((a.drop o).take n)
  |false=>none
 |.raw d=>match d with
  |.ptr l u o=>match S[l]? with
   |some (.cells a _)=>match Nat.beq u 0&&Nat.ble (o+n) a.length with
    |true=>K ((a.drop o).take n)
    |false=>none
   |_=>none
  |_=>none
 |.ap l g i o=>match S[l]? with
  |some (.arr t c _ b)=>match Nat.beq g b with
   |true=>(ix c i).bind λx=>match Nat.ble (o+n) (t.scells x).length with
    |true=>K (((t.scells x).drop o).take n)
    |false=>none
   |false=>none
  |_=>none
 |_=>none
def fpV:SV->List Nat
 |.raw d=>match d with
  |.ptr l _ _=>[l]
  |_=>[]
 |.ap l _ _ _=>[l]
 |.own l _=>[l]
 |_=>[]
def Z0(G:StR S σ){v:SV}{n:Nat}{d:D}{K:List SV->Option α}(h:Vg S v n K=some r)(c:VR S σ v d):
 ∃q e,K q=some r/\VRs S σ q e/\e.length=n/\∀s:Sto,(∀l∈fpV v,s[l]?=σ[l]?)->nz s d n=some e:=by
 unfold Vg at h;split at h
 ·split at h<;>try (cases h;done)
  rename_i t x o _ b;have b:=ahV b;simp only[VR]at c;obtain⟨N,P,rfl⟩:=c;have f:=TC.scells_ok S σ t x;have m:=f.length;refine⟨_,((t.cells x).drop o).take n,h,(f.drop o).take n,?_,?_⟩
  ·simp only[aig,aiF];omega
  ·intro s _;simp only[nz];rw[ah2 (by simp only[ahN];omega)];congr 1;rw[aia,akv,alc (by omega),alb (by simp only[aiF];omega)]
 ·split at h<;>try (cases h;done)
  rename_i q o _ b;have b:=ahV b;simp only[VR]at c;obtain⟨e,rfl,c⟩:=c;have m:=c.length;refine⟨_,(e.drop o).take n,h,(c.drop o).take n,?_,?_⟩
  ·simp only[aig,aiF];omega
  ·intro s _;simp only[nz];rw[ah2 (by omega)]
 ·split at h<;>try (cases h;done)
  split at h<;>try (cases h;done)
  rename_i l u o _ q C m;split at h<;>try (cases h;done)
  rename_i b;simp only[ahJ]at b;have L:=dd b.1;have b:=ahV b.2;subst L;simp only[VR]at c;subst c;obtain⟨a,H,e,B,rfl,_,j⟩:=G.obj _ _ m;have p:=j.length;refine⟨_,(e.drop o).take n,h,(j.drop o).take n,?_,?_⟩
  ·simp only[aig,aiF];omega
  ·intro s w;have:=w l (by simp[fpV]);simp only[nz,this,H];rw[ah2 ⟨trivial,by omega⟩]
 ·split at h<;>try (cases h;done)
  rename_i l g i o _ t A C M m;split at h<;>try (cases h;done)
  rename_i k;have k:=dd k;subst k;obtain⟨x,y,h⟩:=ak h;split at h<;>try (cases h;done)
  rename_i b;have b:=ahV b;simp only[VR]at c;obtain⟨B,u,F,rfl⟩:=(c.2 _ _ _ _ m).2 rfl;obtain⟨_,O,y⟩:=Qz y;have f:=TC.scells_ok S σ t x;have p:=f.length;have J:(t.cells x).length=t.sz:=t.enc.len x;have k:=NW (E:=t.enc) y;have I:i.toNat*t.sz+t.sz<=(t.flat A).length:=by
   rw[iG,<-aj1];exact aiK _ (by omega)
  refine⟨_,((t.cells x).drop o).take n,h,(f.drop o).take n,?_,?_⟩
  ·simp only[aig,aiF];omega
  ·intro s w;have:=w l (by simp[fpV]);simp only[nz,this,F];rw[ah2 ⟨trivial,by omega⟩];congr 1;show((t.flat A).drop (i.toNat*t.sz+o)).take n=((t.enc.cells x).drop o).take n;have z:t.enc.sz=t.sz:=rfl;rw[<-k,<-ajj,akW,List.take_take];congr 1;omega
 ·cases h
def Z1(b:Bool)(cs:List SV)(K:SV->Option α):Option α:=match b with
 |true=>K (.agg cs)
 |false=>match cs with
  |[v]=>K v
  |_=>none
def acr{b:Bool}{cs:List SV}{ds:List D}(h:Z1 b cs K=some r)(a:VRs S σ cs ds):∃v d,K v=some r/\VR S σ v d/\Pd b ds=some d:=by
 unfold Z1 at h;split at h
 ·exact⟨_,.agg ds,h,by simp only[VR];exact⟨ds,rfl,a⟩,rfl⟩
 ·split at h<;>try (cases h;done)
  simp only[VRs]at a;obtain⟨e,f,rfl,c,rfl⟩:=a;exact⟨_,e,h,c,rfl⟩
def Pq(T:Tys)(τ:ax)(S:ae)(t:TypeId)(x:Operand)(K:SV->Option α):Option α:=
 match lk T.ld t with
 |some (n,b)=>match b||Nat.beq n 1 with
  |true=>fA τ x λv=>Vg S v n λa=>Z1 b a K
  |false=>none
 |none=>none
def fpO(τ:ax)(x:Operand):List Nat:=match sev τ x with
 |some v=>fpV v
 |none=>[]
def Rp(q:StR S σ)(p:ER S σ τ τ'){t:TypeId}{x:Operand}(h:Pq T τ S t x K=some r):ROk T S σ τ' (.load t x) (fpO τ x) K r:=by
 unfold Pq at h;split at h<;>try (cases h;done)
 rename_i n b e;split at h<;>try (cases h;done)
 rename_i k;obtain⟨v,o,h⟩:=bD h;obtain⟨d,u,i⟩:=jc p o;obtain⟨B,C,h,c,m,y⟩:=Z0 q h i;obtain⟨A,j,h,g,w⟩:=acr h c;refine⟨A,j,j,h,g,aE.refl _,λs z=> ?_⟩;have a:b=true∨n=1:=by
  simp only[ajm]at k;exact k.imp id dd
 have f:∀l∈fpV v,s[l]?=σ[l]? :=by
  intro l m;refine z l ?_;unfold fpO;rw[o];exact m
 simp only[aop,KW,e,u,ah2 a,y s f,w];rfl
def Rq(T:Tys)(τ:ax)(S:ae)(t:TypeId)(b:List (Nat×Operand))(K:SV->Option α):Option α:=
 match lk T.build t with
 |some (z,bk)=>match Kv τ b with
  |some c=>match E4 S bk.place (mP z) c with
   |some a=>K (.agg a)
   |none=>none
  |none=>none
 |none=>none
variable{Z:SK}{Y:Array (Nat×Operand)}
def Xf(i:ER S σ τ τ'){t:TypeId}(h:Rq T τ S t Y.toList K=some r):ROk T S σ τ' (.build t Y) [] K r:=by
 unfold Rq at h;split at h<;>try (cases h;done)
 rename_i z bk j;split at h<;>try (cases h;done)
 rename_i m c;split at h<;>try (cases h;done)
 rename_i k b;obtain⟨l,d,e⟩:=Iv i c;obtain⟨a,f,g⟩:=E5 b (lX S σ z) e;refine⟨_,.agg a,.agg a,h,by simp only[VR];exact⟨a,rfl,g⟩,aE.refl _,λs _=> ?_⟩;simp only[aop,PH,j,d,f];rfl
def Rr(z:List SV):Nat->List SV
 |0=>[]
 |n+1=>z++Rr z n
def Ns{z:List SV}{a:List D}(h:VRs S σ z a):∀n,VRs S σ (Rr z n) (kO a n)
 |0=>by simp only[Rr,kO,VRs]
 |n+1=>h.append (Ns h n)
def Cj(T:Tys)(H:Tr TC)(τ:ax)(S:ae)(t:TypeId)(len:Nat)(e:List (Nat×Operand))(K:SV->Option α):Option α:=
 match lk T.bs t with
 |some (z,b)=>match Kv τ e,Nat.ble (len*b) 16777216 with
  |some f,true=>match E4 S (λi=>some (i*b,b)) (Rr (mP z) len) f with
   |some c=>match lk H t with
    |some d=>d.takes len c λg a=>match a with
     |[]=>K (.sl d g true)
     |_=>none
    |none=>K (.lst c len true)
   |none=>none
  |_,_=>none
 |none=>none
def Nt{H:Tr TC}(p:ER S σ τ τ'){t:TypeId}{len:Nat}(h:Cj T H τ S t len Y.toList K=some r):ROk T S σ τ' (.buildSlice t len Y) [] K r:=by
 unfold Cj at h;split at h<;>try (cases h;done)
 rename_i z A q;split at h<;>try (cases h;done)
 rename_i B e a;have a:=ahV a;split at h<;>try (cases h;done)
 rename_i x d;obtain⟨y,m,n⟩:=Iv p e;obtain⟨b,o,f⟩:=E5 d (Ns (lX S σ z) len) n;have c:∀s:Sto,aop T τ' s (.buildSlice t len Y)=some (.list b len true,s):=by
  intro s;simp only[aop,BU,q,m,ah2 a,o];rfl
 split at h
 ·rename_i i v;obtain⟨j,k,l,d2,h,rfl,w,g,u⟩:=TC.takes_ok i _ _ _ _ _ h f;split at h<;>try (cases h;done)
  simp only[VRs]at g;subst g;rw[ah6]at c;refine⟨_,.list l len true,.list (i.flat j) j.length true,h,by simp only[VR];exact⟨true,rfl,λ_=>rfl⟩,?_,λs _=>c s⟩;rw[u];exact aE.cellsList w
 ·exact⟨_,.list b len true,.list b len true,h,by simp only[VR];exact⟨b,true,rfl,λ_=>rfl,f⟩,aE.refl _,λs _=>c s⟩
def Ix(τ:ax):Option Operand->Option (Option Int)
 |none=>some none
 |some x=>match sev τ x with
  |some (.int _ n)=>some (some n)
  |_=>none
def Kw(c:ER S σ τ τ'){x:Option Operand}{i:Option Int}(h:Ix τ x=some i):∃d,evo τ' x=some d/\rK d=some i:=by
 cases x with
 |none=>simp only[Ix,ahM]at h;subst h;exact⟨none,rfl,rfl⟩
 |some x=>
  simp only[Ix]at h;split at h<;>try (cases h;done)
  rename_i k n e;cases h;obtain⟨d,b,a⟩:=jc c e;simp only[VR]at a;subst a;exact⟨some (.int k n),by simp only[evo,b],rfl⟩
def isN:Option Int->Bool
 |none=>true
 |some _=>false
def Iy(b:TC)(xs:List b.Den)(f:Bool)(c a:Option Int)(K:SV->Option α):Option α:=
 (slc xs (dC 0 c) (dC xs.length a)).bind λd=>K (.sl b d (f&&isN a))
def TD(s:List UInt8)(l h:Option Int)(K:SV->Option α):Option α:=(slc s (dC 0 l) (dC s.length h)).bind λu=>K (.str u)
def TE(a:TC)(xs:List a.Den)(l:Option Int)(h m:Int)(K:SV->Option α):Option α:=
 cond (decide (h<=m)&&decide (m<=xs.length)) ((slc xs (dC 0 l) h).bind λb=>K (.sl a b false)) none
def Nu(H:Option TC)(sk:SK)(v:SV)(l h m:Option Int)(K:SV->Option α):Option α:=
 match v with
 |.str s=>match sk,m with
  |.string,none=>TD s l h K
  |_,_=>none
 |.sl a c f=>match sk with
  |.slice b=>cond (Nat.beq b a.sz) (match m,h with
   |none,h=>Iy a c f l h K
   |some m,some h=>TE a c l h m K
   |some _,none=>none) none
  |_=>none
 |.nils=>match sk,H,m with
  |.slice b,some a,none=>cond (Nat.beq b a.sz) (Iy a [] true l h K) none
  |_,_,_=>none
 |_=>none
def Rs(T:Tys)(H:Tr TC)(τ:ax)(t:TypeId)(x:Operand)(b a mx:Option Operand)(K:SV->Option α):Option α:=
 (lk T.sli t).bind λsk=>fA τ x λv=>(Ix τ b).bind λl=>(Ix τ a).bind λh=>(Ix τ mx).bind λm=>Nu (lk H t) sk v l h m K
def On{c:TC}{xs:List c.Den}{f f0:Bool}{b a:Option Int}(h:Iy c xs f b a K=some r)(m:f=true->f0=true):
 ∃v d,K v=some r/\VR S σ v d/\Ar c.sz (.list (c.flat xs) xs.length f0) b a none=some d:=by
 unfold Iy at h;obtain⟨p,o,h⟩:=ak h;obtain⟨g,i,j,rfl,k⟩:=NO o;have l:pF xs.length f0 b a none=some ((dC 0 b).toNat,(dC (xs.length:Int) a).toNat,f0&&decide (dC (xs.length:Int) a=xs.length)):=by
  simp only[pF];rw[ah2 ⟨g,i,j⟩]
 refine⟨_,.list (c.flat ((xs.take (dC (xs.length:Int) a).toNat).drop (dC 0 b).toNat)) ((dC (xs.length:Int) a).toNat-(dC 0 b).toNat) (f0&&decide (dC (xs.length:Int) a=xs.length)),h,?_,?_⟩
 ·simp only[VR];refine⟨_,by rw[k],λe=> ?_⟩;simp only[ahJ]at e;cases a with
  |none=>simp[dC,m e.1]
  |some _=>simp[isN]at e
 ·have n:=iG c.enc xs;simp only[Ar,l];rw[ah2 n];have:=Mw c.enc xs _ _ (show(dC 0 b).toNat<=(dC (xs.length:Int) a).toNat by omega);simp only[TC.flat,TC.sz]at this⊢;rw[this]
def skD(sk:SK)(d:D)(l h m:Option Int):Option D:=match sk with
 |.slice a=>Ar a d l h m
 |.string=>(match m with|none=>Pe d l h|some _=>none)
 |.array _ _=>none
def Vh{H:Option TC}{v:SV}{d:D}{l h m:Option Int}(a:Nu H Z v l h m K=some r)(k:VR S σ v d):∃n y e,K n=some r/\VR S σ n e/\aE y e/\skD Z d l h m=some y:=by
 unfold Nu at a;cases v<;>simp only at a<;>try (cases a;done)
 case str s=>
  cases Z<;>(try (simp at a;done));cases m<;>(try (simp at a;done));simp only at a;unfold TD at a;obtain⟨u,g,a⟩:=ak a;simp only[VR]at k;subst k;obtain⟨o,p,w,rfl,x⟩:=NO g;have q:pF s.length true l h none=some ((dC 0 l).toNat,(dC (s.length:Int) h).toNat,true&&decide (dC (s.length:Int) h=s.length)):=by
   simp only[pF];rw[ah2 ⟨o,p,w⟩]
  exact⟨_,_,_,a,Dx,aE.refl _,by simp only[skD,Pe,q]⟩
 case sl tc xs f=>
  cases Z<;>(try (simp at a;done));rename_i F;rcases bU a with⟨j,b⟩|⟨_,b⟩<;>try (cases b;done)
  clear a;have a:=b;have j:=dd j;subst j;simp only[VR]at k;obtain⟨B,rfl,C⟩:=k;cases m with
  |none=>
   simp only at a;obtain⟨n,e,a,i,g⟩:=On (S:=S) (σ:=σ) a C;exact⟨n,e,e,a,i,aE.refl _,g⟩
  |some t=>
   cases h<;>simp only at a<;>try (cases a;done)
   rename_i c;unfold TE at a;rcases bU a with⟨z,b⟩|⟨_,b⟩<;>try (cases b;done)
   clear a;have a:=b;simp only[ahJ,aiu]at z;obtain⟨G,g,a⟩:=ak a;obtain⟨o,p,w,rfl,x⟩:=NO g;have q:pF xs.length B l (some c) (some t)=some ((dC 0 l).toNat,c.toNat,decide (t=c)):=by
    simp only[pF,dC,Option.isSome];rw[ah2 ⟨trivial,o,p,z⟩];rfl
   refine⟨_,.list (tc.flat ((xs.take c.toNat).drop (dC 0 l).toNat)) (c.toNat-(dC 0 l).toNat) (decide (t=c)),.list (tc.flat ((xs.take c.toNat).drop (dC 0 l).toNat)) ((xs.take c.toNat).drop (dC 0 l).toNat).length false,a,?_,?_,?_⟩
   ·simp only[VR];exact⟨false,rfl,λa=>by cases a⟩
   ·rw[x];exact aE.list
   ·have E:=iG tc.enc xs;have:=Mw tc.enc xs _ _ (show(dC 0 l).toNat<=c.toNat by omega);simp only[skD,Ar,q];simp only[TC.flat,TC.sz]at this⊢;rw[ah2 E,this]
 case nils=>
  cases Z<;>(try (simp at a;done));cases H<;>(try (simp at a;done));cases m<;>(try (simp at a;done));rename_i F tc;rcases bU a with⟨j,b⟩|⟨_,b⟩<;>try (cases b;done)
  clear a;have a:=b;have j:=dd j;subst j;simp only[VR]at k;subst k;obtain⟨n,e,a,i,g⟩:=On (S:=S) (σ:=σ) a (f0:=true) (λ_=>rfl);have A:D.list (tc.flat []) ([]:List tc.Den).length true=.list [] 0 true:=by
   show D.list (dF _ []) _ _=_;rw[kA];rfl
  rw[A]at g;exact⟨n,e,e,a,i,aE.refl _,g⟩
def Xg{t:TypeId}{x:Operand}{i g mx:Option Operand}{d b:D}{e c f:Option D}{l h m:Option Int}(n:lk T.sli t=some Z)(o:ev τ' x=some d)(j:evo τ' i=some e)(a2:evo τ' g=some c)(a3:evo τ' mx=some f)
 (b1:rK e=some l)(b2:rK c=some h)(k:rK f=some m)(a:skD Z d l h m=some b)(s:Sto):aop T τ' s (.slice t x i g mx)=some (b,s):=by
 simp only[aop,PM,n,o,j,a2,a3,b1,b2,k];cases Z with
 |slice p=>simp only[skD]at a;simp only[a];rfl
 |string=>
  cases m with
  |none=>simp only[skD]at a;simp only[a];rfl
  |some _=>cases a
 |array _ _=>cases a
def Xh{H:Tr TC}(a:ER S σ τ τ'){t:TypeId}{x:Operand}{i g mx:Option Operand}(h:Rs T H τ t x i g mx K=some r):ROk T S σ τ' (.slice t x i g mx) [] K r:=by
 unfold Rs at h;obtain⟨sk,c,h⟩:=ak h;obtain⟨v,y,h⟩:=bD h;obtain⟨d,p,f⟩:=jc a y;obtain⟨l,q,h⟩:=ak h;obtain⟨J,b,h⟩:=ak h;obtain⟨m,u,h⟩:=ak h;obtain⟨G,A,B⟩:=Kw a q;obtain⟨F,n,o⟩:=Kw a b;obtain⟨I,C,D⟩:=Kw a u;obtain⟨E,k,j,h,e,z,w⟩:=Vh h f;exact⟨E,k,j,h,e,z,λs _=>Xg c p A n C B o D w s⟩
def Z2(v:SV)(n:Nat):Option SV:=match v with
 |.rp t x o=>some (.rp t x (o+n))
 |.rc a o=>some (.rc a (o+n))
 |.ap l g i o=>some (.ap l g i (o+n))
 |.raw d=>match d with
  |.ptr l u o=>some (.raw (.ptr l u (o+n)))
  |_=>none
 |_=>none
def acs{v0 v:SV}{n:Nat}{d:D}(b:∀l g i o,v0=.ap l g i o->rV S l g=true)(h:Z2 v0 n=some v)(a:VR S σ v0 d):∃e,ur d n=some e/\VR S σ v e:=by
 cases v0<;>simp only[Z2]at h<;>try (cases h;done)
 case rp=>cases h;simp only[VR]at a⊢;obtain⟨m,p,rfl⟩:=a;exact⟨_,rfl,m,p,by rw[ajR]⟩
 case rc=>cases h;simp only[VR]at a⊢;obtain⟨c,rfl,a⟩:=a;exact⟨_,rfl,c,rfl,a⟩
 case ap l g i o=>
  cases h;have k:=b _ _ _ _ rfl;simp only[VR]at a⊢;obtain⟨t,w,s,q,u,f,j,rfl⟩:=E2 k a;exact⟨_,rfl,.mk f j (by rw[ajR])⟩
 case raw e=>
  split at h<;>try (cases h;done)
  cases h;simp only[VR]at a⊢;subst a;exact⟨_,rfl,rfl⟩
end
end Go.Fw
def aiz:=@List.drop_zero
def aiP:=@Int.toNat_natCast
def aiU:=@Classical.choose_spec
def akr:=@congrFun
def alC:=@Nat.min_eq_left
namespace Go.Fw
open Go.RowKit
noncomputable section
section
variable {α:Type}{T:Tys}{S:ae}{σ:Sto}{τ:ax}{τ' :Env}{K:SV→Option α}{r:α}
def ahl(S:ae):SV->Bool
 |.ap l g _ _=>rV S l g
 |_=>true
def Rt(S:ae)(v:SV)(K:SV->Option α):Option α:=match v with
 |.rp t x o=>K (.rp t x o)
 |.rc c o=>K (.rc c o)
 |.ap l g i o=>cond (rV S l g) (K (.ap l g i o)) none
 |.iface t v=>K (.iface t v)
 |.func e a b=>match e with
  |.func f=>K (.func (.func f) a b)
  |_=>none
 |.raw d=>match d with
  |.ptr l u o=>K (.raw (.ptr l u o))
  |.anyi=>K (.raw .anyi)
  |_=>none
 |_=>none
def acu{x:Operand}{v:SV}{d:D}(h:Rt S v K=some r)(j:VR S σ v d)(k:ev τ' x=some d):∃m,K m=some r/\VR S σ m d/\BV τ' x=some d:=by
 cases v<;>(try (simp[Rt]at h;done))
 case rp=>have f:=j;simp only[VR]at j;obtain⟨_,_,rfl⟩:=j;exact⟨_,h,f,by simp only[BV,k]⟩
 case rc=>have f:=j;simp only[VR]at j;obtain⟨_,rfl,_⟩:=j;exact⟨_,h,f,by simp only[BV,k]⟩
 case iface=>have f:=j;simp only[VR]at j;obtain⟨_,rfl,_⟩:=j;exact⟨_,h,f,by simp only[BV,k]⟩
 case ap l g i o=>
  rcases bU h with⟨n,h⟩|⟨_,h⟩<;>try (cases h;done)
  have f:=j;simp only[VR]at j;obtain⟨t,y,q,p,u,s,w,rfl⟩:=E2 n j;exact⟨_,h,f,by simp only[BV,k]⟩
 case func fn a b=>
  have f:=j;simp only[VR]at j;obtain⟨_,_,rfl,_⟩:=j;cases fn<;>(try (simp[Rt]at h;done));exact⟨_,h,f,by simp only[BV,k]⟩
 case raw e=>
  have f:=j;simp only[VR]at j;subst j;cases d<;>(try (simp[Rt]at h;done))
  ·exact⟨_,h,f,by simp only[BV,k]⟩
  ·exact⟨_,h,f,by simp only[BV,k]⟩
def ahm(k:IntKind)(n:Int):Int:=k.wrap (0-n)
def ahn(k:IntKind)(n:Int):Int:=bits .xor k (if k.signed then-1 else k.max) n
def sUn(a:UnOp)(v:SV)(K:SV->Option α):Option α:=match a with
 |.not=>match v with
  |.bool b=>K (.bool (!b))
  |_=>none
 |.neg=>match v with
  |.int k n=>K (.int k (ahm k n))
  |_=>none
 |.xor=>match v with
  |.int k n=>K (.int k (ahn k n))
  |_=>none
 |_=>none
def aeq{a:UnOp}{v:SV}{d:D}(h:sUn a v K=some r)(c:VR S σ v d):∃e b,K e=some r/\VR S σ e b/\unD a d=some b:=by
 cases a<;>cases v<;>(try (simp[sUn]at h;done))<;>(simp only[VR]at c;subst c)
 all_goals first
  |exact⟨_,_,h,lN,rfl⟩
  |exact⟨_,_,h,qN,rfl⟩
def Xi(S:ae)(v:SV)(K:SV->Option α):Option α:=match v with
 |.sl .byte a _=>K (.str a)
 |.nils=>K (.str [])
 |.own l g=>match S[l]? with
  |some (.arr .byte a _ b)=>cond (Nat.beq g b) (K (.str a)) none
  |_=>none
 |_=>none
def E7(S:ae)(ck:CK)(v:SV)(K:SV->Option α):Option α:=match ck with
 |.int k=>match v with
  |.int _ n=>K (.int k (k.wrap n))
  |_=>none
 |.idStr=>match v with
  |.str s=>K (.str s)
  |_=>none
 |.toBytes=>match v with
  |.str s=>(FA s).bind λc=>K (.sl .byte c false)
  |_=>none
 |.toStr=>Xi S v K
def Z3(C:StR S σ){ck:CK}{v:SV}{d:D}(h:E7 S ck v K=some r)(a:VR S σ v d):
 ∃o n,K o=some r/\VR S σ o n/\∀s:Sto,(∀l∈fpV v,s[l]?=σ[l]?)->uw s ck d=some n:=by
 have e:∀b:List UInt8,(TC.flat .byte b).length=b.length*1:=λb=>iG mC b;cases ck
 case int k=>
  cases v<;>(try (simp[E7]at h;done));simp only[VR]at a;subst a;exact⟨_,_,h,lN,λs _=>rfl⟩
 case idStr=>
  cases v<;>(try (simp[E7]at h;done));simp only[VR]at a;subst a;exact⟨_,_,h,Dx,λs _=>rfl⟩
 case toBytes=>
  cases v<;>(try (simp[E7]at h;done));simp only[VR]at a;subst a;simp only[E7]at h;obtain⟨c,i,h⟩:=ak h;unfold FA at i;split at i<;>try (cases i;done)
  rename_i t;rw[<-aiM i]at h;clear i c;rename_i c _;refine⟨_,.list (TC.flat .byte c) c.length false,h,by simp only[VR];exact⟨false,rfl,λh=>by cases h⟩,λs _=> ?_⟩;show uw s .toBytes (.str c)=some (.list (dF mC c) c.length false);simp[uw,t,Fy]
 case toStr=>
  simp only[E7]at h;unfold Xi at h;split at h
  ·rename_i b f;simp only[VR]at a;obtain⟨y,rfl,_⟩:=a;refine⟨_,_,h,Dx,λs _=> ?_⟩;simp only[uw,pG,e,aiI];show(mf (dF mC b)).map D.str=_;rw[Fz];rfl
  ·simp only[VR]at a;subst a;exact⟨_,_,h,Dx,λs _=>rfl⟩
  ·split at h<;>try (cases h;done)
   rename_i l g _ b A B w;rcases bU h with⟨m,j⟩|⟨_,j⟩<;>try (cases j;done)
   have m:=dd m;subst m;simp only[VR]at a;obtain⟨z,u,q,rfl⟩:=(a.2 _ _ _ _ w).2 rfl;refine⟨_,_,j,Dx,λs x=> ?_⟩;have:=x l (by simp[fpV]);have p:TC.sz .byte=1:=rfl;simp only[uw,pG,this,q,p,e];rw[ah2 ⟨trivial,trivial,by omega⟩];simp only[aiz];rw[aih (by rw[e];exact ahS _)];show(mf (dF mC b)).map D.str=_;rw[Fz];rfl
  ·cases h
def Pr(S:ae)(v:SV)(n:Nat)(K:SV->Option α):Option α:=cond (ahl S v) ((Z2 v n).bind K) none
def Ru{v:SV}{n:Nat}{d:D}(h:Pr S v n K=some r)(k:VR S σ v d):∃b a,K b=some r/\VR S σ b a/\ur d n=some a:=by
 unfold Pr at h;rcases bU h with⟨j,h⟩|⟨_,h⟩<;>try (cases h;done)
 obtain⟨w,m,h⟩:=ak h;obtain⟨e,c,f⟩:=acs (λl g i o e=>by subst e;exact j) m k;exact⟨w,e,h,f,c⟩
def Ps(cs:List SV)(off n:Nat)(b:Bool)(K:SV->Option α):Option α:=match b with
 |true=>cond (Nat.ble (off+n) cs.length) (K (.agg ((cs.drop off).take n))) none
 |false=>(cs[off]?).bind K
def Rv{cs:List SV}{ds:List D}{off n:Nat}{b:Bool}(h:Ps cs off n b K=some r)(c:VRs S σ cs ds):∃g f,K g=some r/\VR S σ g f/\yB ds off n b=some f:=by
 unfold Ps at h;cases b
 ·obtain⟨v,e,h⟩:=ak h;obtain⟨d,i,j⟩:=c.get e;exact⟨v,d,h,j,by simpa[yB] using i⟩
 ·rcases bU h with⟨a,h⟩|⟨_,h⟩<;>try (cases h;done)
  have a:=ahV a;refine⟨_,.agg ((ds.drop off).take n),h,by simp only[VR];exact⟨_,rfl,(c.drop off).take n⟩,?_⟩;simp only[yB,aiI];rw[ah2 (by rw[c.length];exact a)]
def inb(n:Int)(len:Nat):Bool:=decide (0<=n)&&decide (n<len)
def Nv{n:Int}{len:Nat}(h:inb n len=true):0<=n/\n<len:=by simpa[inb] using h
def Iz(n:Int)(K:Nat->Option α):Nat->Nat->Option α
 |0,_=>none
 |m+1,i=>cond (n==(i:Int)) (K i) (Iz n K m (i+1))
def Kx{n:Int}{K:Nat->Option α}{r:α}:∀{m i:Nat},Iz n K m i=some r->∃j:Nat,j<i+m/\n=(j:Int)/\K j=some r
 |0,_,h=>by simp[Iz]at h
 |m+1,i,h=>by
  simp only[Iz]at h;rcases bU h with⟨b,h⟩|⟨_,h⟩
  ·exact⟨i,by omega,by simpa using b,h⟩
  ·obtain⟨j,c,a⟩:=Kx h;exact⟨j,by omega,a⟩
def Ky(S:ae)(f:IK)(v:SV)(n:Int)(K:SV->Option α):Option α:=match f with
 |.slice a=>match v with
  |.sl b c _=>cond (Nat.beq a b.sz&&Nat.blt 0 a) ((ix c n).bind λx=>K (.rp b x 0)) none
  |.lst d len _=>cond (inb n len&&(Nat.blt 0 a&&Nat.beq d.length (len*a))) (K (.rc d (n.toNat*a))) none
  |.own l g=>match S[l]? with
   |some (.arr b c _ e)=>cond (Nat.beq g e&&Nat.beq a b.sz) (cond (inb n c.length) (K (.ap l g n 0)) none) none
   |_=>none
  |_=>none
 |.array len a=>Iz n (λi=>Pr S v (i*a) K) len 0
def SQ{y:IK}{v:SV}{n:Int}{d:D}(h:Ky S y v n K=some r)(b:VR S σ v d):∃p m,K p=some r/\VR S σ p m/\
 (match y with|.slice sz=>EC sz d n|.array len sz=>if 0<=n/\n<len then ur d (n.toNat*sz) else none)=some m:=by
 unfold Ky at h;cases y
 case slice sz=>
  cases v<;>(try (simp at h;done))<;>simp only at h
  case sl tc xs f=>
   rcases bU h with⟨a,h⟩|⟨_,h⟩<;>try (cases h;done)
   simp only[ahJ]at a;have o:=dd a.1;have w:0<sz:=ahV a.2;obtain⟨x,I,h⟩:=ak h;obtain⟨c,e,F⟩:=Qz I;simp only[VR]at b;obtain⟨C,rfl,_⟩:=b;have k:=iG tc.enc xs;have s:=NW (E:=tc.enc) F;have H:n.toNat*tc.sz+tc.sz<=(tc.flat xs).length:=by
    rw[iG,<-aj1];exact aiK _ (by omega)
   refine⟨_,.rptr (tc.flat xs) (n.toNat*sz),h,?_,?_⟩
   ·simp only[VR];refine⟨(tc.flat xs).take (n.toNat*sz),(tc.flat xs).drop (n.toNat*sz+sz),?_⟩;subst o;have A:tc.flat xs=(tc.flat xs).take (n.toNat*tc.sz)++(((tc.flat xs).drop (n.toNat*tc.sz)).take tc.sz++((tc.flat xs).drop (n.toNat*tc.sz)).drop tc.sz):=by
     rw[aiV,aiV]
    have B:((tc.flat xs).drop (n.toNat*tc.sz)).take tc.sz=tc.cells x:=s;rw[B,ajj]at A;rw[aia,<-A];congr 1;rw[aig,alC (by omega)];rfl
   ·simp only[EC];rw[ah2 ⟨c,e,w,by rw[o];exact k⟩]
  case lst cs len f=>
   rcases bU h with⟨a,h⟩|⟨_,h⟩<;>try (cases h;done)
   simp only[ahJ]at a;obtain⟨c,e⟩:=Nv a.1;have w:0<sz:=ahV a.2.1;have k:=dd a.2.2;simp only[VR]at b;obtain⟨z,C,rfl,_,b⟩:=b;refine⟨_,.rptr z (n.toNat*sz),h,by simp only[VR];exact⟨z,rfl,b⟩,?_⟩;simp only[EC];rw[ah2 ⟨c,e,w,by rw[b.length];exact k⟩]
  case own l g=>
   split at h<;>try (cases h;done)
   rename_i tc xs M N k;rcases bU h with⟨a,q⟩|⟨_,q⟩<;>try (cases q;done)
   simp only[ahJ]at a;have s:=dd a.1;have o:=dd a.2;subst s o;rcases bU q with⟨t,i⟩|⟨_,i⟩<;>try (cases i;done)
   obtain⟨c,e⟩:=Nv t;simp only[VR]at b;obtain⟨L,u,J,rfl⟩:=(b.2 _ _ _ _ k).2 rfl;refine⟨_,.ptr l u (0+n.toNat*tc.sz),i,?_,?_⟩
   ·simp only[VR];exact .mk k J (by simp)
   ·simp only[EC];rw[ah2 ⟨c,e,trivial⟩]
 case array len sz=>
  obtain⟨j,O,rfl,i⟩:=Kx h;obtain⟨p,m,i,c,e⟩:=Ru i b;have G:(0:Int)<=(j:Int)/\(j:Int)<len:=by omega
  exact⟨p,m,i,c,by simp only[ah2 G,aiP];exact e⟩
def Xj(d:IVK)(v:SV)(n:Int)(K:SV->Option α):Option α:=match d with
 |.string=>match v with
  |.str s=>(ix s n).bind λb=>K (.int .u8 b.toNat)
  |_=>none
 |.array len a b=>match v with
  |.agg c=>Iz n (λi=>Ps c (i*a) a b K) len 0
  |_=>none
def Z4(S:ae)(k:iB)(v:SV)(K:SV->Option α):Option α:=match k with
 |.slice=>match v with
  |.sl _ a _=>K (.int .i64 a.length)
  |.lst _ n _=>K (.int .i64 n)
  |.nils=>K (.int .i64 0)
  |.own l g=>match S[l]? with
   |some (.arr _ a _ b)=>cond (Nat.beq g b) (K (.int .i64 a.length)) none
   |_=>none
  |_=>none
 |.string=>match v with
  |.str s=>K (.int .i64 s.length)
  |_=>none
 |.array n=>K (.int .i64 n)
def acv{k:iB}{v:SV}{d:D}(h:Z4 S k v K=some r)(a:VR S σ v d):∃c n,K c=some r/\VR S σ c (.int .i64 (n:Nat))/\J5 k d=some n:=by
 unfold Z4 at h;cases k
 case slice=>
  cases v<;>(try (simp at h;done))<;>simp only at h
  case sl=>simp only[VR]at a;obtain⟨j,rfl,_⟩:=a;exact⟨_,_,h,lN,rfl⟩
  case lst=>simp only[VR]at a;obtain⟨_,_,rfl,_⟩:=a;exact⟨_,_,h,lN,rfl⟩
  case nils=>simp only[VR]at a;subst a;exact⟨_,0,h,lN,rfl⟩
  case own l g=>
   split at h<;>try (cases h;done)
   rename_i s t o p i;rcases bU h with⟨e,b⟩|⟨_,b⟩<;>try (cases b;done)
   have f:=dd e;subst f;simp only[VR]at a;obtain⟨m,u,q,rfl⟩:=(a.2 _ _ _ _ i).2 rfl;exact⟨_,_,b,lN,rfl⟩
 case string=>
  cases v<;>(try (simp at h;done));simp only[VR]at a;subst a;exact⟨_,_,h,lN,rfl⟩
 case array n=>exact⟨_,_,h,lN,rfl⟩
noncomputable def iO:Int->Int->Int:=Classical.choose (⟨_,rfl⟩:∃f,f=λa b:Int=>if b>a then b else a)
noncomputable def fS:Int->Int->Int:=Classical.choose (⟨_,rfl⟩:∃f,f=λa b:Int=>if b<a then b else a)
def TF(a b:Int):iO a b=if b>a then b else a:=akr (akr (aiU (⟨_,rfl⟩:∃f,f=λa b:Int=>if b>a then b else a)) a) b
def TG(a b:Int):fS a b=if b<a then b else a:=akr (akr (aiU (⟨_,rfl⟩:∃f,f=λa b:Int=>if b<a then b else a)) a) b
def po:iO 0 0=0:=by rw[TF];rfl
def sMM(mx:Bool):SV->List SV->(SV->Option α)->Option α
 |.int k a,[],K=>K (.int k a)
 |.int k a,.int c b::r,K=>match decEq k c with
  |isTrue _=>match mx with
   |true=>sMM true (.int k (iO a b)) r K
   |false=>sMM false (.int k (fS a b)) r K
  |isFalse _=>none
 |_,_,_=>none
def Rw{mx:Bool}:∀{vs:List SV}{v:SV}{d:D}{ds:List D},sMM mx v vs K=some r->VR S σ v d->VRs S σ vs ds->∃f c,K f=some r/\VR S σ f c/\mmD mx d ds=some c
 |[],v,d,ds,h,b,a=>by
  cases v<;>(try (simp[sMM]at h;done));simp only[VR]at b;subst b;simp only[VRs]at a;subst a;exact⟨_,_,h,lN,rfl⟩
 |w::vs,v,d,ds,h,b,a=>by
  cases v<;>(try (simp[sMM]at h;done));cases w<;>(try (simp[sMM]at h;done));simp only[sMM]at h;split at h<;>try (cases h;done)
  rename_i k _;subst k;simp only[VR]at b;subst b;simp only[VRs,VR]at a;obtain⟨e,l,rfl,rfl,a⟩:=a;cases mx<;>obtain⟨f,c,g,i,j⟩:=Rw h lN a<;>refine⟨f,c,g,i,?_⟩<;>simp only[mmD,aiI]<;>simpa[TF,TG] using j
def IA(a:LK)(key:SV):List D->List D->(Option D->Option α)->Option α
 |[],_,K=>K none
 |d::e,c,K=>match c with
  |v::c=>(Dy a key (ofD d)).bind λb=>cond b (K (some v)) (IA a key e c K)
  |[]=>none
variable{Z:LK}
def Kz{key:SV}{d:D}(f:VR S σ key d){K:Option D->Option α}:∀(ks vs:List D)(i:Nat),IA Z key ks vs K=some r->
 ∃o,K o=some r/\((o=none/\ln Z d ks i=some none)∨∃j v,o=some v/\ln Z d ks i=some (some (i+j))/\vs[j]?=some v)
 |[],vs,i,h=>⟨none,h,.inl ⟨rfl,rfl⟩⟩
 |g::ks,[],i,h=>by simp[IA]at h
 |g::ks,v::vs,i,h=>by
  simp only[IA]at h;obtain⟨b,m,h⟩:=ak h;have e:=E6 m f (Dv S σ g);rcases bU h with⟨rfl,h⟩|⟨rfl,h⟩
  ·exact⟨_,h,.inr ⟨0,v,rfl,by simp only[ln,e];rfl,rfl⟩⟩
  ·obtain⟨o,k,a⟩:=Kz f ks vs (i+1) h;refine⟨o,k,?_⟩;rcases a with⟨a,c⟩|⟨j,n,a,c,l⟩
   ·exact .inl ⟨a,by simp only[ln,e];exact c⟩
   ·exact .inr ⟨j+1,n,a,by simp only[ln,e];rw[c];congr 2;omega,by simpa using l⟩
def LY(a:LK)(z:D)(ok:Bool)(m key:SV)(K:SV->Option α):Option α:=match m with
 |.raw d=>match d with
  |.cmap b c=>IA a key b c λo=>K (ofD (yU z ok o))
  |.pmap b c=>match Di b with
   |true=>match a with
    |.i=>match key with
     |.int .i64 n=>IA .i (.int .i64 n) b c λo=>K (ofD (yU z ok o))
     |_=>none
    |_=>none
   |false=>none
  |_=>none
 |_=>none
def Z5{z:D}{ok:Bool}{m key:SV}{l k:D}(h:LY Z z ok m key K=some r)(c:VR S σ m l)(g:VR S σ key k):
 ∃p i,K p=some r/\VR S σ p i/\∀s:Sto,yE s Z z ok l k=some i:=by
 cases m<;>(try (simp[LY]at h;done));rename_i e;cases e<;>(try (simp[LY]at h;done))
 ·simp only[VR]at c;subst c;obtain⟨o,h,a⟩:=Kz g _ _ 0 h;refine⟨_,_,h,Dv S σ _,λs=> ?_⟩;rcases a with⟨rfl,a⟩|⟨j,v,rfl,a,f⟩
  ·simp only[yE,oK,a]
  ·rw[aiA]at a;simp only[yE,oK,a,f];rfl
 ·simp only[VR]at c;subst c;simp only[LY]at h;split at h<;>try (cases h;done)
  rename_i b;split at h<;>try (cases h;done)
  split at h<;>try (cases h;done)
  rename_i n;simp only[VR]at g;subst g;obtain⟨o,h,a⟩:=Kz (S:=S) (σ:=σ) (key:=.int .i64 n) (d:=.int .i64 n) (by simp only[VR]) _ _ 0 h;refine⟨_,_,h,Dv S σ _,λs=> ?_⟩;rcases a with⟨rfl,a⟩|⟨j,v,rfl,a,f⟩
  ·simp only[yE,wv,b,oK,a]
  ·rw[aiA]at a;simp only[yE,wv,b,oK,a,f];rfl
def IB(τ:ax)(x:Operand)(K:Int->Option α):Option α:=fA τ x λv=>match v with
 |.int _ n=>K n
 |_=>none
def BJ{x:Operand}{K:Int->Option α}(h:IB τ x K=some r):∃k n,sev τ x=some (.int k n)/\K n=some r:=by
 unfold IB at h;obtain⟨v,a,h⟩:=bD h;cases v<;>(try (simp at h;done));exact⟨_,_,a,h⟩
def sBi(T:Tys)(S:ae)(τ:ax)(b:Builtin)(args:List Operand)(c:List TypeId)(K:SV->Option α):Option α:=match b with
 |.len=>match args,c with
  |[x],[t]=>(lk T.len t).bind λk=>fA τ x λv=>Z4 S k v K
  |_,_=>none
 |.max=>(Ci τ args).bind λa=>match a with
  |v::a=>sMM true v a K
  |[]=>none
 |.min=>(Ci τ args).bind λa=>match a with
  |v::a=>sMM false v a K
  |[]=>none
 |_=>none
def sR(T:Tys)(H:Tr TC)(τ:ax)(S:ae)(d:Op)(K:SV->Option α):Option α:=match d with
 |.move x=>fA τ x K
 |.assign x=>fA τ x K
 |.pick c a b=>fA τ c λv=>match v with
  |.bool r=>cond r (fA τ a K) (fA τ b K)
  |_=>none
 |.build t h=>Rq T τ S t h.toList K
 |.buildSlice t len h=>Cj T H τ S t len h.toList K
 |.load t x=>Pq T τ S t x K
 |.nilCheck x=>fA τ x λv=>Rt S v K
 |.binOp d t x y _=>fA τ x λv=>fA τ y λw=>ZV (lk T.eq t) d (EE x||EE y) v w K
 |.unOp d _ x=>fA τ x λv=>sUn d v K
 |.convert s t x=>(lk2 T.conv s t).bind λck=>fA τ x λv=>E7 S ck v K
 |.makeInterface t x=>(lk T.conc t).bind λ_=>fA τ x λv=>K (.iface t v)
 |.makeFunc l a b=>(Ci τ a.toList).bind λz=>(Ci τ b.toList).bind λA=>K (.func l z A)
 |.slice t x q o u=>Rs T H τ t x q o u K
 |.fieldAddr s x f=>(lk2 T.fld s f).bind λg=>fA τ x λv=>Pr S v g K
 |.field s x f=>(lk2 T.fldV s f).bind λp=>fA τ x λv=>match v with
  |.agg j=>Ps j p.1 p.2.1 p.2.2 K
  |_=>none
 |.indexAddr t x i=>(lk T.idx t).bind λe=>fA τ x λv=>IB τ i λn=>Ky S e v n K
 |.index t x i=>(lk T.idxV t).bind λe=>fA τ x λv=>IB τ i λn=>Xj e v n K
 |.lookup t m k ok=>(lk T.map t).bind λp=>fA τ m λC=>fA τ k λB=>LY p.1 p.2 ok C B K
 |.extract x i=>fA τ x λv=>match v with
  |.tup D=>(D[i]?).bind K
  |_=>none
 |.call c=>match c.callee with
  |.builtin b=>sBi T S τ b c.args.toList c.argTypes.toList K
  |_=>none
 |_=>none
def Ck(τ:ax):Op->List Nat
 |.load _ x=>fpO τ x
 |.convert _ _ x=>fpO τ x
 |_=>[]
def Vi{H:Tr TC}(hS:StR S σ)(G:ER S σ τ τ'){op:Op}(h:sR T H τ S op K=some r):ROk T S σ τ' op (Ck τ op) K r:=by
 have D:∀{x:Operand}{v:SV},sev τ x=some v->∃d,ev τ' x=some d/\VR S σ v d:=λhx=>jc G hx;cases op<;>(try (simp[sR]at h;done))<;>simp only[sR]at h
 case move x=>
  obtain⟨v,o,h⟩:=bD h;obtain⟨d,A,g⟩:=D o;exact⟨v,d,d,h,g,aE.refl _,λs _=>by simp only[aop,A];rfl⟩
 case assign x=>
  obtain⟨v,o,h⟩:=bD h;obtain⟨d,A,g⟩:=D o;exact⟨v,d,d,h,g,aE.refl _,λs _=>by simp only[aop,A];rfl⟩
 case pick c a b=>
  obtain⟨v,o,h⟩:=bD h;cases v<;>(try (simp at h;done));rename_i rb;obtain⟨d,A,g⟩:=D o;simp only[VR]at g;subst g;rcases bU h with⟨rfl,h⟩|⟨rfl,h⟩
  ·obtain⟨v,o,h⟩:=bD h;obtain⟨d,L,g⟩:=D o;exact⟨v,d,d,h,g,aE.refl _,λs _=>by simp only[aop,Pc,A,aiI,L];rfl⟩
  ·obtain⟨v,o,h⟩:=bD h;obtain⟨d,L,g⟩:=D o;exact⟨v,d,d,h,g,aE.refl _,λs _=>by simp only[aop,Pc,A,aiC,aiE,L];rfl⟩
 case build=>exact Xf G h
 case buildSlice=>exact Nt G h
 case load=>exact Rp hS G h
 case nilCheck x=>
  obtain⟨v,o,h⟩:=bD h;obtain⟨d,A,g⟩:=D o;obtain⟨C,h,B,q⟩:=acu h g A;exact⟨C,d,d,h,B,aE.refl _,λs _=>by simp only[aop,q];rfl⟩
 case binOp op t x y ty=>
  obtain⟨v,o,h⟩:=bD h;obtain⟨w,hw,h⟩:=bD h;obtain⟨d,A,g⟩:=D o;obtain⟨e,he,k8⟩:=D hw;obtain⟨C,z,h,B,q⟩:=acq h g k8;exact⟨C,z,z,h,B,aE.refl _,λs _=>by simp only[aop,Uj,A,he,q];rfl⟩
 case unOp op t x=>
  obtain⟨v,o,h⟩:=bD h;obtain⟨d,A,g⟩:=D o;obtain⟨C,z,h,B,q⟩:=aeq h g;exact⟨C,z,z,h,B,aE.refl _,λs _=>by simp only[aop,oUn,A,q];rfl⟩
 case convert s' t x=>
  obtain⟨ck,Z,h⟩:=ak h;obtain⟨v,o,h⟩:=bD h;obtain⟨d,A,g⟩:=D o;obtain⟨C,z,h,B,q⟩:=Z3 hS h g;refine⟨C,z,z,h,B,aE.refl _,λs hs=> ?_⟩;have:=q s (λl hl=>hs l (by simp only[Ck,fpO,o];exact hl));simp only[aop,Uk,Z,A,this];rfl
 case makeInterface t x=>
  obtain⟨u,hu,h⟩:=ak h;obtain⟨v,o,h⟩:=bD h;obtain⟨d,A,g⟩:=D o;exact⟨_,.iface t d,.iface t d,h,by simp only[VR];exact⟨d,rfl,g⟩,aE.refl _,λs _=>by simp only[aop,PL,A,hu];rfl⟩
 case makeFunc fn a b=>
  obtain⟨va,j6,h⟩:=ak h;obtain⟨vb,j7,h⟩:=ak h;obtain⟨R,B,q⟩:=wi G j6;obtain⟨U,O,P⟩:=wi G j7;exact⟨_,.func fn R U,.func fn R U,h,by simp only[VR];exact⟨R,U,rfl,q,P⟩,aE.refl _,λs _=>by simp only[aop,Ul,B,O];rfl⟩
 case slice=>exact Xh G h
 case fieldAddr s' x f=>
  obtain⟨m5,ho,h⟩:=ak h;obtain⟨v,o,h⟩:=bD h;obtain⟨d,A,g⟩:=D o;obtain⟨C,z,h,B,q⟩:=Ru h g;exact⟨C,z,z,h,B,aE.refl _,λs _=>by simp only[aop,DM,ho,A,q];rfl⟩
 case field s' x f=>
  obtain⟨p,hp,h⟩:=ak h;obtain⟨v,o,h⟩:=bD h;obtain⟨d,A,g⟩:=D o;cases v<;>(try (simp at h;done));simp only[VR]at g;obtain⟨Q,rfl,g⟩:=g;obtain⟨C,z,h,B,q⟩:=Rv h g;exact⟨C,z,z,h,B,aE.refl _,λs _=>by simp only[aop,PN,hp,A,q];rfl⟩
 case indexAddr t x i=>
  obtain⟨ik,J,h⟩:=ak h;obtain⟨v,o,h⟩:=bD h;obtain⟨k,n,hn,h⟩:=BJ h;obtain⟨d,A,g⟩:=D o;obtain⟨dn,I,E⟩:=D hn;simp only[VR]at E;subst E;obtain⟨C,z,h,B,q⟩:=SQ h g;refine⟨C,z,z,h,B,aE.refl _,λs _=> ?_⟩;simp only[aop,DN,J,A,I,mM];cases ik<;>simp only at q⊢<;>rw[q]<;>rfl
 case index t x i=>
  obtain⟨ik,J,h⟩:=ak h;obtain⟨v,o,h⟩:=bD h;obtain⟨k,n,hn,h⟩:=BJ h;obtain⟨d,A,g⟩:=D o;obtain⟨dn,I,E⟩:=D hn;simp only[VR]at E;subst E;unfold Xj at h;cases ik
  case string=>
   cases v<;>(try (simp at h;done));simp only at h;obtain⟨b,Y,h⟩:=ak h;obtain⟨a1,a2,a3⟩:=Qz Y;simp only[VR]at g;subst g;exact⟨_,_,_,h,lN,aE.refl _,λs _=>by simp[aop,KY,J,A,I,mM,Um,a1,a3]⟩
  case array=>
   cases v<;>(try (simp at h;done));simp only at h;obtain⟨j,hj,rfl,X⟩:=Kx h;simp only[VR]at g;obtain⟨Q,rfl,g⟩:=g;obtain⟨C,z,X,B,q⟩:=Rv X g;have Y:=And.intro (Int.natCast_nonneg j) (Int.ofNat_lt.2 (Nat.lt_of_lt_of_eq hj (aiA _)));exact⟨C,z,z,X,B,aE.refl _,λs _=>by simp only[aop,KY,J,A,I,mM,ah2 Y,aiP,q];rfl⟩
 case lookup t m k ok=>
  obtain⟨p,hp,h⟩:=ak h;obtain⟨vm,j9,h⟩:=bD h;obtain⟨vk,j8,h⟩:=bD h;obtain⟨dm,j4,hm⟩:=D j9;obtain⟨dk,j3,hk⟩:=D j8;obtain⟨C,z,h,B,q⟩:=Z5 h hm hk;exact⟨C,z,z,h,B,aE.refl _,λs _=>by simp only[aop,Ic,hp,j4,j3,q s];rfl⟩
 case extract x i=>
  obtain⟨v,o,h⟩:=bD h;obtain⟨d,A,g⟩:=D o;cases v<;>(try (simp at h;done));simp only at h;obtain⟨w,hw,h⟩:=ak h;simp only[VR]at g;obtain⟨Q,rfl,g⟩:=g;obtain⟨e,B,q⟩:=g.get hw;exact⟨w,e,e,h,q,aE.refl _,λs _=>by simp only[aop,JD,A,B];rfl⟩
 case call c=>
  obtain⟨F,l0,N⟩:=c;cases F<;>(try (simp at h;done));rename_i b;simp only at h;unfold sBi at h;cases b<;>(try (simp at h;done))<;>simp only at h
  case len=>
   split at h<;>try (cases h;done)
   rename_i x t k9 j5;obtain⟨k,hk,h⟩:=ak h;obtain⟨v,o,h⟩:=bD h;obtain⟨d,A,g⟩:=D o;obtain⟨C,n,h,B,q⟩:=acv h g;refine⟨C,_,_,h,B,aE.refl _,λs _=> ?_⟩;simp only[aop,zi,k9,j5,Yu,hk,A,q];rfl
  case max=>
   obtain⟨vs,M,h⟩:=ak h;obtain⟨Q,B,q⟩:=wi G M;cases vs<;>(try (simp at h;done));simp only[VRs]at q;obtain⟨e,es,rfl,O,P⟩:=q;obtain⟨C,z,h,V,W⟩:=Rw h O P;exact⟨C,z,z,h,V,aE.refl _,λs _=>by simp only[aop,zi,oMM,B,mmL,W];rfl⟩
  case min=>
   obtain⟨vs,M,h⟩:=ak h;obtain⟨Q,B,q⟩:=wi G M;cases vs<;>(try (simp at h;done));simp only[VRs]at q;obtain⟨e,es,rfl,O,P⟩:=q;obtain⟨C,z,h,V,W⟩:=Rw h O P;exact⟨C,z,z,h,V,aE.refl _,λs _=>by simp only[aop,zi,oMM,B,mmL,W];rfl⟩
end
end
end Go.Fw
def aiw:=@List.nil_append
def akt:=@List.set_append_right
def alk:=@List.take_zero
namespace Go.Fw
noncomputable section
open Go.RowKit
inductive Upd where
 |same|set(l:Nat)(ob:am)|push(ob:am)
def Upd.ap:Upd->Sto->Sto
 |.same,s=>s
 |.set l a,s=>s.set l a
 |.push a,s=>s++[a]
def Upd.inFp(a:List Nat):Upd->Prop
 |.set l _=>l∈a
 |_=>True
def WOk{α:Type}(P:Program)(N:Nat)(o:Oper)(S:ae)(σ:Sto)(τ':Env)(c:List Nat)(K:SV->ae->Option α)(r:α):Prop:=
 ∃v b d a,K v b=some r/\(∀s:Sto,(∀l∈c,s[l]?=σ[l]?)->s.length=σ.length->AOp P N o τ' s λe f=>e=d/\f=Upd.ap a s)/\VR b (a.ap σ) v d/\StR b (a.ap σ)/\bC S σ b (a.ap σ)/\a.inFp c
def StR.lt{S:ae}{σ:Sto}(h:StR S σ){l:Nat}{o:kR}(a:S[l]?=some o):l<σ.length:=by rw[<-h.len];exact ah a
def bC.push{S:ae}{σ:Sto}(_h:S.length=σ.length)(o:kR)(a:am):bC S σ (S++[o]) (σ++[a]):=by
 have v:∀{l:Nat}{x:am},σ[l]?=some x->(σ++[a])[l]?=some x:=λb=>by rw[ahT (ah b)];exact b
 refine⟨λl g d ⟨b,h⟩=>⟨by simp;omega,λt s f j c=> ?_⟩,λl g i o d ⟨b,h⟩=>⟨by simp;omega,λt s f j c=> ?_⟩⟩
 ·rw[ahT b]at c;obtain⟨k,m⟩:=h t s f j c;exact⟨k,λq=>by obtain⟨e,u,n,p⟩:=m q;exact⟨e,u,v n,p⟩⟩
 ·rw[ahT b]at c;obtain⟨k,m⟩:=h t s f j c;exact⟨k,λq=>by obtain⟨e,u,n,p⟩:=m q;exact⟨e,u,v n,p⟩⟩
def ObR.pres{S S':ae}{σ σ':Sto}(h:bC S σ S' σ'){o:kR}{a:am}(x:ObR S σ o a):ObR S' σ' o a:=by
 cases o with
 |cells i d=>obtain⟨b,c,rfl,e,f⟩:=x;exact⟨b,c,rfl,e,VRs.pres h _ _ f⟩
 |arr t k d g=>exact x
 |raw a=>exact x
 |it s p=>exact x
 |smap j=>exact x
 |junk=>exact x
def StR.push{S:ae}{σ:Sto}(h:StR S σ){o:kR}{a:am}(x:ObR (S++[o]) (σ++[a]) o a):StR (S++[o]) (σ++[a]):=by
 refine⟨by simp[h.len],λl j c=> ?_⟩;rcases ah0 l S.length with e|d
 ·rw[ahT e]at c;obtain⟨b,f,i⟩:=h.obj l j c;exact⟨b,by rw[ahT (ah f)];exact f,i.pres (bC.push h.len o a)⟩
 ·rw[ahZ d]at c;cases g:l-S.length with
  |zero=>
   rw[g]at c;simp at c;subst c;have:l=σ.length:=by rw[<-h.len];omega
   subst this;exact⟨a,by simp,x⟩
  |succ k=>rw[g]at c;simp at c
def jW{α:Type}{l:List α}{i j:Nat}{x:α}(h:i<l.length):(l.set i x)[j]?=if i=j then some x else l[j]? :=by
 by_cases e:i=j
 ·subst e;rw[aiD h,ah2 rfl]
 ·rw[aiq e,air e]
def StR.set{S:ae}{σ:Sto}(h:StR S σ){l:Nat}{p o:kR}{a:am}(g:S[l]?=some p)(m:bC S σ (S.set l o) (σ.set l a))(x:ObR (S.set l o) (σ.set l a) o a):StR (S.set l o) (σ.set l a):=by
 have f:=ah g;have d:=h.lt g;refine⟨by simp[h.len],λj n c=> ?_⟩;rw[jW f]at c;rw[jW d];by_cases e:l=j
 ·rw[ah2 e]at c⊢;cases c;exact⟨a,rfl,x⟩
 ·rw[air e]at c⊢;obtain⟨b,i,k⟩:=h.obj j n c;exact⟨b,i,k.pres m⟩
def bC.setGen{S:ae}{σ:Sto}(h:StR S σ){l:Nat}{D o:kR}{a:am}(A:S[l]?=some D)
 (B:∀g d,AB S σ l g d->∀t c m b,o=.arr t c m b->g<=b/\(g=b->∃p u,a=.cells (t.flat c) p u/\d=.sl l u 0 c.length t.sz false))
 (C:∀g i k d,ApR S σ l g i k d->∀t c m b,o=.arr t c m b->g<=b/\(g=b->∃p u,a=.cells (t.flat c) p u/\d=.ptr l u (i.toNat*t.sz+k))):bC S σ (S.set l o) (σ.set l a):=by
 have s:=ah A;have n:=h.lt A;refine⟨λj g d q=>⟨by rw[ajH];exact q.1,λt c m b f=> ?_⟩,λj g i k d q=>⟨by rw[ajH];exact q.1,λt c m b f=> ?_⟩⟩
 ·rw[jW s]at f;rw[jW n];by_cases e:l=j
  ·subst e;rw[ah2 rfl]at f;cases f;obtain⟨v,w⟩:=B g d q t c m b rfl;exact⟨v,λz=>by obtain⟨p,u,x,y⟩:=w z;exact⟨p,u,by rw[ah2 rfl,x],y⟩⟩
  ·rw[air e]at f⊢;exact q.2 t c m b f
 ·rw[jW s]at f;rw[jW n];by_cases e:l=j
  ·subst e;rw[ah2 rfl]at f;cases f;obtain⟨v,w⟩:=C g i k d q t c m b rfl;exact⟨v,λz=>by obtain⟨p,u,x,y⟩:=w z;exact⟨p,u,by rw[ah2 rfl,x],y⟩⟩
  ·rw[air e]at f⊢;exact q.2 t c m b f
def bC.setCells{S:ae}{σ:Sto}(h:StR S σ){l:Nat}{cs cs':List SV}{fz fz':Bool}{a:am}(b:S[l]?=some (.cells cs fz)):bC S σ (S.set l (.cells cs' fz')) (σ.set l a):=
 bC.setGen h b (λ_ _ _ _ _ _ _ e=>by cases e) (λ_ _ _ _ _ _ _ _ _ e=>by cases e)
def bC.setOther{S:ae}{σ:Sto}(h:StR S σ){l:Nat}{f o:kR}{a:am}(d:S[l]?=some f)(b:∀t i c g,o≠.arr t i c g):bC S σ (S.set l o) (σ.set l a):=
 bC.setGen h d (λ_ _ _ _ _ _ _ e=>absurd e (b _ _ _ _)) (λ_ _ _ _ _ _ _ _ _ e=>absurd e (b _ _ _ _))
def bC.setNext{S:ae}{σ:Sto}(h:StR S σ){l g:Nat}{t:TC}{xs s:List t.Den}{fz fz':Bool}{a:am}(c:S[l]?=some (.arr t xs fz g)):bC S σ (S.set l (.arr t s fz' (g+1))) (σ.set l a):=
 bC.setGen h c (λn d f q j b m e=>by
  have:=(f.2 _ _ _ _ c).1;cases e;exact⟨by omega,λp=>by omega⟩) (λn i k d f q j b m e=>by
  have:=(f.2 _ _ _ _ c).1;cases e;exact⟨by omega,λp=>by omega⟩)
def bC.setSame{S:ae}{σ:Sto}(h:StR S σ){l g fr u j:Nat}{t:TC}{xs y:List t.Den}{fz fz':Bool}(v:S[l]?=some (.arr t xs fz g))(f:σ[l]?=some (.cells (t.flat xs) j u))(c:y.length=xs.length):
 bC S σ (S.set l (.arr t y fz' g)) (σ.set l (.cells (t.flat y) fr u)):=
 bC.setGen h v (λA d w B x a z e=>by
  obtain⟨n,p⟩:=w.2 _ _ _ _ v;cases e;refine⟨n,λs=> ?_⟩;obtain⟨m,C,b,q⟩:=p s;rw[f]at b;cases b;exact⟨fr,u,rfl,by rw[q,c]⟩) (λA i k d w B x a z e=>by
  obtain⟨n,p⟩:=w.2 _ _ _ _ v;cases e;refine⟨n,λs=> ?_⟩;obtain⟨m,C,b,q⟩:=p s;rw[f]at b;cases b;exact⟨fr,u,rfl,q⟩)
def AOp.weakSet{P:Program}{N:Nat}{o:Oper}{τ:Env}{s:Sto}{d:D}{l f u:Nat}{cs cs':List D}(q:l<s.length)(h:AOp P N o τ s λb c=>b=d/\c=s.set l (.cells cs f u))(g:cZ cs cs'):
 AOp P N o τ s λb c=>b=d/\c=s.set l (.cells cs' f u):=by
 intro B G w a n p next Q t
 refine h B G w a n p next Q ?_
 rintro v y i b c j k m ⟨rfl,rfl⟩;have e:=k.weakObj (l:=l) (f:=f) (v:=u) (cs:=cs) (cs':=cs') (by rw[jW q,ah2 rfl]) g.length.symm (λz x=>g.reps x);rw[List.set_set]at e;exact t v y i _ _ j e m ⟨rfl,rfl⟩
def AOp.weakPush{P:Program}{N:Nat}{o:Oper}{τ:Env}{s:Sto}{d:D}{f u:Nat}{cs cs':List D}(h:AOp P N o τ s λb c=>b=d/\c=s++[.cells cs f u])(g:cZ cs cs'):
 AOp P N o τ s λb c=>b=d/\c=s++[.cells cs' f u]:=by
 intro B G w a n p next Q q
 refine h B G w a n p next Q ?_
 rintro v x i b c j k m ⟨rfl,rfl⟩;have e:=k.weakObj (l:=s.length) (f:=f) (v:=u) (cs:=cs) (cs':=cs') (by simp) g.length.symm (λy t=>g.reps t);rw[akt _ _ (ahS _)]at e;simp only[akk,ajM]at e;exact q v x i _ _ j e m ⟨rfl,rfl⟩
section
variable {α:Type}{P:Program}{T:Tys}{N:Nat}{o:Oper}{S:ae}{σ:Sto}{τ:ax}{τ' :Env}{K:SV→ae→Option α}{r:α}
def Vj(v:SV)(k:SV->Option α):Option α:=match v with
 |.int a b=>k (.int a b)
 |.bool b=>k (.bool b)
 |.str s=>k (.str s)
 |.sl t e f=>k (.sl t e f)
 |.nils=>k .nils
 |.lst c n f=>k (.lst c n f)
 |.agg c=>k (.agg c)
 |.tup c=>k (.tup c)
 |.func f a b=>k (.func f a b)
 |.iface t v=>k (.iface t v)
 |.own l g=>k (.own l g)
 |.ap l g i o=>k (.ap l g i o)
 |.rp t x o=>k (.rp t x o)
 |.rc c o=>k (.rc c o)
 |.raw d=>k (.raw d)
def TH(v:SV)(k:SV->Option α):Vj v k=k v:=by cases v<;>rfl
noncomputable def Vk(l:List SV):(List SV->Option α)->Option α:=List.rec (λk=>k []) (λx _ a k=>Vj x λx=>a λb=>k (x::b)) l
def TI:∀(l:List SV)(k:List SV->Option α),Vk l k=k l
 |[],_=>rfl
 |x::a,k=>by show Vj x (λx=>Vk a λb=>k (x::b))=_;rw[TH];exact TI a _
noncomputable def E8(l:ae):(ae->Option α)->Option α:=List.rec (λk=>k []) (λo _ b k=>match o with
 |.cells a c=>Vk a λa=>b λS=>k (.cells a c::S)
 |o=>b λS=>k (o::S)) l
def qO:∀(S:ae)(k:ae->Option α),E8 S k=k S
 |[],_=>rfl
 |o::S,k=>by cases o<;>first
  |exact qO S _
  |(rename_i a b;show Vk a (λa=>E8 S λS=>k (.cells a b::S))=_;rw[TI];exact qO S _)
def HF{b:Type}:List b->Nat->(Nat->Option α)->Option α
 |[],n,k=>k n
 |_::a,n,k=>HF a (Nat.add n 1) k
variable{Z:Type}
def zb:∀(l:List Z)(n:Nat)(k:Nat->Option α),HF l n k=k (n+l.length)
 |[],_,_=>rfl
 |x::a,n,k=>by rw[HF,zb a];congr 1;simp only[ahP,Nat.add_eq];omega
def LZ(T:Tys)(S:ae)(e:TypeId)(K:SV->ae->Option α):Option α:=(lk T.zero e).bind λz=>HF S 0 λl=>E8 (S++[.cells (mP z) false]) λa=>K (.raw (.ptr l 0 0)) a
def Oo(tok:TOk T P)(a:StR S σ){e:TypeId}(b:o.op=.alloc e)(h:LZ T S e K=some r):WOk P N o S σ τ' [] K r:=by
 simp only[LZ,zb,qO,aiA]at h;obtain⟨z,d,h⟩:=ak h;refine⟨_,_,.ptr σ.length 0 0,.push (.cells z 0 0),h,λs _ c=> ?_,by simp only[VR,a.len],a.push ⟨z,0,rfl,λ_=>rfl,lX _ _ z⟩,bC.push a.len _ _,trivial⟩;refine bN tok ?_;rw[b];simp only[aop,d,Upd.ap,<-c];rfl
def Vl(S:ae)(v:SV)(K:SV->ae->Option α):Option α:=(Dw S v).bind λb=>HF S 0 λl=>E8 (S++[.cells b false]) λa=>K (.raw (.ptr l 0 0)) a
def TJ(tok:TOk T P)(b:StR S σ)(k:ER S σ τ τ'){t:TypeId}{x:Operand}{v:SV}(m:o.op=.box t x)(p:sev τ x=some v)(h:Vl S v K=some r):WOk P N o S σ τ' [] K r:=by
 simp only[Vl,zb,qO,aiA]at h;obtain⟨g,c,h⟩:=ak h;obtain⟨d,l,e⟩:=jc k p;obtain⟨a,i,j⟩:=E3 c e;have f:=bC.push b.len (.cells g false) (.cells a 0 0);refine⟨_,_,.ptr σ.length 0 0,.push (.cells a 0 0),h,λs _ n=> ?_,by simp only[VR,b.len],b.push ⟨a,0,rfl,λ_=>rfl,VRs.pres f _ _ j⟩,f,trivial⟩;refine bN tok ?_;rw[m];simp only[aop,Yt,l,i,Upd.ap,<-n]
def Ju(l o:Nat)(new cs:List SV)(S:ae)(K:SV->ae->Option α):Option α:=
 cond (Nat.ble (o+new.length) cs.length) (E8 (S.set l (.cells (cs.take o++new++cs.drop (o+new.length)) false)) λa=>K (.raw .junk) a) none
def AH(S:ae):SV->Bool
 |.agg _=>false
 |.tup _=>false
 |.raw d=>d.isCell
 |.own l g=>rV S l g
 |.ap l g _ _=>rV S l g
 |_=>true
def SR{v:SV}{d:D}(h:AH S v=true)(a:VR S σ v d):d.isCell=true:=by
 cases v<;>(try (simp[AH]at h;done))<;>simp only[AH]at h<;>simp only[VR]at a
 case own=>obtain⟨t,e,c,b,u,_,_,rfl⟩:=HE h a;rfl
 case ap=>obtain⟨t,e,c,b,u,_,_,rfl⟩:=E2 h a;rfl
 case raw=>subst a;exact h
 all_goals first
  |(subst a;rfl)
  |(obtain⟨_,rfl,_⟩:=a;rfl)
  |(obtain⟨_,_,rfl,_⟩:=a;rfl)
  |(obtain⟨_,_,rfl⟩:=a;rfl)
def L0:∀{cs:List SV}{ds:List D},cs.all (AH S)=true->VRs S σ cs ds->ds.all D.isCell=true
 |[],_,_,h=>by simp only[VRs]at h;subst h;rfl
 |v::cs,_,a,h=>by
  simp only[aja,ahJ]at a;simp only[VRs]at h;obtain⟨e,d,rfl,b,c⟩:=h;simp only[aja,SR a.1 b,L0 a.2 c,ajn]
def Nw(S:ae)(l g:Nat)(i:Int)(o:Nat)(new:List SV)(K:SV->ae->Option α):Option α:=match S[l]? with
 |some (.arr b d f c)=>cond (Nat.beq g c&& !f&&Nat.beq o 0&&Nat.beq new.length b.sz) (cond (inb i d.length)
  (b.take new λx a=>match a with
    |[]=>E8 (S.set l (.arr b (d.set i.toNat x) false c)) λe=>K (.raw .junk) e
    |_=>none) none) none
 |_=>none
def Nx(S:ae)(l u o:Nat)(new:List SV)(K:SV->ae->Option α):Option α:=match S[l]? with
 |some (.cells a b)=>cond (Nat.beq u 0&& !b) (Ju l o new a S K) none
 |_=>none
def L5(T:Tys)(S:ae)(t:TypeId)(p v:SV)(K:SV->ae->Option α):Option α:=
 (lk T.ld t).bind λa=>(Dw S v).bind λnew=>cond (Nat.beq new.length a.1&&new.all (AH S)) (match p with
   |.raw d=>match d with
    |.ptr l u o=>Nx S l u o new K
    |_=>none
   |.ap l g i o=>Nw S l g i o new K
   |_=>none) none
def Oq(E:Enc Z)(x:Z):∀(xs:List Z)(i:Nat),i<xs.length->dF E (xs.set i x)=(dF E xs).take (i*E.sz)++E.cells x++(dF E xs).drop (i*E.sz+E.sz)
 |[],i,h=>by simp at h
 |y::a,0,h=>by
  simp only[ajM,jU,ajD,alk,aiw,aiA];rw[<-E.len y,List.drop_left]
 |y::a,i+1,h=>by
  have b:=Oq E x a i (by simpa using h);simp only[akj,jU,b];have e:(i+1)*E.sz=(E.cells y).length+i*E.sz:=by rw[E.len,ajI,Nat.one_mul,akV]
  rw[e,alj,ajR,akv,aia,aia,aia]
def Os(tok:TOk T P)(O:StR S σ)(hE:ER S σ τ τ'){t:TypeId}{x y:Operand}{p v:SV}(ho:o.op=.store t x y)(hp:sev τ x=some p)(hv:sev τ y=some v)
 (h:L5 T S t p v K=some r):WOk P N o S σ τ' (fpV p) K r:=by
 unfold L5 at h;obtain⟨nb,j9,h0⟩:=ak h;clear h;obtain⟨new,W,h⟩:=ak h0;clear h0;rcases bU h with⟨Q,F⟩|⟨_,F⟩<;>try (cases F;done)
 clear h;simp only[ahJ]at Q;obtain⟨Q,I⟩:=Q;have Q:=dd Q;obtain⟨dp,j5,D⟩:=jc hE hp;obtain⟨dv,j6,k9⟩:=jc hE hv;obtain⟨E,U,A⟩:=E3 W k9;have q:=A.length;have m:=L0 I A;obtain⟨n,b⟩:=nb;have L:∀(s M:Sto),vY s dp E=some M->AOp P N o τ' s λd' s'=>d'=.junk/\s'=M:=by
  intro s M hw;refine bN tok ?_;rw[ho];simp only[aop,PJ,j9,j5,j6,U];rw[ah2 (show E.length=n by rw[q];exact Q),hw];rfl
 cases p<;>(try (simp at F;done))
 case raw e=>
  cases e<;>(try (simp at F;done));rename_i l u off;have k:Nx S l u off new K=some r:=F;clear F;unfold Nx at k;split at k<;>try (cases k;done)
  rename_i cs fz H;rcases bU k with⟨R,B⟩|⟨_,B⟩<;>try (cases B;done)
  clear k;simp only[ahJ,ajs]at R;obtain⟨hu,rfl⟩:=R;have hu:=dd hu;subst hu;simp only[Ju,qO]at B;rcases bU B with⟨hb,G⟩|⟨_,G⟩<;>try (cases G;done)
  clear B;have hb:=ahV hb;simp only[VR]at D;subst D;obtain⟨a,ha,f,fr,rfl,d,J⟩:=O.obj _ _ H;have d:=d rfl;subst d;have m6:=J.length;have j:bC S σ (S.set l (.cells (cs.take off++new++cs.drop (off+new.length)) false)) (σ.set l (.cells (f.take off++E++f.drop (off+E.length)) 0 0)):=bC.setCells O H;refine⟨_,_,.junk,.set l (.cells (f.take off++E++f.drop (off+E.length)) 0 0),G,λs hs _=> ?_,by simp only[VR],O.set H j ⟨_,0,rfl,λ_=>rfl,?_⟩,j,by simp[fpV,Upd.inFp]⟩
  ·refine L s _ ?_;have:=hs l (by simp[fpV]);simp only[vY,this,ha];rw[ah2 ⟨trivial,aiJ _,by omega,m⟩];rfl
  ·have hq:VRs S σ (cs.take off++new++cs.drop (off+new.length)) (f.take off++E++f.drop (off+E.length)):=by
    rw[q];exact((J.take off).append A).append (J.drop _)
   exact VRs.pres j _ _ hq
 case ap l g i off=>
  have k:Nw S l g i off new K=some r:=F;clear F;simp only[Nw,qO]at k;split at k<;>try (cases k;done)
  rename_i c C fz g' H;rcases bU k with⟨R,B⟩|⟨_,B⟩<;>try (cases B;done)
  clear k;simp only[ahJ,ajs]at R;obtain⟨⟨⟨hg,rfl⟩,w⟩,Z⟩:=R;have hg:=dd hg;have w:=dd w;have Z:=dd Z;subst hg w;rcases bU B with⟨j7,G⟩|⟨_,G⟩<;>try (cases G;done)
  clear B;obtain⟨m8,m9⟩:=Nv j7;obtain⟨z,l0,d1,d2,h5,rfl,hw,hr⟩:=TC.take_ok c _ _ _ _ G A;clear G;split at h5<;>try (cases h5;done)
  simp only[VRs]at hr;subst hr;rw[ah6]at q m U A L;simp only[VR]at D;obtain⟨fr,u,k4,rfl⟩:=(D.2 _ _ _ _ H).2 rfl;obtain⟨a,ha,m5,u',j3,d⟩:=O.obj _ _ H;rw[k4]at ha;cases ha;cases j3;have d:=d rfl;subst d;have j8:i.toNat<C.length:=by omega
  have m7:=iG c.enc C;have n6:i.toNat*c.sz+c.sz<=(c.flat C).length:=by
   rw[iG,<-aj1];exact aiK _ (by omega)
  have X:=Oq c.enc z C i.toNat j8;have j:bC S σ (S.set l (.arr c (C.set i.toNat z) false g)) (σ.set l (.cells (c.flat (C.set i.toNat z)) 0 u)):=bC.setSame O H k4 (by simp);refine⟨_,_,.junk,.set l (.cells (c.flat (C.set i.toNat z)) 0 u),h5,λs hs k8=> ?_,by simp only[VR],O.set H j ⟨0,u,rfl,λ_=>rfl⟩,j,by simp[fpV,Upd.inFp]⟩;have Y:=hs l (by simp[fpV]);have V:l<s.length:=by rw[k8];exact ah k4
  refine AOp.weakSet (cs:=(c.flat C).take (i.toNat*c.sz)++d1++(c.flat C).drop (i.toNat*c.sz+c.sz)) V (L s _ ?_) ?_
  ·have j4:d1.length=c.sz:=by omega
   simp only[vY,Y,k4,aj8];rw[ah2 ⟨trivial,aiJ _,by omega,m⟩,j4]
  ·show cZ _ (dF c.enc (C.set i.toNat z));rw[X];exact cZ.append (cZ.append (cZ.refl _) hw) (cZ.refl _)
end
end
end Go.Fw
