/- A framework for proofs about Go programs in this model: part D. Everything is proved; no condition is added. -/
import Derived.Test.YtlicgchfbhkelaaGreatDoorFwC
set_option linter.unusedVariables false
set_option linter.unusedSimpArgs false
set_option linter.defProp false
namespace Go.Fw
abbrev Bs:=List UInt8
open Go.RowKit
section
variable {P:Program}{T:Tys}{N:Nat}{all:Array Oper}{o:Oper}{r:List Oper}{τ τ' :Env}{σ σ' :Sto}{Kt:Env→Sto→Prop}
def Yw{t ty:TypeId}{x:Operand}{cs:List D}{n:Nat}{f:Bool}{e:TypeId}(q:o.op=.binOp .eql t x (.const (.slice none 0 0)) ty)(u:P.underlying t=some (.slice e))(L:ev τ x=some (.list cs n f)):
 AOp P N o τ σ (λd s=>s=σ/\∃b:Bool,d=.bool b/\(b=true->cs=[])):=by
 intro B G w a C E next Q J
 have k:=bg E L;simp only[Rep]at k;obtain⟨g,c,K,R,S,U,A⟩:=k;have m:∃b:Bool,(Op.equal t (.slice g n c) (.slice none 0 0)).run P w=.ok b w/\(b=true->cs=[]):=by
  have p:∀x y,Op.equal t x y=Op.equalIn (9999+1) t x y:=λ_ _=>rfl;simp only[p];clear p;generalize (9999:Nat)=dep;cases g with
  |none=>
   refine⟨true,by simp[Op.equalIn,ald u],λ_=> ?_⟩;rcases A with⟨b,V,h,_⟩|h
   ·cases h
   ·exact h
  |some g=>exact⟨false,by simp[Op.equalIn,ald u],λh=>by cases h⟩
 obtain⟨b,F,H⟩:=m;have j:(execOp a.eval o).run P w=.ok (.value (.bool b)) w:=by
  obtain⟨v,W,O,M,l,guard⟩:=o;simp only at q;subst q;unfold execOp;have z:a.eval (.const (.slice none 0 0))=.slice none 0 0:=rfl;have I:(eqGuard .eql t x (.const (.slice none 0 0)) (.slice g n c) (.slice none 0 0)).run P w=.ok () w:=uP (λ_ _=>.inl siq) (.inl siq);have i:(binOp .eql t (.slice g n c) (.slice none 0 0)).run P w=.ok (.bool b) w:=by
   rw[Vb (by simp[DC]),F];rfl
  simp only[K,z,alh,I,ak9,i,als]
 unfold Oper.wp;rw[j];exact J _ w G _ σ (.refl G) C (by simp only[Rep]) ⟨rfl,b,rfl,H⟩
def aa6{t ty:TypeId}{x:Operand}{cs:List D}{n:Nat}{f:Bool}{e:TypeId}{a:Nat}(c:bw all τ o=some true)(j:o.op=.binOp .eql t x (.const (.slice none 0 0)) ty)(k:P.underlying t=some (.slice e))
 (l:ev τ x=some (.list cs n f))(hd:o.dst=some a)(g:Nat.blt a N=true)(h:∀b:Bool,(b=true->cs=[])->eR P N all r ((a,.bool b)::τ) σ Kt):eR P N all (o::r) τ σ Kt:=by
 refine .inl ⟨c,(Yw j k l).mono ?_⟩;rintro d s ⟨rfl,b,rfl,i⟩;refine⟨(a,.bool b)::τ,?_,h b i⟩;unfold eg;rw[hd];simp only;exact ali (alb g)
end
def aer{T:Tys}{τ:Env}{σ:Sto}{t c:TypeId}{s x:Operand}{sz by' n:Nat}{cs:List D}{f:Bool}(d:lk2 T.app t c=some (sz,by'))(e:ev τ s=some (.list [] 0 true))(g:ev τ x=some (.list cs n f))
 (k:0<n)(j:cs.length=n*sz)(i:cs.all D.isCell=true)(h:n*by'<=ba)(a:n<=ba):aop T τ σ (.call {callee:=.builtin .append,args:= #[s,x],argTypes:= #[t,c]})=some (.sl σ.length 0 0 n sz false,σ++[.cells cs 0 0]):=by
 show nS T τ σ [s,x] [t,c]=_;have b:¬n=0:=omq;simp[nS,d,e,g,IY,oA,j,i,b,h,a]
def aes{σ:Sto}{l u n sz fz:Nat}{cs:List D}{f:Bool}(b:σ[l]?=some (.cells cs fz u))(a:cs.length=n*sz):C6 σ (.sl l u 0 n sz f)=some (.list cs n f,σ.set l (.cells cs cs.length u)):=by
 have c:¬(n*sz)>cs.length:=omq;simp[C6,Se,H8,b,a,alw (Nat.le_of_eq a)]
end Go.Fw
def alB:=@List.length_take
def al0:=@List.length_drop
def amx:=@UInt8.toNat_ofNat'
namespace Go.Fw
open Go.RowKit
def aB(d e:D):Prop:=∀(G:Gh)(v:Value),Rep G d v->Rep G e v
def aB.refl(d:D):aB d d:=λ_ _ h=>h
def aB.list{cs:List D}{n:Nat}{f:Bool}:aB (.list cs n f) (.list cs n false):=by
 intro G v h;simp only[Rep]at h⊢;obtain⟨a,b,e,c,g,_,j⟩:=h;refine⟨a,b,e,c,g,?_,j⟩;intro h;cases h
def bp:List D->List D->Prop
 |[],l=>l=[]
 |d::a,l=>match l with
  |e::b=>aB d e/\bp a b
  |[]=>False
def bp.reps{G:Gh}:∀{ds es:List D}{vs:List Value},bp ds es->af G ds vs->af G es vs
 |[],es,_,h,a=>by
  have h:es=[]:=h;subst h;exact a
 |d::ds,[],_,h,_=>h.elim
 |d::ds,e::es,_,h,a=>by
  simp only[af]at a⊢;obtain⟨v,r,rfl,b,c⟩:=a;exact⟨v,r,rfl,h.1 G v b,bp.reps h.2 c⟩
def aB.agg{ds es:List D}(h:bp ds es):aB (.agg ds) (.agg es):=by
 intro G v b;simp only[Rep]at b⊢;obtain⟨a,e,c⟩:=b;exact⟨a,e,h.reps c⟩
def aB.tuple{ds es:List D}(h:bp ds es):aB (.tuple ds) (.tuple es):=by
 intro G v b;simp only[Rep]at b⊢;obtain⟨a,e,c⟩:=b;exact⟨a,e,h.reps c⟩
def cq.weak{P:Program}{f:FuncId}{ds:List D}{d e:D}(h:cq P f ds d)(n:aB d e):cq P f ds e:=
 λG w a k l m=>(h G w a k l m).mono λ_ _ ⟨v,b,c,g,j⟩=>⟨v,b,c,g,n _ _ j⟩
section
variable {P:Program}{T:Tys}{N:Nat}{all:Array Oper}{o:Oper}{r:List Oper}{τ τ' :Env}{σ σ' :Sto}{d e:D}{Kt:Env→Sto→Prop}
def AOp.weak(h:AOp P N o τ σ λb s=>b=d/\s=σ')(n:aB d e):AOp P N o τ σ λb s=>b=e/\s=σ':=by
 intro B G w a k l next Q m
 refine h B G w a k l next Q ?_
 rintro v p c b s f g j ⟨rfl,rfl⟩;exact m v p c e _ f g (n _ _ j) ⟨rfl,rfl⟩
def goP(b:bw all τ o=some true)(c:AOp P N o τ σ λa s=>a=d/\s=σ')(f:eg N o.dst d τ=some τ')(h:eR P N all r τ' σ' Kt):eR P N all (o::r) τ σ Kt:=
 .inl ⟨b,c.mono (by rintro a s ⟨rfl,rfl⟩;exact⟨τ',f,h⟩)⟩
end
def slc{α:Type}(xs:List α)(b a:Int):Option (List α):=if 0<=b/\b<=a/\a<=xs.length then some ((xs.take a.toNat).drop b.toNat) else none
def PE{α:Type}{xs ys:List α}{b a:Int}(h:slc xs b a=some ys):0<=b/\b<=a/\a<=xs.length/\ys=(xs.take a.toNat).drop b.toNat/\ys.length=a.toNat-b.toNat:=by
 unfold slc at h;split at h<;>try (cases h;done)
 rename_i c;cases h;refine⟨c.1,c.2.1,c.2.2,rfl,?_⟩;simp only[al0,alB];omega
def Of{α:Type}(E:Enc α)(xs:List α)(l h:Nat)(a:l<=h):((bH E xs).drop (l*E.sz)).take ((h-l)*E.sz)=bH E ((xs.take h).drop l):=by
 rw[FV,Nl,aoj]
section
variable {α:Type}{T:Tys}{τ:Env}{σ:Sto}{E:Enc α}{xs ys:List α}
def cat(a b:List UInt8):Option (List UInt8):=if a.length+b.length<=9223372036854775807 then some (a++b) else none
def mA:Enc UInt8:=mkE 1 (λb=>[.int .u8 b.toNat]) (λ_=>rfl) (λ_=>rfl) (λ_=>rfl)
def ajB:Enc Bool:=mkE 1 (λb=>[.bool b]) (λ_=>rfl) (λ_=>rfl) (λ_=>rfl)
def ajC{a:Type}(F:Enc a):Enc (List a):=mkE 1 (λxs=>[.list (bH F xs) xs.length false]) (λ_=>rfl) (λ_=>by simp[bo,D.pure,flat_pure]) (λ_=>rfl)
def GW:∀s:List UInt8,bH mA s=s.map λb=>.int .u8 b.toNat
 |[]=>rfl
 |b::s=>by rw[gn,GW s];rfl
def GX:∀s:List UInt8,jv (bH mA s)=some s
 |[]=>rfl
 |b::s=>by
  have:zX (.int .u8 b.toNat)=some b:=by simp[zX]
  show(match zX (.int .u8 b.toNat),jv (bH mA s) with
   |some b,some a=>some (b::a)
   |_,_=>none)=_
  rw[this,GX s]
def GY(s:List UInt8):Option (List UInt8):=if s.length<=ba then some s else none
def toB(n:Int):Option UInt8:=if 0<=n/\n<256 then some (UInt8.ofNat n.toNat) else none
def afO{n:Int}{b:UInt8}(h:toB n=some b):n=(b.toNat:Int):=by
 unfold toB at h;split at h<;>try (cases h;done)
 rename_i a;cases h;simp only[amx];omega
end
section
variable {α:Type}{T:Tys}{τ:Env}{σ:Sto}{E:Enc α}{xs:List α}
end
def GZ:List LK->List D->List D->Option Bool
 |[],[],[]=>some true
 |k::g,a::c,b::f=>match ig k a b,GZ g c f with
  |some r,some s=>some (r&&s)
  |_,_=>none
 |_,_,_=>none
def Lr:∀(ks:List LK)(a b:List D)(r:Bool),GZ ks a b=some r->iL ks a b=some r
 |[],[],[],r,h=>h
 |[],[],_::_,r,h=>by cases h
 |[],_::_,_,r,h=>by cases h
 |k::ks,[],_,r,h=>by cases h
 |k::ks,a::c,[],r,h=>by cases h
 |k::ks,a::c,b::f,r,h=>by
  simp only[GZ]at h;split at h<;>try (cases h;done)
  rename_i x y g j;cases h;have:=Lr ks c f y j;simp only[iL,g];cases x
  ·rfl
  ·simpa using this
section
variable {T:Tys}{τ:Env}{σ:Sto}
end
section
variable {P:Program}{T:Tys}{N:Nat}{ops:Array Oper}{A:Res}{M:List Nat}{o:Oper}{r:List Oper}{i:Nat}{τ τ2:Env}{S:List Sto}{C:List Nat}{tab:List Rc}{K:Env→Sto→Prop}{σ σ' :Sto}{d:D}
def aid(a:gx (λ(x:Nat×Nat×List D)=>∃r:Rc,tab[x.1]?=some r/\r.kd=.alloc x.2.1 x.2.2) A)(b:S.getLast?=some σ)(h:K τ σ):ADr P N ops A M [] i τ S C tab K:=⟨a,σ,b,h⟩
def ajD(a:bw ops (rst ops o τ) o=some false)(b:eg N o.dst (.tuple []) τ=some τ2)(h:ADr P N ops A M r (i+1) τ2 S C (tab++[⟨o,rst ops o τ,.tuple [],.skip⟩]) K):ADr P N ops A M (o::r) i τ S C tab K:=
 .inl ⟨a,τ2,b,h⟩
def Wh(b:bw ops (rst ops o τ) o=some true)(c:gx (λs=>AOp P N o (rst ops o τ) s λa g=>a=d/\g=s) ((nr (M.getD i 0) S C).flatMap λσ=>(fj A (M.getD i 0)).map (cp · σ)))
 (f:eg N o.dst d τ=some τ2)(h:ADr P N ops A M r (i+1) τ2 S C (tab++[⟨o,rst ops o τ,d,.read⟩]) K):ADr P N ops A M (o::r) i τ S C tab K:=
 .inr (.inl ⟨b,d,τ2,c,f,h⟩)
def adi(tok:TOk T P){e:TypeId}{l:Nat}{cs:List D}(a:bw ops (rst ops o τ) o=some true)(b:o.op=.alloc e)(c:tG A i=some (l,cs))(f:lk T.zero e=some cs)(g:eg N o.dst (.ptr l 0 0) τ=some τ2)
 (h:ADr P N ops A M r (i+1) τ2 S C (tab++[⟨o,rst ops o τ,.ptr l 0 0,.alloc l cs⟩]) K):ADr P N ops A M (o::r) i τ S C tab K:=
 .inr (.inr (.inr ⟨a,e,l,cs,τ2,b,c,fU tok.zero f,g,h⟩))
end
end Go.Fw
namespace Go.Fw
open Go.RowKit
def abF{α:Type}{l:List α}{i:Nat}{x:α}(h:l[i]?=some x):l.set i x=l:=by
 apply amv;intro j;by_cases e:i=j
 ·subst e;rw[alP (aj h),h]
 ·rw[alI e]
section
variable {P:Program}{B:bE P}{G:Gh}{σ:Sto}{w:World}{N:Nat}{i:Nat}{c:Code}{τ τ' :Env}{σ' :Sto}{Q:AEx→Env→Sto→Prop}
def Rel.newObj(d:Rel B G σ w):Rel B G (σ++[.cells [] 0 0]) w:=by
 have g:∀{l u b:Nat}{f:aq},G.blk l u=some b->(σ++[aq.cells [] 0 0])[l]?=some f->σ[l]?=some f:=by
  intro l u b f e a;rwa[ak8 (d.blk _ _ _ e).1]at a
 have look:∀{l:Nat}{f:aq},(σ++[aq.cells [] 0 0])[l]?=some f->σ[l]?=some f∨(l=σ.length/\f=.cells [] 0 0):=by
  intro l f a;rcases alf l σ.length with h|h
  ·rw[ak8 h]at a;exact .inl a
  ·rw[ale h]at a;cases m:l-σ.length with
   |zero=>rw[m]at a;simp at a;exact .inr ⟨omq,a.symm⟩
   |succ k=>rw[m]at a;simp at a
 refine⟨d.below,d.imm,d.mimm,d.siz,λl u b e=> ?_,d.inj,λl f b a e=>d.obj l f b (g e a) e,λl n j u b a e=>d.own l n j u b (g e a) e,λl q s b a e=>d.ownm l q s b (g e a) e,λl f a=> ?_,λl f a=> ?_,d.bimm,d.bmimm⟩
 ·obtain⟨t,p⟩:=d.blk l u b e;exact⟨by simp;omega,p⟩
 ·rcases look a with h|⟨rfl,rfl⟩
  ·exact d.ver l f h
  ·exact⟨ak7 _,λu b e=>absurd (d.blk _ _ _ e).1 (ama _)⟩
 ·rcases look a with h|⟨rfl,rfl⟩
  ·exact d.frzle l f h
  ·exact ak7 _
def Rel.weakObj(d:Rel B G σ w){l f v:Nat}{cs cs':List D}(n:σ[l]?=some (.cells cs f v))(t:cs'.length=cs.length)(J:∀m,af G cs m->af G cs' m):Rel B G (σ.set l (.cells cs' f v)) w:=by
 have p:=aj n;have look:∀{a:Nat}{g:aq},(σ.set l (.cells cs' f v))[a]?=some g->(a=l/\g=.cells cs' f v)∨(a≠l/\σ[a]?=some g):=by
  intro a g h;by_cases e:a=l
  ·subst e;rw[alP p]at h;exact .inl ⟨rfl,(alX h).symm⟩
  ·rw[alI (amO e)]at h;exact .inr ⟨e,h⟩
 refine⟨d.below,d.imm,d.mimm,d.siz,λa u b j=> ?_,d.inj,λa g b k j=> ?_,λa y q u b k j o x s=> ?_,λa K m b k j=> ?_,λa g k=> ?_,λa g k=> ?_,d.bimm,d.bmimm⟩
 ·rw[ams];exact d.blk a u b j
 ·rcases look k with⟨rfl,rfl⟩|⟨_,h⟩
  ·obtain⟨m,z,A,C,L,I,F,H⟩:=d.obj a (.cells cs f v) b n j;exact⟨m,z,A,C,L,I,F,J _ H⟩
  ·exact d.obj a g b h j
 ·rcases look k with⟨rfl,h⟩|⟨_,h⟩
  ·cases h;exact d.own a _ _ _ b n j o x s
  ·exact d.own a _ _ _ b h j o x s
 ·rcases look k with⟨_,h⟩|⟨_,h⟩
  ·cases h
  ·exact d.ownm a K m b h j
 ·rcases look k with⟨rfl,rfl⟩|⟨_,h⟩
  ·have:=d.ver a _ n;exact⟨by simp only[aq.ver,aq.len]at this⊢;omega,this.2⟩
  ·exact d.ver a g h
 ·rcases look k with⟨rfl,rfl⟩|⟨_,h⟩
  ·have:=d.frzle a _ n;simp only[aq.frz,aq.len]at this⊢;omega
  ·exact d.frzle a g h
def Ew{l sz:Nat}{v:Value}(h:Rep G (.list [] 0 true) v):Rep G (.sl l 0 0 0 sz false) v:=by
 simp only[Rep]at h⊢;obtain⟨a,b,rfl,_,_,d,_⟩:=h;have:=d trivial;subst this;exact .inr ⟨trivial,a,rfl⟩
def af.set_weak{d g:D}(j:∀v,Rep G d v->Rep G g v):∀{cs:List D}{o:Nat}{vs:List Value},cs[o]?=some d->af G cs vs->af G (cs.set o g) vs
 |[],_,_,h,_=>by simp at h
 |x::cs,0,vs,h,a=>by
  simp at h;subst h;simp only[am7,af]at a⊢;obtain⟨v,r,e,b,f⟩:=a;exact⟨v,r,e,j v b,f⟩
 |x::cs,o+1,vs,h,a=>by
  simp only[aml]at h;simp only[anJ,af]at a⊢;obtain⟨v,r,e,b,f⟩:=a;exact⟨v,r,e,b,af.set_weak j h f⟩
end
def app{α:Type}(by':Nat)(xs ys:List α):Option (List α):=if (xs.length+ys.length)*by'<=ba/\xs.length+ys.length<=ba then some (xs++ys) else none
section
variable {α:Type}{P:Program}{T:Tys}{τ τ' :Env}{σ σ' :Sto}{E:Enc α}{xs ys zs:List α}
def AOp.frz{N:Nat}{o:Oper}{d e:D}{σ1:Sto}(h:AOp P N o τ σ λb s=>b=d/\s=σ1)(p:H8 σ1 d=some (e,σ')):AOp P N o τ σ λb s=>b=e/\s=σ':=by
 intro B G w a l m next Q n
 refine h B G w a l m next Q ?_
 rintro v x y b s g j k ⟨rfl,rfl⟩;obtain⟨f,q,t,u⟩:=Os j p k;exact n v x f e _ (g.trans q) t u ⟨rfl,rfl⟩
end
end Go.Fw
namespace Go.Fw
section
variable {P:Program}{T:Tys}{N:Nat}{all:Array Oper}{o:Oper}{r:List Oper}{τ τ' :Env}{σ σ1 σ' :Sto}{Kt:Env→Sto→Prop}
end
end Go.Fw
namespace Go.Fw
open Go.RowKit
section
variable {P:Program}{N:Nat}{all:Array Oper}{Kt:Env→Sto→Prop}
def eR.monoK{K j:Env->Sto->Prop}(g:∀τ σ,K τ σ->j τ σ):∀(l:List Oper)(τ:Env)(σ:Sto),eR P N all l τ σ K->eR P N all l τ σ j
 |[],τ,σ,h=>g τ σ h
 |o::r,τ,σ,h=>by
  rcases h with⟨b,e⟩|⟨b,a,e,f⟩
  ·refine .inl ⟨b,e.mono ?_⟩;rintro d s ⟨a,f,k⟩;exact⟨a,f,eR.monoK g r a s k⟩
  ·exact .inr ⟨b,a,e,eR.monoK g r a σ f⟩
end
end Go.Fw
namespace Go.Fw
section
variable {i:Nat}{P:Program}{N:Nat}{c c1 c2:Code}{τ:Env}{σ:Sto}{Q:AEx→Env→Sto→Prop}
def rg{id:Nat}{ops:Array Oper}(h:eR P N ops ops.toList τ σ (λa σ'=>Q .normal a σ')):AWp i P N (.region id ops false) τ σ Q:=bJ h
end
end Go.Fw
namespace Go.Fw
open Go.RowKit
section
variable {P:Program}{T:Tys}{N:Nat}{o:Oper}{τ:Env}{σ σ' :Sto}
def Rel.oneMore{P:Program}{B:bE P}{G:Gh}{w:World}{ob:aq}(p:ob.ver=0)(a:Rel B G (σ++[ob]) w):Rel B G (σ++[.gone]) w:=by
 have look:∀{l:Nat}{x:aq},(σ++[aq.gone])[l]?=some x->(l<σ.length/\(σ++[ob])[l]?=some x)∨(l=σ.length/\x=.gone):=by
  intro l x h;rcases alf l σ.length with f|f
  ·rw[ak8 f]at h;exact .inl ⟨f,by rw[ak8 f];exact h⟩
  ·rw[ale f]at h;cases m:l-σ.length with
   |zero=>rw[m]at h;simp at h;exact .inr ⟨omq,h.symm⟩
   |succ k=>rw[m]at h;simp at h
 have j:(σ++[ob])[σ.length]?=some ob:=by simp
 refine⟨a.below,a.imm,a.mimm,a.siz,λl u b d=> ?_,a.inj,λl x b e d=> ?_,λl n g u b e d=> ?_,λl q r b e d=> ?_,λl x e=> ?_,λl x e=> ?_,a.bimm,a.bmimm⟩
 ·have:=a.blk l u b d;exact⟨by simpa using this.1,this.2⟩
 ·rcases look e with⟨_,h⟩|⟨rfl,rfl⟩
  ·exact a.obj l x b h d
  ·exact(a.blk _ _ _ d).2.2
 ·rcases look e with⟨_,h⟩|⟨_,h⟩
  ·exact a.own l n g u b h d
  ·cases h
 ·rcases look e with⟨_,h⟩|⟨_,h⟩
  ·exact a.ownm l q r b h d
  ·cases h
 ·rcases look e with⟨_,h⟩|⟨rfl,rfl⟩
  ·exact a.ver l x h
  ·refine⟨ak7 _,λu b d=> ?_⟩;have:=(a.ver _ _ j).2 u b d;rw[p]at this;exact this
 ·rcases look e with⟨_,h⟩|⟨_,rfl⟩
  ·exact a.frzle l x h
  ·exact ak7 _
variable {α:Type}{E:Enc α}{xs ys zs:List α}
end
end Go.Fw
namespace Go.Fw
open Go.RowKit
inductive Node where
 |mk(cls num:Int)(cons:Bool)(content:List UInt8)(kids:List Node)
 deriving Inhabited
def Node.cls:Node->Int|.mk c _ _ _ _=>c
def Node.num:Node->Int|.mk _ m _ _ _=>m
def Node.cons:Node->Bool|.mk _ _ k _ _=>k
def Node.body:Node->List UInt8|.mk _ _ _ b _=>b
def Node.kids:Node->List Node|.mk _ _ _ _ ks=>ks
inductive Spot where
 |mk(at' stop:Int)(nd:Node)(kids:List Spot)
 deriving Inhabited
def Spot.at':Spot->Int|.mk a _ _ _=>a
def Spot.stop:Spot->Int|.mk _ e _ _=>e
def Spot.nd:Spot->Node|.mk _ _ n _=>n
def Spot.kids:Spot->List Spot|.mk _ _ _ ks=>ks
inductive TC where
 |byte|int(k:IntKind)|bool|str|sl(t:TC)|pair(a b:TC)|unit|node|spot
 deriving DecidableEq,Inhabited
@[reducible] def TC.Den:TC->Type
  |.byte=>UInt8
  |.int _=>Int
  |.bool=>Bool
  |.str=>List UInt8
  |.sl t=>List t.Den
  |.pair a b=>a.Den×b.Den
  |.unit=>Unit
  |.node=>Node
  |.spot=>Spot
def NI(b:List UInt8):D:=.list (bH mA b) b.length false
mutual
def CM:Node->List D
 |.mk c n k b ks=>[.int .i64 c,.int .i64 n,.bool k,NI b,.list (tj ks) ks.length false]
def tj:List Node->List D
 |[]=>[]
 |n::ns=>CM n++tj ns
end
def I7{a b:List D}(c:bo a=true)(d:bo b=true):bo (a++b)=true:=by rw[Bh,c,d];rfl
mutual
def EA:∀n,bo (CM n)=true
 |.mk c n k b ks=>by simp[CM,bo,D.pure,NI,flat_pure,wV ks]
def wV:∀ns,bo (tj ns)=true
 |[]=>rfl
 |n::ns=>by simp only[tj];exact I7 (EA n) (wV ns)
end
mutual
def CN:Spot->List D
 |.mk a e (.mk c n k b ks) ss=>[.int .i64 a,.int .i64 e,.int .i64 c,.int .i64 n,.bool k,NI b,.list (tj ks) ks.length false,.list (xW ss) ss.length false]
def xW:List Spot->List D
 |[]=>[]
 |n::ns=>CN n++xW ns
end
mutual
def EB:∀n,bo (CN n)=true
 |.mk a e (.mk c n k b ks) ss=>by simp[CN,bo,D.pure,NI,flat_pure,wV ks,EC ss]
def EC:∀ns,bo (xW ns)=true
 |[]=>rfl
 |n::ns=>by simp only[xW];exact I7 (EB n) (EC ns)
end
def aiT:Enc Spot:=⟨8,CN,xW,rfl,λ_ _=>rfl,λn=>by cases n with|mk a e n b=>cases n;rfl,EB,λn=>by cases n with|mk a e n b=>cases n;rfl⟩
def aiU:Enc Node:=⟨5,CM,tj,rfl,λ_ _=>rfl,λn=>by cases n;rfl,EA,λn=>by cases n;rfl⟩
def aiV:Enc Unit:=mkE 0 (λ_=>[]) (λ_=>rfl) (λ_=>rfl) (λ_=>rfl)
def aiW{α a:Type}(A:Enc α)(B:Enc a):Enc (α×a):=mkE (A.sz+B.sz) (λx=>A.cells x.1++B.cells x.2) (λx=>by simp[A.len,B.len]) (λx=>I7 (A.pure _) (B.pure _)) (λx=>by simp only[anO,A.cell,B.cell,amJ])
def aiX(k:IntKind):Enc Int:=mkE 1 (λn=>[.int k n]) (λ_=>rfl) (λ_=>rfl) (λ_=>rfl)
def uW:Enc (List UInt8):=mkE 1 (λs=>[.str s]) (λ_=>rfl) (λ_=>rfl) (λ_=>rfl)
def TC.enc:(t:TC)->Enc t.Den
 |.byte=>mA
 |.int k=>aiX k
 |.bool=>ajB
 |.str=>uW
 |.sl t=>ajC t.enc
 |.pair a b=>aiW a.enc b.enc
 |.unit=>aiV
 |.node=>aiU
 |.spot=>aiT
abbrev TC.flat(t:TC)(xs:List t.Den):List D:=bH t.enc xs
abbrev TC.sz(t:TC):Nat:=t.enc.sz
abbrev TC.cells(t:TC)(x:t.Den):List D:=t.enc.cells x
inductive SV where
 |int(k:IntKind)(n:Int)
 |bool(b:Bool)
 |str(s:List UInt8)
 |sl(t:TC)(xs:List t.Den)(full:Bool)
 |nils
 |lst(cs:List SV)(n:Nat)(full:Bool)
 |agg(cs:List SV)
 |tup(cs:List SV)
 |func(fn:Fn)(a b:List SV)
 |iface(t:TypeId)(v:SV)
 |own(l g:Nat)
 |ap(l g:Nat)(i:Int)(o:Nat)
 |rp(t:TC)(x:t.Den)(o:Nat)
 |rc(cs:List SV)(o:Nat)
 |raw(d:D)
 deriving Inhabited
inductive il where
 |cells(cs:List SV)(fz:Bool)
 |arr(t:TC)(xs:List t.Den)(fz:Bool)(g:Nat)
 |raw(o:aq)
 |it(s:List UInt8)(pos:Int)
 |smap(ks:List (List UInt8))
 |junk
 deriving Inhabited
abbrev ax:=List (Nat×SV)
abbrev ae:=List il
def Bx(S:ae)(σ:Sto)(l g:Nat)(d:D):Prop:=
 l<S.length/\∀t b e a,S[l]?=some (.arr t b e a)->g<=a/\(g=a->∃c u,σ[l]?=some (.cells (t.flat b) c u)/\d=.sl l u 0 b.length t.sz false)
def ApR(S:ae)(σ:Sto)(l g:Nat)(i:Int)(o:Nat)(d:D):Prop:=
 l<S.length/\∀t b e a,S[l]?=some (.arr t b e a)->g<=a/\(g=a->∃c u,σ[l]?=some (.cells (t.flat b) c u)/\d=.ptr l u (i.toNat*t.sz+o))
mutual
def VR(S:ae)(σ:Sto):SV->D->Prop
 |.int k n,d=>d=.int k n
 |.bool b,d=>d=.bool b
 |.str s,d=>d=.str s
 |.sl t xs f,d=>∃f',d=.list (t.flat xs) xs.length f'/\(f=true->f'=true)
 |.nils,d=>d=.list [] 0 true
 |.lst cs n f,d=>∃ds f',d=.list ds n f'/\(f=true->f'=true)/\VRs S σ cs ds
 |.agg cs,d=>∃ds,d=.agg ds/\VRs S σ cs ds
 |.tup cs,d=>∃ds,d=.tuple ds/\VRs S σ cs ds
 |.func fn a b,d=>∃da db,d=.func fn da db/\VRs S σ a da/\VRs S σ b db
 |.iface t v,d=>∃e,d=.iface t e/\VR S σ v e
 |.own l g,d=>Bx S σ l g d
 |.ap l g i o,d=>ApR S σ l g i o d
 |.rp t x o,d=>∃hd tl,d=.rptr (hd++t.cells x++tl) (hd.length+o)
 |.rc cs o,d=>∃ds,d=.rptr ds o/\VRs S σ cs ds
 |.raw e,d=>d=e
def VRs (S:ae) (σ:Sto):List SV->List D->Prop
 |[],ds=>ds=[]
 |v::vs,ds=>∃e es,ds=e::es/\VR S σ v e/\VRs S σ vs es
end
structure aK(S:ae)(σ:Sto)(S':ae)(σ':Sto):Prop where
 own:∀l g d,Bx S σ l g d->Bx S' σ' l g d
 ap:∀l g i o d,ApR S σ l g i o d->ApR S' σ' l g i o d
def aK.refl(S:ae)(σ:Sto):aK S σ S σ:=⟨λ_ _ _ h=>h,λ_ _ _ _ _ h=>h⟩
def aK.trans{S S' b:ae}{σ σ' a:Sto}(h:aK S σ S' σ')(k:aK S' σ' b a):aK S σ b a:=
 ⟨λl g d x=>k.own l g d (h.own l g d x),λl g i o d x=>k.ap l g i o d (h.ap l g i o d x)⟩
mutual
def VR.pres{S S':ae}{σ σ':Sto}(h:aK S σ S' σ'):∀(v:SV)(d:D),VR S σ v d->VR S' σ' v d
 |.int _ _,_,x=>by simpa only[VR] using x
 |.bool _,_,x=>by simpa only[VR] using x
 |.str _,_,x=>by simpa only[VR] using x
 |.sl _ _ _,_,x=>by simpa only[VR] using x
 |.nils,_,x=>by simpa only[VR] using x
 |.lst cs _ _,_,x=>by
  simp only[VR]at x⊢;obtain⟨ds,f',e,hf,hv⟩:=x;exact⟨ds,f',e,hf,VRs.pres h cs ds hv⟩
 |.agg cs,_,x=>by
  simp only[VR]at x⊢;obtain⟨ds,e,hv⟩:=x;exact⟨ds,e,VRs.pres h cs ds hv⟩
 |.tup cs,_,x=>by
  simp only[VR]at x⊢;obtain⟨ds,e,hv⟩:=x;exact⟨ds,e,VRs.pres h cs ds hv⟩
 |.func _ a b,_,x=>by
  simp only[VR]at x⊢;obtain⟨da,db,e,h1,h2⟩:=x;exact⟨da,db,e,VRs.pres h a da h1,VRs.pres h b db h2⟩
 |.iface _ v,_,x=>by
  simp only[VR]at x⊢;obtain⟨e,h1,h2⟩:=x;exact⟨e,h1,VR.pres h v e h2⟩
 |.own _ _,_,x=>by simp only[VR]at x⊢;exact h.own _ _ _ x
 |.ap _ _ _ _,_,x=>by simp only[VR]at x⊢;exact h.ap _ _ _ _ _ x
 |.rp _ _ _,_,x=>by simpa only[VR] using x
 |.rc cs _,_,x=>by
  simp only[VR]at x⊢;obtain⟨ds,e,hv⟩:=x;exact⟨ds,e,VRs.pres h cs ds hv⟩
 |.raw _,_,x=>by simpa only[VR] using x
def VRs.pres {S S':ae} {σ σ':Sto} (h:aK S σ S' σ'):∀(vs:List SV)(ds:List D),VRs S σ vs ds->VRs S' σ' vs ds
 |[],_,x=>by simpa only[VRs] using x
 |v::vs,_,x=>by
  simp only[VRs]at x⊢;obtain⟨e,es,h1,h2,h3⟩:=x;exact⟨e,es,h1,VR.pres h v e h2,VRs.pres h vs es h3⟩
end
mutual
def SV.pure:SV->Bool
 |.lst cs _ _=>SV.pures cs
 |.agg cs=>SV.pures cs
 |.tup cs=>SV.pures cs
 |.func _ a b=>SV.pures a&&SV.pures b
 |.iface _ v=>v.pure
 |.own _ _=>false
 |.ap _ _ _ _=>false
 |.rp _ _ _=>false
 |.rc cs _=>SV.pures cs
 |.raw d=>d.pure
 |_=>true
def SV.pures:List SV->Bool
 |[]=>true
 |v::vs=>v.pure&&SV.pures vs
end
def TC.flat_pure(t:TC)(xs:List t.Den):bo (t.flat xs)=true:=Go.Fw.flat_pure _ _
mutual
def VR.pure{S S':ae}{σ σ':Sto}:∀(v:SV)(d:D),v.pure=true->VR S σ v d->VR S' σ' v d/\d.pure=true
 |.int _ _,_,_,x=>by simp only[VR]at x⊢;subst x;exact⟨rfl,rfl⟩
 |.bool _,_,_,x=>by simp only[VR]at x⊢;subst x;exact⟨rfl,rfl⟩
 |.str _,_,_,x=>by simp only[VR]at x⊢;subst x;exact⟨rfl,rfl⟩
 |.sl t xs _,_,_,x=>by simp only[VR]at x⊢;obtain⟨f',rfl,h⟩:=x;exact⟨⟨f',rfl,h⟩,t.flat_pure xs⟩
 |.nils,_,_,x=>by simp only[VR]at x⊢;subst x;exact⟨rfl,rfl⟩
 |.lst cs _ _,_,p,x=>by
  simp only[VR]at x⊢;obtain⟨ds,f',rfl,hf,hv⟩:=x;obtain⟨h1,h2⟩:=VRs.pure cs ds p hv;exact⟨⟨ds,f',rfl,hf,h1⟩,h2⟩
 |.agg cs,_,p,x=>by
  simp only[VR]at x⊢;obtain⟨ds,rfl,hv⟩:=x;obtain⟨h1,h2⟩:=VRs.pure cs ds p hv;exact⟨⟨ds,rfl,h1⟩,h2⟩
 |.tup cs,_,p,x=>by
  simp only[VR]at x⊢;obtain⟨ds,rfl,hv⟩:=x;obtain⟨h1,h2⟩:=VRs.pure cs ds p hv;exact⟨⟨ds,rfl,h1⟩,h2⟩
 |.func _ a b,_,p,x=>by
  simp only[VR]at x⊢;simp only[SV.pure,akY]at p;obtain⟨da,db,rfl,h1,h2⟩:=x;obtain⟨a1,a2⟩:=VRs.pure a da p.1 h1;obtain⟨b1,b2⟩:=VRs.pure b db p.2 h2;exact⟨⟨da,db,rfl,a1,b1⟩,by simp[D.pure,a2,b2]⟩
 |.iface _ v,_,p,x=>by
  simp only[VR]at x⊢;obtain⟨e,rfl,h2⟩:=x;obtain⟨a1,a2⟩:=VR.pure v e p h2;exact⟨⟨e,rfl,a1⟩,a2⟩
 |.own _ _,_,p,_=>by cases p
 |.ap _ _ _ _,_,p,_=>by cases p
 |.rp t y o,_,p,_=>by cases p
 |.rc cs _,_,p,x=>by
  simp only[VR]at x⊢;obtain⟨ds,rfl,hv⟩:=x;obtain⟨h1,h2⟩:=VRs.pure cs ds p hv;exact⟨⟨ds,rfl,h1⟩,h2⟩
 |.raw e,_,p,x=>by simp only[VR]at x⊢;subst x;exact⟨rfl,p⟩
def VRs.pure {S S':ae} {σ σ':Sto}:∀(vs:List SV)(ds:List D),SV.pures vs=true->VRs S σ vs ds->VRs S' σ' vs ds/\bo ds=true
 |[],_,_,x=>by simp only[VRs]at x⊢;subst x;exact⟨rfl,rfl⟩
 |v::vs,_,p,x=>by
  simp only[VRs]at x⊢;simp only[SV.pures,akY]at p;obtain⟨e,es,rfl,h2,h3⟩:=x;obtain⟨a1,a2⟩:=VR.pure v e p.1 h2;obtain⟨b1,b2⟩:=VRs.pure vs es p.2 h3;exact⟨⟨e,es,rfl,a1,b1⟩,by simp[bo,a2,b2]⟩
end
def Bx.mk{S:ae}{σ:Sto}{l g:Nat}{d:D}{t:TC}{xs:List t.Den}{fz:Bool}{fr u:Nat}(a:S[l]?=some (.arr t xs fz g))(c:σ[l]?=some (.cells (t.flat xs) fr u))(e:d=.sl l u 0 xs.length t.sz false):Bx S σ l g d:=
 ⟨aj a,λj f b i h=>by rw[a]at h;cases h;exact⟨ak7 _,λ_=>⟨fr,u,c,e⟩⟩⟩
def ApR.mk{S:ae}{σ:Sto}{l g o:Nat}{i:Int}{d:D}{t:TC}{xs:List t.Den}{fz:Bool}{fr u:Nat}(a:S[l]?=some (.arr t xs fz g))(c:σ[l]?=some (.cells (t.flat xs) fr u))(e:d=.ptr l u (i.toNat*t.sz+o)):ApR S σ l g i o d:=
 ⟨aj a,λk f b j h=>by rw[a]at h;cases h;exact⟨ak7 _,λ_=>⟨fr,u,c,e⟩⟩⟩
mutual
def D.lo(m:Nat):D->Bool
 |.ptr l _ _=>Nat.blt l m
 |.sl l _ _ _ _ _=>Nat.blt l m
 |.map l=>Nat.blt l m
 |.rptr cs _=>D.los m cs
 |.list cs _ _=>D.los m cs
 |.cmap a b=>D.los m a&&D.los m b
 |.pmap a b=>D.los m a&&D.los m b
 |.func _ a b=>D.los m a&&D.los m b
 |.iface _ v=>D.lo m v
 |.agg cs=>D.los m cs
 |.tuple cs=>D.los m cs
 |_=>true
def D.los (m:Nat):List D->Bool
 |[]=>true
 |d::ds=>D.lo m d&&D.los m ds
end
def aq.lo(m:Nat):aq->Bool
 |.cells c _ _=>D.los m c
 |.map a b=>D.los m a&&D.los m b
 |.miter a b _ _=>D.los m a&&D.los m b
 |_=>true
def ObR(S:ae)(σ:Sto):il->aq->Prop
 |.cells g d,b=>∃e c,b=.cells e c 0/\(d=false->c=0)/\VRs S σ g e
 |.arr t h d _,b=>∃c u,b=.cells (t.flat h) c u/\(d=false->c=0)
 |.raw a,b=>b=a
 |.it s p,b=>b=.siter s p.toNat
 |.smap f,b=>b=.map (f.map .str) (f.map λ_=>.bool true)
 |.junk,b=>b.lo 0=true
structure StR(S:ae)(σ:Sto):Prop where
 len:S.length=σ.length
 obj:∀(l:Nat)(o:il),S[l]?=some o->∃a,σ[l]?=some a/\ObR S σ o a
def kT:ax->Nat->Option SV
 |[],_=>none
 |(i,v)::r,t=>match Nat.beq i t with
  |true=>some v
  |false=>kT r t
def ER(S:ae)(σ:Sto)(τ:ax)(τ':Env):Prop:=∀t v,kT τ t=some v->∃d,get τ' t=some d/\VR S σ v d
def ER.pres{S S':ae}{σ σ':Sto}{τ:ax}{τ':Env}(h:aK S σ S' σ')(x:ER S σ τ τ'):ER S' σ' τ τ':=
 λt v c=>by obtain⟨d,a,b⟩:=x t v c;exact⟨d,a,VR.pres h v d b⟩
def tk{τ:ax}{i t:Nat}{v:SV}:kT ((i,v)::τ) t=if i=t then some v else kT τ t:=by
 simp only[kT];split
 ·rename_i h;rw[ali (bq h)]
 ·rename_i h;rw[alJ (λe=>by subst e;rw[an2]at h;cases h)]
def ER.push{S:ae}{σ:Sto}{τ:ax}{τ':Env}{t:Nat}{v:SV}{d:D}(x:ER S σ τ τ')(h:VR S σ v d):ER S σ ((t,v)::τ) ((t,d)::τ'):=by
 intro b c a;rw[tk]at a;simp only[get];by_cases e:t=b
 ·rw[ali e]at a⊢;cases a;exact⟨d,rfl,h⟩
 ·rw[alJ e]at a⊢;exact x b c a
def TC.scells:(t:TC)->t.Den->List SV
 |.byte,b=>[.int .u8 b.toNat]
 |.int k,n=>[.int k n]
 |.bool,b=>[.bool b]
 |.str,s=>[.str s]
 |.sl t,c=>[.sl t c false]
 |.pair a b,x=>a.scells x.1++b.scells x.2
 |.unit,_=>[]
 |.node,n=>[.int .i64 n.cls,.int .i64 n.num,.bool n.cons,.sl .byte n.body false,.sl .node n.kids false]
 |.spot,s=>[.int .i64 s.at',.int .i64 s.stop,.int .i64 s.nd.cls,.int .i64 s.nd.num,.bool s.nd.cons,.sl .byte s.nd.body false,.sl .node s.nd.kids false,.sl .spot s.kids false]
def VRs.append{S:ae}{σ:Sto}:∀{a b:List SV}{d c:List D},VRs S σ a d->VRs S σ b c->VRs S σ (a++b) (d++c)
 |[],_,_,_,h,k=>by simp only[VRs]at h;subst h;exact k
 |v::a,b,_,c,h,k=>by
  simp only[VRs]at h;obtain⟨e,f,rfl,g,i⟩:=h;simp only[alT,VRs];exact⟨e,f++c,rfl,g,VRs.append i k⟩
def TC.scells_ok(S:ae)(σ:Sto):∀(t:TC)(x:t.Den),VRs S σ (t.scells x) (t.cells x)
 |.byte,b=>by simp only[TC.scells,VRs,VR];exact⟨_,_,rfl,rfl,rfl⟩
 |.int k,n=>by simp only[TC.scells,VRs,VR];exact⟨_,_,rfl,rfl,rfl⟩
 |.bool,b=>by simp only[TC.scells,VRs,VR];exact⟨_,_,rfl,rfl,rfl⟩
 |.str,s=>by simp only[TC.scells,VRs,VR];exact⟨_,_,rfl,rfl,rfl⟩
 |.sl t,g=>by simp only[TC.scells,VRs,VR];exact⟨_,_,rfl,⟨false,rfl,λh=>by cases h⟩,rfl⟩
 |.pair a b,x=>VRs.append (TC.scells_ok S σ a x.1) (TC.scells_ok S σ b x.2)
 |.unit,_=>by simp only[TC.scells,VRs];rfl
 |.node,.mk c m k b d=>by
  simp only[TC.scells,VRs,VR];exact⟨_,_,rfl,rfl,_,_,rfl,rfl,_,_,rfl,rfl,_,_,rfl,⟨false,rfl,λh=>by cases h⟩,_,_,rfl,⟨false,rfl,λh=>by cases h⟩,rfl⟩
 |.spot,.mk a e (.mk c m k b d) f=>by
  simp only[TC.scells,VRs,VR];exact⟨_,_,rfl,rfl,_,_,rfl,rfl,_,_,rfl,rfl,_,_,rfl,rfl,_,_,rfl,rfl,_,_,rfl,⟨false,rfl,λh=>by cases h⟩,_,_,rfl,⟨false,rfl,λh=>by cases h⟩,_,_,rfl,⟨false,rfl,λh=>by cases h⟩,rfl⟩
def iY(t:TC):SV->Option (List t.Den)
 |.sl u a _=>match decEq u t with
  |isTrue h=>some (h▸a)
  |isFalse _=>none
 |.nils=>some []
 |_=>none
def np{S:ae}{σ:Sto}{t:TC}{v:SV}{xs:List t.Den}{d:D}(h:iY t v=some xs)(a:VR S σ v d):∃f,d=.list (t.flat xs) xs.length f:=by
 unfold iY at h;split at h
 ·split at h<;>try (cases h;done)
  rename_i e _;subst e;cases h;simp only[VR]at a;obtain⟨b,rfl,_⟩:=a;exact⟨b,rfl⟩
 ·cases h;simp only[VR]at a;subst a;refine⟨true,?_⟩;show D.list [] 0 true=.list (bH t.enc []) 0 true;rw[gH]
 ·cases h
def TC.take{α:Type}:(t:TC)->List SV->(t.Den->List SV->Option α)->Option α
 |.byte,d,K=>match d with
  |.int .u8 n::r=>(toB n).bind λb=>K b r
  |_=>none
 |.int k,d,K=>match d with
  |.int g n::r=>match decEq g k with
   |isTrue _=>K n r
   |isFalse _=>none
  |_=>none
 |.bool,d,K=>match d with
  |.bool b::r=>K b r
  |_=>none
 |.str,d,K=>match d with
  |.str s::r=>K s r
  |_=>none
 |.sl t,d,K=>match d with
  |v::r=>match iY t v with
   |some j=>K j r
   |none=>none
  |_=>none
 |.pair a b,d,K=>a.take d λx r=>b.take r λy h=>K (x,y) h
 |.unit,d,K=>K () d
 |.node,d,K=>match d with
  |.int .i64 c:: .int .i64 m:: .bool k::v::w::r=>match iY .byte v,iY .node w with
   |some b,some f=>K (.mk c m k b f) r
   |_,_=>none
  |_=>none
 |.spot,d,K=>match d with
  |.int .i64 a:: .int .i64 e:: .int .i64 c:: .int .i64 m:: .bool k::v::w::u::r=>match iY .byte v,iY .node w,iY .spot u with
   |some b,some f,some i=>K (.mk a e (.mk c m k b f) i) r
   |_,_,_=>none
  |_=>none
def bp.refl:∀a:List D,bp a a
 |[]=>rfl
 |d::a=>⟨aB.refl d,bp.refl a⟩
def bp.append:∀{a b c d:List D},bp a b->bp c d->bp (a++c) (b++d)
 |[],b,c,d,h,k=>by
  have h:b=[]:=h;subst h;exact k
 |x::a,[],_,_,h,_=>h.elim
 |x::a,y::b,c,d,h,k=>⟨h.1,bp.append h.2 k⟩
def TC.take_ok{α:Type}{S:ae}{σ:Sto}:∀(t:TC)(cs:List SV)(ds:List D)(K:t.Den->List SV->Option α)(r:α),t.take cs K=some r->VRs S σ cs ds->
 ∃x i l d2,K x i=some r/\ds=l++d2/\bp l (t.cells x)/\VRs S σ i d2
 |.byte,cs,ds,K,r,h,c=>by
  simp only[TC.take]at h;split at h<;>try (cases h;done)
  obtain⟨b,j,h⟩:=am h;simp only[VRs,VR]at c;obtain⟨e,d,rfl,rfl,g⟩:=c;exact⟨b,_,[_],d,h,rfl,by rw[afO j];exact bp.refl _,g⟩
 |.int k,cs,ds,K,r,h,c=>by
  simp only[TC.take]at h;split at h<;>try (cases h;done)
  split at h<;>try (cases h;done)
  rename_i e _;subst e;simp only[VRs,VR]at c;obtain⟨e,d,rfl,rfl,g⟩:=c;exact⟨_,_,[_],d,h,rfl,bp.refl _,g⟩
 |.bool,cs,ds,K,r,h,c=>by
  simp only[TC.take]at h;split at h<;>try (cases h;done)
  simp only[VRs,VR]at c;obtain⟨e,d,rfl,rfl,g⟩:=c;exact⟨_,_,[_],d,h,rfl,bp.refl _,g⟩
 |.str,cs,ds,K,r,h,c=>by
  simp only[TC.take]at h;split at h<;>try (cases h;done)
  simp only[VRs,VR]at c;obtain⟨e,d,rfl,rfl,g⟩:=c;exact⟨_,_,[_],d,h,rfl,bp.refl _,g⟩
 |.sl t,cs,ds,K,r,h,c=>by
  simp only[TC.take]at h;split at h<;>try (cases h;done)
  split at h<;>try (cases h;done)
  rename_i Z O;simp only[VRs]at c;obtain⟨e,d,rfl,o,g⟩:=c;obtain⟨f,rfl⟩:=np O o;exact⟨Z,_,[_],d,h,rfl,⟨aB.list,rfl⟩,g⟩
 |.pair a b,cs,ds,K,r,h,c=>by
  simp only[TC.take]at h;obtain⟨x,m,l,d2,G,rfl,X,V⟩:=TC.take_ok a cs ds _ r h c;obtain⟨y,n,u,v,o,rfl,Y,W⟩:=TC.take_ok b m d2 _ r G V;exact⟨(x,y),n,l++u,v,o,by simp,bp.append X Y,W⟩
 |.unit,cs,ds,K,r,h,c=>⟨(),cs,[],ds,h,rfl,rfl,c⟩
 |.node,cs,ds,K,r,h,c=>by
  simp only[TC.take]at h;split at h<;>try (cases h;done)
  split at h<;>try (cases h;done)
  rename_i b P j q;simp only[VRs,VR]at c;obtain⟨w,Q,rfl,rfl,z,R,rfl,rfl,A,T,rfl,rfl,B,r4,rfl,H,C,s,rfl,I,p⟩:=c;obtain⟨f,rfl⟩:=np j H;obtain⟨E,rfl⟩:=np q I;exact⟨_,_,[_,_,_,_,_],s,h,rfl,⟨aB.refl _,aB.refl _,aB.refl _,aB.list,aB.list,rfl⟩,p⟩
 |.spot,cs,ds,K,r,h,c=>by
  simp only[TC.take]at h;split at h<;>try (cases h;done)
  split at h<;>try (cases h;done)
  rename_i b P ss j q N;simp only[VRs,VR]at c;obtain⟨w,Q,rfl,rfl,z,R,rfl,rfl,A,T,rfl,rfl,B,r4,rfl,rfl,C,s,rfl,rfl,e6,r6,rfl,p,e7,r7,rfl,J,e8,U,rfl,L,M⟩:=c;obtain⟨f,rfl⟩:=np j p;obtain⟨E,rfl⟩:=np q J;obtain⟨F,rfl⟩:=np N L;exact⟨_,_,[_,_,_,_,_,_,_,_],U,h,rfl,⟨aB.refl _,aB.refl _,aB.refl _,aB.refl _,aB.refl _,aB.list,aB.list,aB.list,rfl⟩,M⟩
end Go.Fw
def alC:=@of_decide_eq_true
namespace Go.Fw
open Go.RowKit
def Zw(cs:List D)(n:Nat)(f:Bool):Bool:=cs.isEmpty&&Nat.beq n 0&&f
mutual
def ofD:D->SV
 |.int k n=>.int k n
 |.bool b=>.bool b
 |.str s=>.str s
 |.list cs n f=>match Zw cs n f with
  |true=>.nils
  |false=>.lst (ky cs) n f
 |.agg cs=>.agg (ky cs)
 |.tuple cs=>.tup (ky cs)
 |.func fn a b=>.func fn (ky a) (ky b)
 |.iface t v=>.iface t (ofD v)
 |.rptr cs o=>.rc (ky cs) o
 |d=>.raw d
def ky:List D->List SV
 |[]=>[]
 |d::ds=>ofD d::ky ds
end
mutual
def EI(S:ae)(σ:Sto):∀d,VR S σ (ofD d) d
 |.int _ _=>by simp[ofD,VR]
 |.bool _=>by simp[ofD,VR]
 |.str _=>by simp[ofD,VR]
 |.list cs n f=>by
  simp only[ofD];split
  ·rename_i h;simp only[Zw,akY,List.isEmpty_iff]at h;simp only[VR];rw[h.1.1,bq h.1.2,h.2]
  ·simp only[VR];exact⟨cs,f,rfl,id,jl S σ cs⟩
 |.agg cs=>by simp only[ofD,VR];exact⟨cs,rfl,jl S σ cs⟩
 |.tuple cs=>by simp only[ofD,VR];exact⟨cs,rfl,jl S σ cs⟩
 |.func _ a b=>by simp only[ofD,VR];exact⟨a,b,rfl,jl S σ a,jl S σ b⟩
 |.iface _ v=>by simp only[ofD,VR];exact⟨v,rfl,EI S σ v⟩
 |.rptr cs _=>by simp only[ofD,VR];exact⟨cs,rfl,jl S σ cs⟩
 |.nilp=>by simp[ofD,VR]
 |.ptr _ _ _=>by simp[ofD,VR]
 |.sl _ _ _ _ _ _=>by simp[ofD,VR]
 |.map _=>by simp[ofD,VR]
 |.nilmap=>by simp[ofD,VR]
 |.cmap _ _=>by simp[ofD,VR]
 |.pmap _ _=>by simp[ofD,VR]
 |.nilf=>by simp[ofD,VR]
 |.nili=>by simp[ofD,VR]
 |.anyi=>by simp[ofD,VR]
 |.junk=>by simp[ofD,VR]
def jl (S:ae) (σ:Sto):∀ds,VRs S σ (ky ds) ds
 |[]=>by simp[ky,VRs]
 |d::ds=>by simp only[ky,VRs];exact⟨d,ds,rfl,EI S σ d,jl S σ ds⟩
end
def sev(τ:ax):Operand->Option SV
 |.tmp t=>kT τ t
 |.const v=>match Er v with
  |some d=>some (ofD d)
  |none=>none
 |.func f=>some (.func (.func f) [] [])
 |.global _=>none
def Ds(τ:ax):List Operand->Option (List SV)
 |[]=>some []
 |x::b=>match sev τ x with
  |some d=>match Ds τ b with
   |some a=>some (d::a)
   |none=>none
  |none=>none
def Mn(τ:ax):List (Nat×Operand)->Option (List (Nat×SV))
 |[]=>some []
 |(i,x)::b=>match sev τ x with
  |some d=>match Mn τ b with
   |some a=>some ((i,d)::a)
   |none=>none
  |none=>none
section
variable {S:ae}{σ:Sto}{τ:ax}{τ' :Env}
def eZ(h:ER S σ τ τ'){x:Operand}{v:SV}(a:sev τ x=some v):∃d,ev τ' x=some d/\VR S σ v d:=by
 cases x<;>simp only[sev]at a
 case tmp=>exact h _ _ a
 case const=>
  split at a<;>try (cases a;done)
  rename_i d b;cases a;exact⟨d,b,EI S σ d⟩
 case func=>cases a;exact⟨_,rfl,by simp only[VR,VRs];exact⟨[],[],rfl,rfl,rfl⟩⟩
 case global=>cases a
def wX(h:ER S σ τ τ'):∀{xs:List Operand}{vs:List SV},Ds τ xs=some vs->∃b,evs τ' xs=some b/\VRs S σ vs b
 |[],_,a=>by simp only[Ds,ak1]at a;subst a;exact⟨[],rfl,by simp only[VRs]⟩
 |x::xs,_,a=>by
  simp only[Ds]at a;split at a<;>try (cases a;done)
  rename_i v j;split at a<;>try (cases a;done)
  rename_i vs c;cases a;obtain⟨d,e,f⟩:=eZ h j;obtain⟨b,g,i⟩:=wX h c;exact⟨d::b,by simp only[evs,e,g],by simp only[VRs];exact⟨d,b,rfl,f,i⟩⟩
def VRp(S:ae)(σ:Sto):List (Nat×SV)->List (Nat×D)->Prop
 |[],a=>a=[]
 |(i,v)::c,a=>∃e b,a=(i,e)::b/\VR S σ v e/\VRp S σ c b
def J1(h:ER S σ τ τ'):∀{xs:List (Nat×Operand)}{vs:List (Nat×SV)},Mn τ xs=some vs->∃b,evp τ' xs=some b/\VRp S σ vs b
 |[],_,a=>by simp only[Mn,ak1]at a;subst a;exact⟨[],rfl,by simp only[VRp]⟩
 |(i,x)::xs,_,a=>by
  simp only[Mn]at a;split at a<;>try (cases a;done)
  rename_i v k;split at a<;>try (cases a;done)
  rename_i vs c;cases a;obtain⟨d,e,f⟩:=eZ h k;obtain⟨b,g,j⟩:=J1 h c;exact⟨(i,d)::b,by simp only[evp,e,g],by simp only[VRp];exact⟨d,b,rfl,f,j⟩⟩
end
def VRs.length{S:ae}{σ:Sto}:∀{cs:List SV}{ds:List D},VRs S σ cs ds->ds.length=cs.length
 |[],_,h=>by simp only[VRs]at h;subst h;rfl
 |v::cs,_,h=>by
  simp only[VRs]at h;obtain⟨e,b,rfl,_,a⟩:=h;simp[VRs.length a]
def VRs.drop{S:ae}{σ:Sto}:∀(n:Nat){cs:List SV}{ds:List D},VRs S σ cs ds->VRs S σ (cs.drop n) (ds.drop n)
 |0,_,_,h=>by simpa using h
 |n+1,[],_,h=>by simp only[VRs]at h;subst h;simp[VRs]
 |n+1,v::cs,_,h=>by
  simp only[VRs]at h;obtain⟨e,b,rfl,_,a⟩:=h;simpa using VRs.drop n a
def VRs.take{S:ae}{σ:Sto}:∀(n:Nat){cs:List SV}{ds:List D},VRs S σ cs ds->VRs S σ (cs.take n) (ds.take n)
 |0,_,_,_=>by simp[VRs]
 |n+1,[],_,h=>by simp only[VRs]at h;subst h;simp[VRs]
 |n+1,v::cs,_,h=>by
  simp only[VRs]at h;obtain⟨e,a,rfl,b,c⟩:=h;simp only[am0,VRs];exact⟨e,a.take n,rfl,b,VRs.take n c⟩
def VRs.get{S:ae}{σ:Sto}:∀{cs:List SV}{ds:List D}{i:Nat}{v:SV},VRs S σ cs ds->cs[i]?=some v->∃d,ds[i]?=some d/\VR S σ v d
 |[],_,_,_,_,h=>by simp at h
 |v::cs,_,0,_,h,a=>by
  simp only[VRs]at h;obtain⟨e,f,rfl,b,c⟩:=h;simp at a;subst a;exact⟨e,by simp,b⟩
 |v::cs,_,i+1,_,h,a=>by
  simp only[VRs]at h;obtain⟨e,f,rfl,b,c⟩:=h;obtain⟨d,g,j⟩:=VRs.get c (by simpa using a);exact⟨d,by simpa using g,j⟩
def rN(S:ae)(l g:Nat):Bool:=match S[l]? with
 |some (.arr _ _ _ a)=>Nat.beq g a
 |_=>false
def EJ(S:ae):SV->Option (List SV)
 |.agg a=>some a
 |.tup _=>none
 |.raw d=>match d.isCell with
  |true=>some [.raw d]
  |false=>none
 |.own l g=>match rN S l g with
  |true=>some [.own l g]
  |false=>none
 |.ap l g i o=>match rN S l g with
  |true=>some [.ap l g i o]
  |false=>none
 |v=>some [v]
def Jg{S:ae}{σ:Sto}{l g:Nat}{d:D}(h:rN S l g=true)(j:Bx S σ l g d):∃t a b c u,S[l]?=some (.arr t a b g)/\σ[l]?=some (.cells (t.flat a) c u)/\d=.sl l u 0 a.length t.sz false:=by
 unfold rN at h;split at h<;>try (cases h;done)
 rename_i t a b k e;have:=bq h;subst this;obtain⟨c,u,f,i⟩:=(j.2 t a b g e).2 rfl;exact⟨t,a,b,c,u,e,f,i⟩
def Gk{S:ae}{σ:Sto}{l g o:Nat}{i:Int}{d:D}(h:rN S l g=true)(k:ApR S σ l g i o d):∃t a b c u,S[l]?=some (.arr t a b g)/\σ[l]?=some (.cells (t.flat a) c u)/\d=.ptr l u (i.toNat*t.sz+o):=by
 unfold rN at h;split at h<;>try (cases h;done)
 rename_i t a b m e;have:=bq h;subst this;obtain⟨c,u,f,j⟩:=(k.2 t a b g e).2 rfl;exact⟨t,a,b,c,u,e,f,j⟩
def Gl{S:ae}{σ:Sto}{v:SV}{cs:List SV}{d:D}(h:EJ S v=some cs)(a:VR S σ v d):∃f,d.cells?=some f/\VRs S σ cs f:=by
 have c:∀{v:SV}{d:D},VR S σ v d->VRs S σ [v] [d]:=λa=>by simp only[VRs];exact⟨_,_,rfl,a,rfl⟩
 cases v<;>simp only[EJ]at h<;>try (cases h;done)
 case agg=>cases h;simp only[VR]at a;obtain⟨f,rfl,a⟩:=a;exact⟨f,rfl,a⟩
 case raw e=>
  split at h<;>try (cases h;done)
  rename_i j;cases h;have b:=a;simp only[VR]at a;subst a;exact⟨[d],by cases d<;>simp_all[D.isCell,D.cells?],c b⟩
 case own l g=>
  split at h<;>try (cases h;done)
  rename_i j;cases h;have b:=a;simp only[VR]at a;obtain⟨t,n,m,k,u,_,_,rfl⟩:=Jg j a;exact⟨_,rfl,c b⟩
 case ap l g i o=>
  split at h<;>try (cases h;done)
  rename_i j;cases h;have b:=a;simp only[VR]at a;obtain⟨t,n,m,k,u,_,_,rfl⟩:=Gk j a;exact⟨_,rfl,c b⟩
 all_goals
  cases h;have b:=a;simp only[VR]at a
  first
   |(subst a;exact⟨_,rfl,c b⟩)
   |(obtain⟨_,rfl,_⟩:=a;exact⟨_,rfl,c b⟩)
   |(obtain⟨_,_,rfl,_⟩:=a;exact⟨_,rfl,c b⟩)
   |(obtain⟨_,_,rfl⟩:=a;exact⟨_,rfl,c b⟩)
def Gm(S:ae)(a:Nat->Option (Nat×Nat)):List SV->List (Nat×SV)->Option (List SV)
 |cells,[]=>some cells
 |cells,(i,v)::rest=>match a i with
  |some (off,n)=>match EJ S v with
   |some b=>match Nat.beq b.length n&&Nat.ble (off+n) cells.length with
    |true=>Gm S a (cells.take off++b++cells.drop (off+n)) rest
    |false=>none
   |none=>none
  |none=>none
def Gn{S:ae}{σ:Sto}{a:Nat->Option (Nat×Nat)}:∀{p:List (Nat×SV)}{cells c:List SV}{ds:List D}{j:List (Nat×D)},Gm S a cells p=some c->VRs S σ cells ds->VRp S σ p j->
 ∃b,mu a ds j=some b/\VRs S σ c b
 |[],cells,c,ds,j,h,g,f=>by
  simp only[VRp]at f;subst f;simp only[Gm,ak1]at h;subst h;exact⟨ds,rfl,g⟩
 |(i,v)::rest,cells,c,ds,j,h,g,f=>by
  simp only[VRp]at f;obtain⟨e,B,rfl,t,u⟩:=f;simp only[Gm]at h;split at h<;>try (cases h;done)
  rename_i d n m;split at h<;>try (cases h;done)
  rename_i q l;split at h<;>try (cases h;done)
  rename_i k;simp only[akY]at k;obtain⟨s,w,o⟩:=Gl l t;have C:=o.length;have E:=g.length;have z:q.length=n:=bq k.1;have A:d+n<=cells.length:=alb k.2;obtain⟨b,x,y⟩:=Gn h (((g.take d).append o).append (g.drop (d+n))) u;refine⟨b,?_,y⟩;simp only[mu,m,w];rw[ali ⟨omq,omq⟩];exact x
def ROk{α:Type}(T:Tys)(S:ae)(σ:Sto)(τ':Env)(c:Op)(b:List Nat)(K:SV->Option α)(r:α):Prop:=
 ∃v a d,K v=some r/\VR S σ v d/\aB a d/\∀s:Sto,(∀l∈b,s[l]?=σ[l]?)->aop T τ' s c=some (a,s)
def aR{α:Type}{b:Bool}{x y:Option α}{r:α}(h:cond b x y=some r):(b=true/\x=some r)∨(b=false/\y=some r):=by
 cases b
 ·exact .inr ⟨rfl,h⟩
 ·exact .inl ⟨rfl,h⟩
section
variable {α:Type}{T:Tys}{S:ae}{σ:Sto}{τ:ax}{τ' :Env}{K:SV→Option α}{r:α}
def cy(τ:ax)(x:Operand)(K:SV->Option α):Option α:=match sev τ x with
 |some v=>K v
 |none=>none
def aM{x:Operand}(h:cy τ x K=some r):∃v,sev τ x=some v/\K v=some r:=by
 unfold cy at h;split at h
 ·exact⟨_,by assumption,h⟩
 ·cases h
def iZ{k:IntKind}{n:Int}:VR S σ (.int k n) (.int k n):=by simp only[VR]
def qg{b:Bool}:VR S σ (.bool b) (.bool b):=by simp only[VR]
def EM{b:List UInt8}:VR S σ (.str b) (.str b):=by simp only[VR]
def ay(k:IntKind)(a b:Int):Int:=k.wrap (a+b)
def aC(k:IntKind)(a b:Int):Int:=k.wrap (a-b)
def iB(k:IntKind)(a b:Int):Int:=k.wrap (a*b)
def vf(k:IntKind)(a b:Int):Int:=k.wrap (a.tdiv b)
def Pf(k:IntKind)(a b:Int):Int:=k.wrap (a*2 ^ min b.toNat k.bits)
def wY(k:IntKind)(a b:Int):Int:=a.fdiv (2 ^ min b.toNat k.bits)
def aci(c:BinOp)(k d:IntKind)(a b:Int)(K:SV->Option α):Option α:=
 match c with
 |.shl=>cond (decide (0<=b)) (K (.int k (Pf k a b))) none
 |.shr=>cond (decide (0<=b)) (K (.int k (wY k a b))) none
 |c=>match decEq k d with
  |isFalse _=>none
  |isTrue _=>match c with
   |.add=>K (.int k (ay k a b))
   |.sub=>K (.int k (aC k a b))
   |.mul=>K (.int k (iB k a b))
   |.quo=>cond (b==0) none (K (.int k (vf k a b)))
   |.rem=>cond (b==0) none (K (.int k (a.tmod b)))
   |.and=>K (.int k (bits .and k a b))
   |.or=>K (.int k (bits .or k a b))
   |.xor=>K (.int k (bits .xor k a b))
   |.andNot=>K (.int k (bits .andNot k a b))
   |.eql=>K (.bool (a==b))
   |.neq=>K (.bool (a !=b))
   |.lss=>K (.bool (decide (a<b)))
   |.leq=>K (.bool (decide (a<=b)))
   |.gtr=>K (.bool (decide (a>b)))
   |.geq=>K (.bool (decide (a>=b)))
   |_=>none
variable{Z:BinOp}{Y:Bool}{X:Option EK}
def ae7{k e:IntKind}{a b:Int}(h:aci Z k e a b K=some r):∃v d,K v=some r/\VR S σ v d/\Bn Z k e a b=some d:=by
 unfold aci at h;split at h
 ·rcases aR h with⟨c,h⟩|⟨_,h⟩
  ·exact⟨_,_,h,iZ,by simp only[Bn,alC c,al1];rfl⟩
  ·cases h
 ·rcases aR h with⟨c,h⟩|⟨_,h⟩
  ·exact⟨_,_,h,iZ,by simp only[Bn,alC c,al1];rfl⟩
  ·cases h
 ·split at h<;>try (cases h;done)
  rename_i f _;subst f;split at h
  case h_4=>
   rcases aR h with⟨_,h⟩|⟨c,h⟩
   ·cases h
   ·exact⟨_,_,h,iZ,by simp at c;simp[Bn,c];rfl⟩
  case h_5=>
   rcases aR h with⟨_,h⟩|⟨c,h⟩
   ·cases h
   ·exact⟨_,_,h,iZ,by simp at c;simp[Bn,c]⟩
  all_goals first
   |(cases h;done)
   |exact⟨_,_,h,iZ,by simp only[Bn,al1];rfl⟩
   |exact⟨_,_,h,iZ,by simp only[Bn,al1]⟩
   |exact⟨_,_,h,qg,by simp only[Bn,al1]⟩
def acj(d:BinOp)(a b:List UInt8)(K:SV->Option α):Option α:=
 match d with
 |.add=>(cat a b).bind λc=>K (.str c)
 |.eql=>K (.bool (a==b))
 |.neq=>K (.bool (!(a==b)))
 |.lss=>K (.bool (Op.bytesLess a b))
 |.leq=>K (.bool (Op.bytesLess a b||a==b))
 |.gtr=>K (.bool (!(Op.bytesLess a b||a==b)))
 |.geq=>K (.bool (!Op.bytesLess a b))
 |_=>none
def ae8{a b:List UInt8}(h:acj Z a b K=some r):∃v d,K v=some r/\VR S σ v d/\OX Z a b=some d:=by
 unfold acj at h;split at h
 ·obtain⟨c,e,h⟩:=am h;refine⟨_,_,h,EM,?_⟩;unfold cat at e;split at e<;>try (cases e;done)
  rename_i f;cases e;simp[OX,f]
 all_goals first
  |(cases h;done)
  |exact⟨_,_,h,qg,by simp only[OX]⟩
inductive NK where
 |nilp|ptr|nili|ifc|nilf|fn|other
def svK:SV->NK
 |.raw .nilp=>.nilp
 |.raw (.ptr _ _ _)=>.ptr
 |.raw .nili=>.nili
 |.raw .anyi=>.ifc
 |.raw .nilf=>.nilf
 |.rp _ _ _=>.ptr
 |.rc _ _=>.ptr
 |.iface _ _=>.ifc
 |.func _ _ _=>.fn
 |_=>.other
def ack(b:EK)(a:Bool)(x y:NK):Option Bool:=
 match b with
 |.ptr=>match x,y with
  |.nilp,.nilp=>some true
  |.nilp,.ptr=>some false
  |.ptr,.nilp=>some false
  |_,_=>none
 |.iface=>match x,y with
  |.nili,.nili=>match a with
   |true=>some true
   |false=>none
  |.nili,.ifc=>some false
  |.ifc,.nili=>some false
  |_,_=>none
 |.func=>match x,y with
  |.nilf,.nilf=>some true
  |.nilf,.fn=>some false
  |.fn,.nilf=>some false
  |_,_=>none
 |_=>none
def Zx{v:SV}{d:D}(g:VR S σ v d):match svK v with
 |.nilp=>d=.nilp
 |.ptr=>(∃l u o,d=.ptr l u o)∨∃h o,d=.rptr h o
 |.nili=>d=.nili
 |.ifc=>(∃t e,d=.iface t e)∨d=.anyi
 |.nilf=>d=.nilf
 |.fn=>∃f a b,d=.func f a b
 |.other=>True:=by
 cases v
 case raw e=>
  simp only[VR]at g;subst g;cases d<;>simp[svK]
 case rp=>simp only[VR]at g;obtain⟨_,_,rfl⟩:=g;exact .inr ⟨_,_,rfl⟩
 case rc=>simp only[VR]at g;obtain⟨_,rfl,_⟩:=g;exact .inr ⟨_,_,rfl⟩
 case iface=>simp only[VR]at g;obtain⟨_,rfl,_⟩:=g;exact .inl ⟨_,_,rfl⟩
 case func=>simp only[VR]at g;obtain⟨_,_,rfl,_⟩:=g;exact⟨_,_,_,rfl⟩
 all_goals trivial
def ae9{i:EK}{c b:Bool}{v w:SV}{d e:D}(h:ack i c (svK v) (svK w)=some b)(l:VR S σ v d)(m:VR S σ w e):
 eqD c i d e=some b/\(∀a,F1 (some i) a c d e=match a with|.eql=>(eqD c i d e).map .bool|.neq=>(eqD c i d e).map λr=>.bool (!r)|_=>none):=by
 have f:=Zx l;have g:=Zx m;unfold ack at h;split at h<;>(try (cases h;done))<;>split at h<;>try (cases h;done)
 all_goals
  rename_i j k;rw[j]at f;rw[k]at g;simp only at f g
 all_goals first
  |(cases h;subst f g;exact⟨rfl,λa=>by cases a<;>rfl⟩)
  |(cases h;subst f;rcases g with⟨_,_,_,rfl⟩|⟨_,_,rfl⟩<;>exact⟨rfl,λa=>by cases a<;>rfl⟩)
  |(cases h;subst g;rcases f with⟨_,_,_,rfl⟩|⟨_,_,rfl⟩<;>exact⟨rfl,λa=>by cases a<;>rfl⟩)
  |(cases h;subst f;rcases g with⟨_,_,rfl⟩|rfl<;>exact⟨rfl,λa=>by cases a<;>rfl⟩)
  |(cases h;subst g;rcases f with⟨_,_,rfl⟩|rfl<;>exact⟨rfl,λa=>by cases a<;>rfl⟩)
  |(cases h;subst f;obtain⟨_,_,_,rfl⟩:=g;exact⟨rfl,λa=>by cases a<;>rfl⟩)
  |(cases h;subst g;obtain⟨_,_,_,rfl⟩:=f;exact⟨rfl,λa=>by cases a<;>rfl⟩)
  |(subst f g;cases c<;>simp only at h<;>cases h;exact⟨rfl,λa=>by cases a<;>rfl⟩)
def EN:LK->SV->SV->Option Bool
 |.b,.bool a,.bool b=>some (a==b)
 |.i,.int k a,.int c b=>match decEq k c with
  |isTrue _=>some (a==b)
  |isFalse _=>none
 |.s,.str a,.str b=>some (a==b)
 |_,_,_=>none
def kz:List LK->List SV->List SV->Option Bool
 |[],[],[]=>some true
 |[k],[a],[b]=>EN k a b
 |k::e,a::c,b::d=>match EN k a b,kz e c d with
  |some r,some s=>some (r&&s)
  |_,_=>none
 |_,_,_=>none
def Gp{k:LK}{v w:SV}{d e:D}{b:Bool}(h:EN k v w=some b)(a:VR S σ v d)(c:VR S σ w e):ig k d e=some b:=by
 unfold EN at h;split at h<;>try (cases h;done)
 ·simp only[VR]at a c;subst a c;exact h
 ·split at h<;>try (cases h;done)
  rename_i f _;subst f;simp only[VR]at a c;subst a c;simpa[ig] using h
 ·simp only[VR]at a c;subst a c;exact h
def Qm:∀(ks:List LK){a bs:List SV}{ds es:List D}{b:Bool},kz ks a bs=some b->VRs S σ a ds->VRs S σ bs es->GZ ks ds es=some b/\ds.length=ks.length/\es.length=ks.length
 |[],a,bs,ds,es,b,h,c,f=>by
  unfold kz at h;split at h<;>simp_all[VRs,GZ]
 |[k],a,bs,ds,es,b,h,c,f=>by
  match a,bs,h with
  |[x],[y],h=>
   simp only[kz]at h;simp only[VRs]at c f;obtain⟨d,_,rfl,g,rfl⟩:=c;obtain⟨e,_,rfl,j,rfl⟩:=f;have:=Gp h g j;simp[GZ,this]
  |[],[],h=>simp[kz]at h
  |[],_::_,h=>simp[kz]at h
  |_::_,[],h=>simp[kz]at h
  |_::_::_,[_],h=>simp[kz]at h
  |[_],_::_::_,h=>simp[kz]at h
  |_::_::_,_::_::_,h=>simp[kz]at h
 |k::v::ks,a,bs,ds,es,b,h,c,f=>by
  match a,bs,h with
  |x::a,y::bs,h=>
   simp only[kz]at h;split at h<;>try (cases h;done)
   rename_i r s o p;cases h;simp only[VRs]at c f;obtain⟨d,m,rfl,g,i⟩:=c;obtain⟨e,n,rfl,j,l⟩:=f;obtain⟨q,t,u⟩:=Qm (v::ks) p i l;have:=Gp o g j;refine⟨?_,by simp[t],by simp[u]⟩;simp only[GZ,this];rw[q]
  |[],[],h=>simp[kz]at h
  |[],_::_,h=>simp[kz]at h
  |_::_,[],h=>simp[kz]at h
def eqF(a:BinOp)(b:Bool)(K:SV->Option α):Option α:=match a with
 |.eql=>K (.bool b)
 |.neq=>K (.bool (!b))
 |_=>none
def Xr(c:Option EK)(e:BinOp)(a:Bool)(x y:SV)(K:SV->Option α):Option α:=
 match c with
 |some d=>match ack d a (svK x) (svK y) with
  |some b=>eqF e b K
  |none=>none
 |none=>none
def acl(c:Option EK)(d:BinOp)(e:Bool)(x y:SV)(K:SV->Option α):Option α:=
 match x with
 |.int k a=>match y with
  |.int h b=>aci d k h a b K
  |_=>none
 |.str a=>match y with
  |.str b=>acj d a b K
  |_=>none
 |.bool a=>match y,c with
  |.bool b,some .bool=>eqF d (a==b) K
  |_,_=>none
 |.agg f=>match y,c with
  |.agg g,some (.flat i)=>match kz i f g with
   |some b=>eqF d b K
   |none=>none
  |_,_=>none
 |x=>Xr c d e x y K
def Pg{b:Bool}(h:eqF Z b K=some r):(Z=.eql/\K (.bool b)=some r)∨(Z=.neq/\K (.bool (!b))=some r):=by
 unfold eqF at h;split at h
 ·exact .inl ⟨rfl,h⟩
 ·exact .inr ⟨rfl,h⟩
 ·cases h
def acm{x y:SV}{d e:D}(h:Xr X Z Y x y K=some r)(i:VR S σ x d)(j:VR S σ y e):∃v a,K v=some r/\VR S σ v a/\F1 X Z Y d e=some a:=by
 unfold Xr at h;split at h<;>try (cases h;done)
 split at h<;>try (cases h;done)
 rename_i b g;obtain⟨c,f⟩:=ae9 g i j;rcases Pg h with⟨rfl,h⟩|⟨rfl,h⟩
 ·exact⟨_,_,h,qg,by rw[f,c];rfl⟩
 ·exact⟨_,_,h,qg,by rw[f,c];rfl⟩
def afa{x y:SV}{d e:D}(h:acl X Z Y x y K=some r)(a:VR S σ x d)(c:VR S σ y e):∃v g,K v=some r/\VR S σ v g/\F1 X Z Y d e=some g:=by
 unfold acl at h;split at h
 ·split at h<;>try (cases h;done)
  simp only[VR]at a c;subst a c;exact ae7 h
 ·split at h<;>try (cases h;done)
  simp only[VR]at a c;subst a c;exact ae8 h
 ·split at h<;>try (cases h;done)
  simp only[VR]at a c;subst a c;rcases Pg h with⟨rfl,h⟩|⟨rfl,h⟩
  ·exact⟨_,_,h,qg,by simp[F1,eqD]⟩
  ·exact⟨_,_,h,qg,by simp[F1,eqD]⟩
 ·split at h<;>try (cases h;done)
  split at h<;>try (cases h;done)
  rename_i b k;simp only[VR]at a c;obtain⟨l,rfl,a⟩:=a;obtain⟨m,rfl,c⟩:=c;obtain⟨f,i,j⟩:=Qm _ k a c;have f:=Lr _ _ _ _ f;rcases Pg h with⟨rfl,h⟩|⟨rfl,h⟩
  ·exact⟨_,_,h,qg,by simp[F1,eqD,f,i,j]⟩
  ·exact⟨_,_,h,qg,by simp[F1,eqD,f,i,j]⟩
 ·exact acm h a c
end
end Go.Fw
def alm:=@List.append_nil
namespace Go.Fw
open Go.RowKit
def Cells.weak{G:Gh}{b:Nat}:∀{ds es:List D}{o:Nat},bp ds es->Cells G b o ds->Cells G b o es
 |[],es,o,h,a=>by
  have h:es=[]:=h;subst h;exact a
 |d::ds,[],o,h,_=>h.elim
 |d::ds,e::es,o,h,a=>by
  simp only[Cells]at a⊢;obtain⟨⟨v,c,f⟩,g⟩:=a;exact⟨⟨v,c,h.1 _ _ f⟩,Cells.weak h.2 g⟩
def bp.length:∀{ds es:List D},bp ds es->ds.length=es.length
 |[],es,h=>by
  have h:es=[]:=h;subst h;rfl
 |d::ds,[],h=>h.elim
 |d::ds,e::es,h=>by simp[bp.length h.2]
def aB.cellsList{ds es:List D}{n:Nat}{f:Bool}(h:bp ds es):aB (.list ds n f) (.list es n f):=by
 intro G v d;simp only[Rep]at d⊢;obtain⟨a,c,e,g,i,j,k⟩:=d;refine⟨a,c,e,g,i,j,?_⟩;rcases k with⟨b,o,l,m⟩|rfl
 ·exact .inl ⟨b,o,l,m.weak h⟩
 ·have h:es=[]:=h;exact .inr h
def TC.takes{α:Type}(t:TC):Nat->List SV->(List t.Den->List SV->Option α)->Option α
 |0,a,K=>K [] a
 |n+1,a,K=>t.take a λx r=>t.takes n r λc b=>K (x::c) b
def TC.takes_ok{α:Type}{S:ae}{σ:Sto}(t:TC):∀(n:Nat)(cs:List SV)(ds:List D)(K:List t.Den->List SV->Option α)(r:α),t.takes n cs K=some r->VRs S σ cs ds->
 ∃a b c d2,K a b=some r/\ds=c++d2/\bp c (t.flat a)/\VRs S σ b d2/\a.length=n
 |0,cs,ds,K,r,h,f=>⟨[],cs,[],ds,h,rfl,by show bp [] (bH _ []);rw[gH];rfl,f,rfl⟩
 |n+1,cs,ds,K,r,h,f=>by
  simp only[TC.takes]at h;obtain⟨x,d,c,d2,j,rfl,p,m⟩:=TC.take_ok t cs ds _ r h f;obtain⟨a,e,g,i,k,rfl,q,o,l⟩:=TC.takes_ok t n d d2 _ r j m;refine⟨x::a,e,c++g,i,k,by simp,?_,o,by simp[l]⟩;show bp _ (bH _ (x::a));rw[gn];exact bp.append p q
section
variable {α:Type}{T:Tys}{S:ae}{σ:Sto}{τ:ax}{τ' :Env}{K:SV→Option α}{r:α}
def Xs(S:ae)(v:SV)(n:Nat)(K:List SV->Option α):Option α:=
 match v with
 |.rp t x o=>match Nat.ble (o+n) (t.scells x).length with
  |true=>K (((t.scells x).drop o).take n)
  |false=>none
 |.rc a o=>match Nat.ble (o+n) a.length with
  |true=>K ((a.drop o).take n)
  |false=>none
 |.raw d=>match d with
  |.ptr l u o=>match S[l]? with
   |some (.cells a _)=>match Nat.beq u 0&&Nat.ble (o+n) a.length with
    |true=>K ((a.drop o).take n)
    |false=>none
   |_=>none
  |_=>none
 |.ap l g i o=>match S[l]? with
  |some (.arr t c _ b)=>match Nat.beq g b with
   |true=>(ix c i).bind λx=>match Nat.ble (o+n) (t.scells x).length with
    |true=>K (((t.scells x).drop o).take n)
    |false=>none
   |false=>none
  |_=>none
 |_=>none
def fpV:SV->List Nat
 |.raw d=>match d with
  |.ptr l _ _=>[l]
  |_=>[]
 |.ap l _ _ _=>[l]
 |.own l _=>[l]
 |_=>[]
def acq(G:StR S σ){v:SV}{n:Nat}{d:D}{K:List SV->Option α}(h:Xs S v n K=some r)(c:VR S σ v d):
 ∃q e,K q=some r/\VRs S σ q e/\e.length=n/\∀s:Sto,(∀l∈fpV v,s[l]?=σ[l]?)->lC s d n=some e:=by
 unfold Xs at h;split at h
 ·split at h<;>try (cases h;done)
  rename_i t x o _ b;have b:=alb b;simp only[VR]at c;obtain⟨N,P,rfl⟩:=c;have f:=TC.scells_ok S σ t x;have m:=f.length;refine⟨_,((t.cells x).drop o).take n,h,(f.drop o).take n,?_,?_⟩
  ·simp only[alB,al0];omega
  ·intro s _;simp only[lC];rw[ali (by simp only[ak2];omega)];congr 1;rw[alp,anT,aoA omq,aoz (by simp only[al0];omega)]
 ·split at h<;>try (cases h;done)
  rename_i q o _ b;have b:=alb b;simp only[VR]at c;obtain⟨e,rfl,c⟩:=c;have m:=c.length;refine⟨_,(e.drop o).take n,h,(c.drop o).take n,?_,?_⟩
  ·simp only[alB,al0];omega
  ·intro s _;simp only[lC];rw[ali omq]
 ·split at h<;>try (cases h;done)
  split at h<;>try (cases h;done)
  rename_i l u o _ q C m;split at h<;>try (cases h;done)
  rename_i b;simp only[akY]at b;have L:=bq b.1;have b:=alb b.2;subst L;simp only[VR]at c;subst c;obtain⟨a,H,e,B,rfl,_,j⟩:=G.obj _ _ m;have p:=j.length;refine⟨_,(e.drop o).take n,h,(j.drop o).take n,?_,?_⟩
  ·simp only[alB,al0];omega
  ·intro s w;have:=w l (by simp[fpV]);simp only[lC,this,H];rw[ali ⟨trivial,omq⟩]
 ·split at h<;>try (cases h;done)
  rename_i l g i o _ t A C M m;split at h<;>try (cases h;done)
  rename_i k;have k:=bq k;subst k;obtain⟨x,y,h⟩:=am h;split at h<;>try (cases h;done)
  rename_i b;have b:=alb b;simp only[VR]at c;obtain⟨B,u,F,rfl⟩:=(c.2 _ _ _ _ m).2 rfl;obtain⟨_,O,y⟩:=SC y;have f:=TC.scells_ok S σ t x;have p:=f.length;have J:(t.cells x).length=t.sz:=t.enc.len x;have k:=PX (E:=t.enc) y;have I:i.toNat*t.sz+t.sz<=(t.flat A).length:=by
   rw[eK,<-anq];exact al6 _ omq
  refine⟨_,((t.cells x).drop o).take n,h,(f.drop o).take n,?_,?_⟩
  ·simp only[alB,al0];omega
  ·intro s w;have:=w l (by simp[fpV]);simp only[lC,this,F];rw[ali ⟨trivial,omq⟩];congr 1;show((t.flat A).drop (i.toNat*t.sz+o)).take n=((t.enc.cells x).drop o).take n;have z:t.enc.sz=t.sz:=rfl;rw[<-k,<-amG,aoj,List.take_take];congr 1;omega
 ·cases h
def acr(b:Bool)(cs:List SV)(K:SV->Option α):Option α:=match b with
 |true=>K (.agg cs)
 |false=>match cs with
  |[v]=>K v
  |_=>none
def afb{b:Bool}{cs:List SV}{ds:List D}(h:acr b cs K=some r)(a:VRs S σ cs ds):∃v d,K v=some r/\VR S σ v d/\Rf b ds=some d:=by
 unfold acr at h;split at h
 ·exact⟨_,.agg ds,h,by simp only[VR];exact⟨ds,rfl,a⟩,rfl⟩
 ·split at h<;>try (cases h;done)
  simp only[VRs]at a;obtain⟨e,f,rfl,c,rfl⟩:=a;exact⟨_,e,h,c,rfl⟩
def Rs(T:Tys)(τ:ax)(S:ae)(t:TypeId)(x:Operand)(K:SV->Option α):Option α:=
 match lk T.ld t with
 |some (n,b)=>match b||Nat.beq n 1 with
  |true=>cy τ x λv=>Xs S v n λa=>acr b a K
  |false=>none
 |none=>none
def fpO(τ:ax)(x:Operand):List Nat:=match sev τ x with
 |some v=>fpV v
 |none=>[]
def TJ(q:StR S σ)(p:ER S σ τ τ'){t:TypeId}{x:Operand}(h:Rs T τ S t x K=some r):ROk T S σ τ' (.load t x) (fpO τ x) K r:=by
 unfold Rs at h;split at h<;>try (cases h;done)
 rename_i n b e;split at h<;>try (cases h;done)
 rename_i k;obtain⟨v,o,h⟩:=aM h;obtain⟨d,u,i⟩:=eZ p o;obtain⟨B,C,h,c,m,y⟩:=acq q h i;obtain⟨A,j,h,g,w⟩:=afb h c;refine⟨A,j,j,h,g,aB.refl _,λs z=> ?_⟩;have a:b=true∨n=1:=by
  simp only[amI]at k;exact k.imp id bq
 have f:∀l∈fpV v,s[l]?=σ[l]? :=by
  intro l m;refine z l ?_;unfold fpO;rw[o];exact m
 simp only[aop,ML,e,u,ali a,y s f,w];rfl
def TK(T:Tys)(τ:ax)(S:ae)(t:TypeId)(b:List (Nat×Operand))(K:SV->Option α):Option α:=
 match lk T.build t with
 |some (z,bk)=>match Mn τ b with
  |some c=>match Gm S bk.place (ky z) c with
   |some a=>K (.agg a)
   |none=>none
  |none=>none
 |none=>none
variable{Z:Array (Nat×Operand)}{Y:SK}
def Zy(i:ER S σ τ τ'){t:TypeId}(h:TK T τ S t Z.toList K=some r):ROk T S σ τ' (.build t Z) [] K r:=by
 unfold TK at h;split at h<;>try (cases h;done)
 rename_i z bk j;split at h<;>try (cases h;done)
 rename_i m c;split at h<;>try (cases h;done)
 rename_i k b;obtain⟨l,d,e⟩:=J1 i c;obtain⟨a,f,g⟩:=Gn b (jl S σ z) e;refine⟨_,.agg a,.agg a,h,by simp only[VR];exact⟨a,rfl,g⟩,aB.refl _,λs _=> ?_⟩;simp only[aop,RK,j,d,f];rfl
def TL(z:List SV):Nat->List SV
 |0=>[]
 |n+1=>z++TL z n
def Ph{z:List SV}{a:List D}(h:VRs S σ z a):∀n,VRs S σ (TL z n) (ie a n)
 |0=>by simp only[TL,ie,VRs]
 |n+1=>h.append (Ph h n)
def Dt(T:Tys)(H:Tr TC)(τ:ax)(S:ae)(t:TypeId)(len:Nat)(e:List (Nat×Operand))(K:SV->Option α):Option α:=
 match lk T.bs t with
 |some (z,b)=>match Mn τ e,Nat.ble (len*b) 16777216 with
  |some f,true=>match Gm S (λi=>some (i*b,b)) (TL (ky z) len) f with
   |some c=>match lk H t with
    |some d=>d.takes len c λg a=>match a with
     |[]=>K (.sl d g true)
     |_=>none
    |none=>K (.lst c len true)
   |none=>none
  |_,_=>none
 |none=>none
def Pi{H:Tr TC}(p:ER S σ τ τ'){t:TypeId}{len:Nat}(h:Dt T H τ S t len Z.toList K=some r):ROk T S σ τ' (.buildSlice t len Z) [] K r:=by
 unfold Dt at h;split at h<;>try (cases h;done)
 rename_i z A q;split at h<;>try (cases h;done)
 rename_i B e a;have a:=alb a;split at h<;>try (cases h;done)
 rename_i x d;obtain⟨y,m,n⟩:=J1 p e;obtain⟨b,o,f⟩:=Gn d (Ph (jl S σ z) len) n;have c:∀s:Sto,aop T τ' s (.buildSlice t len Z)=some (.list b len true,s):=by
  intro s;simp only[aop,C2,q,m,ali a,o];rfl
 split at h
 ·rename_i i v;obtain⟨j,k,l,d2,h,rfl,w,g,u⟩:=TC.takes_ok i _ _ _ _ _ h f;split at h<;>try (cases h;done)
  simp only[VRs]at g;subst g;rw[alm]at c;refine⟨_,.list l len true,.list (i.flat j) j.length true,h,by simp only[VR];exact⟨true,rfl,λ_=>rfl⟩,?_,λs _=>c s⟩;rw[u];exact aB.cellsList w
 ·exact⟨_,.list b len true,.list b len true,h,by simp only[VR];exact⟨b,true,rfl,λ_=>rfl,f⟩,aB.refl _,λs _=>c s⟩
def J3(τ:ax):Option Operand->Option (Option Int)
 |none=>some none
 |some x=>match sev τ x with
  |some (.int _ n)=>some (some n)
  |_=>none
def Mo(c:ER S σ τ τ'){x:Option Operand}{i:Option Int}(h:J3 τ x=some i):∃d,evo τ' x=some d/\ru d=some i:=by
 cases x with
 |none=>simp only[J3,ak1]at h;subst h;exact⟨none,rfl,rfl⟩
 |some x=>
  simp only[J3]at h;split at h<;>try (cases h;done)
  rename_i k n e;cases h;obtain⟨d,b,a⟩:=eZ c e;simp only[VR]at a;subst a;exact⟨some (.int k n),by simp only[evo,b],rfl⟩
def isN:Option Int->Bool
 |none=>true
 |some _=>false
def J4(b:TC)(xs:List b.Den)(f:Bool)(c a:Option Int)(K:SV->Option α):Option α:=
 (slc xs (bz 0 c) (bz xs.length a)).bind λd=>K (.sl b d (f&&isN a))
def VE(s:List UInt8)(l h:Option Int)(K:SV->Option α):Option α:=(slc s (bz 0 l) (bz s.length h)).bind λu=>K (.str u)
def VF(a:TC)(xs:List a.Den)(l:Option Int)(h m:Int)(K:SV->Option α):Option α:=
 cond (decide (h<=m)&&decide (m<=xs.length)) ((slc xs (bz 0 l) h).bind λb=>K (.sl a b false)) none
def Pj(H:Option TC)(sk:SK)(v:SV)(l h m:Option Int)(K:SV->Option α):Option α:=
 match v with
 |.str s=>match sk,m with
  |.string,none=>VE s l h K
  |_,_=>none
 |.sl a c f=>match sk with
  |.slice b=>cond (Nat.beq b a.sz) (match m,h with
   |none,h=>J4 a c f l h K
   |some m,some h=>VF a c l h m K
   |some _,none=>none) none
  |_=>none
 |.nils=>match sk,H,m with
  |.slice b,some a,none=>cond (Nat.beq b a.sz) (J4 a [] true l h K) none
  |_,_,_=>none
 |_=>none
def TM(T:Tys)(H:Tr TC)(τ:ax)(t:TypeId)(x:Operand)(b a mx:Option Operand)(K:SV->Option α):Option α:=
 (lk T.sli t).bind λsk=>cy τ x λv=>(J3 τ b).bind λl=>(J3 τ a).bind λh=>(J3 τ mx).bind λm=>Pj (lk H t) sk v l h m K
def Qn{c:TC}{xs:List c.Den}{f f0:Bool}{b a:Option Int}(h:J4 c xs f b a K=some r)(m:f=true->f0=true):
 ∃v d,K v=some r/\VR S σ v d/\Bm c.sz (.list (c.flat xs) xs.length f0) b a none=some d:=by
 unfold J4 at h;obtain⟨p,o,h⟩:=am h;obtain⟨g,i,j,rfl,k⟩:=PE o;have l:oz xs.length f0 b a none=some ((bz 0 b).toNat,(bz (xs.length:Int) a).toNat,f0&&decide (bz (xs.length:Int) a=xs.length)):=by
  simp only[oz];rw[ali ⟨g,i,j⟩]
 refine⟨_,.list (c.flat ((xs.take (bz (xs.length:Int) a).toNat).drop (bz 0 b).toNat)) ((bz (xs.length:Int) a).toNat-(bz 0 b).toNat) (f0&&decide (bz (xs.length:Int) a=xs.length)),h,?_,?_⟩
 ·simp only[VR];refine⟨_,by rw[k],λe=> ?_⟩;simp only[akY]at e;cases a with
  |none=>simp[bz,m e.1]
  |some _=>simp[isN]at e
 ·have n:=eK c.enc xs;simp only[Bm,l];rw[ali n];have:=Of c.enc xs _ _ (show(bz 0 b).toNat<=(bz (xs.length:Int) a).toNat by omega);simp only[TC.flat,TC.sz]at this⊢;rw[this]
def skD(sk:SK)(d:D)(l h m:Option Int):Option D:=match sk with
 |.slice a=>Bm a d l h m
 |.string=>(match m with|none=>Rg d l h|some _=>none)
 |.array _ _=>none
def Xt{H:Option TC}{v:SV}{d:D}{l h m:Option Int}(a:Pj H Y v l h m K=some r)(k:VR S σ v d):∃n y e,K n=some r/\VR S σ n e/\aB y e/\skD Y d l h m=some y:=by
 unfold Pj at a;cases v<;>simp only at a<;>try (cases a;done)
 case str s=>
  cases Y<;>(try (simp at a;done));cases m<;>(try (simp at a;done));simp only at a;unfold VE at a;obtain⟨u,g,a⟩:=am a;simp only[VR]at k;subst k;obtain⟨o,p,w,rfl,x⟩:=PE g;have q:oz s.length true l h none=some ((bz 0 l).toNat,(bz (s.length:Int) h).toNat,true&&decide (bz (s.length:Int) h=s.length)):=by
   simp only[oz];rw[ali ⟨o,p,w⟩]
  exact⟨_,_,_,a,EM,aB.refl _,by simp only[skD,Rg,q]⟩
 case sl tc xs f=>
  cases Y<;>(try (simp at a;done));rename_i F;rcases aR a with⟨j,b⟩|⟨_,b⟩<;>try (cases b;done)
  clear a;have a:=b;have j:=bq j;subst j;simp only[VR]at k;obtain⟨B,rfl,C⟩:=k;cases m with
  |none=>
   simp only at a;obtain⟨n,e,a,i,g⟩:=Qn (S:=S) (σ:=σ) a C;exact⟨n,e,e,a,i,aB.refl _,g⟩
  |some t=>
   cases h<;>simp only at a<;>try (cases a;done)
   rename_i c;unfold VF at a;rcases aR a with⟨z,b⟩|⟨_,b⟩<;>try (cases b;done)
   clear a;have a:=b;simp only[akY,alL]at z;obtain⟨G,g,a⟩:=am a;obtain⟨o,p,w,rfl,x⟩:=PE g;have q:oz xs.length B l (some c) (some t)=some ((bz 0 l).toNat,c.toNat,decide (t=c)):=by
    simp only[oz,bz,Option.isSome];rw[ali ⟨trivial,o,p,z⟩];rfl
   refine⟨_,.list (tc.flat ((xs.take c.toNat).drop (bz 0 l).toNat)) (c.toNat-(bz 0 l).toNat) (decide (t=c)),.list (tc.flat ((xs.take c.toNat).drop (bz 0 l).toNat)) ((xs.take c.toNat).drop (bz 0 l).toNat).length false,a,?_,?_,?_⟩
   ·simp only[VR];exact⟨false,rfl,λa=>by cases a⟩
   ·rw[x];exact aB.list
   ·have E:=eK tc.enc xs;have:=Of tc.enc xs _ _ (show(bz 0 l).toNat<=c.toNat by omega);simp only[skD,Bm,q];simp only[TC.flat,TC.sz]at this⊢;rw[ali E,this]
 case nils=>
  cases Y<;>(try (simp at a;done));cases H<;>(try (simp at a;done));cases m<;>(try (simp at a;done));rename_i F tc;rcases aR a with⟨j,b⟩|⟨_,b⟩<;>try (cases b;done)
  clear a;have a:=b;have j:=bq j;subst j;simp only[VR]at k;subst k;obtain⟨n,e,a,i,g⟩:=Qn (S:=S) (σ:=σ) a (f0:=true) (λ_=>rfl);have A:D.list (tc.flat []) ([]:List tc.Den).length true=.list [] 0 true:=by
   show D.list (bH _ []) _ _=_;rw[gH];rfl
  rw[A]at g;exact⟨n,e,e,a,i,aB.refl _,g⟩
def Zz{t:TypeId}{x:Operand}{i g mx:Option Operand}{d b:D}{e c f:Option D}{l h m:Option Int}(n:lk T.sli t=some Y)(o:ev τ' x=some d)(j:evo τ' i=some e)(a2:evo τ' g=some c)(a3:evo τ' mx=some f)
 (b1:ru e=some l)(b2:ru c=some h)(k:ru f=some m)(a:skD Y d l h m=some b)(s:Sto):aop T τ' s (.slice t x i g mx)=some (b,s):=by
 simp only[aop,RN,n,o,j,a2,a3,b1,b2,k];cases Y with
 |slice p=>simp only[skD]at a;simp only[a];rfl
 |string=>
  cases m with
  |none=>simp only[skD]at a;simp only[a];rfl
  |some _=>cases a
 |array _ _=>cases a
def ZA{H:Tr TC}(a:ER S σ τ τ'){t:TypeId}{x:Operand}{i g mx:Option Operand}(h:TM T H τ t x i g mx K=some r):ROk T S σ τ' (.slice t x i g mx) [] K r:=by
 unfold TM at h;obtain⟨sk,c,h⟩:=am h;obtain⟨v,y,h⟩:=aM h;obtain⟨d,p,f⟩:=eZ a y;obtain⟨l,q,h⟩:=am h;obtain⟨J,b,h⟩:=am h;obtain⟨m,u,h⟩:=am h;obtain⟨G,A,B⟩:=Mo a q;obtain⟨F,n,o⟩:=Mo a b;obtain⟨I,C,D⟩:=Mo a u;obtain⟨E,k,j,h,e,z,w⟩:=Xt h f;exact⟨E,k,j,h,e,z,λs _=>Zz c p A n C B o D w s⟩
def acs(v:SV)(n:Nat):Option SV:=match v with
 |.rp t x o=>some (.rp t x (o+n))
 |.rc a o=>some (.rc a (o+n))
 |.ap l g i o=>some (.ap l g i (o+n))
 |.raw d=>match d with
  |.ptr l u o=>some (.raw (.ptr l u (o+n)))
  |_=>none
 |_=>none
def afc{v0 v:SV}{n:Nat}{d:D}(b:∀l g i o,v0=.ap l g i o->rN S l g=true)(h:acs v0 n=some v)(a:VR S σ v0 d):∃e,uM d n=some e/\VR S σ v e:=by
 cases v0<;>simp only[acs]at h<;>try (cases h;done)
 case rp=>cases h;simp only[VR]at a⊢;obtain⟨m,p,rfl⟩:=a;exact⟨_,rfl,m,p,by rw[anc]⟩
 case rc=>cases h;simp only[VR]at a⊢;obtain⟨c,rfl,a⟩:=a;exact⟨_,rfl,c,rfl,a⟩
 case ap l g i o=>
  cases h;have k:=b _ _ _ _ rfl;simp only[VR]at a⊢;obtain⟨t,w,s,q,u,f,j,rfl⟩:=Gk k a;exact⟨_,rfl,.mk f j (by rw[anc])⟩
 case raw e=>
  split at h<;>try (cases h;done)
  cases h;simp only[VR]at a⊢;subst a;exact⟨_,rfl,rfl⟩
end
end Go.Fw
def alR:=@List.drop_zero
def al5:=@Int.toNat_natCast
def ame:=@Classical.choose_spec
def anE:=@congrFun
def ao3:=@Nat.min_eq_left
namespace Go.Fw
open Go.RowKit
noncomputable section
section
variable {α:Type}{T:Tys}{S:ae}{σ:Sto}{τ:ax}{τ' :Env}{K:SV→Option α}{r:α}
def aky(S:ae):SV->Bool
 |.ap l g _ _=>rN S l g
 |_=>true
def TN(S:ae)(v:SV)(K:SV->Option α):Option α:=match v with
 |.rp t x o=>K (.rp t x o)
 |.rc c o=>K (.rc c o)
 |.ap l g i o=>cond (rN S l g) (K (.ap l g i o)) none
 |.iface t v=>K (.iface t v)
 |.func e a b=>match e with
  |.func f=>K (.func (.func f) a b)
  |_=>none
 |.raw d=>match d with
  |.ptr l u o=>K (.raw (.ptr l u o))
  |.anyi=>K (.raw .anyi)
  |_=>none
 |_=>none
def afd{x:Operand}{v:SV}{d:D}(h:TN S v K=some r)(j:VR S σ v d)(k:ev τ' x=some d):∃m,K m=some r/\VR S σ m d/\C3 τ' x=some d:=by
 cases v<;>(try (simp[TN]at h;done))
 case rp=>have f:=j;simp only[VR]at j;obtain⟨_,_,rfl⟩:=j;exact⟨_,h,f,by simp only[C3,k]⟩
 case rc=>have f:=j;simp only[VR]at j;obtain⟨_,rfl,_⟩:=j;exact⟨_,h,f,by simp only[C3,k]⟩
 case iface=>have f:=j;simp only[VR]at j;obtain⟨_,rfl,_⟩:=j;exact⟨_,h,f,by simp only[C3,k]⟩
 case ap l g i o=>
  rcases aR h with⟨n,h⟩|⟨_,h⟩<;>try (cases h;done)
  have f:=j;simp only[VR]at j;obtain⟨t,y,q,p,u,s,w,rfl⟩:=Gk n j;exact⟨_,h,f,by simp only[C3,k]⟩
 case func fn a b=>
  have f:=j;simp only[VR]at j;obtain⟨_,_,rfl,_⟩:=j;cases fn<;>(try (simp[TN]at h;done));exact⟨_,h,f,by simp only[C3,k]⟩
 case raw e=>
  have f:=j;simp only[VR]at j;subst j;cases d<;>(try (simp[TN]at h;done))
  ·exact⟨_,h,f,by simp only[C3,k]⟩
  ·exact⟨_,h,f,by simp only[C3,k]⟩
def akz(k:IntKind)(n:Int):Int:=k.wrap (0-n)
def akA(k:IntKind)(n:Int):Int:=bits .xor k (if k.signed then-1 else k.max) n
def sUn(a:UnOp)(v:SV)(K:SV->Option α):Option α:=match a with
 |.not=>match v with
  |.bool b=>K (.bool (!b))
  |_=>none
 |.neg=>match v with
  |.int k n=>K (.int k (akz k n))
  |_=>none
 |.xor=>match v with
  |.int k n=>K (.int k (akA k n))
  |_=>none
 |_=>none
def ahm{a:UnOp}{v:SV}{d:D}(h:sUn a v K=some r)(c:VR S σ v d):∃e b,K e=some r/\VR S σ e b/\unD a d=some b:=by
 cases a<;>cases v<;>(try (simp[sUn]at h;done))<;>(simp only[VR]at c;subst c)
 all_goals first
  |exact⟨_,_,h,iZ,rfl⟩
  |exact⟨_,_,h,qg,rfl⟩
def ZB(S:ae)(v:SV)(K:SV->Option α):Option α:=match v with
 |.sl .byte a _=>K (.str a)
 |.nils=>K (.str [])
 |.own l g=>match S[l]? with
  |some (.arr .byte a _ b)=>cond (Nat.beq g b) (K (.str a)) none
  |_=>none
 |_=>none
def Gq(S:ae)(ck:CK)(v:SV)(K:SV->Option α):Option α:=match ck with
 |.int k=>match v with
  |.int _ n=>K (.int k (k.wrap n))
  |_=>none
 |.idStr=>match v with
  |.str s=>K (.str s)
  |_=>none
 |.toBytes=>match v with
  |.str s=>(GY s).bind λc=>K (.sl .byte c false)
  |_=>none
 |.toStr=>ZB S v K
def acu(C:StR S σ){ck:CK}{v:SV}{d:D}(h:Gq S ck v K=some r)(a:VR S σ v d):
 ∃o n,K o=some r/\VR S σ o n/\∀s:Sto,(∀l∈fpV v,s[l]?=σ[l]?)->uQ s ck d=some n:=by
 have e:∀b:List UInt8,(TC.flat .byte b).length=b.length*1:=λb=>eK mA b;cases ck
 case int k=>
  cases v<;>(try (simp[Gq]at h;done));simp only[VR]at a;subst a;exact⟨_,_,h,iZ,λs _=>rfl⟩
 case idStr=>
  cases v<;>(try (simp[Gq]at h;done));simp only[VR]at a;subst a;exact⟨_,_,h,EM,λs _=>rfl⟩
 case toBytes=>
  cases v<;>(try (simp[Gq]at h;done));simp only[VR]at a;subst a;simp only[Gq]at h;obtain⟨c,i,h⟩:=am h;unfold GY at i;split at i<;>try (cases i;done)
  rename_i t;rw[<-alX i]at h;clear i c;rename_i c _;refine⟨_,.list (TC.flat .byte c) c.length false,h,by simp only[VR];exact⟨false,rfl,λh=>by cases h⟩,λs _=> ?_⟩;show uQ s .toBytes (.str c)=some (.list (bH mA c) c.length false);simp[uQ,t,GW]
 case toStr=>
  simp only[Gq]at h;unfold ZB at h;split at h
  ·rename_i b f;simp only[VR]at a;obtain⟨y,rfl,_⟩:=a;refine⟨_,_,h,EM,λs _=> ?_⟩;simp only[uQ,oA,e,al1];show(jv (bH mA b)).map D.str=_;rw[GX];rfl
  ·simp only[VR]at a;subst a;exact⟨_,_,h,EM,λs _=>rfl⟩
  ·split at h<;>try (cases h;done)
   rename_i l g _ b A B w;rcases aR h with⟨m,j⟩|⟨_,j⟩<;>try (cases j;done)
   have m:=bq m;subst m;simp only[VR]at a;obtain⟨z,u,q,rfl⟩:=(a.2 _ _ _ _ w).2 rfl;refine⟨_,_,j,EM,λs x=> ?_⟩;have:=x l (by simp[fpV]);have p:TC.sz .byte=1:=rfl;simp only[uQ,oA,this,q,p,e];rw[ali ⟨trivial,trivial,omq⟩];simp only[alR];rw[alw (by rw[e];exact ak7 _)];show(jv (bH mA b)).map D.str=_;rw[GX];rfl
  ·cases h
def Rt(S:ae)(v:SV)(n:Nat)(K:SV->Option α):Option α:=cond (aky S v) ((acs v n).bind K) none
def TO{v:SV}{n:Nat}{d:D}(h:Rt S v n K=some r)(k:VR S σ v d):∃b a,K b=some r/\VR S σ b a/\uM d n=some a:=by
 unfold Rt at h;rcases aR h with⟨j,h⟩|⟨_,h⟩<;>try (cases h;done)
 obtain⟨w,m,h⟩:=am h;obtain⟨e,c,f⟩:=afc (λl g i o e=>by subst e;exact j) m k;exact⟨w,e,h,f,c⟩
def Ru(cs:List SV)(off n:Nat)(b:Bool)(K:SV->Option α):Option α:=match b with
 |true=>cond (Nat.ble (off+n) cs.length) (K (.agg ((cs.drop off).take n))) none
 |false=>(cs[off]?).bind K
def TP{cs:List SV}{ds:List D}{off n:Nat}{b:Bool}(h:Ru cs off n b K=some r)(c:VRs S σ cs ds):∃g f,K g=some r/\VR S σ g f/\zD ds off n b=some f:=by
 unfold Ru at h;cases b
 ·obtain⟨v,e,h⟩:=am h;obtain⟨d,i,j⟩:=c.get e;exact⟨v,d,h,j,by simpa[zD] using i⟩
 ·rcases aR h with⟨a,h⟩|⟨_,h⟩<;>try (cases h;done)
  have a:=alb a;refine⟨_,.agg ((ds.drop off).take n),h,by simp only[VR];exact⟨_,rfl,(c.drop off).take n⟩,?_⟩;simp only[zD,al1];rw[ali (by rw[c.length];exact a)]
def inb(n:Int)(len:Nat):Bool:=decide (0<=n)&&decide (n<len)
def Pk{n:Int}{len:Nat}(h:inb n len=true):0<=n/\n<len:=by simpa[inb] using h
def J5(n:Int)(K:Nat->Option α):Nat->Nat->Option α
 |0,_=>none
 |m+1,i=>cond (n==(i:Int)) (K i) (J5 n K m (i+1))
def Mp{n:Int}{K:Nat->Option α}{r:α}:∀{m i:Nat},J5 n K m i=some r->∃j:Nat,j<i+m/\n=(j:Int)/\K j=some r
 |0,_,h=>by simp[J5]at h
 |m+1,i,h=>by
  simp only[J5]at h;rcases aR h with⟨b,h⟩|⟨_,h⟩
  ·exact⟨i,omq,by simpa using b,h⟩
  ·obtain⟨j,c,a⟩:=Mp h;exact⟨j,omq,a⟩
def Mq(S:ae)(f:IK)(v:SV)(n:Int)(K:SV->Option α):Option α:=match f with
 |.slice a=>match v with
  |.sl b c _=>cond (Nat.beq a b.sz&&Nat.blt 0 a) ((ix c n).bind λx=>K (.rp b x 0)) none
  |.lst d len _=>cond (inb n len&&(Nat.blt 0 a&&Nat.beq d.length (len*a))) (K (.rc d (n.toNat*a))) none
  |.own l g=>match S[l]? with
   |some (.arr b c _ e)=>cond (Nat.beq g e&&Nat.beq a b.sz) (cond (inb n c.length) (K (.ap l g n 0)) none) none
   |_=>none
  |_=>none
 |.array len a=>J5 n (λi=>Rt S v (i*a) K) len 0
def U7{y:IK}{v:SV}{n:Int}{d:D}(h:Mq S y v n K=some r)(b:VR S σ v d):∃p m,K p=some r/\VR S σ p m/\
 (match y with|.slice sz=>FY sz d n|.array len sz=>if 0<=n/\n<len then uM d (n.toNat*sz) else none)=some m:=by
 unfold Mq at h;cases y
 case slice sz=>
  cases v<;>(try (simp at h;done))<;>simp only at h
  case sl tc xs f=>
   rcases aR h with⟨a,h⟩|⟨_,h⟩<;>try (cases h;done)
   simp only[akY]at a;have o:=bq a.1;have w:0<sz:=alb a.2;obtain⟨x,I,h⟩:=am h;obtain⟨c,e,F⟩:=SC I;simp only[VR]at b;obtain⟨C,rfl,_⟩:=b;have k:=eK tc.enc xs;have s:=PX (E:=tc.enc) F;have H:n.toNat*tc.sz+tc.sz<=(tc.flat xs).length:=by
    rw[eK,<-anq];exact al6 _ omq
   refine⟨_,.rptr (tc.flat xs) (n.toNat*sz),h,?_,?_⟩
   ·simp only[VR];refine⟨(tc.flat xs).take (n.toNat*sz),(tc.flat xs).drop (n.toNat*sz+sz),?_⟩;subst o;have A:tc.flat xs=(tc.flat xs).take (n.toNat*tc.sz)++(((tc.flat xs).drop (n.toNat*tc.sz)).take tc.sz++((tc.flat xs).drop (n.toNat*tc.sz)).drop tc.sz):=by
     rw[amk,amk]
    have B:((tc.flat xs).drop (n.toNat*tc.sz)).take tc.sz=tc.cells x:=s;rw[B,amG]at A;rw[alp,<-A];congr 1;rw[alB,ao3 omq];rfl
   ·simp only[FY];rw[ali ⟨c,e,w,by rw[o];exact k⟩]
  case lst cs len f=>
   rcases aR h with⟨a,h⟩|⟨_,h⟩<;>try (cases h;done)
   simp only[akY]at a;obtain⟨c,e⟩:=Pk a.1;have w:0<sz:=alb a.2.1;have k:=bq a.2.2;simp only[VR]at b;obtain⟨z,C,rfl,_,b⟩:=b;refine⟨_,.rptr z (n.toNat*sz),h,by simp only[VR];exact⟨z,rfl,b⟩,?_⟩;simp only[FY];rw[ali ⟨c,e,w,by rw[b.length];exact k⟩]
  case own l g=>
   split at h<;>try (cases h;done)
   rename_i tc xs M N k;rcases aR h with⟨a,q⟩|⟨_,q⟩<;>try (cases q;done)
   simp only[akY]at a;have s:=bq a.1;have o:=bq a.2;subst s o;rcases aR q with⟨t,i⟩|⟨_,i⟩<;>try (cases i;done)
   obtain⟨c,e⟩:=Pk t;simp only[VR]at b;obtain⟨L,u,J,rfl⟩:=(b.2 _ _ _ _ k).2 rfl;refine⟨_,.ptr l u (0+n.toNat*tc.sz),i,?_,?_⟩
   ·simp only[VR];exact .mk k J siq
   ·simp only[FY];rw[ali ⟨c,e,trivial⟩]
 case array len sz=>
  obtain⟨j,O,rfl,i⟩:=Mp h;obtain⟨p,m,i,c,e⟩:=TO i b;have G:(0:Int)<=(j:Int)/\(j:Int)<len:=omq;exact⟨p,m,i,c,by simp only[ali G,al5];exact e⟩
def ZC(d:IVK)(v:SV)(n:Int)(K:SV->Option α):Option α:=match d with
 |.string=>match v with
  |.str s=>(ix s n).bind λb=>K (.int .u8 b.toNat)
  |_=>none
 |.array len a b=>match v with
  |.agg c=>J5 n (λi=>Ru c (i*a) a b K) len 0
  |_=>none
def acv(S:ae)(k:eE)(v:SV)(K:SV->Option α):Option α:=match k with
 |.slice=>match v with
  |.sl _ a _=>K (.int .i64 a.length)
  |.lst _ n _=>K (.int .i64 n)
  |.nils=>K (.int .i64 0)
  |.own l g=>match S[l]? with
   |some (.arr _ a _ b)=>cond (Nat.beq g b) (K (.int .i64 a.length)) none
   |_=>none
  |_=>none
 |.string=>match v with
  |.str s=>K (.int .i64 s.length)
  |_=>none
 |.array n=>K (.int .i64 n)
def afe{k:eE}{v:SV}{d:D}(h:acv S k v K=some r)(a:VR S σ v d):∃c n,K c=some r/\VR S σ c (.int .i64 (n:Nat))/\LW k d=some n:=by
 unfold acv at h;cases k
 case slice=>
  cases v<;>(try (simp at h;done))<;>simp only at h
  case sl=>simp only[VR]at a;obtain⟨j,rfl,_⟩:=a;exact⟨_,_,h,iZ,rfl⟩
  case lst=>simp only[VR]at a;obtain⟨_,_,rfl,_⟩:=a;exact⟨_,_,h,iZ,rfl⟩
  case nils=>simp only[VR]at a;subst a;exact⟨_,0,h,iZ,rfl⟩
  case own l g=>
   split at h<;>try (cases h;done)
   rename_i s t o p i;rcases aR h with⟨e,b⟩|⟨_,b⟩<;>try (cases b;done)
   have f:=bq e;subst f;simp only[VR]at a;obtain⟨m,u,q,rfl⟩:=(a.2 _ _ _ _ i).2 rfl;exact⟨_,_,b,iZ,rfl⟩
 case string=>
  cases v<;>(try (simp at h;done));simp only[VR]at a;subst a;exact⟨_,_,h,iZ,rfl⟩
 case array n=>exact⟨_,_,h,iZ,rfl⟩
def fQ:Int->Int->Int:=Classical.choose (⟨_,rfl⟩:∃f,f=λa b:Int=>if b>a then b else a)
def TQ:Int->Int->Int:=Classical.choose (⟨_,rfl⟩:∃f,f=λa b:Int=>if b<a then b else a)
def VG(a b:Int):fQ a b=if b>a then b else a:=anE (anE (ame (⟨_,rfl⟩:∃f,f=λa b:Int=>if b>a then b else a)) a) b
def J6(a b:Int):TQ a b=if b<a then b else a:=anE (anE (ame (⟨_,rfl⟩:∃f,f=λa b:Int=>if b<a then b else a)) a) b
def nh:fQ 0 0=0:=by rw[VG];rfl
def sMM(mx:Bool):SV->List SV->(SV->Option α)->Option α
 |.int k a,[],K=>K (.int k a)
 |.int k a,.int c b::r,K=>match decEq k c with
  |isTrue _=>match mx with
   |true=>sMM true (.int k (fQ a b)) r K
   |false=>sMM false (.int k (TQ a b)) r K
  |isFalse _=>none
 |_,_,_=>none
def TR{mx:Bool}:∀{vs:List SV}{v:SV}{d:D}{ds:List D},sMM mx v vs K=some r->VR S σ v d->VRs S σ vs ds->∃f c,K f=some r/\VR S σ f c/\mmD mx d ds=some c
 |[],v,d,ds,h,b,a=>by
  cases v<;>(try (simp[sMM]at h;done));simp only[VR]at b;subst b;simp only[VRs]at a;subst a;exact⟨_,_,h,iZ,rfl⟩
 |w::vs,v,d,ds,h,b,a=>by
  cases v<;>(try (simp[sMM]at h;done));cases w<;>(try (simp[sMM]at h;done));simp only[sMM]at h;split at h<;>try (cases h;done)
  rename_i k _;subst k;simp only[VR]at b;subst b;simp only[VRs,VR]at a;obtain⟨e,l,rfl,rfl,a⟩:=a;cases mx<;>obtain⟨f,c,g,i,j⟩:=TR h iZ a<;>refine⟨f,c,g,i,?_⟩<;>simp only[mmD,al1]<;>simpa[VG,J6] using j
def J7(a:LK)(key:SV):List D->List D->(Option D->Option α)->Option α
 |[],_,K=>K none
 |d::e,c,K=>match c with
  |v::c=>(EN a key (ofD d)).bind λb=>cond b (K (some v)) (J7 a key e c K)
  |[]=>none
variable{Z:LK}
def Mr{key:SV}{d:D}(f:VR S σ key d){K:Option D->Option α}:∀(ks vs:List D)(i:Nat),J7 Z key ks vs K=some r->
 ∃o,K o=some r/\((o=none/\iE Z d ks i=some none)∨∃j v,o=some v/\iE Z d ks i=some (some (i+j))/\vs[j]?=some v)
 |[],vs,i,h=>⟨none,h,.inl ⟨rfl,rfl⟩⟩
 |g::ks,[],i,h=>by simp[J7]at h
 |g::ks,v::vs,i,h=>by
  simp only[J7]at h;obtain⟨b,m,h⟩:=am h;have e:=Gp m f (EI S σ g);rcases aR h with⟨rfl,h⟩|⟨rfl,h⟩
  ·exact⟨_,h,.inr ⟨0,v,rfl,by simp only[iE,e];rfl,rfl⟩⟩
  ·obtain⟨o,k,a⟩:=Mr f ks vs (i+1) h;refine⟨o,k,?_⟩;rcases a with⟨a,c⟩|⟨j,n,a,c,l⟩
   ·exact .inl ⟨a,by simp only[iE,e];exact c⟩
   ·exact .inr ⟨j+1,n,a,by simp only[iE,e];rw[c];congr 2;omega,by simpa using l⟩
def NQ(a:LK)(z:D)(ok:Bool)(m key:SV)(K:SV->Option α):Option α:=match m with
 |.raw d=>match d with
  |.cmap b c=>J7 a key b c λo=>K (ofD (zY z ok o))
  |.pmap b c=>match Ev b with
   |true=>match a with
    |.i=>match key with
     |.int .i64 n=>J7 .i (.int .i64 n) b c λo=>K (ofD (zY z ok o))
     |_=>none
    |_=>none
   |false=>none
  |_=>none
 |_=>none
def acw{z:D}{ok:Bool}{m key:SV}{l k:D}(h:NQ Z z ok m key K=some r)(c:VR S σ m l)(g:VR S σ key k):
 ∃p i,K p=some r/\VR S σ p i/\∀s:Sto,zH s Z z ok l k=some i:=by
 cases m<;>(try (simp[NQ]at h;done));rename_i e;cases e<;>(try (simp[NQ]at h;done))
 ·simp only[VR]at c;subst c;obtain⟨o,h,a⟩:=Mr g _ _ 0 h;refine⟨_,_,h,EI S σ _,λs=> ?_⟩;rcases a with⟨rfl,a⟩|⟨j,v,rfl,a,f⟩
  ·simp only[zH,na,a]
  ·rw[alS]at a;simp only[zH,na,a,f];rfl
 ·simp only[VR]at c;subst c;simp only[NQ]at h;split at h<;>try (cases h;done)
  rename_i b;split at h<;>try (cases h;done)
  split at h<;>try (cases h;done)
  rename_i n;simp only[VR]at g;subst g;obtain⟨o,h,a⟩:=Mr (S:=S) (σ:=σ) (key:=.int .i64 n) (d:=.int .i64 n) (by simp only[VR]) _ _ 0 h;refine⟨_,_,h,EI S σ _,λs=> ?_⟩;rcases a with⟨rfl,a⟩|⟨j,v,rfl,a,f⟩
  ·simp only[zH,xk,b,na,a]
  ·rw[alS]at a;simp only[zH,xk,b,na,a,f];rfl
def J8(τ:ax)(x:Operand)(K:Int->Option α):Option α:=cy τ x λv=>match v with
 |.int _ n=>K n
 |_=>none
def CR{x:Operand}{K:Int->Option α}(h:J8 τ x K=some r):∃k n,sev τ x=some (.int k n)/\K n=some r:=by
 unfold J8 at h;obtain⟨v,a,h⟩:=aM h;cases v<;>(try (simp at h;done));exact⟨_,_,a,h⟩
def sBi(T:Tys)(S:ae)(τ:ax)(b:Builtin)(args:List Operand)(c:List TypeId)(K:SV->Option α):Option α:=match b with
 |.len=>match args,c with
  |[x],[t]=>(lk T.len t).bind λk=>cy τ x λv=>acv S k v K
  |_,_=>none
 |.max=>(Ds τ args).bind λa=>match a with
  |v::a=>sMM true v a K
  |[]=>none
 |.min=>(Ds τ args).bind λa=>match a with
  |v::a=>sMM false v a K
  |[]=>none
 |_=>none
def sR(T:Tys)(H:Tr TC)(τ:ax)(S:ae)(d:Op)(K:SV->Option α):Option α:=match d with
 |.move x=>cy τ x K
 |.assign x=>cy τ x K
 |.pick c a b=>cy τ c λv=>match v with
  |.bool r=>cond r (cy τ a K) (cy τ b K)
  |_=>none
 |.build t h=>TK T τ S t h.toList K
 |.buildSlice t len h=>Dt T H τ S t len h.toList K
 |.load t x=>Rs T τ S t x K
 |.nilCheck x=>cy τ x λv=>TN S v K
 |.binOp d t x y _=>cy τ x λv=>cy τ y λw=>acl (lk T.eq t) d (F0 x||F0 y) v w K
 |.unOp d _ x=>cy τ x λv=>sUn d v K
 |.convert s t x=>(lk2 T.conv s t).bind λck=>cy τ x λv=>Gq S ck v K
 |.makeInterface t x=>(lk T.conc t).bind λ_=>cy τ x λv=>K (.iface t v)
 |.makeFunc l a b=>(Ds τ a.toList).bind λz=>(Ds τ b.toList).bind λA=>K (.func l z A)
 |.slice t x q o u=>TM T H τ t x q o u K
 |.fieldAddr s x f=>(lk2 T.fld s f).bind λg=>cy τ x λv=>Rt S v g K
 |.field s x f=>(lk2 T.fldV s f).bind λp=>cy τ x λv=>match v with
  |.agg j=>Ru j p.1 p.2.1 p.2.2 K
  |_=>none
 |.indexAddr t x i=>(lk T.idx t).bind λe=>cy τ x λv=>J8 τ i λn=>Mq S e v n K
 |.index t x i=>(lk T.idxV t).bind λe=>cy τ x λv=>J8 τ i λn=>ZC e v n K
 |.lookup t m k ok=>(lk T.map t).bind λp=>cy τ m λC=>cy τ k λB=>NQ p.1 p.2 ok C B K
 |.extract x i=>cy τ x λv=>match v with
  |.tup D=>(D[i]?).bind K
  |_=>none
 |.call c=>match c.callee with
  |.builtin b=>sBi T S τ b c.args.toList c.argTypes.toList K
  |_=>none
 |_=>none
def Du(τ:ax):Op->List Nat
 |.load _ x=>fpO τ x
 |.convert _ _ x=>fpO τ x
 |_=>[]
def Xu{H:Tr TC}(hS:StR S σ)(G:ER S σ τ τ'){op:Op}(h:sR T H τ S op K=some r):ROk T S σ τ' op (Du τ op) K r:=by
 have D:∀{x:Operand}{v:SV},sev τ x=some v->∃d,ev τ' x=some d/\VR S σ v d:=λhx=>eZ G hx;cases op<;>(try (simp[sR]at h;done))<;>simp only[sR]at h
 case move x=>
  obtain⟨v,o,h⟩:=aM h;obtain⟨d,A,g⟩:=D o;exact⟨v,d,d,h,g,aB.refl _,λs _=>by simp only[aop,A];rfl⟩
 case assign x=>
  obtain⟨v,o,h⟩:=aM h;obtain⟨d,A,g⟩:=D o;exact⟨v,d,d,h,g,aB.refl _,λs _=>by simp only[aop,A];rfl⟩
 case pick c a b=>
  obtain⟨v,o,h⟩:=aM h;cases v<;>(try (simp at h;done));rename_i rb;obtain⟨d,A,g⟩:=D o;simp only[VR]at g;subst g;rcases aR h with⟨rfl,h⟩|⟨rfl,h⟩
  ·obtain⟨v,o,h⟩:=aM h;obtain⟨d,L,g⟩:=D o;exact⟨v,d,d,h,g,aB.refl _,λs _=>by simp only[aop,Re,A,al1,L];rfl⟩
  ·obtain⟨v,o,h⟩:=aM h;obtain⟨d,L,g⟩:=D o;exact⟨v,d,d,h,g,aB.refl _,λs _=>by simp only[aop,Re,A,alU,alV,L];rfl⟩
 case build=>exact Zy G h
 case buildSlice=>exact Pi G h
 case load=>exact TJ hS G h
 case nilCheck x=>
  obtain⟨v,o,h⟩:=aM h;obtain⟨d,A,g⟩:=D o;obtain⟨C,h,B,q⟩:=afd h g A;exact⟨C,d,d,h,B,aB.refl _,λs _=>by simp only[aop,q];rfl⟩
 case binOp op t x y ty=>
  obtain⟨v,o,h⟩:=aM h;obtain⟨w,hw,h⟩:=aM h;obtain⟨d,A,g⟩:=D o;obtain⟨e,he,j9⟩:=D hw;obtain⟨C,z,h,B,q⟩:=afa h g j9;exact⟨C,z,z,h,B,aB.refl _,λs _=>by simp only[aop,Wo,A,he,q];rfl⟩
 case unOp op t x=>
  obtain⟨v,o,h⟩:=aM h;obtain⟨d,A,g⟩:=D o;obtain⟨C,z,h,B,q⟩:=ahm h g;exact⟨C,z,z,h,B,aB.refl _,λs _=>by simp only[aop,oUn,A,q];rfl⟩
 case convert s' t x=>
  obtain⟨ck,Z,h⟩:=am h;obtain⟨v,o,h⟩:=aM h;obtain⟨d,A,g⟩:=D o;obtain⟨C,z,h,B,q⟩:=acu hS h g;refine⟨C,z,z,h,B,aB.refl _,λs hs=> ?_⟩;have:=q s (λl hl=>hs l (by simp only[Du,fpO,o];exact hl));simp only[aop,Wp,Z,A,this];rfl
 case makeInterface t x=>
  obtain⟨u,hu,h⟩:=am h;obtain⟨v,o,h⟩:=aM h;obtain⟨d,A,g⟩:=D o;exact⟨_,.iface t d,.iface t d,h,by simp only[VR];exact⟨d,rfl,g⟩,aB.refl _,λs _=>by simp only[aop,RM,A,hu];rfl⟩
 case makeFunc fn a b=>
  obtain⟨va,j5,h⟩:=am h;obtain⟨vb,j6,h⟩:=am h;obtain⟨R,B,q⟩:=wX G j5;obtain⟨U,O,P⟩:=wX G j6;exact⟨_,.func fn R U,.func fn R U,h,by simp only[VR];exact⟨R,U,rfl,q,P⟩,aB.refl _,λs _=>by simp only[aop,Wq,B,O];rfl⟩
 case slice=>exact ZA G h
 case fieldAddr s' x f=>
  obtain⟨m5,ho,h⟩:=am h;obtain⟨v,o,h⟩:=aM h;obtain⟨d,A,g⟩:=D o;obtain⟨C,z,h,B,q⟩:=TO h g;exact⟨C,z,z,h,B,aB.refl _,λs _=>by simp only[aop,E4,ho,A,q];rfl⟩
 case field s' x f=>
  obtain⟨p,hp,h⟩:=am h;obtain⟨v,o,h⟩:=aM h;obtain⟨d,A,g⟩:=D o;cases v<;>(try (simp at h;done));simp only[VR]at g;obtain⟨Q,rfl,g⟩:=g;obtain⟨C,z,h,B,q⟩:=TP h g;exact⟨C,z,z,h,B,aB.refl _,λs _=>by simp only[aop,RO,hp,A,q];rfl⟩
 case indexAddr t x i=>
  obtain⟨ik,J,h⟩:=am h;obtain⟨v,o,h⟩:=aM h;obtain⟨k,n,hn,h⟩:=CR h;obtain⟨d,A,g⟩:=D o;obtain⟨dn,I,E⟩:=D hn;simp only[VR]at E;subst E;obtain⟨C,z,h,B,q⟩:=U7 h g;refine⟨C,z,z,h,B,aB.refl _,λs _=> ?_⟩;simp only[aop,E5,J,A,I,kw];cases ik<;>simp only at q⊢<;>rw[q]<;>rfl
 case index t x i=>
  obtain⟨ik,J,h⟩:=am h;obtain⟨v,o,h⟩:=aM h;obtain⟨k,n,hn,h⟩:=CR h;obtain⟨d,A,g⟩:=D o;obtain⟨dn,I,E⟩:=D hn;simp only[VR]at E;subst E;unfold ZC at h;cases ik
  case string=>
   cases v<;>(try (simp at h;done));simp only at h;obtain⟨b,Y,h⟩:=am h;obtain⟨a1,a2,a3⟩:=SC Y;simp only[VR]at g;subst g;exact⟨_,_,_,h,iZ,aB.refl _,λs _=>by simp[aop,MM,J,A,I,kw,Wr,a1,a3]⟩
  case array=>
   cases v<;>(try (simp at h;done));simp only at h;obtain⟨j,hj,rfl,X⟩:=Mp h;simp only[VR]at g;obtain⟨Q,rfl,g⟩:=g;obtain⟨C,z,X,B,q⟩:=TP X g;have Y:=And.intro (Int.natCast_nonneg j) (Int.ofNat_lt.2 (Nat.lt_of_lt_of_eq hj (alS _)));exact⟨C,z,z,X,B,aB.refl _,λs _=>by simp only[aop,MM,J,A,I,kw,ali Y,al5,q];rfl⟩
 case lookup t m k ok=>
  obtain⟨p,hp,h⟩:=am h;obtain⟨vm,j8,h⟩:=aM h;obtain⟨vk,j7,h⟩:=aM h;obtain⟨dm,j3,hm⟩:=D j8;obtain⟨dk,e9,hk⟩:=D j7;obtain⟨C,z,h,B,q⟩:=acw h hm hk;exact⟨C,z,z,h,B,aB.refl _,λs _=>by simp only[aop,JG,hp,j3,e9,q s];rfl⟩
 case extract x i=>
  obtain⟨v,o,h⟩:=aM h;obtain⟨d,A,g⟩:=D o;cases v<;>(try (simp at h;done));simp only at h;obtain⟨w,hw,h⟩:=am h;simp only[VR]at g;obtain⟨Q,rfl,g⟩:=g;obtain⟨e,B,q⟩:=g.get hw;exact⟨w,e,e,h,q,aB.refl _,λs _=>by simp only[aop,Ls,A,B];rfl⟩
 case call c=>
  obtain⟨F,k9,N⟩:=c;cases F<;>(try (simp at h;done));rename_i b;simp only at h;unfold sBi at h;cases b<;>(try (simp at h;done))<;>simp only at h
  case len=>
   split at h<;>try (cases h;done)
   rename_i x t k8 j4;obtain⟨k,hk,h⟩:=am h;obtain⟨v,o,h⟩:=aM h;obtain⟨d,A,g⟩:=D o;obtain⟨C,n,h,B,q⟩:=afe h g;refine⟨C,_,_,h,B,aB.refl _,λs _=> ?_⟩;simp only[aop,Am,k8,j4,aa4,hk,A,q];rfl
  case max=>
   obtain⟨vs,M,h⟩:=am h;obtain⟨Q,B,q⟩:=wX G M;cases vs<;>(try (simp at h;done));simp only[VRs]at q;obtain⟨e,es,rfl,O,P⟩:=q;obtain⟨C,z,h,V,W⟩:=TR h O P;exact⟨C,z,z,h,V,aB.refl _,λs _=>by simp only[aop,Am,oMM,B,mmL,W];rfl⟩
  case min=>
   obtain⟨vs,M,h⟩:=am h;obtain⟨Q,B,q⟩:=wX G M;cases vs<;>(try (simp at h;done));simp only[VRs]at q;obtain⟨e,es,rfl,O,P⟩:=q;obtain⟨C,z,h,V,W⟩:=TR h O P;exact⟨C,z,z,h,V,aB.refl _,λs _=>by simp only[aop,Am,oMM,B,mmL,W];rfl⟩
end
end
end Go.Fw
def alN:=@List.nil_append
def anR:=@List.set_append_right
def aoK:=@List.take_zero
namespace Go.Fw
noncomputable section
open Go.RowKit
inductive Upd where
 |same|set(l:Nat)(ob:aq)|push(ob:aq)
def Upd.ap:Upd->Sto->Sto
 |.same,s=>s
 |.set l a,s=>s.set l a
 |.push a,s=>s++[a]
def Upd.inFp(a:List Nat):Upd->Prop
 |.set l _=>l∈a
 |_=>True
def WOk{α:Type}(P:Program)(N:Nat)(o:Oper)(S:ae)(σ:Sto)(τ':Env)(c:List Nat)(K:SV->ae->Option α)(r:α):Prop:=
 ∃v b d a,K v b=some r/\(∀s:Sto,(∀l∈c,s[l]?=σ[l]?)->s.length=σ.length->AOp P N o τ' s λe f=>e=d/\f=Upd.ap a s)/\VR b (a.ap σ) v d/\StR b (a.ap σ)/\aK S σ b (a.ap σ)/\a.inFp c
def StR.lt{S:ae}{σ:Sto}(h:StR S σ){l:Nat}{o:il}(a:S[l]?=some o):l<σ.length:=by rw[<-h.len];exact aj a
def aK.push{S:ae}{σ:Sto}(_h:S.length=σ.length)(o:il)(a:aq):aK S σ (S++[o]) (σ++[a]):=by
 have v:∀{l:Nat}{x:aq},σ[l]?=some x->(σ++[a])[l]?=some x:=λb=>by rw[ak8 (aj b)];exact b
 refine⟨λl g d ⟨b,h⟩=>⟨by simp;omega,λt s f j c=> ?_⟩,λl g i o d ⟨b,h⟩=>⟨by simp;omega,λt s f j c=> ?_⟩⟩
 ·rw[ak8 b]at c;obtain⟨k,m⟩:=h t s f j c;exact⟨k,λq=>by obtain⟨e,u,n,p⟩:=m q;exact⟨e,u,v n,p⟩⟩
 ·rw[ak8 b]at c;obtain⟨k,m⟩:=h t s f j c;exact⟨k,λq=>by obtain⟨e,u,n,p⟩:=m q;exact⟨e,u,v n,p⟩⟩
def ObR.pres{S S':ae}{σ σ':Sto}(h:aK S σ S' σ'){o:il}{a:aq}(x:ObR S σ o a):ObR S' σ' o a:=by
 cases o with
 |cells i d=>obtain⟨b,c,rfl,e,f⟩:=x;exact⟨b,c,rfl,e,VRs.pres h _ _ f⟩
 |arr t k d g=>exact x
 |raw a=>exact x
 |it s p=>exact x
 |smap j=>exact x
 |junk=>exact x
def StR.push{S:ae}{σ:Sto}(h:StR S σ){o:il}{a:aq}(x:ObR (S++[o]) (σ++[a]) o a):StR (S++[o]) (σ++[a]):=by
 refine⟨by simp[h.len],λl j c=> ?_⟩;rcases alf l S.length with e|d
 ·rw[ak8 e]at c;obtain⟨b,f,i⟩:=h.obj l j c;exact⟨b,by rw[ak8 (aj f)];exact f,i.pres (aK.push h.len o a)⟩
 ·rw[ale d]at c;cases g:l-S.length with
  |zero=>
   rw[g]at c;simp at c;subst c;have:l=σ.length:=by rw[<-h.len];omega
   subst this;exact⟨a,by simp,x⟩
  |succ k=>rw[g]at c;simp at c
def gq{α:Type}{l:List α}{i j:Nat}{x:α}(h:i<l.length):(l.set i x)[j]?=if i=j then some x else l[j]? :=by
 by_cases e:i=j
 ·subst e;rw[alP h,ali rfl]
 ·rw[alI e,alJ e]
def StR.set{S:ae}{σ:Sto}(h:StR S σ){l:Nat}{p o:il}{a:aq}(g:S[l]?=some p)(m:aK S σ (S.set l o) (σ.set l a))(x:ObR (S.set l o) (σ.set l a) o a):StR (S.set l o) (σ.set l a):=by
 have f:=aj g;have d:=h.lt g;refine⟨by simp[h.len],λj n c=> ?_⟩;rw[gq f]at c;rw[gq d];by_cases e:l=j
 ·rw[ali e]at c⊢;cases c;exact⟨a,rfl,x⟩
 ·rw[alJ e]at c⊢;obtain⟨b,i,k⟩:=h.obj j n c;exact⟨b,i,k.pres m⟩
def aK.setGen{S:ae}{σ:Sto}(h:StR S σ){l:Nat}{D o:il}{a:aq}(A:S[l]?=some D)
 (B:∀g d,Bx S σ l g d->∀t c m b,o=.arr t c m b->g<=b/\(g=b->∃p u,a=.cells (t.flat c) p u/\d=.sl l u 0 c.length t.sz false))
 (C:∀g i k d,ApR S σ l g i k d->∀t c m b,o=.arr t c m b->g<=b/\(g=b->∃p u,a=.cells (t.flat c) p u/\d=.ptr l u (i.toNat*t.sz+k))):aK S σ (S.set l o) (σ.set l a):=by
 have s:=aj A;have n:=h.lt A;refine⟨λj g d q=>⟨by rw[ams];exact q.1,λt c m b f=> ?_⟩,λj g i k d q=>⟨by rw[ams];exact q.1,λt c m b f=> ?_⟩⟩
 ·rw[gq s]at f;rw[gq n];by_cases e:l=j
  ·subst e;rw[ali rfl]at f;cases f;obtain⟨v,w⟩:=B g d q t c m b rfl;exact⟨v,λz=>by obtain⟨p,u,x,y⟩:=w z;exact⟨p,u,by rw[ali rfl,x],y⟩⟩
  ·rw[alJ e]at f⊢;exact q.2 t c m b f
 ·rw[gq s]at f;rw[gq n];by_cases e:l=j
  ·subst e;rw[ali rfl]at f;cases f;obtain⟨v,w⟩:=C g i k d q t c m b rfl;exact⟨v,λz=>by obtain⟨p,u,x,y⟩:=w z;exact⟨p,u,by rw[ali rfl,x],y⟩⟩
  ·rw[alJ e]at f⊢;exact q.2 t c m b f
def aK.setCells{S:ae}{σ:Sto}(h:StR S σ){l:Nat}{cs cs':List SV}{fz fz':Bool}{a:aq}(b:S[l]?=some (.cells cs fz)):aK S σ (S.set l (.cells cs' fz')) (σ.set l a):=
 aK.setGen h b (λ_ _ _ _ _ _ _ e=>by cases e) (λ_ _ _ _ _ _ _ _ _ e=>by cases e)
def aK.setOther{S:ae}{σ:Sto}(h:StR S σ){l:Nat}{f o:il}{a:aq}(d:S[l]?=some f)(b:∀t i c g,o≠.arr t i c g):aK S σ (S.set l o) (σ.set l a):=
 aK.setGen h d (λ_ _ _ _ _ _ _ e=>absurd e (b _ _ _ _)) (λ_ _ _ _ _ _ _ _ _ e=>absurd e (b _ _ _ _))
def aK.setNext{S:ae}{σ:Sto}(h:StR S σ){l g:Nat}{t:TC}{xs s:List t.Den}{fz fz':Bool}{a:aq}(c:S[l]?=some (.arr t xs fz g)):aK S σ (S.set l (.arr t s fz' (g+1))) (σ.set l a):=
 aK.setGen h c (λn d f q j b m e=>by
  have:=(f.2 _ _ _ _ c).1;cases e;exact⟨omq,λp=>omq⟩) (λn i k d f q j b m e=>by
  have:=(f.2 _ _ _ _ c).1;cases e;exact⟨omq,λp=>omq⟩)
def aK.setSame{S:ae}{σ:Sto}(h:StR S σ){l g fr u j:Nat}{t:TC}{xs y:List t.Den}{fz fz':Bool}(v:S[l]?=some (.arr t xs fz g))(f:σ[l]?=some (.cells (t.flat xs) j u))(c:y.length=xs.length):
 aK S σ (S.set l (.arr t y fz' g)) (σ.set l (.cells (t.flat y) fr u)):=
 aK.setGen h v (λA d w B x a z e=>by
  obtain⟨n,p⟩:=w.2 _ _ _ _ v;cases e;refine⟨n,λs=> ?_⟩;obtain⟨m,C,b,q⟩:=p s;rw[f]at b;cases b;exact⟨fr,u,rfl,by rw[q,c]⟩) (λA i k d w B x a z e=>by
  obtain⟨n,p⟩:=w.2 _ _ _ _ v;cases e;refine⟨n,λs=> ?_⟩;obtain⟨m,C,b,q⟩:=p s;rw[f]at b;cases b;exact⟨fr,u,rfl,q⟩)
def AOp.weakSet{P:Program}{N:Nat}{o:Oper}{τ:Env}{s:Sto}{d:D}{l f u:Nat}{cs cs':List D}(q:l<s.length)(h:AOp P N o τ s λb c=>b=d/\c=s.set l (.cells cs f u))(g:bp cs cs'):
 AOp P N o τ s λb c=>b=d/\c=s.set l (.cells cs' f u):=by
 intro B G w a n p next Q t
 refine h B G w a n p next Q ?_
 rintro v y i b c j k m ⟨rfl,rfl⟩;have e:=k.weakObj (l:=l) (f:=f) (v:=u) (cs:=cs) (cs':=cs') (by rw[gq q,ali rfl]) g.length.symm (λz x=>g.reps x);rw[List.set_set]at e;exact t v y i _ _ j e m ⟨rfl,rfl⟩
def AOp.weakPush{P:Program}{N:Nat}{o:Oper}{τ:Env}{s:Sto}{d:D}{f u:Nat}{cs cs':List D}(h:AOp P N o τ s λb c=>b=d/\c=s++[.cells cs f u])(g:bp cs cs'):
 AOp P N o τ s λb c=>b=d/\c=s++[.cells cs' f u]:=by
 intro B G w a n p next Q q
 refine h B G w a n p next Q ?_
 rintro v x i b c j k m ⟨rfl,rfl⟩;have e:=k.weakObj (l:=s.length) (f:=f) (v:=u) (cs:=cs) (cs':=cs') siq g.length.symm (λy t=>g.reps t);rw[anR _ _ (ak7 _)]at e;simp only[anK,am7]at e;exact q v x i _ _ j e m ⟨rfl,rfl⟩
section
variable {α:Type}{P:Program}{T:Tys}{N:Nat}{o:Oper}{S:ae}{σ:Sto}{τ:ax}{τ' :Env}{K:SV→ae→Option α}{r:α}
def Xv(v:SV)(k:SV->Option α):Option α:=match v with
 |.int a b=>k (.int a b)
 |.bool b=>k (.bool b)
 |.str s=>k (.str s)
 |.sl t e f=>k (.sl t e f)
 |.nils=>k .nils
 |.lst c n f=>k (.lst c n f)
 |.agg c=>k (.agg c)
 |.tup c=>k (.tup c)
 |.func f a b=>k (.func f a b)
 |.iface t v=>k (.iface t v)
 |.own l g=>k (.own l g)
 |.ap l g i o=>k (.ap l g i o)
 |.rp t x o=>k (.rp t x o)
 |.rc c o=>k (.rc c o)
 |.raw d=>k (.raw d)
def VH(v:SV)(k:SV->Option α):Xv v k=k v:=by cases v<;>rfl
def Xw(l:List SV):(List SV->Option α)->Option α:=List.rec (λk=>k []) (λx _ a k=>Xv x λx=>a λb=>k (x::b)) l
def VI:∀(l:List SV)(k:List SV->Option α),Xw l k=k l
 |[],_=>rfl
 |x::a,k=>by show Xv x (λx=>Xw a λb=>k (x::b))=_;rw[VH];exact VI a _
def Gr(l:ae):(ae->Option α)->Option α:=List.rec (λk=>k []) (λo _ b k=>match o with
 |.cells a c=>Xw a λa=>b λS=>k (.cells a c::S)
 |o=>b λS=>k (o::S)) l
def qh:∀(S:ae)(k:ae->Option α),Gr S k=k S
 |[],_=>rfl
 |o::S,k=>by cases o<;>first
  |exact qh S _
  |(rename_i a b;show Xw a (λa=>Gr S λS=>k (.cells a b::S))=_;rw[VI];exact qh S _)
def Jh{b:Type}:List b->Nat->(Nat->Option α)->Option α
 |[],n,k=>k n
 |_::a,n,k=>Jh a (Nat.add n 1) k
variable{Z:Type}
def Af:∀(l:List Z)(n:Nat)(k:Nat->Option α),Jh l n k=k (n+l.length)
 |[],_,_=>rfl
 |x::a,n,k=>by rw[Jh,Af a];congr 1;simp only[ak4,Nat.add_eq];omega
def NR(T:Tys)(S:ae)(e:TypeId)(K:SV->ae->Option α):Option α:=(lk T.zero e).bind λz=>Jh S 0 λl=>Gr (S++[.cells (ky z) false]) λa=>K (.raw (.ptr l 0 0)) a
def Qo(tok:TOk T P)(a:StR S σ){e:TypeId}(b:o.op=.alloc e)(h:NR T S e K=some r):WOk P N o S σ τ' [] K r:=by
 simp only[NR,Af,qh,alS]at h;obtain⟨z,d,h⟩:=am h;refine⟨_,_,.ptr σ.length 0 0,.push (.cells z 0 0),h,λs _ c=> ?_,by simp only[VR,a.len],a.push ⟨z,0,rfl,λ_=>rfl,jl _ _ z⟩,aK.push a.len _ _,trivial⟩;refine aO tok ?_;rw[b];simp only[aop,d,Upd.ap,<-c];rfl
def Xx(S:ae)(v:SV)(K:SV->ae->Option α):Option α:=(EJ S v).bind λb=>Jh S 0 λl=>Gr (S++[.cells b false]) λa=>K (.raw (.ptr l 0 0)) a
def VJ(tok:TOk T P)(b:StR S σ)(k:ER S σ τ τ'){t:TypeId}{x:Operand}{v:SV}(m:o.op=.box t x)(p:sev τ x=some v)(h:Xx S v K=some r):WOk P N o S σ τ' [] K r:=by
 simp only[Xx,Af,qh,alS]at h;obtain⟨g,c,h⟩:=am h;obtain⟨d,l,e⟩:=eZ k p;obtain⟨a,i,j⟩:=Gl c e;have f:=aK.push b.len (.cells g false) (.cells a 0 0);refine⟨_,_,.ptr σ.length 0 0,.push (.cells a 0 0),h,λs _ n=> ?_,by simp only[VR,b.len],b.push ⟨a,0,rfl,λ_=>rfl,VRs.pres f _ _ j⟩,f,trivial⟩;refine aO tok ?_;rw[m];simp only[aop,aa3,l,i,Upd.ap,<-n]
def Lk(l o:Nat)(new cs:List SV)(S:ae)(K:SV->ae->Option α):Option α:=
 cond (Nat.ble (o+new.length) cs.length) (Gr (S.set l (.cells (cs.take o++new++cs.drop (o+new.length)) false)) λa=>K (.raw .junk) a) none
def BD(S:ae):SV->Bool
 |.agg _=>false
 |.tup _=>false
 |.raw d=>d.isCell
 |.own l g=>rN S l g
 |.ap l g _ _=>rN S l g
 |_=>true
def U8{v:SV}{d:D}(h:BD S v=true)(a:VR S σ v d):d.isCell=true:=by
 cases v<;>(try (simp[BD]at h;done))<;>simp only[BD]at h<;>simp only[VR]at a
 case own=>obtain⟨t,e,c,b,u,_,_,rfl⟩:=Jg h a;rfl
 case ap=>obtain⟨t,e,c,b,u,_,_,rfl⟩:=Gk h a;rfl
 case raw=>subst a;exact h
 all_goals first
  |(subst a;rfl)
  |(obtain⟨_,rfl,_⟩:=a;rfl)
  |(obtain⟨_,_,rfl,_⟩:=a;rfl)
  |(obtain⟨_,_,rfl⟩:=a;rfl)
def NT:∀{cs:List SV}{ds:List D},cs.all (BD S)=true->VRs S σ cs ds->ds.all D.isCell=true
 |[],_,_,h=>by simp only[VRs]at h;subst h;rfl
 |v::cs,_,a,h=>by
  simp only[amw,akY]at a;simp only[VRs]at h;obtain⟨e,d,rfl,b,c⟩:=h;simp only[amw,U8 a.1 b,NT a.2 c,amJ]
def Pl(S:ae)(l g:Nat)(i:Int)(o:Nat)(new:List SV)(K:SV->ae->Option α):Option α:=match S[l]? with
 |some (.arr b d f c)=>cond (Nat.beq g c&& !f&&Nat.beq o 0&&Nat.beq new.length b.sz) (cond (inb i d.length)
  (b.take new λx a=>match a with
    |[]=>Gr (S.set l (.arr b (d.set i.toNat x) false c)) λe=>K (.raw .junk) e
    |_=>none) none) none
 |_=>none
def Pm(S:ae)(l u o:Nat)(new:List SV)(K:SV->ae->Option α):Option α:=match S[l]? with
 |some (.cells a b)=>cond (Nat.beq u 0&& !b) (Lk l o new a S K) none
 |_=>none
def NU(T:Tys)(S:ae)(t:TypeId)(p v:SV)(K:SV->ae->Option α):Option α:=
 (lk T.ld t).bind λa=>(EJ S v).bind λnew=>cond (Nat.beq new.length a.1&&new.all (BD S)) (match p with
   |.raw d=>match d with
    |.ptr l u o=>Pm S l u o new K
    |_=>none
   |.ap l g i o=>Pl S l g i o new K
   |_=>none) none
def Qp(E:Enc Z)(x:Z):∀(xs:List Z)(i:Nat),i<xs.length->bH E (xs.set i x)=(bH E xs).take (i*E.sz)++E.cells x++(bH E xs).drop (i*E.sz+E.sz)
 |[],i,h=>by simp at h
 |y::a,0,h=>by
  simp only[am7,gn,amZ,aoK,alN,alS];rw[<-E.len y,List.drop_left]
 |y::a,i+1,h=>by
  have b:=Qp E x a i (by simpa using h);simp only[anJ,gn,b];have e:(i+1)*E.sz=(E.cells y).length+i*E.sz:=by rw[E.len,am3,Nat.one_mul,aoi]
  rw[e,aoJ,anc,anT,alp,alp,alp]
def Qq(tok:TOk T P)(O:StR S σ)(hE:ER S σ τ τ'){t:TypeId}{x y:Operand}{p v:SV}(ho:o.op=.store t x y)(hp:sev τ x=some p)(hv:sev τ y=some v)
 (h:NU T S t p v K=some r):WOk P N o S σ τ' (fpV p) K r:=by
 unfold NU at h;obtain⟨nb,j8,h0⟩:=am h;clear h;obtain⟨new,W,h⟩:=am h0;clear h0;rcases aR h with⟨Q,F⟩|⟨_,F⟩<;>try (cases F;done)
 clear h;simp only[akY]at Q;obtain⟨Q,I⟩:=Q;have Q:=bq Q;obtain⟨dp,j4,D⟩:=eZ hE hp;obtain⟨dv,j5,k8⟩:=eZ hE hv;obtain⟨E,U,A⟩:=Gl W k8;have q:=A.length;have m:=NT I A;obtain⟨n,b⟩:=nb;have L:∀(s M:Sto),wP s dp E=some M->AOp P N o τ' s λd' s'=>d'=.junk/\s'=M:=by
  intro s M hw;refine aO tok ?_;rw[ho];simp only[aop,RL,j8,j4,j5,U];rw[ali (show E.length=n by rw[q];exact Q),hw];rfl
 cases p<;>(try (simp at F;done))
 case raw e=>
  cases e<;>(try (simp at F;done));rename_i l u off;have k:Pm S l u off new K=some r:=F;clear F;unfold Pm at k;split at k<;>try (cases k;done)
  rename_i cs fz H;rcases aR k with⟨R,B⟩|⟨_,B⟩<;>try (cases B;done)
  clear k;simp only[akY,amu]at R;obtain⟨hu,rfl⟩:=R;have hu:=bq hu;subst hu;simp only[Lk,qh]at B;rcases aR B with⟨hb,G⟩|⟨_,G⟩<;>try (cases G;done)
  clear B;have hb:=alb hb;simp only[VR]at D;subst D;obtain⟨a,ha,f,fr,rfl,d,J⟩:=O.obj _ _ H;have d:=d rfl;subst d;have m6:=J.length;have j:aK S σ (S.set l (.cells (cs.take off++new++cs.drop (off+new.length)) false)) (σ.set l (.cells (f.take off++E++f.drop (off+E.length)) 0 0)):=aK.setCells O H;refine⟨_,_,.junk,.set l (.cells (f.take off++E++f.drop (off+E.length)) 0 0),G,λs hs _=> ?_,by simp only[VR],O.set H j ⟨_,0,rfl,λ_=>rfl,?_⟩,j,by simp[fpV,Upd.inFp]⟩
  ·refine L s _ ?_;have:=hs l (by simp[fpV]);simp only[wP,this,ha];rw[ali ⟨trivial,al2 _,omq,m⟩];rfl
  ·have hq:VRs S σ (cs.take off++new++cs.drop (off+new.length)) (f.take off++E++f.drop (off+E.length)):=by
    rw[q];exact((J.take off).append A).append (J.drop _)
   exact VRs.pres j _ _ hq
 case ap l g i off=>
  have k:Pl S l g i off new K=some r:=F;clear F;simp only[Pl,qh]at k;split at k<;>try (cases k;done)
  rename_i c C fz g' H;rcases aR k with⟨R,B⟩|⟨_,B⟩<;>try (cases B;done)
  clear k;simp only[akY,amu]at R;obtain⟨⟨⟨hg,rfl⟩,w⟩,Z⟩:=R;have hg:=bq hg;have w:=bq w;have Z:=bq Z;subst hg w;rcases aR B with⟨j6,G⟩|⟨_,G⟩<;>try (cases G;done)
  clear B;obtain⟨m8,m9⟩:=Pk j6;obtain⟨z,k9,d1,d2,h5,rfl,hw,hr⟩:=TC.take_ok c _ _ _ _ G A;clear G;split at h5<;>try (cases h5;done)
  simp only[VRs]at hr;subst hr;rw[alm]at q m U A L;simp only[VR]at D;obtain⟨fr,u,k4,rfl⟩:=(D.2 _ _ _ _ H).2 rfl;obtain⟨a,ha,m5,u',e9,d⟩:=O.obj _ _ H;rw[k4]at ha;cases ha;cases e9;have d:=d rfl;subst d;have j7:i.toNat<C.length:=omq;have m7:=eK c.enc C;have n5:i.toNat*c.sz+c.sz<=(c.flat C).length:=by
   rw[eK,<-anq];exact al6 _ omq
  have X:=Qp c.enc z C i.toNat j7;have j:aK S σ (S.set l (.arr c (C.set i.toNat z) false g)) (σ.set l (.cells (c.flat (C.set i.toNat z)) 0 u)):=aK.setSame O H k4 siq;refine⟨_,_,.junk,.set l (.cells (c.flat (C.set i.toNat z)) 0 u),h5,λs hs j9=> ?_,by simp only[VR],O.set H j ⟨0,u,rfl,λ_=>rfl⟩,j,by simp[fpV,Upd.inFp]⟩;have Y:=hs l (by simp[fpV]);have V:l<s.length:=by rw[j9];exact aj k4
  refine AOp.weakSet (cs:=(c.flat C).take (i.toNat*c.sz)++d1++(c.flat C).drop (i.toNat*c.sz+c.sz)) V (L s _ ?_) ?_
  ·have j3:d1.length=c.sz:=omq;simp only[wP,Y,k4,anx];rw[ali ⟨trivial,al2 _,omq,m⟩,j3]
  ·show bp _ (bH c.enc (C.set i.toNat z));rw[X];exact bp.append (bp.append (bp.refl _) hw) (bp.refl _)
end
end
end Go.Fw
