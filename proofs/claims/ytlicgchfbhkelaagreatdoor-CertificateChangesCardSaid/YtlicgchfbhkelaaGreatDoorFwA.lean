/- A framework for proofs about Go programs in this model: part A. Everything is proved; no condition is added. -/
import Derived.Calls
import Derived.Orders
import Derived.Below
import Derived.KernelRfl
import Derived.Lib.ItoaNum
import Derived.Lib.DecodeN
import Derived.Laws.Cells
import Derived.Laws.CopyRow
import Derived.Laws.CopyOwn
import Derived.Deep.AppendSrc
import Derived.Deep.Upon
import Derived.Laws.Strings
import Derived.Laws.StructEq
import Derived.Laws.Entries
set_option linter.unusedVariables false
set_option linter.unusedSimpArgs false
set_option linter.defProp false
namespace Go.Fw
def omq{P:Prop}(h:P:=by omega):P:=h
def krq{P:Prop}(h:P:=by kernel_rfl):P:=h
def siq{P:Prop}(h:P:=by simp):P:=h
def deq{P:Prop}(h:P:=by decide):P:=h
def asq{P:Prop}(h:P:=by assumption):P:=h
def soq{P:Prop}(h:P:=by simp;omega):P:=h
inductive D where
 |bool(b:Bool)
 |int(k:IntKind)(n:Int)
 |str(s:List UInt8)
 |nilp
 |ptr(l u o:Nat)
 |rptr(cs:List D)(o:Nat)
 |list(cs:List D)(n:Nat)(full:Bool)
 |sl(l u o n sz:Nat)(full:Bool)
 |map(l:Nat)
 |nilmap
 |cmap(ks vs:List D)
 |pmap(ks vs:List D)
 |func(fn:Fn)(first cap:List D)
 |nilf
 |iface(t:TypeId)(v:D)
 |nili
 |anyi
 |agg(cs:List D)
 |tuple(vs:List D)
 |junk
 deriving Inhabited
structure Gh where
 imm:Nat->Nat->Option Value
 mimm:Nat->Option (Array MapEntry)
 blk:Nat->Nat->Option Nat
 siz:Nat->Option Nat
structure Gh.Le(G G':Gh):Prop where
 imm:∀b o v,G.imm b o=some v->G'.imm b o=some v
 mimm:∀b es,G.mimm b=some es->G'.mimm b=some es
 blk:∀l u b,G.blk l u=some b->G'.blk l u=some b
 siz:∀b n,G.siz b=some n->G'.siz b=some n
def Gh.Le.refl(G:Gh):G.Le G:=⟨λ_ _ _ h=>h,λ_ _ h=>h,λ_ _ _ h=>h,λ_ _ h=>h⟩
def Gh.Le.trans{A B C:Gh}(h:A.Le B)(k:B.Le C):A.Le C:=
 ⟨λb o v x=>k.imm _ _ _ (h.imm b o v x),λb e x=>k.mimm _ _ (h.mimm b e x),λl u b x=>k.blk _ _ _ (h.blk l u b x),λb n x=>k.siz _ _ (h.siz b n x)⟩
mutual
def Rep(G:Gh):D->Value->Prop
 |.bool b,v=>v=.bool b
 |.int k n,v=>v=.int k n
 |.str s,v=>v=.string ⟨s.toArray⟩
 |.nilp,v=>v=.pointer none
 |.ptr l u o,v=>∃b,G.blk l u=some b/\v=.pointer (some ⟨b,o,none⟩)
 |.rptr cs o,v=>∃b o',v=.pointer (some ⟨b,o'+o,none⟩)/\Cells G b o' cs
 |.list cs n full,v=>∃a cap,v=.slice a n cap/\n<=cap/\cap<=9223372036854775807/\(full=true->cap=n)/\
  ((∃b o,a=some ⟨b,o,none⟩/\Cells G b o cs)∨cs=[])
 |.sl l u o n sz full,v=>(∃b cap tot,G.blk l u=some b/\v=.slice (some ⟨b,o,none⟩) n cap/\n<=cap/\cap<=9223372036854775807/\
  (full=true->cap=n)/\G.siz b=some tot/\o+cap*sz<=tot)∨(n=0/\∃a,v=.slice a 0 0)
 |.map l,v=>∃b,G.blk l 0=some b/\v=.map (some b)
 |.nilmap,v=>v=.map none
 |.cmap ks vs,v=>∃b es,v=.map (some b)/\G.mimm b=some es/\af G ks (es.toList.map (·.key))/\af G vs (es.toList.map (·.val))
 |.pmap ks vs,v=>∃b es π,v=.map (some b)/\G.mimm b=some es/\List.Perm π es.toList/\af G ks (π.map (·.key))/\af G vs (π.map (·.val))
 |.func fn first cap,v=>∃f c,v=.func fn f c/\af G first f.toList/\af G cap c.toList
 |.nilf,v=>v=.nilFunc
 |.iface t d,v=>∃x,v=.iface t x/\Rep G d x
 |.nili,v=>v=.nilIface
 |.anyi,v=>∃t x,v=.iface t x
 |.agg cs,v=>∃a,v=.agg a/\af G cs a.toList
 |.tuple cs,v=>∃a,v=.tuple a/\af G cs a.toList
 |.junk,_=>True
def Cells (G:Gh) (b:Nat):Nat->List D->Prop
 |_,[]=>True
 |o,d::ds=>(∃v,G.imm b o=some v/\Rep G d v)/\Cells G b (o+1) ds
def af (G:Gh):List D->List Value->Prop
 |[],vs=>vs=[]
 |d::ds,vs=>∃v r,vs=v::r/\Rep G d v/\af G ds r
end
mutual
def Rep.mono{G G':Gh}(h:G.Le G'):∀(d:D)(v:Value),Rep G d v->Rep G' d v
 |.bool _,_,x=>by simpa only[Rep] using x
 |.int _ _,_,x=>by simpa only[Rep] using x
 |.str _,_,x=>by simpa only[Rep] using x
 |.nilp,_,x=>by simpa only[Rep] using x
 |.ptr _ _ _,_,x=>by
  simp only[Rep]at x⊢;obtain⟨b,e,r⟩:=x;exact⟨b,h.blk _ _ _ e,r⟩
 |.rptr cs _,_,x=>by
  simp only[Rep]at x⊢;obtain⟨b,o',e,r⟩:=x;exact⟨b,o',e,Cells.mono h b _ cs r⟩
 |.list cs _ _,_,x=>by
  simp only[Rep]at x⊢;obtain⟨a,cap,e,h1,h2,h3,h4⟩:=x;refine⟨a,cap,e,h1,h2,h3,h4.imp ?_ id⟩;rintro⟨b,o,ha,hc⟩;exact⟨b,o,ha,Cells.mono h b _ cs hc⟩
 |.sl _ _ _ _ _ _,_,x=>by
  simp only[Rep]at x⊢;rcases x with⟨b,cap,tot,e,h1,h2,h3,h4,h5,h6⟩|x
  ·exact .inl ⟨b,cap,tot,h.blk _ _ _ e,h1,h2,h3,h4,h.siz _ _ h5,h6⟩
  ·exact .inr x
 |.map _,_,x=>by
  simp only[Rep]at x⊢;obtain⟨b,e,r⟩:=x;exact⟨b,h.blk _ _ _ e,r⟩
 |.nilmap,_,x=>by simpa only[Rep] using x
 |.cmap ks vs,_,x=>by
  simp only[Rep]at x⊢;obtain⟨b,es,e,hm,h1,h2⟩:=x;exact⟨b,es,e,h.mimm _ _ hm,af.mono h ks _ h1,af.mono h vs _ h2⟩
 |.pmap ks vs,_,x=>by
  simp only[Rep]at x⊢;obtain⟨b,es,π,e,hm,hπ,h1,h2⟩:=x;exact⟨b,es,π,e,h.mimm _ _ hm,hπ,af.mono h ks _ h1,af.mono h vs _ h2⟩
 |.func _ first cap,_,x=>by
  simp only[Rep]at x⊢;obtain⟨f,c,e,h1,h2⟩:=x;exact⟨f,c,e,af.mono h first _ h1,af.mono h cap _ h2⟩
 |.nilf,_,x=>by simpa only[Rep] using x
 |.iface _ d,_,x=>by
  simp only[Rep]at x⊢;obtain⟨y,e,h1⟩:=x;exact⟨y,e,Rep.mono h d _ h1⟩
 |.nili,_,x=>by simpa only[Rep] using x
 |.anyi,_,x=>by simpa only[Rep] using x
 |.agg cs,_,x=>by
  simp only[Rep]at x⊢;obtain⟨a,e,h1⟩:=x;exact⟨a,e,af.mono h cs _ h1⟩
 |.tuple cs,_,x=>by
  simp only[Rep]at x⊢;obtain⟨a,e,h1⟩:=x;exact⟨a,e,af.mono h cs _ h1⟩
 |.junk,_,_=>by simp only[Rep]
def Cells.mono {G G':Gh} (h:G.Le G') (b:Nat):∀(o:Nat)(ds:List D),Cells G b o ds->Cells G' b o ds
 |_,[],_=>by simp only[Cells]
 |o,d::ds,x=>by
  simp only[Cells]at x⊢;obtain⟨⟨v,e,r⟩,hs⟩:=x;exact⟨⟨v,h.imm _ _ _ e,Rep.mono h d v r⟩,Cells.mono h b _ ds hs⟩
def af.mono {G G':Gh} (h:G.Le G'):∀(ds:List D)(vs:List Value),af G ds vs->af G' ds vs
 |[],_,x=>by simpa only[af] using x
 |d::ds,_,x=>by
  simp only[af]at x⊢;obtain⟨v,r,e,h1,h2⟩:=x;exact⟨v,r,e,Rep.mono h d v h1,af.mono h ds r h2⟩
end
end Go.Fw
def ak7:=@Nat.le_refl
def ak8:=@List.getElem?_append_left
def alf:=@Nat.lt_or_ge
def alg:=@List.getElem?_eq_none
def alo:=@Array.getElem?_eq_getElem
def alO:=@Nat.lt_of_lt_of_le
def alV:=@if_false
def al1:=@if_true
def amh:=@Go.RowKit.Below.refl
def anp:=@Array.getElem?_eq_none
def aor:=@Go.RowKit.Below.heap_alloc
def aox:=@Go.World.cell?_alloc_lt
namespace Go.Fw
open Go.RowKit
inductive aq where
 |cells(cs:List D)(frz:Nat)(ver:Nat)
 |map(ks vs:List D)
 |siter(s:List UInt8)(pos:Nat)
 |miter(ks vs:List D)(rem:List Nat)(cur:Option Nat)
 |dead
 |gone
 deriving Inhabited
def aq.ver:aq->Nat
 |.cells _ _ u=>u
 |_=>0
def aq.frz:aq->Nat
 |.cells _ f _=>f
 |_=>0
def aq.len:aq->Nat
 |.cells a _ _=>a.length
 |_=>0
def Rj(w:World)(b:Nat)(es:Array MapEntry):Prop:=w.heap[b]?=some (.map es es.size)/\∀(i:Nat)(e:MapEntry),es[i]?=some e->e.born=i
def oP(G:Gh)(w:World)(b:Nat):aq->Prop
 |.cells f _ _=>∃c g,w.heap[b]?=some (.cells c g (0,0))/\G.siz b=some c.size/\∃h,∃e,c.toList=e++h/\af G f e
 |.map d c=>∃a,Rj w b a/\af G d (a.toList.map (·.key))/\af G c (a.toList.map (·.val))
 |.siter s pos=>w.heap[b]?=some (.stringIter ⟨s.toArray⟩ pos)
 |.miter d c rem cur=>∃m a seen,w.heap[b]?=some (.mapIter (some m) a.size seen a.size)/\G.mimm m=some a/\af G d (a.toList.map (·.key))/\af G c (a.toList.map (·.val))/\
  (∀i,i∈rem↔i<a.size/\seen.contains i=false)/\(∀i,cur=some i->seen.back?=some i)
 |.dead=>False
 |.gone=>b<w.heap.size
def OU(s:String):Option (List D):=if s= "strconv.ErrSyntax" then some [.anyi] else if s= "strconv.ErrRange" then some [.anyi] else none
def mX(P:Program)(g:Nat):Option (List D):=(P.globals[g]?).bind λv=>OU v.name
structure SE(P:Program)(w:World):Prop where
 pow:∀g,P.globalNamed "internal/strconv.uint64pow10" =some g->∃t f,w.heap[g]?=some (.cells (Lib.pow10Tab.map λz=>Value.int .u64 z).toArray t f)
 mx:∀g,P.globalNamed "internal/bytealg.MaxLen" =some g->∃m t f,w.heap[g]?=some (.cells #[.int .i64 m] t f)
 fst:∀g,P.globalNamed "unicode/utf8.first" =some g->g<w.heap.size/\∀c,c<256->w.cell? ⟨g,c,none⟩=some (.int .u8 (Lib.firstT c))
 acc:∀g,P.globalNamed "unicode/utf8.acceptRanges" =some g->g<w.heap.size/\∀i,i<16->w.cell? ⟨g,2*i,none⟩=some (.int .u8 (Lib.accLo i))/\w.cell? ⟨g,2*i+1,none⟩=some (.int .u8 (Lib.accHi i))
def SE.below{P:Program}{n:Nat}{w l:World}(h:SE P w)(e:Below n w l)(p:n=w.heap.size):SE P l:=by
 subst p;have lt:∀{g:Nat}{o:Obj},w.heap[g]?=some o->g<w.heap.size:=λ{g o} h=>by
  rcases alf g w.heap.size with i|i
  ·exact i
  ·rw[anp i]at h;cases h
 have b:∀{g c:Nat},g<w.heap.size->l.cell? ⟨g,c,none⟩=w.cell? ⟨g,c,none⟩:=λ{g c} h=>by
  unfold World.cell?;simp only[e.block g h]
 refine⟨λg d=> ?_,λg d=> ?_,λg d=> ?_,λg d=> ?_⟩
 ·obtain⟨t,f,a⟩:=h.pow g d;exact⟨t,f,by rw[e.block g (lt a),a]⟩
 ·obtain⟨m,t,f,a⟩:=h.mx g d;exact⟨m,t,f,by rw[e.block g (lt a),a]⟩
 ·obtain⟨a,j⟩:=h.fst g d;exact⟨alO a e.size,λc k=>by rw[b a];exact j c k⟩
 ·obtain⟨a,j⟩:=h.acc g d;exact⟨alO a e.size,λc k=>by rw[b a,b a];exact j c k⟩
def GlobOk(P:Program)(G:Gh)(w:World):Prop:=(∀(g:Nat)(a:List D),mX P g=some a->g<w.heap.size/\Rep G (.rptr a 0) (.pointer (some ⟨g,0,none⟩)))/\SE P w
structure bE(P:Program) where
 w:World
 g:Gh
 gl:GlobOk P g w
 lim:∀b o v,g.imm b o=some v->b<w.heap.size
 lmm:∀b es,g.mimm b=some es->b<w.heap.size
structure Rel{P:Program}(B:bE P)(G:Gh)(σ:List aq)(w:World):Prop where
 below:Below B.w.heap.size B.w w
 imm:∀b o v,G.imm b o=some v->w.cell? ⟨b,o,none⟩=some v
 mimm:∀b es,G.mimm b=some es->Rj w b es
 siz:∀b n,G.siz b=some n->∃vs et f,w.heap[b]?=some (.cells vs et f)/\vs.size=n
 blk:∀l u b,G.blk l u=some b->l<σ.length/\B.w.heap.size<=b/\b<w.heap.size
 inj:∀l u l' u' b,G.blk l u=some b->G.blk l' u'=some b->l=l'
 obj:∀l ob b,σ[l]?=some ob->G.blk l ob.ver=some b->oP G w b ob
 own:∀l cs frz u b,σ[l]?=some (.cells cs frz u)->G.blk l u=some b->∀o v,G.imm b o=some v->o<frz
 ownm:∀l ks vs b,σ[l]?=some (.map ks vs)->G.blk l 0=some b->G.mimm b=none
 ver:∀l ob,σ[l]?=some ob->ob.ver<=ob.len/\∀u b,G.blk l u=some b->u<=ob.ver
 frzle:∀(l:Nat)(ob:aq),σ[l]?=some ob->ob.frz<=ob.len
 bimm:∀b o,b<B.w.heap.size->G.imm b o=B.g.imm b o
 bmimm:∀b,b<B.w.heap.size->G.mimm b=B.g.mimm b
def bB{w:World}{b:Nat}{o:Obj}(h:w.heap[b]?=some o):b<w.heap.size:=by
 rcases alf b w.heap.size with a|a
 ·exact a
 ·rw[anp a]at h;cases h
def ed{w:World}{b o:Nat}{v:Value}(h:w.cell? ⟨b,o,none⟩=some v):b<w.heap.size:=
 World.block_lt_of_cell? w _ h
def oP.keep{G G':Gh}{w k:World}{b:Nat}{ob:aq}(a:G.Le G')(h:oP G w b ob)(e:k.heap[b]?=w.heap[b]?):oP G' k b ob:=by
 cases ob with
 |cells C p u=>
  obtain⟨j,n,c,d,B,v,f,i⟩:=h;exact⟨j,n,e.trans c,a.siz _ _ d,B,v,f,af.mono a _ _ i⟩
 |map y j=>
  obtain⟨g,c,d,f⟩:=h;exact⟨g,⟨e.trans c.1,c.2⟩,af.mono a _ _ d,af.mono a _ _ f⟩
 |siter s z=>exact e.trans h
 |miter y j A l=>
  obtain⟨m,g,seen,c,d,f,i,r,t⟩:=h;exact⟨m,g,seen,e.trans c,a.mimm _ _ d,af.mono a _ _ f,af.mono a _ _ i,r,t⟩
 |dead=>exact h.elim
 |gone=>
  have q:b<w.heap.size:=h;obtain⟨o,x⟩:∃o,w.heap[b]?=some o:=⟨_,alo q⟩;exact bB (e.trans x)
def oP.lt{G:Gh}{w:World}{b:Nat}{ob:aq}(h:oP G w b ob):b<w.heap.size:=by
 cases ob with
 |cells k f u=>obtain⟨c,l,a,_⟩:=h;exact bB a
 |map g c=>obtain⟨e,a,_⟩:=h;exact bB a.1
 |siter s i=>exact bB h
 |miter g c j d=>obtain⟨m,e,seen,a,_⟩:=h;exact bB a
 |dead=>exact h.elim
 |gone=>exact h
structure FW(G G':Gh)(w w':World):Prop where
 le:G.Le G'
 below:Below w.heap.size w w'
 blk:G'.blk=G.blk
 imm:∀b o v,G'.imm b o=some v->w'.cell? ⟨b,o,none⟩=some v
 mimm:∀b es,G'.mimm b=some es->Rj w' b es
 siz:∀b n,G'.siz b=some n->∃vs et f,w'.heap[b]?=some (.cells vs et f)/\vs.size=n
 imm_new:∀b o,b<w.heap.size->G'.imm b o=G.imm b o
 mimm_new:∀b,b<w.heap.size->G'.mimm b=G.mimm b
def Rel.grow{P:Program}{B:bE P}{G G':Gh}{σ:List aq}{w c:World}(h:Rel B G σ w)(g:FW G G' w c):Rel B G' σ c where
 below:=h.below.trans (g.below.mono h.below.size)
 imm:=g.imm
 mimm:=g.mimm
 siz:=g.siz
 blk l u b hb:=by
  rw[g.blk]at hb;obtain⟨d,e,f⟩:=h.blk l u b hb;exact⟨d,e,alO f g.below.size⟩
 inj:=by rw[g.blk];exact h.inj
 obj l ob b ho hb:=by
  rw[g.blk]at hb;have a:=h.obj l ob b ho hb;exact a.keep g.le (g.below.block b a.lt)
 own l cs frz u b ho hb o v hi:=by
  rw[g.blk]at hb;rw[g.imm_new b o (h.blk _ _ _ hb).2.2]at hi;exact h.own l cs frz u b ho hb o v hi
 ownm l ks vs b ho hb:=by
  rw[g.blk]at hb;rw[g.mimm_new b (h.blk _ _ _ hb).2.2];exact h.ownm l ks vs b ho hb
 ver:=by rw[g.blk];exact h.ver
 frzle:=h.frzle
 bimm b o hb:=(g.imm_new b o (alO hb h.below.size)).trans (h.bimm b o hb)
 bmimm b hb:=(g.mimm_new b (alO hb h.below.size)).trans (h.bmimm b hb)
def FW.of_below{P:Program}{B:bE P}{G:Gh}{σ:List aq}{w g:World}(h:Rel B G σ w)(c:Below w.heap.size w g):FW G G w g where
 le:=.refl G
 below:=c
 blk:=rfl
 imm b o v hi:=by
  have a:=h.imm b o v hi;rw[c.cell (p:=⟨b,o,none⟩) (ed a)];exact a
 mimm b es hm:=by
  obtain⟨a,d⟩:=h.mimm b es hm;exact⟨(c.block b (bB a)).trans a,d⟩
 siz b n hs:=by
  obtain⟨k,i,f,e,j⟩:=h.siz b n hs;exact⟨k,i,f,(c.block b (bB e)).trans e,j⟩
 imm_new _ _ _:=rfl
 mimm_new _ _:=rfl
def Rel.of_below{P:Program}{B:bE P}{G:Gh}{σ:List aq}{w a:World}(h:Rel B G σ w)(b:Below w.heap.size w a):Rel B G σ a:=
 h.grow (.of_below h b)
def Rel.drew{P:Program}{B:bE P}{G:Gh}{σ:List aq}{w:World}(h:Rel B G σ w):Rel B G σ w.drew:=h.of_below (amh _ _).drew
def Gh.addImm(G:Gh)(b:Nat)(vs:List Value):Gh:=
 {G with imm:=λa o=>if a=b then vs[o]? else G.imm a o}
def aby(w:World)(c:Array Value)(t:TypeId)(f:Nat×Nat)(o:Nat):(w.alloc (.cells c t f)).cell? ⟨w.heap.size,o,none⟩=c[o]? :=by
 have h:(w.alloc (.cells c t f)).heap[w.heap.size]?=some (.cells c t f):=by show(w.heap.push _)[w.heap.size]?=_;simp
 unfold World.cell?;rw[h];rfl
def LT(w:World)(o:Obj):(w.alloc o).heap[w.heap.size]?=some o:=by show(w.heap.push _)[w.heap.size]?=_;simp
def SG{P:Program}{B:bE P}{G:Gh}{σ:List aq}{w:World}(h:Rel B G σ w)(hd tl:List Value)(t:TypeId)(f:Nat×Nat)(c:Array Value)(r:c.toList=hd++tl):
 FW G (G.addImm w.heap.size hd) w (w.alloc (.cells c t f)) where
 le:=by
  refine⟨λb o v a=> ?_,λ_ _ x=>x,λ_ _ _ x=>x,λ_ _ x=>x⟩;have d:=ed (h.imm b o v a);have:b≠w.heap.size:=Nat.ne_of_lt d;simp[Gh.addImm,this,a]
 below:=(amh _ _).alloc (ak7 _) _
 blk:=rfl
 imm b o v a:=by
  by_cases e:b=w.heap.size
  ·subst e;simp only[Gh.addImm,al1]at a;rw[aby];have:c[o]?=c.toList[o]? :=by simp
   rw[this,r,ak8]
   ·exact a
   ·rcases alf o hd.length with i|i
    ·exact i
    ·rw[alg i]at a;cases a
  ·simp only[Gh.addImm,e,alV]at a;have g:=h.imm b o v a;have d:=ed g;rw[aox _ _ _ (by simpa using d)];exact g
 mimm b es hm:=by
  obtain⟨l,j⟩:=h.mimm b es hm;exact⟨(aor _ _ _ (bB l)).trans l,j⟩
 siz b n hs:=by
  obtain⟨s,m,p,k,q⟩:=h.siz b n hs;exact⟨s,m,p,(aor _ _ _ (bB k)).trans k,q⟩
 imm_new b o hb:=by
  have:b≠w.heap.size:=Nat.ne_of_lt hb;simp[Gh.addImm,this]
 mimm_new _ _:=rfl
def Bj{G:Gh}{b:Nat}(vs:List Value):∀(ds:List D)(pre r:List Value),vs=pre++r->af G ds r->G.Le (G.addImm b vs)->Cells (G.addImm b vs) b pre.length ds
 |[],_,_,_,_,_=>by simp only[Cells]
 |d::ds,pre,r,e,a,hle=>by
  simp only[af]at a;obtain⟨v,g,rfl,c,f⟩:=a;simp only[Cells];refine⟨⟨v,by simp[Gh.addImm,e],Rep.mono hle _ _ c⟩,?_⟩;have:=Bj (b:=b) vs ds (pre++[v]) g (by simp[e]) f hle;simpa using this
end Go.Fw
def alI:=@List.getElem?_set_ne
def alP:=@List.getElem?_set_self
def ama:=@Nat.lt_irrefl
def amo:=@Nat.le_trans
def ams:=@List.length_set
def amO:=@Ne.symm
namespace Go.Fw
open Go.RowKit
def Gh.bind(G:Gh)(l u b n:Nat):Gh:=
 {G with blk:=λa c=>if a=l/\c=u then some b else G.blk a c,siz:=λk=>if k=b then some n else G.siz k}
section
variable {P:Program}{B:bE P}{G:Gh}{σ σ' :List aq}{w:World}
def Rel.imm_lt(h:Rel B G σ w){b o:Nat}{v:Value}(a:G.imm b o=some v):b<w.heap.size:=ed (h.imm b o v a)
def Rel.imm_new(h:Rel B G σ w)(o:Nat):G.imm w.heap.size o=none:=by
 cases a:G.imm w.heap.size o with
 |none=>rfl
 |some v=>exact absurd (h.imm_lt a) (ama _)
def Rel.mimm_new(h:Rel B G σ w):G.mimm w.heap.size=none:=by
 cases b:G.mimm w.heap.size with
 |none=>rfl
 |some v=>obtain⟨a,_⟩:=h.mimm _ _ b;exact absurd (bB a) (ama _)
def Rel.siz_new(h:Rel B G σ w):G.siz w.heap.size=none:=by
 cases b:G.siz w.heap.size with
 |none=>rfl
 |some v=>obtain⟨d,c,f,a,_⟩:=h.siz _ _ b;exact absurd (bB a) (ama _)
def aeA(h:Rel B G σ w){l u n:Nat}(d:G.blk l u=none):G.Le (G.bind l u w.heap.size n):=by
 refine⟨λ_ _ _ x=>x,λ_ _ x=>x,λf g b a=> ?_,λb i c=> ?_⟩
 ·by_cases e:f=l/\g=u
  ·obtain⟨rfl,rfl⟩:=e;rw[d]at a;cases a
  ·simp[Gh.bind,e,a]
 ·by_cases e:b=w.heap.size
  ·subst e;rw[h.siz_new]at c;cases c
  ·simp[Gh.bind,e,c]
def Rel.bindCells(h:Rel B G σ w){l u frz:Nat}{cs:List D}{hd tl:List Value}{c:Array Value}(t:TypeId)(F:σ.length<=σ'.length)(H:∀d,d≠l->σ'[d]?=σ[d]?)
 (s:σ'[l]?=some (.cells cs frz u))(X:G.blk l u=none)(I:u<=cs.length/\∀i b,G.blk l i=some b->i<=u)(R:frz<=cs.length)(W:c.toList=hd++tl)(Z:af G cs hd):
 G.Le (G.bind l u w.heap.size c.size)/\Rel B (G.bind l u w.heap.size c.size) σ' (w.alloc (.cells c t)):=by
 have x:=aeA h (n:=c.size) X;have m:∀k,k<w.heap.size->(w.alloc (.cells c t)).heap[k]?=w.heap[k]? :=λk r=>aor _ _ _ r;have q:(w.alloc (.cells c t)).heap[w.heap.size]?=some (.cells c t):=LT _ _;refine⟨x,?_⟩;constructor
 ·exact h.below.alloc h.below.size _
 ·intro b o v K;have E:=h.imm b o v K;rw[aox _ _ _ (by simpa using ed E)];exact E
 ·intro b U Y;obtain⟨r,Q⟩:=h.mimm b U Y;exact⟨(m _ (bB r)).trans r,Q⟩
 ·intro b n L;by_cases e:b=w.heap.size
  ·subst e;simp[Gh.bind]at L;exact⟨c,t,_,q,L⟩
  ·simp[Gh.bind,e]at L;obtain⟨S,V,f,j,p⟩:=h.siz b n L;exact⟨S,V,f,(m _ (bB j)).trans j,p⟩
 ·intro d i b g;by_cases e:d=l/\i=u
  ·obtain⟨rfl,rfl⟩:=e;simp[Gh.bind]at g;subst g;refine⟨?_,h.below.size,by simp⟩;rcases alf d σ'.length with N|N
   ·exact N
   ·rw[alg N]at s;cases s
  ·simp[Gh.bind,e]at g;obtain⟨j,p,h3⟩:=h.blk d i b g;exact⟨alO j F,p,by simp;omega⟩
 ·intro l1 u1 T u2 b j p;by_cases J:l1=l/\u1=u
  ·by_cases A:T=l/\u2=u
   ·exact J.1.trans A.1.symm
   ·simp[Gh.bind,J]at j;simp[Gh.bind,A]at p;subst j;exact absurd (h.blk _ _ _ p).2.2 (ama _)
  ·by_cases A:T=l/\u2=u
   ·simp[Gh.bind,A]at p;simp[Gh.bind,J]at j;subst p;exact absurd (h.blk _ _ _ j).2.2 (ama _)
   ·simp[Gh.bind,J]at j;simp[Gh.bind,A]at p;exact h.inj _ _ _ _ _ j p
 ·intro d y b a g;by_cases e:d=l
  ·subst e;rw[s]at a;cases a;simp[Gh.bind,aq.ver]at g;subst g;exact⟨c,t,q,by simp[Gh.bind],tl,hd,W,af.mono x _ _ Z⟩
  ·simp[Gh.bind,e]at g;rw[H d e]at a;have r:=h.obj d y b a g;exact r.keep x (m _ r.lt)
 ·intro d M C i b a g o v K;by_cases e:d=l/\i=u
  ·simp[Gh.bind,e]at g;subst g;have:G.imm w.heap.size o=some v:=K;rw[h.imm_new]at this;cases this
  ·have O:G.blk d i=some b:=by simpa[Gh.bind,e] using g
   by_cases z:d=l
   ·subst z;rw[s]at a;cases a;exact absurd ⟨rfl,rfl⟩ e
   ·rw[H d z]at a;exact h.own d M C i b a O o v K
 ·intro d ks S b a g;by_cases e:d=l
  ·subst e;rw[s]at a;cases a
  ·simp[Gh.bind,e]at g;rw[H d e]at a;exact h.ownm d ks S b a g
 ·intro d y a;by_cases e:d=l
  ·subst e;rw[s]at a;cases a;refine⟨I.1,λi b g=> ?_⟩;by_cases z:i=u
   ·subst z;exact ak7 _
   ·simp[Gh.bind,z]at g;exact I.2 i b g
  ·rw[H d e]at a;refine⟨(h.ver d y a).1,λi b g=> ?_⟩;simp[Gh.bind,e]at g;exact(h.ver d y a).2 i b g
 ·intro d y a;by_cases e:d=l
  ·subst e;rw[s]at a;cases a;exact R
  ·rw[H d e]at a;exact h.frzle d y a
 ·exact h.bimm
 ·exact h.bmimm
def Rel.update(h:Rel B G σ w){G':Gh}{J:World}{l b:Nat}{ob m:aq}(hl:σ[l]?=some ob)(Z:G.blk l ob.ver=some b)
 (N:G.Le G')(p:∀i D c,G'.blk i D=some c->G.blk i D=some c∨(i=l/\D=m.ver/\c=b))
 (q:G'.blk l m.ver=some b)
 (r:∀c o v,G'.imm c o=some v->J.cell? ⟨c,o,none⟩=some v/\(c≠b->G.imm c o=some v))(t:G'.mimm=G.mimm)(j5:G'.siz=G.siz)
 (M:Below B.w.heap.size B.w J)(I:J.heap.size=w.heap.size)(x:∀k,k≠b->J.heap[k]?=w.heap[k]?)
 (j4:∀n,G.siz b=some n->∃L W f,J.heap[b]?=some (.cells L W f)/\L.size=n)(O:G.mimm b=none)
 (Q:oP G' J b m)(R:∀V A u,m=.cells V A u->∀o v,G'.imm b o=some v->o<A)(S:ob.ver<=m.ver/\m.ver<=m.len)(j3:m.frz<=m.len):Rel B G' (σ.set l m) J:=by
 have s:l<σ.length:=by
  rcases alf l σ.length with X|X
  ·exact X
  ·rw[alg X]at hl;cases hl
 have j:∀i D c,i≠l->G'.blk i D=some c->G.blk i D=some c/\c≠b:=by
  intro i D c hn d;rcases p _ _ _ d with g|⟨g,_⟩
  ·exact⟨g,λe=>hn (h.inj _ _ _ _ _ (e▸g) Z)⟩
  ·exact absurd g hn
 constructor
 ·exact M
 ·exact λc o v T=>(r c o v T).1
 ·intro c es U;rw[t]at U;obtain⟨hk,e9⟩:=h.mimm c es U;by_cases e:c=b
  ·subst e;rw[O]at U;cases U
  ·exact⟨(x _ e).trans hk,e9⟩
 ·intro c n hs;rw[j5]at hs;by_cases e:c=b
  ·subst e;exact j4 n hs
  ·obtain⟨L,W,f,g,z⟩:=h.siz c n hs;exact⟨L,W,f,(x _ e).trans g,z⟩
 ·intro i D c d;rw[ams,I];rcases p _ _ _ d with g|⟨g,_,C⟩
  ·exact h.blk _ _ _ g
  ·subst g;subst C;exact h.blk _ _ _ Z
 ·intro l1 u1 l2 u2 c g z;by_cases K:l1=l
  ·by_cases E:l2=l
   ·exact K.trans E.symm
   ·have H:c=b:=by
     rcases p _ _ _ g with C|⟨_,_,C⟩
     ·subst K;obtain⟨Y,h5⟩:=j _ _ _ E z;exact absurd (h.inj _ _ _ _ _ Y C) E
     ·exact C
    exact absurd H (j _ _ _ E z).2
  ·by_cases E:l2=l
   ·have H:c=b:=by
     rcases p _ _ _ z with C|⟨_,_,C⟩
     ·subst E;obtain⟨Y,h5⟩:=j _ _ _ K g;exact absurd (h.inj _ _ _ _ _ Y C) K
     ·exact C
    exact absurd H (j _ _ _ K g).2
   ·exact h.inj _ _ _ _ _ (j _ _ _ K g).1 (j _ _ _ E z).1
 ·intro i y c a d;by_cases e:i=l
  ·subst e;rw[alP s]at a;cases a;rw[q]at d;cases d;exact Q
  ·rw[alI (amO e)]at a;obtain⟨g,z⟩:=j _ _ _ e d;exact(h.obj i y c a g).keep N (x _ z)
 ·intro i V A u c a d o v T;by_cases e:i=l
  ·subst e;rw[alP s]at a;cases a;have:c=b:=by
    have:=q;simp only[aq.ver]at this;rw[this]at d;cases d;rfl
   subst this;exact R _ _ _ rfl o v T
  ·rw[alI (amO e)]at a;obtain⟨g,z⟩:=j _ _ _ e d;exact h.own i V A u c a g o v ((r _ _ _ T).2 z)
 ·intro i ks L c a d;rw[t];by_cases e:i=l
  ·subst e;rw[alP s]at a;cases a;have:c=b:=by
    have:=q;simp only[aq.ver]at this;rw[this]at d;cases d;rfl
   subst this;exact O
  ·rw[alI (amO e)]at a;exact h.ownm i ks L c a (j _ _ _ e d).1
 ·intro i y a;by_cases e:i=l
  ·subst e;rw[alP s]at a;cases a;refine⟨S.2,λu c d=> ?_⟩;rcases p _ _ _ d with g|⟨_,g,_⟩
   ·exact amo ((h.ver _ _ hl).2 u c g) S.1
   ·omega
  ·rw[alI (amO e)]at a;exact⟨(h.ver _ _ a).1,λu c d=>(h.ver _ _ a).2 u c (j _ _ _ e d).1⟩
 ·intro i y a;by_cases e:i=l
  ·subst e;rw[alP s]at a;cases a;exact j3
  ·rw[alI (amO e)]at a;exact h.frzle _ _ a
 ·intro c o F;have j6:=(h.blk _ _ _ Z).2.1;rw[<-h.bimm c o F];cases d:G'.imm c o with
  |none=>
   cases hy:G.imm c o with
   |none=>rfl
   |some v=>rw[N.imm _ _ _ hy]at d;cases d
  |some v=>exact((r _ _ _ d).2 omq).symm
 ·intro c F;rw[t];exact h.bmimm c F
end
end Go.Fw
def akY:=@Bool.and_eq_true
def ak1:=@Option.some.injEq
def ak9:=@Go.Result.andThen_ok
def ald:=@Go.run_underlying
def alh:=@Go.Sem.run_bind
def aln:=@Prod.mk.injEq
def alr:=@List.mem_cons
def als:=@Go.Sem.run_pure
def alT:=@List.cons_append
def alU:=@Bool.false_eq_true
def amw:=@List.all_cons
def amK:=@Option.map_eq_some_iff
def am0:=@List.take_succ_cons
def am6:=@Go.run_loadCells_list
def aoc:=@List.getElem?_drop
def aoL:=@List.getElem?_take
namespace Go.Fw
open Go.RowKit
def cD1:Value->Option D
 |.bool b=>some (.bool b)
 |.int k n=>some (.int k n)
 |.string s=>some (.str s.data.toList)
 |.pointer none=>some .nilp
 |.slice none 0 0=>some (.list [] 0 true)
 |.map none=>some .nilmap
 |.nilFunc=>some .nilf
 |.nilIface=>some .nili
 |_=>none
def Vh(G:Gh){v:Value}{d:D}(h:cD1 v=some d):Rep G d v:=by
 unfold cD1 at h;split at h<;>first|(cases h;done)|(cases h;simp[Rep])
def cDs:List Value->Option (List D)
 |[]=>some []
 |v::b=>match cD1 v with
  |some d=>match cDs b with
   |some a=>some (d::a)
   |none=>none
  |none=>none
def mY(G:Gh):∀{vs:List Value}{ds:List D},cDs vs=some ds->af G ds vs
 |[],_,h=>by simp only[cDs,ak1]at h;subst h;simp only[af]
 |v::vs,_,h=>by
  simp only[cDs]at h;split at h
  ·rename_i d b;split at h
   ·rename_i ds a;cases h;simp only[af];exact⟨v,vs,rfl,Vh G b,mY G a⟩
   ·cases h
  ·cases h
def Er:Value->Option D
 |.agg a=>(cDs a.toList).map .agg
 |v=>cD1 v
def FX(G:Gh){v:Value}{d:D}(h:Er v=some d):Rep G d v:=by
 unfold Er at h;split at h
 ·rename_i a;simp only[amK]at h;obtain⟨c,b,rfl⟩:=h;simp only[Rep];exact⟨a,rfl,mY G b⟩
 ·exact Vh G h
def D.isCell:D->Bool
 |.agg _|.tuple _|.junk=>false
 |_=>true
def D.cells?:D->Option (List D)
 |.agg a=>some a
 |.tuple _=>none
 |.junk=>none
 |d=>some [d]
def Ld{G:Gh}{d:D}{v:Value}(e:d.isCell=true)(h:Rep G d v):v.oneCell'=true:=by
 cases d<;>simp only[D.isCell,alU]at e<;>simp only[Rep]at h
 case ptr=>obtain⟨b,_,rfl⟩:=h;rfl
 case rptr=>obtain⟨b,_,rfl,_⟩:=h;rfl
 case list=>obtain⟨a,c,rfl,_⟩:=h;rfl
 case sl=>rcases h with⟨a,c,t,_,rfl,_⟩|⟨_,a,rfl⟩<;>rfl
 case map=>obtain⟨a,_,rfl⟩:=h;rfl
 case cmap=>obtain⟨a,_,rfl,_⟩:=h;rfl
 case pmap=>obtain⟨a,_,_,rfl,_⟩:=h;rfl
 case func=>obtain⟨a,_,rfl,_⟩:=h;rfl
 case iface=>obtain⟨a,rfl,_⟩:=h;rfl
 case anyi=>obtain⟨a,_,rfl⟩:=h;rfl
 all_goals (subst h;rfl)
def IS{G:Gh}{d:D}{v:Value}{cs:List D}(b:d.cells?=some cs)(h:Rep G d v):af G cs v.cells.toList:=by
 by_cases c:d.isCell=true
 ·have e:=Ld c h;have f:v.cells= #[v]:=by cases v<;>first|rfl|simp[Value.oneCell']at e
  have g:cs=[d]:=by cases d<;>simp_all[D.cells?,D.isCell]
  subst g;rw[f];simp only[af];exact⟨v,[],rfl,h,rfl⟩
 ·cases d<;>simp only[D.isCell,not_true_eq_false]at c<;>simp only[D.cells?,ak1]at b
  ·subst b;simp only[Rep]at h;obtain⟨a,rfl,h⟩:=h;exact h
  ·cases b
  ·cases b
def af.length{G:Gh}:∀{ds:List D}{vs:List Value},af G ds vs->ds.length=vs.length
 |[],_,h=>by simp only[af]at h;subst h;rfl
 |d::ds,_,h=>by
  simp only[af]at h;obtain⟨v,r,rfl,_,a⟩:=h;simp[af.length a]
def af.get{G:Gh}:∀{ds:List D}{vs:List Value}(i:Nat){d:D},af G ds vs->ds[i]?=some d->∃v,vs[i]?=some v/\Rep G d v
 |[],_,_,_,_,h=>by simp at h
 |d::ds,_,0,_,a,h=>by
  simp only[af]at a;obtain⟨v,r,rfl,b,_⟩:=a;simp at h;subst h;exact⟨v,rfl,b⟩
 |d::ds,_,i+1,_,a,h=>by
  simp only[af]at a;obtain⟨v,r,rfl,_,c⟩:=a;simpa using af.get i c (by simpa using h)
def af.append{G:Gh}:∀{ds es:List D}{vs a:List Value},af G ds vs->af G es a->af G (ds++es) (vs++a)
 |[],_,_,_,h,k=>by simp only[af]at h;subst h;simpa using k
 |d::ds,_,_,_,h,k=>by
  simp only[af]at h;obtain⟨v,r,rfl,b,c⟩:=h;simp only[alT,af];exact⟨v,_,rfl,b,af.append c k⟩
def af.take{G:Gh}:∀{ds:List D}{vs:List Value}(n:Nat),af G ds vs->af G (ds.take n) (vs.take n)
 |[],_,_,h=>by simp only[af]at h;subst h;simp[af]
 |_::_,_,0,_=>by simp[af]
 |d::ds,_,n+1,h=>by
  simp only[af]at h;obtain⟨v,r,rfl,a,b⟩:=h;simp only[am0,af];exact⟨v,_,rfl,a,af.take n b⟩
def af.drop{G:Gh}:∀{ds:List D}{vs:List Value}(n:Nat),af G ds vs->af G (ds.drop n) (vs.drop n)
 |[],_,_,h=>by simp only[af]at h;subst h;simp[af]
 |_::_,_,0,h=>by simpa using h
 |d::ds,_,n+1,h=>by
  simp only[af]at h;obtain⟨v,r,rfl,b,a⟩:=h;simpa using af.drop n a
def af.oneCell{G:Gh}:∀{ds:List D}{vs:List Value},af G ds vs->ds.all D.isCell=true->∀v∈vs,v.oneCell'=true
 |[],_,h,_=>by simp only[af]at h;subst h;simp
 |d::ds,_,h,a=>by
  simp only[af]at h;obtain⟨v,r,rfl,c,e⟩:=h;simp only[amw,akY]at a;intro u b;rcases alr.1 b with rfl|b
  ·exact Ld a.1 c
  ·exact af.oneCell e a.2 u b
def Cells.reps{G:Gh}{b:Nat}:∀{o:Nat}{ds:List D},Cells G b o ds->∃a,af G ds a/\∀j v,a[j]?=some v->G.imm b (o+j)=some v
 |_,[],_=>⟨[],by simp only[af],by simp⟩
 |o,d::ds,h=>by
  simp only[Cells]at h;obtain⟨⟨v,k,g⟩,i⟩:=h;obtain⟨a,e,f⟩:=Cells.reps i;refine⟨v::a,by simp only[af];exact⟨v,a,rfl,g,e⟩,?_⟩;intro j u c;cases j with
  |zero=>simp at c;subst c;exact k
  |succ j=>
   have:=f j u (by simpa using c);rw[show o+(j+1)=o+1+j from omq];exact this
def Cells.drop{G:Gh}{b:Nat}:∀{o:Nat}{ds:List D}(n:Nat),Cells G b o ds->Cells G b (o+n) (ds.drop n)
 |_,[],_,_=>by simp[Cells]
 |_,_::_,0,h=>by simpa using h
 |o,d::ds,n+1,h=>by
  simp only[Cells]at h;have:=Cells.drop n h.2;rw[show o+(n+1)=o+1+n from omq];simpa using this
def Cells.take{G:Gh}{b:Nat}:∀{o:Nat}{ds:List D}(n:Nat),Cells G b o ds->Cells G b o (ds.take n)
 |_,[],_,_=>by simp[Cells]
 |_,_::_,0,_=>by simp[Cells]
 |o,d::ds,n+1,h=>by
  simp only[Cells]at h;simp only[am0,Cells];exact⟨h.1,Cells.take n h.2⟩
def fP(b o n:Nat):(⟨b,o,none⟩:Addr).add n=⟨b,o+n,none⟩:=by unfold Addr.add;split<;>simp_all
def lC(σ:List aq):D->Nat->Option (List D)
 |.ptr l u o,n=>match σ[l]? with
  |some (.cells a _ b)=>if b=u/\o+n<=a.length then some ((a.drop o).take n) else none
  |_=>none
 |.rptr a o,n=>if o+n<=a.length then some ((a.drop o).take n) else none
 |_,_=>none
def IT{P:Program}{B:bE P}{G:Gh}{σ:List aq}{w:World}(x:Rel B G σ w){d:D}{n:Nat}{cs:List D}{v:Value}(h:lC σ d n=some cs)(g:Rep G d v):
 ∃b o c,v=.pointer (some ⟨b,o,none⟩)/\c.length=n/\cs.length=n/\af G cs c/\∀j u,c[j]?=some u->w.cell? ⟨b,o+j,none⟩=some u:=by
 cases d<;>simp only[lC]at h<;>try (cases h;done)
 case ptr l u o=>
  simp only[Rep]at g;obtain⟨b,A,rfl⟩:=g;split at h
  ·rename_i cs' y I p;split at h
   ·rename_i k;cases h;obtain⟨rfl,e⟩:=k;have r:=x.obj l _ b p A;obtain⟨c,F,f,s,H,m,z,t⟩:=r;have C:=t.length;refine⟨b,o,(m.drop o).take n,rfl,by simp;omega,by simp;omega,(t.drop o).take n,?_⟩;intro j u a;rw[aoL]at a;split at a
    ·rw[aoc]at a;have q:o+j<m.length:=by
      rcases alf (o+j) m.length with i|i
      ·exact i
      ·rw[alg i]at a;cases a
     unfold World.cell?;rw[f];show c[o+j]?=some u;have:c[o+j]?=c.toList[o+j]? :=by simp
     rw[this,z,ak8 q];exact a
    ·cases a
   ·cases h
  ·cases h
 case rptr cs' o=>
  simp only[Rep]at g;obtain⟨b,E,rfl,k⟩:=g;split at h
  ·rename_i e;cases h;obtain⟨c,f,s⟩:=((k.drop o).take n).reps;have p:=f.length;refine⟨b,E+o,c,rfl,by rw[<-p];simp;omega,by simp;omega,f,?_⟩;intro j u a;exact x.imm _ _ _ (s j u a)
  ·cases h
def Out{P:Program}(B:bE P)(G:Gh)(d:D)(σ':List aq)(r:Result Next):Prop:=
 ∃v b a,(r=.ok (.value v) b∨(r=.ok .skip b/\v=undef))/\G.Le a/\Rel B a σ' b/\Rep a d v
def Out.here{P:Program}{B:bE P}{G:Gh}{d:D}{σ:List aq}{w:World}{v:Value}(a:Rel B G σ w)(b:Rep G d v):Out B G d σ (.ok (.value v) w):=
 ⟨v,w,G,.inl rfl,.refl G,a,b⟩
def Es:TypeDesc->Bool
 |.struct _=>true
 |.array _ _=>true
 |_=>false
section
variable (P:Program)
def uL(t:TypeId):Option (Nat×Bool):=
 match P.info? t,P.underlying t with
 |some i,some d=>some (i.size,Es d)
 |_,_=>none
def Rk(s:TypeId)(f:Nat):Option Nat:=
 match P.underlying s with
 |some (.struct a)=>match a[f]? with
  |some x=>match P.info? x.type with
   |some j=>if j.size=0 then none else some x.offset
   |none=>none
  |none=>none
 |_=>none
def mZ(t:TypeId):Option (List D):=
 match P.info? t with
 |some i=>match i.zero with
  |some v=>cDs v.cells.toList
  |none=>none
 |none=>none
def wO(t:TypeId):Option (Nat×Nat):=
 match P.underlying t with
 |some (.slice e)=>match P.info? e with
  |some i=>some (i.size,i.bytes)
  |none=>none
 |_=>none
def JM(t:TypeId):Option (Nat×Nat):=
 match P.underlying t with
 |some (.array n e)=>match P.info? e with
  |some i=>some (n,i.size)
  |none=>none
 |_=>none
end
section
variable {P:Program}{B:bE P}{G:Gh}{σ:List aq}{w:World}
def sg{t:TypeId}{n:Nat}{b:Bool}(h:uL P t=some (n,b)):∃i d,P.info? t=some i/\P.underlying t=some d/\i.size=n/\Es d=b:=by
 unfold uL at h;split at h
 ·rename_i i d c a;simp only[ak1,aln]at h;exact⟨i,d,c,a,h.1,h.2⟩
 ·cases h
def IU{t:TypeId}{d:TypeDesc}(hd:P.underlying t=some d):(isAgg t).run P w=.ok (Es d) w:=by
 unfold isAgg;simp only[alh,ald hd,ak9];cases d<;>rfl
def Vi(q:Rel B G σ w){t:TypeId}{n:Nat}{b:Bool}(F:uL P t=some (n,b)){d:D}{v:Value}(H:Rep G d v){cs:List D}(h:lC σ d n=some cs)(s:b=true∨n=1):
 ∃u,(Instr.loadAt t v).run P w=.ok u w/\(if b then Rep G (.agg cs) u else ∃x,cs=[x]/\Rep G x u):=by
 obtain⟨i,J,A,z,rfl,m⟩:=sg F;obtain⟨l,o,k,rfl,f,g,a,c⟩:=IT q h H;have p:(loadCells ⟨l,o,none⟩ k.length).run P w=.ok k.toArray w:=
  am6 w ⟨l,o,none⟩ k (λj u C=>by rw[fP];exact c j u C)
 unfold Instr.loadAt Instr.sureAddr loadVar;simp only[alh,als,ak9,IU z,m];cases b with
 |true=>
  refine⟨.agg k.toArray,?_,?_⟩
  ·rw[f]at p;simp[sizeOf,typeInfo,A,p]
  ·simp only[al1,Rep];exact⟨_,rfl,by simpa using a⟩
 |false=>
  have E:i.size=1:=s.resolve_left siq;rw[E]at f g
  match k,f with
  |[u],_=>
   match cs,g with
   |[x],_=>
    have y:=c 0 u rfl;refine⟨u,by simp[show w.cell? ⟨l,o,none⟩=some u from y],?_⟩;simp only[af]at a;obtain⟨K,r,e,I,_⟩:=a;cases e;exact⟨x,rfl,I⟩
end
end Go.Fw
def ale:=@List.getElem?_append_right
def alp:=@List.append_assoc
def alq:=@List.length_nil
def alD:=@congrArg
def al2:=@Nat.zero_le
def amq:=@Go.run_program
def anc:=@Nat.add_assoc
def anx:=@Nat.add_zero
def anI:=@Go.run_newObj
def aoz:=@List.take_append_of_le_length
def aoA:=@List.drop_append_of_le_length
def aoE:=@Nat.mul_eq_zero
namespace Go.Fw
open Go.RowKit
section
variable {P:Program}{B:bE P}{G:Gh}{σ:List aq}{w:World}
def wP(σ:List aq):D->List D->Option (List aq)
 |.ptr l u o,new=>match σ[l]? with
  |some (.cells a frz b)=>if b=u/\frz<=o/\o+new.length<=a.length/\new.all D.isCell=true then
   some (σ.set l (.cells (a.take o++new++a.drop (o+new.length)) frz u)) else none
  |_=>none
 |_,_=>none
def abz(c:Rel B G σ w){d:D}{new:List D}{σ':List aq}{v:Value}{j:List Value}(h:wP σ d new=some σ')(V:Rep G d v)(L:af G new j):
 ∃a W,v=.pointer (some a)/\(storeCells a j).run P w=.ok () W/\Rel B G σ' W:=by
 cases d<;>simp only[wP]at h<;>try (cases h;done)
 case ptr l u o=>
  simp only[Rep]at V;obtain⟨b,s,rfl⟩:=V;split at h
  ·rename_i cs e9 u' y;split at h
   ·rename_i H;obtain⟨rfl,S,T,z⟩:=H;cases h;obtain⟨f,q,r,R,N,A,I,J⟩:=c.obj l _ b y s;have M:=L.length;have j3:=J.length;have j5:f.size=A.length+N.length:=by
     have:=alD List.length I;simpa using this
    have K:=(c.blk _ _ _ s).2.1;have F:=run_storeCells_at (P:=P) b o q j 0 f w r omq (L.oneCell z);refine⟨_,_,rfl,F,?_⟩;simp only[anx];generalize C:(f.toList.take o++j++f.toList.drop (o+j.length)).toArray=nv;have p:nv.toList=A.take o++j++A.drop (o+j.length)++N:=by
     rw[<-C,I];simp only[aoz (show o<=A.length by omega),aoA (show o+j.length<=A.length by omega),alp]
    have E:nv.size=f.size:=by
     have:=alD List.length p;simp at this;omega
    refine c.update y s (.refl G) (λ_ _ _ x=>.inl x) s ?_ rfl rfl (below_setRow c.below K nv) siq (λk hk=>setRow_other w b k nv hk) ?_ ?_ ?_ ?_ ⟨ak7 _,by have:=(c.ver _ _ y).1;simp only[aq.ver,aq.len]at this⊢;simp;omega⟩ (by have:=c.frzle _ _ y;simp only[aq.frz,aq.len]at this⊢;simp;omega)
    ·intro O g x t;refine⟨?_,λ_=>t⟩;by_cases e:O=b
     ·subst e;have j4:=c.own l _ _ _ _ y s g x t;have m:=c.imm _ _ _ t;rw[cell_setRow_same w O g f nv q (0,0) r];unfold World.cell? at m;rw[r]at m;have i:f[g]?=some x:=m;have Y:nv[g]?=nv.toList[g]? :=by simp
      have Z:f[g]?=f.toList[g]? :=by simp
      rw[Z,I,ak8 omq]at i;rw[Y,p,alp,alp,ak8 soq,List.getElem?_take_of_lt omq];exact i
     ·rw[cell_setRow_other w b nv _ e];exact c.imm _ _ _ t
    ·intro n U;rw[R]at U;exact⟨nv,q,(0,0),setRow_heap w b f nv q (0,0) r,by cases U;exact E⟩
    ·cases hm:G.mimm b with
     |none=>rfl
     |some es=>
      obtain⟨H,_⟩:=c.mimm _ _ hm;rw[r]at H;cases H
    ·refine⟨nv,q,setRow_heap w b f nv q (0,0) r,by rw[E];exact R,N,_,p,?_⟩;rw[<-M];exact((J.take o).append L).append (J.drop _)
    ·intro X Q j6 e g x t;cases e;exact c.own l _ _ _ _ y s g x t
   ·cases h
  ·cases h
def abA(k:Rel B G σ w){t:TypeId}{n:Nat}{j:Bool}(q:uL P t=some (n,j)){d x:D}{v u:Value}{cs:List D}{σ':List aq}(y:x.cells?=some cs)(p:cs.length=n)
 (h:wP σ d cs=some σ')(s:Rep G d v)(r:Rep G x u):∃e,(Instr.storeAt t v u).run P w=.ok () e/\Rel B G σ' e:=by
 obtain⟨i,z,m,A,rfl,l⟩:=sg q;have b:=IS y r;have o:=b.length;obtain⟨a,e,rfl,c,f⟩:=abz (P:=P) k h s b;refine⟨e,?_,f⟩;have g:u.cells.size=i.size:=by simpa[p] using o.symm
 unfold Instr.storeAt Instr.sureAddr storeVar;simp only[alh,als,ak9,sizeOf,typeInfo,amq,m,g,ne_eq,not_true_eq_false,alV];exact c
def CF(d:Rel B G σ w){cs:List D}{vs:List Value}(o:af G cs vs)(tl:List Value)(t:TypeId)(c:Array Value)(i:c.toList=vs++tl):
 ∃a,G.Le a/\Rel B a (σ++[.cells cs 0 0]) (w.alloc (.cells c t))/\a.blk σ.length 0=some w.heap.size/\a.siz w.heap.size=some c.size:=by
 have j:G.blk σ.length 0=none:=by
  cases h:G.blk σ.length 0 with
  |none=>rfl
  |some b=>exact absurd (d.blk _ _ _ h).1 (ama _)
 obtain⟨f,g⟩:=d.bindCells (l:=σ.length) (u:=0) (frz:=0) (cs:=cs) (σ':=σ++[.cells cs 0 0]) t siq (λe n=>by
  rcases alf e σ.length with h|h
  ·rw[ak8 h]
  ·rw[ale h,alg h];have:e-σ.length≠0:=omq;cases m:e-σ.length with
   |zero=>exact absurd m this
   |succ k=>simp) siq j ⟨al2 _,λp b h=>absurd (d.blk _ _ _ h).1 (ama _)⟩ (al2 _) i o
 exact⟨_,f,g,by simp[Gh.bind],by simp[Gh.bind]⟩
def lD{t:TypeId}{cs:List D}(h:mZ P t=some cs):∃i v,P.info? t=some i/\i.zero=some v/\cDs v.cells.toList=some cs:=by
 unfold mZ at h;split at h
 ·rename_i i a;split at h
  ·rename_i v b;exact⟨i,v,a,b,h⟩
  ·cases h
 ·cases h
def abB(f:Rel B G σ w){t:TypeId}{cs:List D}(h:mZ P t=some cs):
 ∃b a v,(Instr.alloc t true (.tuple #[])).run P w=.ok v b/\G.Le a/\Rel B a (σ++[.cells cs 0 0]) b/\Rep a (.ptr σ.length 0 0) v:=by
 obtain⟨i,v,g,j,k⟩:=lD h;obtain⟨a,c,d,e,l⟩:=CF f (mY G k) [] t v.cells siq;refine⟨_,a,.pointer (some ⟨w.heap.size,0,none⟩),?_,c,d,?_⟩
 ·unfold Instr.alloc;simp only[zeroValue,typeInfo,alh,amq,ak9,g,als,j,newVar,newRow,anI];rfl
 ·simp only[Rep];exact⟨_,e,rfl⟩
def agU(f:Rel B G σ w){t:TypeId}{x:D}{cs:List D}{u:Value}(h:x.cells?=some cs)(g:Rep G x u):
 ∃b a v,(Instr.box t u).run P w=.ok v b/\G.Le a/\Rel B a (σ++[.cells cs 0 0]) b/\Rep a (.ptr σ.length 0 0) v:=by
 obtain⟨a,c,d,e,i⟩:=CF f (IS h g) [] t u.cells siq;refine⟨_,a,.pointer (some ⟨w.heap.size,0,none⟩),?_,c,d,?_⟩
 ·unfold Instr.box;simp only[alh,als,ak9,newVar,newRow,anI];rfl
 ·simp only[Rep];exact⟨_,e,rfl⟩
def uM:D->Nat->Option D
 |.ptr l u o,n=>some (.ptr l u (o+n))
 |.rptr a o,n=>some (.rptr a (o+n))
 |_,_=>none
def PZ{d e:D}{n:Nat}{v:Value}(h:uM d n=some e)(c:Rep G d v):∃a,v=.pointer (some a)/\Rep G e (.pointer (some (a.add n))):=by
 cases d<;>simp only[uM,ak1]at h<;>try (cases h;done)
 ·subst h;simp only[Rep]at c⊢;obtain⟨b,f,rfl⟩:=c;exact⟨_,rfl,b,f,by rw[fP]⟩
 ·subst h;simp only[Rep]at c⊢;obtain⟨b,i,rfl,g⟩:=c;exact⟨_,rfl,b,i,by rw[fP,anc],g⟩
def WO{s:TypeId}{f off:Nat}(h:Rk P s f=some off){d c:D}{v:Value}(hd:uM d off=some c)(k:Rep G d v):
 ∃u,(Instr.fieldAt s v f).run P w=.ok u w/\Rep G c u:=by
 unfold Rk at h;split at h<;>try (cases h;done)
 rename_i m i;split at h<;>try (cases h;done)
 rename_i x l;split at h<;>try (cases h;done)
 rename_i j e;split at h<;>try (cases h;done)
 rename_i b;simp only[ak1]at h;subst h;obtain⟨a,rfl,g⟩:=PZ hd k;refine⟨_,?_,g⟩;unfold Instr.fieldAt Instr.sureAddr fieldPlace;simp[ald i,l,sizeOf,typeInfo,e,b]
def kw:D->Option Int
 |.int _ n=>some n
 |_=>none
def pE{d:D}{n:Int}{v:Value}(h:kw d=some n)(a:Rep G d v):∃k,v=.int k n:=by
 cases d<;>simp only[kw,ak1]at h<;>try (cases h;done)
 subst h;simp only[Rep]at a;exact⟨_,a⟩
def FY(sz:Nat)(x:D)(i:Int):Option D:=
 match x with
 |.list b n _=>if 0<=i/\i<n/\0<sz/\b.length=n*sz then some (.rptr b (i.toNat*sz)) else none
 |.sl l u o n a _=>if 0<=i/\i<n/\a=sz then some (.ptr l u (o+i.toNat*sz)) else none
 |_=>none
def FZ{t:TypeId}{sz by':Nat}(h:wO P t=some (sz,by')):∃e i,P.underlying t=some (.slice e)/\P.info? e=some i/\i.size=sz/\i.bytes=by':=by
 unfold wO at h;split at h<;>try (cases h;done)
 rename_i e a;split at h<;>try (cases h;done)
 rename_i i b;simp only[ak1,aln]at h;exact⟨e,i,a,b,h.1,h.2⟩
def P0{t:TypeId}{n sz:Nat}(h:JM P t=some (n,sz)):∃e i,P.underlying t=some (.array n e)/\P.info? e=some i/\i.size=sz:=by
 unfold JM at h;split at h<;>try (cases h;done)
 rename_i m e b;split at h<;>try (cases h;done)
 rename_i i c;simp only[ak1,aln]at h;obtain⟨rfl,a⟩:=h;exact⟨e,i,b,c,a⟩
def SL{t:TypeId}{sz by':Nat}(h:wO P t=some (sz,by')){x E ix:D}{i:Int}{v C:Value}(I:kw ix=some i)(d:FY sz x i=some E)(j:Rep G x v)(y:Rep G ix C):
 ∃u,(Instr.indexAt t v C).run P w=.ok u w/\Rep G E u:=by
 obtain⟨e,g,A,c,rfl,_⟩:=FZ h;obtain⟨k,rfl⟩:=pE I y;cases x<;>simp only[FY]at d<;>try (cases d;done)
 ·rename_i L n f;split at d<;>try (cases d;done)
  rename_i r;obtain⟨p,q,M,z⟩:=r;cases d;simp only[Rep]at j;obtain⟨a,m,rfl,_,_,_,F⟩:=j;rcases F with⟨b,o,rfl,s⟩|rfl
  ·refine⟨.pointer (some ((⟨b,o,none⟩:Addr).add (i.toNat*g.size))),?_,?_⟩
   ·unfold Instr.indexAt;simp[asIntOf,ald A,p,q,sizeOf,typeInfo,c]
   ·simp only[Rep];exact⟨b,o,by rw[fP],s⟩
  ·simp only[alq]at z;have:n=0:=by
    rcases aoE.1 z.symm with h|h<;>omega
   omega
 ·rename_i l u o n J f;split at d<;>try (cases d;done)
  rename_i r;obtain⟨p,q,rfl⟩:=r;cases d;simp only[Rep]at j;rcases j with⟨b,m,K,H,rfl,_⟩|⟨rfl,_⟩
  ·refine⟨.pointer (some ((⟨b,o,none⟩:Addr).add (i.toNat*g.size))),?_,?_⟩
   ·unfold Instr.indexAt;simp[asIntOf,ald A,p,q,sizeOf,typeInfo,c]
   ·simp only[Rep];exact⟨b,H,by rw[fP]⟩
  ·omega
def Q7{t:TypeId}{len sz:Nat}(h:JM P t=some (len,sz)){x f ix:D}{i:Int}{v d:Value}(l:kw ix=some i)(g:0<=i)(j:i<len)(p:uM x (i.toNat*sz)=some f)(o:Rep G x v)(c:Rep G ix d):
 ∃u,(Instr.indexAt t v d).run P w=.ok u w/\Rep G f u:=by
 obtain⟨e,q,n,b,rfl⟩:=P0 h;obtain⟨k,rfl⟩:=pE l c;obtain⟨a,rfl,m⟩:=PZ p o;refine⟨_,?_,m⟩;unfold Instr.indexAt Instr.sureAddr;simp[asIntOf,ald n,g,j,sizeOf,typeInfo,b]
end
end Go.Fw
def akZ:=@List.getElem?_eq_getElem
def ak4:=@List.length_cons
def alJ:=@if_neg
def al4:=@List.getElem?_map
def amv:=@List.ext_getElem?
def amA:=@Option.map_some
def amY:=@Array.toList_setIfInBounds
def amZ:=@Nat.zero_mul
def ano:=@List.length_pos_iff
def anq:=@Nat.succ_mul
def aoe:=@List.getElem?_cons_zero
def aog:=@Nat.le_mul_of_pos_right
def aoi:=@Nat.add_comm
def aoj:=@List.drop_take
def aoP:=@Array.mapM_eq_mapM_toList
def ao1:=@List.foldl_cons
namespace Go.Fw
open Go.RowKit
section
variable {P:Program}{B:bE P}{G:Gh}{σ:List aq}{w:World}
def YJ(l:List UInt8)(i:Nat):(⟨l.toArray⟩:ByteArray)[i]?=l[i]? :=by
 rcases alf i l.length with h|h
 ·have a:i<(⟨l.toArray⟩:ByteArray).size:=by simpa[ByteArray.size] using h
  rw[akZ h];exact(getElem?_pos (⟨l.toArray⟩:ByteArray) i a).trans rfl
 ·have a:¬i<(⟨l.toArray⟩:ByteArray).size:=by simpa[ByteArray.size] using h
  rw[alg h];exact getElem?_neg (⟨l.toArray⟩:ByteArray) i a
def nE(l:List UInt8):(⟨l.toArray⟩:ByteArray).size=l.length:=by simp[ByteArray.size]
def Hz(l:List UInt8)(a b:Nat):(⟨l.toArray⟩:ByteArray).extract a b=⟨((l.take b).drop a).toArray⟩:=by
 apply ByteArray.ext;rw[ByteArray.data_extract];simp[aoj]
def SN(a b:List UInt8):(⟨a.toArray⟩:ByteArray)++⟨b.toArray⟩=⟨(a++b).toArray⟩:=by
 apply ByteArray.ext;simp[ByteArray.data_append]
def uN(l:List UInt8):(⟨l.toArray⟩:ByteArray).toList=l:=by
 have h:∀(s:ByteArray),s.toList=s.data.toList:=λs=>ByteArray.toList_eq s;rw[h]
def Nn(P:Program)(s:TypeId)(f:Nat):Option (Nat×Nat×Bool):=
 match P.underlying s with
 |some (.struct a)=>match a[f]? with
  |some x=>match uL P x.type with
   |some (n,b)=>some (x.offset,n,b)
   |none=>none
  |none=>none
 |_=>none
def zD(cs:List D)(off n:Nat)(a:Bool):Option D:=
 if a then(if off+n<=cs.length then some (.agg ((cs.drop off).take n)) else none) else cs[off]?
def Vj{t:TypeId}{n off:Nat}{b:Bool}(k:uL P t=some (n,b)){cs:List D}{a:Array Value}{d:D}(f:af G cs a.toList)(h:zD cs off n b=some d):
 ∃u,(part t a off).run P w=.ok u w/\Rep G d u:=by
 obtain⟨i,m,j,g,rfl,e⟩:=sg k;unfold part;simp only[alh,IU g,e,ak9];unfold zD at h;cases b with
 |true=>
  simp only[al1]at h⊢;split at h
  ·cases h;refine⟨.agg (a.extract off (off+i.size)),by simp[sizeOf,typeInfo,j],?_⟩;simp only[Rep];refine⟨_,rfl,?_⟩;have:(a.extract off (off+i.size)).toList=(a.toList.drop off).take i.size:=by
    simp
   rw[this];exact(f.drop off).take i.size
  ·cases h
 |false=>
  simp only[alU,alV]at h⊢;obtain⟨v,l,c⟩:=f.get off h;have:a[off]?=some v:=by simpa using l
  exact⟨v,by rw[this];rfl,c⟩
def abC{s:TypeId}{f off n:Nat}{b:Bool}(h:Nn P s f=some (off,n,b)){cs:List D}{d:D}{v:Value}(hd:zD cs off n b=some d)(e:Rep G (.agg cs) v):
 ∃u,(Instr.field s v f).run P w=.ok u w/\Rep G d u:=by
 unfold Nn at h;split at h<;>try (cases h;done)
 rename_i o i;split at h<;>try (cases h;done)
 rename_i x l;split at h<;>try (cases h;done)
 rename_i p m j;simp only[ak1,aln]at h;obtain⟨rfl,rfl,rfl⟩:=h;simp only[Rep]at e;obtain⟨a,rfl,g⟩:=e;obtain⟨u,k,c⟩:=Vj (w:=w) j g hd;refine⟨u,?_,c⟩;unfold Instr.field;simp[ald i,l,asAgg,k]
def UX{t:TypeId}(g:P.underlying t=some .string){s:List UInt8}{ix:D}{i:Int}{b:UInt8}{c:Value}(f:kw ix=some i)(d:0<=i)(e:s[i.toNat]?=some b)(a:Rep G ix c):
 ∃u,(Instr.index t (.string ⟨s.toArray⟩) c).run P w=.ok u w/\Rep G (.int .u8 b.toNat) u:=by
 obtain⟨k,rfl⟩:=pE f a;refine⟨.int .u8 b.toNat,?_,by simp[Rep]⟩;unfold Instr.index;simp only[alh,asIntOf,als,ak9,ald g,d,al1,YJ,e]
def UY{t e:TypeId}{len n:Nat}{b:Bool}(r:P.underlying t=some (.array len e))(h:uL P e=some (n,b)){cs:List D}{ix d:D}{i:Int}{v l:Value}(p:kw ix=some i)(m:0<=i)(o:i<len)
 (hd:zD cs (i.toNat*n) n b=some d)(j:Rep G (.agg cs) v)(g:Rep G ix l):∃u,(Instr.index t v l).run P w=.ok u w/\Rep G d u:=by
 obtain⟨k,rfl⟩:=pE p g;simp only[Rep]at j;obtain⟨a,rfl,q⟩:=j;obtain⟨x,_,c,_,rfl,_⟩:=sg h;obtain⟨u,s,f⟩:=Vj (w:=w) h q hd;refine⟨u,?_,f⟩;unfold Instr.index;simp[asIntOf,ald r,m,o,sizeOf,typeInfo,c,s]
def mu(a:Nat->Option (Nat×Nat)):List D->List (Nat×D)->Option (List D)
 |cells,[]=>some cells
 |cells,(i,d)::rest=>
  match a i,d.cells? with
  |some (off,n),some b=>if b.length=n/\off+n<=cells.length then mu a (cells.take off++b++cells.drop (off+n)) rest else none
  |_,_=>none
def SO(off:Nat):∀(vs:List Value)(k:Nat)(cells:Array Value),off+k+vs.length<=cells.size->
 ((vs.zipIdx k).foldl (λa (x:Value×Nat)=>a.setIfInBounds (off+x.2) x.1) cells).toList=cells.toList.take (off+k)++vs++cells.toList.drop (off+k+vs.length)
 |[],k,cells,_=>by simp
 |v::vs,k,cells,h=>by
  simp only[ak4]at h;rw[List.zipIdx_cons,ao1,SO off vs (k+1) _ soq];simp only[amY,ak4];have e:off+k<cells.toList.length:=by simp;omega
  have b:(cells.toList.set (off+k) v).take (off+k)=cells.toList.take (off+k):=by
   apply amv;intro i;simp only[aoL];split
   ·rw[alI omq]
   ·rfl
  have c:(cells.toList.set (off+k) v).take (off+(k+1))=cells.toList.take (off+k)++[v]:=by
   rw[show off+(k+1)=off+k+1 from omq,List.take_succ_eq_append_getElem (by simpa using e),b,List.getElem_set_self]
  have d:(cells.toList.set (off+k) v).drop (off+(k+1)+vs.length)=cells.toList.drop (off+k+(vs.length+1)):=by
   rw[List.drop_set_of_lt omq];congr 1;omega
  rw[c,d];simp
def JN(c:Nat->Option (Nat×Nat)):∀(b:List (Nat×D))(cells:List D)(k:List D)(l:Array Value)(pv:List (Nat×Value)),
 mu c cells b=some k->af G cells l.toList->b.length=pv.length->(∀(j i:Nat)(d:D),b[j]?=some (i,d)->∃v,pv[j]?=some (i,v)/\Rep G d v)->
 ∃r,Instr.fill c l pv=some r/\af G k r.toList
 |[],cells,k,l,pv,h,p,o,_=>by
  simp only[mu,ak1]at h;subst h
  match pv,o with
  |[],_=>exact⟨l,rfl,p⟩
 |(i,d)::rest,cells,k,l,pv,h,p,o,A=>by
  match pv,o with
  |(N,v)::M,o=>
   have E:=A 0 i d rfl;obtain⟨O,e,q⟩:=E;simp only[aoe,ak1,aln]at e;obtain⟨rfl,rfl⟩:=e;simp only[mu]at h;split at h<;>try (cases h;done)
   rename_i a n C u t;split at h<;>try (cases h;done)
   rename_i F;obtain⟨J,z⟩:=F;have m:=IS t q;have s:=m.length;have x:=p.length;have L:v.cells.size=n:=by rw[<-J,s];simp
   have H:l.size=cells.length:=by rw[x];simp
   have f:=SO a v.cells.toList 0 l soq;simp only[anx]at f;have g:af G (cells.take a++C++cells.drop (a+n)) (l.toList.take a++v.cells.toList++l.toList.drop (a+v.cells.toList.length)):=by
    rw[show a+v.cells.toList.length=a+n from by simp[L]];exact((p.take a).append m).append (p.drop _)
   rw[<-f]at g;obtain⟨r,K,y⟩:=JN c rest _ k _ M h g (by simpa using o) (λj i d I=>by simpa using A (j+1) i d (by simpa using I));refine⟨r,?_,y⟩;simp only[Instr.fill,u];rw[alJ soq];rw[<-K];congr 1;rw[<-Array.foldl_toList,Array.toList_zipIdx]
def Bl(P:Program)(a:List Field):Option (List (Nat×Nat)):=
 match a with
 |[]=>some []
 |f::r=>match P.info? f.type,Bl P r with
  |some i,some b=>some ((f.offset,i.size)::b)
  |_,_=>none
def No(w:World):∀{c:List Field}{a:List (Nat×Nat)},Bl P c=some a->
 (c.mapM λf=>do pure (f.offset,<-sizeOf f.type):Sem (List (Nat×Nat))).run P w=.ok a w
 |[],a,h=>by simp only[Bl,ak1]at h;subst h;simp
 |f::r,a,h=>by
  simp only[Bl]at h;split at h<;>try (cases h;done)
  rename_i i g e b;cases h;have d:=No w b;simp only[List.mapM_cons,alh,sizeOf,typeInfo,amq,e,als,ak9]at d⊢;rw[d];simp
inductive aS where
 |struct(ps:List (Nat×Nat))
 |array(n:Nat)
def aS.place:aS->Nat->Option (Nat×Nat)
 |.struct a,i=>a[i]?
 |.array n,i=>some (i*n,n)
def JO(P:Program)(t:TypeId):Option (List D×aS):=
 match mZ P t,P.underlying t with
 |some z,some (.struct a)=>match Bl P a.toList with
  |some b=>some (z,.struct b)
  |none=>none
 |some z,some (.array _ e)=>match P.info? e with
  |some i=>some (z,.array i.size)
  |none=>none
 |_,_=>none
variable{Z:List D}{Y:List (Nat×D)}
def abD{t:TypeId}{z:List D}{bk:aS}(h:JO P t=some (z,bk))(y:mu bk.place z Y=some Z){pv:Array (Nat×Value)}
 (J:Y.length=pv.size)(K:∀(j i:Nat)(d:D),Y[j]?=some (i,d)->∃v,pv[j]?=some (i,v)/\Rep G d v):
 ∃u,(Instr.build t pv).run P w=.ok u w/\Rep G (.agg Z) u:=by
 have b:∀(a:Nat->Option (Nat×Nat))(k:Array Value),mu a z Y=some Z->af G z k.toList->∃g,Instr.fill a k pv.toList=some g/\af G Z g.toList:=by
  intro a k C E;exact JN a Y z Z k pv.toList C E (by simpa using J) (λj i d I=>by obtain⟨v,F,H⟩:=K j i d I;exact⟨v,by simpa using F,H⟩)
 unfold JO at h;split at h
 ·rename_i M N s q;split at h<;>try (cases h;done)
  rename_i A p;simp only[ak1,aln]at h;obtain⟨rfl,rfl⟩:=h;obtain⟨i,v,l,r,c⟩:=lD s;have L:=No w p;obtain⟨g,o,f⟩:=b _ v.cells y (mY G c);refine⟨.agg g,?_,by simp only[Rep];exact⟨_,rfl,f⟩⟩;unfold Instr.build;simp only[zeroValue,typeInfo,alh,amq,ak9,l,als,r,ald q,aoP,Sem.run_map,L];have:(λx=>A.toArray[x]?)=aS.place (.struct A):=by funext x;simp[aS.place]
  rw[this,o];rfl
 ·rename_i M n e s q;split at h<;>try (cases h;done)
  rename_i i l;simp only[ak1,aln]at h;obtain⟨rfl,rfl⟩:=h;obtain⟨O,v,m,r,c⟩:=lD s;obtain⟨g,o,f⟩:=b _ v.cells y (mY G c);refine⟨.agg g,?_,by simp only[Rep];exact⟨_,rfl,f⟩⟩;unfold Instr.build;simp only[zeroValue,typeInfo,alh,amq,ak9,m,als,r,ald q,sizeOf,l];have:(λx=>some (x*i.size,i.size))=aS.place (.array i.size):=by funext x;simp[aS.place]
  rw[this,o];rfl
 ·cases h
def ie(z:List D):Nat->List D
 |0=>[]
 |n+1=>z++ie z n
def Do(z:List D):∀n,(ie z n).length=n*z.length
 |0=>by simp[ie]
 |n+1=>by simp[ie,Do z n,anq,aoi]
def af.of_get{G:Gh}:∀{ds:List D}{vs:List Value},ds.length=vs.length->(∀(i:Nat)(d:D)(v:Value),ds[i]?=some d->vs[i]?=some v->Rep G d v)->af G ds vs
 |[],[],_,_=>by simp only[af]
 |d::ds,v::vs,e,h=>by
  simp only[af];exact⟨v,vs,rfl,h 0 d v rfl rfl,af.of_get (by simpa using e) λi a f b c=>h (i+1) a f (by simpa using b) (by simpa using c)⟩
def SP(z:List D)(c:z≠[]):∀(n i:Nat),i<n*z.length->(ie z n)[i]?=z[i % z.length]?
 |0,i,h=>by simp at h
 |n+1,i,h=>by
  have b:0<z.length:=ano.2 c;simp only[ie];rcases alf i z.length with a|a
  ·rw[ak8 a,Nat.mod_eq_of_lt a]
  ·rw[ale a,SP z c n (i-z.length) (by rw[anq]at h;omega)];congr 1;rw[Nat.mod_eq_sub_mod a]
def LV{z:List D}{a:Array Value}(k:af G z a.toList)(n:Nat):
 af G (ie z n) (((Array.range (n*z.length)).map (a[· % a.size]!)).toList):=by
 have j:z.length=a.size:=by simpa using k.length
 refine af.of_get (by simp[Do]) ?_;intro i d v h e;have g:i<n*z.length:=by
  rcases alf i (n*z.length) with f|f
  ·exact f
  ·rw[alg (by simpa using f)]at e;cases e
 have m:z≠[]:=by
  rintro rfl;simp at g
 rw[SP z m n i g]at h;obtain⟨u,l,c⟩:=k.get _ h;have b:i % a.size<a.size:=Nat.mod_lt _ (by rw[<-j];exact ano.2 m);have:v=a[i % a.size]! :=by
  simp only[Array.toList_map,Array.toList_range,al4,List.getElem?_range g,amA,ak1]at e;exact e.symm
 rw[this,getElem!_pos a _ b];have o:a.toList[i % z.length]?=some (a[i % a.size]):=by
  rw[j];simp[alo b]
 rw[o]at l;cases l;exact c
def IV(P:Program)(t:TypeId):Option (List D×Nat):=
 match P.underlying t with
 |some (.slice e)=>match mZ P e,P.info? e with
  |some z,some i=>if z.length=i.size/\0<i.size then some (z,i.size) else none
  |_,_=>none
 |_=>none
def Q8(C:Rel B G σ w){t:TypeId}{z:List D}{sz:Nat}(h:IV P t=some (z,sz)){len:Nat}(E:len*sz<=16777216)
 (K:mu (λi=>some (i*sz,sz)) (ie z len) Y=some Z){pv:Array (Nat×Value)}(M:Y.length=pv.size)(N:∀(j i:Nat)(d:D),Y[j]?=some (i,d)->∃v,pv[j]?=some (i,v)/\Rep G d v):
 ∃u F l,(Instr.buildSlice t len pv).run P w=.ok u F/\G.Le l/\Rel B l σ F/\Rep l (.list Z len true) u:=by
 unfold IV at h;split at h<;>try (cases h;done)
 rename_i e O;split at h<;>try (cases h;done)
 rename_i T i R p;split at h<;>try (cases h;done)
 rename_i J;obtain⟨s,g⟩:=J;simp only[ak1,aln]at h;obtain⟨rfl,rfl⟩:=h;obtain⟨S,v,c,Q,n⟩:=lD R;rw[p]at c;cases c;have x:=mY G n;have b:=LV x len;rw[s]at b;obtain⟨k,q,r⟩:=JN (G:=G) _ Y _ Z _ pv.toList K b (by simpa using M) (λj i d L=>by obtain⟨v,H,I⟩:=N j i d L;exact⟨v,by simpa using H,I⟩);have o:=SG C k.toList [] e (0,0) k siq;refine⟨.slice (some ⟨w.heap.size,0,none⟩) len len,w.alloc (.cells k e),_,?_,o.le,C.grow o,?_⟩
 ·unfold Instr.buildSlice;have m:¬(len*i.size>2 ^ 24):=omq;simp only[ald O,alh,ak9,sizeOf,typeInfo,amq,p,als,m,alV];by_cases A:len*i.size=0
  ·have a:len=0:=by
    rcases aoE.1 A with h|h<;>omega
   subst a;have y:∀f:Nat->Value,Array.map f (Array.range 0)= #[]:=by intro f;simp
   simp only[amZ,y]at q;simp only[amZ,al1,alh,als,ak9,y,q];simp only[newRow,alh,anI,ak9,als];rfl
  ·simp only[A,alV,alh,zeroValue,typeInfo,amq,ak9,p,als,Q];rw[q];simp only[newRow,alh,anI,ak9,als];rfl
 ·simp only[Rep];refine⟨_,len,rfl,ak7 _,?_,λ_=>rfl,?_⟩
  ·have:len<=len*i.size:=aog _ g;omega
  ·exact .inl ⟨_,_,rfl,Bj k.toList Z [] k.toList rfl r o.le⟩
end
end Go.Fw
def ali:=@if_pos
def alL:=@decide_eq_true_eq
def al6:=@Nat.mul_le_mul_right
def am3:=@Nat.add_mul
namespace Go.Fw
open Go.RowKit
section
variable {P:Program}{B:bE P}{G:Gh}{σ:List aq}{w:World}
def bz(d:Int):Option Int->Int
 |some h=>h
 |none=>d
def oz(n:Nat)(c:Bool)(b a mx:Option Int):Option (Nat×Nat×Bool):=
 match mx with
 |none=>if 0<=bz 0 b/\bz 0 b<=bz n a/\bz n a<=n then some ((bz 0 b).toNat,(bz n a).toNat,c&&decide (bz n a=n)) else none
 |some m=>if a.isSome=true/\0<=bz 0 b/\bz 0 b<=bz n a/\bz n a<=m/\m<=n then some ((bz 0 b).toNat,(bz n a).toNat,decide (m=bz n a)) else none
def ru:Option D->Option (Option Int)
 |none=>some none
 |some d=>match kw d with
  |some i=>some (some i)
  |none=>none
def agV(G:Gh):Option D->Option Value->Prop
 |none,none=>True
 |some d,some v=>Rep G d v
 |_,_=>False
inductive uO:Option Int->Option Value->Prop
 |none:uO none none
 |some (k:IntKind) (n:Int):uO (some n) (some (.int k n))
def IW{d:Option D}{v:Option Value}{i:Option Int}(h:ru d=some i)(a:agV G d v):uO i v:=by
 cases d with
 |none=>
  cases v with
  |none=>simp only[ru,ak1]at h;subst h;exact .none
  |some v=>exact a.elim
 |some d=>
  cases v with
  |none=>exact a.elim
  |some v=>
   simp only[ru]at h;split at h<;>try (cases h;done)
   rename_i n b;simp only[ak1]at h;obtain⟨k,rfl⟩:=pE b a;subst h;exact .some k n
def qb(k:IntKind)(i:Int)(y:Nat)(c:BoundsCode)(a:0<=i)(b:i<=y):(Instr.sliceBound (.int k i) y c).run P w=.ok i.toNat w:=by
 unfold Instr.sliceBound;simp[asIntOf,a,b]
variable{Z Y X:Option Value}
def nF(i:Bool){n b:Nat}{e:Bool}{A z mx:Option Int}{l h:Nat}{f:Bool}(c:oz n e A z mx=some (l,h,f))(s:uO A Z)(v:uO z Y)(F:uO mx X)
 (J:n<=b)(E:e=true->b=n):
 ∃m,(Instr.sliceBounds i n b Z Y X).run P w=.ok (l,h,m) w/\l<=h/\h<=n/\h<=m/\m<=b/\(f=true->m=h):=by
 cases F with
 |none=>
  simp only[oz]at c;split at c<;>try (cases c;done)
  rename_i r;simp only[ak1,aln]at c;obtain⟨rfl,rfl,rfl⟩:=c;obtain⟨c1,j,p⟩:=r;refine⟨b,?_,omq,omq,omq,ak7 _,?_⟩
  ·cases v with
   |none=>
    cases s with
    |none=>simp[Instr.sliceBounds,bz]
    |some k x=>
     have:=qb (P:=P) (w:=w) k x n .sliceB c1 (by simpa[bz] using j);simp[Instr.sliceBounds,this,bz]
   |some t y=>
    have g:0<=y:=by simp only[bz]at c1 j;omega
    have o:=qb (P:=P) (w:=w) t y b (if i then .sliceAcap else .sliceAlen) g (by simp only[bz]at p;omega);cases s with
    |none=>simp[Instr.sliceBounds,o,bz]
    |some k x=>
     have:=qb (P:=P) (w:=w) k x y.toNat .sliceB c1 (by simp only[bz]at j;omega);simp[Instr.sliceBounds,o,this,bz]
  ·intro a;simp only[akY,alL]at a;have:=E a.1;have:=a.2;omega
 |some H m=>
  simp only[oz]at c;split at c<;>try (cases c;done)
  rename_i r;simp only[ak1,aln]at c;obtain⟨rfl,rfl,rfl⟩:=c;obtain⟨C,c1,j,p,I⟩:=r;cases v with
  |none=>simp at C
  |some t y=>
   have q:=j;have D:=p;have g:=c1;simp only[bz]at p g q;have u:=qb (P:=P) (w:=w) H m b (if i then .slice3Acap else .slice3Alen) omq omq;have o:=qb (P:=P) (w:=w) t y m.toNat .slice3B omq omq;refine⟨m.toNat,?_,by simp only[bz];omega,by simp only[bz];omega,by simp only[bz];omega,omq,?_⟩
   ·cases s with
    |none=>simp[Instr.sliceBounds,u,o,bz]
    |some k x=>
     have:=qb (P:=P) (w:=w) k x y.toNat .slice3C c1 (by simp only[bz]at c1 j;omega);simp[Instr.sliceBounds,u,o,this,bz]
   ·intro a;have d:m=bz n (some y):=by simpa using a
    simp only[bz]at d⊢;omega
def Bm(sz:Nat)(x:D)(d c mx:Option Int):Option D:=
 match x with
 |.list b n full=>match oz n full d c mx with
  |some (l,h,f)=>if b.length=n*sz then some (.list ((b.drop (l*sz)).take ((h-l)*sz)) (h-l) f) else none
  |none=>none
 |.sl e u o n a full=>match oz n full d c mx with
  |some (l,h,f)=>if a=sz then(if l=h then some (.list [] 0 f) else some (.sl e u (o+l*sz) (h-l) sz f)) else none
  |none=>none
 |_=>none
def abE{t:TypeId}{sz by':Nat}(ht:wO P t=some (sz,by')){x W:D}{V T mx:Option Int}{v:Value}(d:Bm sz x V T mx=some W)(I:uO V Z)(F:uO T Y)(K:uO mx X)(g:Rep G x v):
 ∃u,(Instr.sliceAt t v Z Y X).run P w=.ok u w/\Rep G W u:=by
 obtain⟨e,i,N,j,rfl,_⟩:=FZ ht;cases x<;>simp only[Bm]at d<;>try (cases d;done)
 ·rename_i cs n p;split at d<;>try (cases d;done)
  rename_i l h f r;split at d<;>try (cases d;done)
  rename_i U;cases d;simp only[Rep]at g;obtain⟨a,y,rfl,z,h2,A,C⟩:=g;obtain⟨m,c,Q,R,S,s,k⟩:=nF (P:=P) (w:=w) true r I F K z A;refine⟨.slice (if m=l then a else a.map (·.add (l*i.size))) (h-l) (m-l),?_,?_⟩
  ·unfold Instr.sliceAt Instr.slice;simp[ald N,c,sizeOf,typeInfo,j]
  ·simp only[Rep];refine⟨_,m-l,rfl,omq,omq,λq=>by have:=k q;omega,?_⟩;rcases C with⟨b,o,rfl,hc⟩|rfl
   ·by_cases e:m=l
    ·right;have:h-l=0:=omq;simp[this]
    ·left;simp only[e,alV,amA];exact⟨b,o+l*i.size,by rw[fP],(hc.drop _).take _⟩
   ·right;simp
 ·rename_i l' u' o n e9 p;split at d<;>try (cases d;done)
  rename_i l h f r;split at d<;>try (cases d;done)
  rename_i M;subst M;simp only[Rep]at g;rcases g with⟨b,y,O,E,rfl,z,h2,A,C,h5⟩|⟨rfl,a,rfl⟩
  ·obtain⟨m,c,Q,R,S,s,k⟩:=nF (P:=P) (w:=w) true r I F K z A;refine⟨.slice (if m=l then some ⟨b,o,none⟩ else some ⟨b,o+l*i.size,none⟩) (h-l) (m-l),?_,?_⟩
   ·unfold Instr.sliceAt Instr.slice;simp[ald N,c,sizeOf,typeInfo,j,fP]
   ·split at d
    ·cases d;rename_i e;simp only[Rep];exact⟨_,m-l,by congr 1;omega,omq,omq,λq=>by have:=k q;omega,.inr trivial⟩
    ·cases d;rename_i e;have e':m≠l:=omq;simp only[Rep,e',alV];refine .inl ⟨b,m-l,O,E,rfl,omq,omq,λq=>by have:=k q;omega,C,?_⟩;have:o+l*i.size+(m-l)*i.size=o+m*i.size:=by
      rw[anc,<-am3];congr 2;omega
     rw[this];exact amo (Nat.add_le_add_left (al6 _ s) _) h5
  ·obtain⟨m,c,Q,R,S,s,k⟩:=nF (P:=P) (w:=w) true r I F K (ak7 0) (λ_=>rfl);have L:m=0:=omq;have J:l=0:=omq;have H:h=0:=omq;subst L J H;rw[ali rfl]at d;cases d;refine⟨.slice a 0 0,?_,?_⟩
   ·unfold Instr.sliceAt Instr.slice;simp[ald N,c,sizeOf,typeInfo,j]
   ·simp only[Rep];exact⟨_,0,rfl,ak7 _,al2 _,λ_=>rfl,.inr trivial⟩
def UZ{t:TypeId}(i:P.underlying t=some .string){s:List UInt8}{c b:Option Int}{l h:Nat}{f:Bool}(d:oz s.length true c b none=some (l,h,f))(g:uO c Z)(e:uO b Y):
 (Instr.sliceAt t (.string ⟨s.toArray⟩) Z Y none).run P w=.ok (.string ⟨((s.take h).drop l).toArray⟩) w:=by
 obtain⟨m,a,j,k,n,o,p⟩:=nF (P:=P) (w:=w) false d g e .none (ak7 _) (λ_=>rfl);unfold Instr.sliceAt Instr.slice;simp[ald i,nE,a,Hz]
def IX(n sz:Nat)(x:D)(c a mx:Option Int):Option D:=
 match x with
 |.ptr b u o=>match oz n true c a mx with
  |some (l,h,f)=>if l=h then some (.list [] 0 f) else some (.sl b u (o+l*sz) (h-l) sz f)
  |none=>none
 |_=>none
def U0(J:Rel B G σ w){t:TypeId}{n sz:Nat}(T:JM P t=some (n,sz))(hn:n<=9223372036854775807){x C:D}{z s mx:Option Int}{v:Value}{cs:List D}(a:lC σ x (n*sz)=some cs)
 (c:IX n sz x z s mx=some C)(O:uO z Z)(N:uO s Y)(R:uO mx X)(j:Rep G x v):
 ∃u,(Instr.sliceAt t v Z Y X).run P w=.ok u w/\Rep G C u:=by
 obtain⟨e,i,U,p,rfl⟩:=P0 T;cases x<;>simp only[IX]at c<;>try (cases c;done)
 rename_i l' u' o;split at c<;>try (cases c;done)
 rename_i l h f K;simp only[lC]at a;split at a<;>try (cases a;done)
 rename_i F I e9 q;split at a<;>try (cases a;done)
 rename_i L;obtain⟨rfl,y⟩:=L;simp only[Rep]at j;obtain⟨b,d,rfl⟩:=j;obtain⟨A,et,o1,V,tl,M,W,o4⟩:=J.obj _ _ b q d;have Q:=o4.length;have S:A.size=M.length+tl.length:=by simpa using congrArg List.length W
 obtain⟨m,g,b1,b2,b3,E,r⟩:=nF (P:=P) (w:=w) false K O N R (ak7 _) (λ_=>rfl);refine⟨.slice (if m=l then some ⟨b,o,none⟩ else some ⟨b,o+l*i.size,none⟩) (h-l) (m-l),?_,?_⟩
 ·unfold Instr.sliceAt Instr.sureAddr;simp only[ald U,alh,als,ak9,g,sizeOf,typeInfo,amq,p,fP];by_cases e:m=l<;>simp[e]
 ·split at c
  ·cases c;simp only[Rep];exact⟨_,m-l,by congr 1;omega,omq,omq,λk=>by have:=r k;omega,.inr trivial⟩
  ·cases c;rename_i e;have H:m≠l:=omq;simp only[Rep,H,alV];refine .inl ⟨b,m-l,A.size,d,rfl,omq,omq,λk=>by have:=r k;omega,V,?_⟩;have:o+l*i.size+(m-l)*i.size=o+m*i.size:=by
    rw[anc,<-am3];congr 2;omega
   rw[this];have:=al6 i.size E;omega
inductive eE where
 |slice|string|array(n:Nat)
 deriving DecidableEq
def Rm(P:Program)(t:TypeId):Option eE:=
 match P.underlying t with
 |some (.slice _)=>some .slice
 |some .string=>some .string
 |some (.array n _)=>some (.array n)
 |some (.pointer a)=>match P.underlying a with
  |some (.array n _)=>some (.array n)
  |_=>none
 |_=>none
def LW:eE->D->Option Nat
 |.slice,.list _ n _=>some n
 |.slice,.sl _ _ _ n _ _=>some n
 |.string,.str s=>some s.length
 |.array n,_=>some n
 |_,_=>none
def agW{t ty:TypeId}{k:eE}(c:Rm P t=some k){x:D}{n:Nat}{v:Value}(b:LW k x=some n)(f:Rep G x v):
 (Builtin.len_ #[t] ty #[v]).run P w=.ok (.int .i64 n) w:=by
 unfold Rm at c;unfold Builtin.len_;split at c
 ·rename_i e d;cases c;cases x<;>simp only[LW,ak1]at b<;>try (cases b;done)
  ·subst b;simp only[Rep]at f;obtain⟨a,g,rfl,_⟩:=f;simp[ald d,goInt]
  ·subst b;simp only[Rep]at f;rcases f with⟨a,g,i,_,rfl,_⟩|⟨rfl,a,rfl⟩<;>simp[ald d,goInt]
 ·rename_i d;cases c;cases x<;>simp only[LW,ak1]at b<;>try (cases b;done)
  subst b;simp only[Rep]at f;subst f;simp[ald d,goInt,nE]
 ·rename_i m e d;cases c;simp only[LW,ak1]at b;subst b;simp[ald d,goInt]
 ·rename_i a d;split at c<;>try (cases c;done)
  rename_i m e h;cases c;simp only[LW,ak1]at b;subst b;simp[ald d,ald h,goInt]
 ·cases c
end
end Go.Fw
def ak2:=@List.length_append
def aly:=@List.drop_eq_getElem_cons
def amk:=@List.take_append_drop
def amr:=@List.length_singleton
def amG:=@List.drop_drop
def am2:=@List.cons.injEq
def ank:=@Array.ext'
def anr:=@List.drop_eq_nil_of_le
namespace Go.Fw
open Go.RowKit
section
variable {P:Program}{B:bE P}{G:Gh}{σ:List aq}{w:World}
inductive LK where
 |b|i|s
 deriving DecidableEq,Inhabited
def ig:LK->D->D->Option Bool
 |.b,.bool a,.bool b=>some (a==b)
 |.i,.int k a,.int c b=>if k=c then some (a==b) else none
 |.s,.str a,.str b=>some (a==b)
 |_,_,_=>none
def iL:List LK->List D->List D->Option Bool
 |[],[],[]=>some true
 |k::e,a::c,b::d=>match ig k a b with
  |some true=>iL e c d
  |some false=>some false
  |none=>none
 |_,_,_=>none
def Et:∀(ks ls:List LK)(a b:List D)(c d:List D),ks.length=a.length->ks.length=c.length->iL (ks++ls) (a++b) (c++d)=match iL ks a c with|some true=>iL ls b d|x=>x
 |[],ls,[],b,[],d,_,_=>rfl
 |k::ks,ls,a::e,b,c::f,d,h,g=>by
  simp only[alT,iL];cases ig k a c with
  |none=>rfl
  |some r=>cases r with
   |false=>rfl
   |true=>exact Et ks ls e b f d (by simpa using h) (by simpa using g)
def nH(P:Program)(g:TypeId->Option (List LK)):List Field->Nat->Option (List LK)
 |[],_=>some []
 |f::b,off=>
  if f.name= "_" ∨f.offset≠off then none else
  match g f.type,uL P f.type with
  |some a,some (n,_)=>if a.length=n then(match nH P g b (off+n) with|some r=>some (a++r)|none=>none) else none
  |_,_=>none
def sh(P:Program):Nat->TypeId->Option (List LK)
 |0,_=>none
 |d+1,t=>match P.underlying t with
  |some .bool=>some [.b]
  |some (.int _)=>some [.i]
  |some .string=>some [.s]
  |some (.struct a)=>if P.stoodInHeld t then none else nH P (sh P d) a.toList 0
  |_=>none
def qc(a:Bool)(vs:List Value)(v:Value):Prop:=if a then v=.agg vs.toArray else vs=[v]
def agX{ks:LK}{a b:D}{r:Bool}(h:iL [ks] [a] [b]=some r):ig ks a b=some r:=by
 simp only[iL]at h;split at h
 ·rename_i c;rw[c];cases h;rfl
 ·rename_i c;rw[c];cases h;rfl
 ·cases h
def LX{a:D}{vs:List Value}(h:af G [a] vs):∃v,vs=[v]/\Rep G a v:=by
 simp only[af]at h;obtain⟨v,r,rfl,b,rfl⟩:=h;exact⟨v,rfl,b⟩
def LY{α:Type}{l:List α}(h:1=l.length):∃a,l=[a]:=by
 match l,h with
 |[a],_=>exact⟨a,rfl⟩
def Vk{t:TypeId}{n off:Nat}{b:Bool}(k:uL P t=some (n,b))(f:b=true∨n=1){a:Array Value}(e:off+n<=a.size):
 ∃u,(part t a off).run P w=.ok u w/\qc b ((a.toList.drop off).take n) u:=by
 obtain⟨i,l,h,g,rfl,d⟩:=sg k;unfold part;simp only[alh,IU g,d,ak9];cases b with
 |true=>
  refine⟨.agg (a.extract off (off+i.size)),by simp[sizeOf,typeInfo,h],?_⟩;simp only[qc,al1];congr 1;apply ank;simp
 |false=>
  have j:=f.resolve_left siq;have c:off<a.size:=omq;refine⟨a[off],by rw[alo c];rfl,?_⟩;simp only[qc,alU,alV,j];rw[aly (by simpa using c)];simp
def Vl:∀(d:Nat)(t:TypeId)(ks:List LK)(n:Nat)(b:Bool),sh P d t=some ks->uL P t=some (n,b)->ks.length=n->∀(cs ds:List D)(xs V:List Value)(x y:Value)(r:Bool),
 iL ks cs ds=some r->cs.length=n->ds.length=n->af G cs xs->af G ds V->qc b xs x->qc b V y->(Op.equalIn d t x y).run P w=.ok r w
 |0,_,_,_,_,h,_,_=>by simp[sh]at h
 |d+1,t,ks,n,b,h,ht,hk=>by
  intro cs ds xs V x y r hc e9 j3 I J X Y;obtain⟨i,O,hi,N,rfl,H⟩:=sg ht;simp only[sh,N]at h;have s:∀(k:LK),ks=[k]->Es O=false->∃a c u v,cs=[a]/\ds=[c]/\x=u/\y=v/\Rep G a u/\Rep G c v/\ig k a c=some r:=by
   intro k j7 F;subst j7;rw[F]at H;subst H;simp only[amr]at hk;obtain⟨a,rfl⟩:=LY (hk.trans e9.symm);obtain⟨c,rfl⟩:=LY (hk.trans j3.symm);obtain⟨u,rfl,m⟩:=LX I;obtain⟨v,rfl,o⟩:=LX J;simp only[qc,alU,alV,am2,and_true]at X Y;exact⟨a,c,u,v,rfl,rfl,X.symm,Y.symm,m,o,agX hc⟩
  split at h
  ·rename_i e;cases e;simp only[ak1]at h;obtain⟨a,c,u,v,rfl,rfl,rfl,rfl,m,o,j⟩:=s .b h.symm rfl;cases a<;>cases c<;>simp only[ig]at j<;>try (cases j;done)
   simp only[Rep]at m o;subst m o;rw[run_equalIn_bool' w d t _ _ N];cases j;rfl
  ·rename_i e;cases e;simp only[ak1]at h;obtain⟨a,c,u,v,rfl,rfl,rfl,rfl,m,o,j⟩:=s .i h.symm rfl;cases a<;>cases c<;>simp only[ig]at j<;>try (cases j;done)
   simp only[Rep]at m o;subst m o;split at j<;>try (cases j;done)
   rename_i j6;subst j6;rw[run_equalIn_int w d t _ _ _ _ N];cases j;rfl
  ·rename_i e;cases e;simp only[ak1]at h;obtain⟨a,c,u,v,rfl,rfl,rfl,rfl,m,o,j⟩:=s .s h.symm rfl;cases a<;>cases c<;>simp only[ig]at j<;>try (cases j;done)
   simp only[Rep]at m o;subst m o;rw[run_equalIn_string w d t _ _ N,uN,uN];cases j;rfl
  ·rename_i fs e;cases e;split at h<;>try (cases h;done)
   rename_i k9;have F:b=true:=H.symm;subst F;simp only[qc,al1]at X Y;subst X Y;have R:P.fieldsOf t=fs:=by simp[Program.fieldsOf,N]
   rw[run_equalIn_struct w d t _ _ (by rw[R];exact N) (by simpa using k9),R];have m7:=I.length;have m8:=J.length;have m5:∀(l:List Field)(off:Nat)(q:List LK),nH P (sh P d) l off=some q->off+q.length=i.size->iL q (cs.drop off) (ds.drop off)=some r->
    (Op.eqFields d xs.toArray V.toArray l).run P w=.ok r w:=by
    intro l;induction l with
    |nil=>
     intro off q g W p;simp only[nH,ak1]at g;subst g;have e1:cs.drop off=[]:=by apply anr;simp at W;omega
     have e2:ds.drop off=[]:=by apply anr;simp at W;omega
     rw[e1,e2]at p;simp only[iL,ak1]at p;subst p;simp[Op.eqFields]
    |cons f l ih=>
     intro off q g W p;simp only[nH]at g;split at g<;>try (cases g;done)
     rename_i T;simp only[not_or,Decidable.not_not]at T;obtain⟨L,rfl⟩:=T;split at g<;>try (cases g;done)
     rename_i kf z Z K A;split at g<;>try (cases g;done)
     rename_i S;split at g<;>try (cases g;done)
     rename_i kr hr;simp only[ak1]at g;subst g;simp only[ak2]at W;have Q:Z=true∨z=1:=by
      cases Z with
      |true=>exact .inl rfl
      |false=>
       right;obtain⟨fi,fd,m6,j5,rfl,j4⟩:=sg A;cases d with
       |zero=>simp[sh]at K
       |succ d=>
        simp only[sh,j5]at K;split at K<;>first|(cases K;done)|(rename_i e;cases e;simp only[ak1]at K;subst K;simpa using S.symm)|(rename_i e;cases e;simp[Es]at j4)
     have C:cs.drop f.offset=(cs.drop f.offset).take z++cs.drop (f.offset+z):=by
      rw[<-amG];exact(amk _ _).symm
     have E:ds.drop f.offset=(ds.drop f.offset).take z++ds.drop (f.offset+z):=by
      rw[<-amG];exact(amk _ _).symm
     rw[C,E,Et _ _ _ _ _ _ soq soq]at p;obtain⟨u,m,j8⟩:=Vk (w:=w) A Q (a:=xs.toArray) (off:=f.offset) soq;obtain⟨v,o,j9⟩:=Vk (w:=w) A Q (a:=V.toArray) (off:=f.offset) soq;simp only[Op.eqFields,ne_eq,L,not_false_eq_true,al1,alh,m,o,ak9];have U:∀M,iL kf ((cs.drop f.offset).take z) ((ds.drop f.offset).take z)=some M->(Op.equalIn d f.type u v).run P w=.ok M w:=λM k8=>
      Vl d f.type kf z Z K A S _ _ _ _ u v M k8 soq soq ((I.drop _).take _) ((J.drop _).take _) j8 j9
     cases hq:iL kf ((cs.drop f.offset).take z) ((ds.drop f.offset).take z) with
     |none=>rw[hq]at p;cases p
     |some M=>
      rw[U M hq,ak9];rw[hq]at p;cases M with
      |true=>simpa using ih (f.offset+z) kr hr omq p
      |false=>simp only[ak1]at p;subst p;simp
   exact m5 fs.toList 0 ks h omq (by simpa using hc)
  ·cases h
end
end Go.Fw
namespace Go.Fw
open Go.RowKit
section
variable {P:Program}{B:bE P}{G:Gh}{σ:List aq}{w:World}
def Bn(d:BinOp)(k c:IntKind)(a b:Int):Option D:=
 match d with
 |.shl=>if 0<=b then some (.int k (k.wrap (a*2 ^ min b.toNat k.bits))) else none
 |.shr=>if 0<=b then some (.int k (a.fdiv (2 ^ min b.toNat k.bits))) else none
 |.add=>if k=c then some (.int k (k.wrap (a+b))) else none
 |.sub=>if k=c then some (.int k (k.wrap (a-b))) else none
 |.mul=>if k=c then some (.int k (k.wrap (a*b))) else none
 |.quo=>if k=c/\b≠0 then some (.int k (k.wrap (a.tdiv b))) else none
 |.rem=>if k=c/\b≠0 then some (.int k (a.tmod b)) else none
 |.and=>if k=c then some (.int k (bits .and k a b)) else none
 |.or=>if k=c then some (.int k (bits .or k a b)) else none
 |.xor=>if k=c then some (.int k (bits .xor k a b)) else none
 |.andNot=>if k=c then some (.int k (bits .andNot k a b)) else none
 |.eql=>if k=c then some (.bool (a==b)) else none
 |.neq=>if k=c then some (.bool (a !=b)) else none
 |.lss=>if k=c then some (.bool (decide (a<b))) else none
 |.leq=>if k=c then some (.bool (decide (a<=b))) else none
 |.gtr=>if k=c then some (.bool (decide (a>b))) else none
 |.geq=>if k=c then some (.bool (decide (a>=b))) else none
def OX(c:BinOp)(a b:List UInt8):Option D:=
 match c with
 |.add=>if a.length+b.length<=9223372036854775807 then some (.str (a++b)) else none
 |.eql=>some (.bool (a==b))
 |.neq=>some (.bool (!(a==b)))
 |.lss=>some (.bool (Op.bytesLess a b))
 |.leq=>some (.bool (Op.bytesLess a b||a==b))
 |.gtr=>some (.bool (!(Op.bytesLess a b||a==b)))
 |.geq=>some (.bool (!Op.bytesLess a b))
 |_=>none
inductive EK where
 |prim|bool|flat(ks:List LK)|iface|ptr|func|map
 deriving Inhabited
def OY(P:Program)(t:TypeId):Option EK:=
 match P.underlying t with
 |some .bool=>some .bool
 |some (.int _)=>some .prim
 |some .string=>some .prim
 |some (.struct _)=>if P.eqGuardType P.depth t=false then(match sh P 20 t,uL P t with
  |some a,some (n,true)=>if a.length=n then some (.flat a) else none
  |_,_=>none) else none
 |some (.interface _)=>some .iface
 |some (.pointer _)=>some .ptr
 |some (.func _ _ _)=>some .func
 |some (.map _ _)=>some .map
 |_=>none
def eqD(c:Bool):EK->D->D->Option Bool
 |.bool,.bool a,.bool b=>some (a==b)
 |.flat d,.agg e,.agg f=>if e.length=d.length/\f.length=d.length then iL d e f else none
 |.iface,.nili,.nili=>if c then some true else none
 |.iface,.nili,.iface _ _=>some false
 |.iface,.nili,.anyi=>some false
 |.iface,.iface _ _,.nili=>some false
 |.iface,.anyi,.nili=>some false
 |.ptr,.nilp,.nilp=>some true
 |.ptr,.nilp,.ptr _ _ _=>some false
 |.ptr,.nilp,.rptr _ _=>some false
 |.ptr,.ptr _ _ _,.nilp=>some false
 |.ptr,.rptr _ _,.nilp=>some false
 |.func,.nilf,.nilf=>some true
 |.func,.nilf,.func _ _ _=>some false
 |.func,.func _ _ _,.nilf=>some false
 |.map,.nilmap,.nilmap=>some true
 |.map,.nilmap,.map _=>some false
 |.map,.map _,.nilmap=>some false
 |.map,.nilmap,.cmap _ _=>some false
 |.map,.cmap _ _,.nilmap=>some false
 |_,_,_=>none
variable{Z:BinOp}
def agY{k f:IntKind}{a b:Int}{d:D}(t:TypeId)(h:Bn Z k f a b=some d):∃v,(binOp Z t (.int k a) (.int f b)).run P w=.ok v w/\Rep G d v:=by
 cases Z<;>simp only[Bn]at h<;>split at h<;>try (cases h;done)
 all_goals (rename_i c;cases h)
 case shl=>exact⟨_,by simp[binOp,Op.shift,Int.not_lt.2 c];rfl,by simp[Rep]⟩
 case shr=>exact⟨_,by simp[binOp,Op.shift,Int.not_lt.2 c];rfl,by simp[Rep]⟩
 case quo=>obtain⟨rfl,e⟩:=c;exact⟨_,by simp[binOp,Op.intDiv,e];rfl,by simp[Rep]⟩
 case rem=>obtain⟨rfl,e⟩:=c;exact⟨_,by simp[binOp,Op.intDiv,e];rfl,by simp[Rep]⟩
 all_goals (subst c)
 case add=>exact⟨_,by simp[binOp,Op.intArith];rfl,by simp[Rep]⟩
 case sub=>exact⟨_,by simp[binOp,Op.intArith];rfl,by simp[Rep]⟩
 case mul=>exact⟨_,by simp[binOp,Op.intArith];rfl,by simp[Rep]⟩
 case and=>exact⟨_,by simp[binOp,intBits_and];rfl,by simp[Rep]⟩
 case or=>exact⟨_,by simp[binOp,intBits_or];rfl,by simp[Rep]⟩
 case xor=>exact⟨_,by simp[binOp,intBits_xor];rfl,by simp[Rep]⟩
 case andNot=>exact⟨_,by simp[binOp,intBits_andNot];rfl,by simp[Rep]⟩
 case eql=>exact⟨_,by simp[binOp,Op.intCmp];rfl,by simp[Rep]⟩
 case neq=>exact⟨_,by simp[binOp,Op.intCmp];rfl,by simp[Rep]⟩
 case lss=>exact⟨_,by simp[binOp,Op.intCmp];rfl,by simp[Rep]⟩
 case leq=>exact⟨_,by simp[binOp,Op.intCmp];rfl,by simp[Rep]⟩
 case gtr=>exact⟨_,by simp[binOp,Op.intCmp];rfl,by simp[Rep]⟩
 case geq=>exact⟨_,by simp[binOp,Op.intCmp];rfl,by simp[Rep]⟩
def agZ{a b:List UInt8}{d:D}(t:TypeId)(h:OX Z a b=some d):∃v,(binOp Z t (.string ⟨a.toArray⟩) (.string ⟨b.toArray⟩)).run P w=.ok v w/\Rep G d v:=by
 cases Z<;>simp only[OX]at h<;>try (cases h;done)
 case add=>
  split at h<;>try (cases h;done)
  rename_i c;cases h;refine⟨.string ⟨(a++b).toArray⟩,?_,by simp[Rep]⟩;simp only[binOp,Op.stringOp,nE,SN];rw[alJ (by simp[IntKind.max,IntKind.signed,IntKind.bits];omega)];rfl
 all_goals (cases h;exact⟨_,by simp only[binOp,Op.stringOp,uN];rfl,by simp[Rep]⟩)
def YK:Operand->Bool
 |.const _=>true
 |_=>false
def uP{t:TypeId}{x y:Operand}{a b:Value}(h:∀e f,a≠.agg e∨b≠.agg f)(c:a≠.nilIface∨b≠.nilIface):(eqGuard Z t x y a b).run P w=.ok () w:=by
 have d:(match a,b with
  |Value.nilIface,Value.nilIface=>if YK x||YK y then(pure ():Sem Unit) else do
   if <-Op.eqGuardIn Op.maxDepth t a b then unsupported (.noEntry "binop/eql: two nil values of an interface type with methods, neither of them the literal nil")
  |Value.agg _,Value.agg _=>do
   if !(<-program).eqGuardType (<-program).depth t then return
   if <-Op.eqGuardIn Op.maxDepth t a b then unsupported (.noEntry "binop/eql: two nil values of an interface type with methods, in a part of a struct or an array")
  |_,_=>pure ()).run P w=.ok () w:=by
  split
  ·rcases c with c|c<;>exact absurd rfl c
  ·rename_i e f;rcases h e f with c|c<;>exact absurd rfl c
  ·rfl
 cases Z<;>first|rfl|exact d
def F0:Operand->Bool
 |.const _=>true
 |_=>false
def F1(e:Option EK)(f:BinOp)(c:Bool)(x y:D):Option D:=
 match x,y with
 |.int k a,.int g b=>Bn f k g a b
 |.str a,.str b=>OX f a b
 |x,y=>match f,e with
  |.eql,some d=>(eqD c d x y).map .bool
  |.neq,some d=>(eqD c d x y).map λr=>.bool (!r)
  |_,_=>none
set_option maxHeartbeats 1000000 in
def ag0{E:Bool}{Q:EK}{t:TypeId}(g:OY P t=some Q){x y:D}{u v:Value}{r:Bool}(h:eqD E Q x y=some r)(a:Rep G x u)(b:Rep G y v):
 (Op.equal t u v).run P w=.ok r w:=by
 unfold OY at g;show(Op.equalIn (9999+1) t u v).run P w=.ok r w;generalize q:(9999:Nat)=dep;split at g<;>try (cases g;done)
 ·rename_i c;cases g;cases x<;>cases y<;>simp only[eqD]at h<;>try (cases h;done)
  simp only[Rep]at a b;subst a b;cases h;exact run_equalIn_bool' w _ t _ _ c
 ·cases g;cases x<;>cases y<;>simp only[eqD]at h<;>cases h
 ·cases g;cases x<;>cases y<;>simp only[eqD]at h<;>cases h
 ·rename_i fs c;split at g<;>try (cases g;done)
  split at g<;>try (cases g;done)
  rename_i R n F J;split at g<;>try (cases g;done)
  rename_i Y;cases g;cases x<;>cases y<;>simp only[eqD]at h<;>try (cases h;done)
  rename_i U V;split at h<;>try (cases h;done)
  rename_i hc;simp only[Rep]at a b;obtain⟨S,rfl,L⟩:=a;obtain⟨T,rfl,M⟩:=b;have p:∀m,(Op.equalIn (20+m) t (.agg S) (.agg T)).run P w=.ok r w:=by
   intro m;have z:∀(d:Nat)(C:TypeId)(j:List LK),sh P d C=some j->sh P (d+1) C=some j:=by
    intro d;induction d with
    |zero=>intro C j A;simp[sh]at A
    |succ d N=>
     intro C j A;have W:∀(l:List Field)(k:Nat)(r:List LK),nH P (sh P d) l k=some r->nH P (sh P (d+1)) l k=some r:=by
      intro l;induction l with
      |nil=>intro k r i;simpa[nH] using i
      |cons f l O=>
       intro k r i;simp only[nH]at i⊢;split at i<;>try (cases i;done)
       rename_i K;rw[alJ K];split at i<;>try (cases i;done)
       rename_i kf nf Z X s;rw[N _ _ X,s];split at i<;>try (cases i;done)
       rename_i H;simp only[H,al1];split at i<;>try (cases i;done)
       rename_i kr I;rw[O _ _ I];exact i
     rw[sh]at A⊢;split at A<;>simp_all
   have o:∀m,sh P (20+m) t=some R:=by
    intro m;induction m with
    |zero=>exact F
    |succ m N=>exact z _ _ _ N
   exact Vl (20+m) t R n true (o m) J Y U V S.toList T.toList _ _ r h omq omq L M (by simp[qc]) (by simp[qc])
  subst q;exact p 9980
 ·rename_i ms c;cases g;cases x<;>cases y<;>simp only[eqD]at h<;>try (cases h;done)
  all_goals (simp only[Rep]at a b)
  ·obtain⟨_,rfl,_⟩:=a;subst b;cases h;simp[Op.equalIn,ald c]
  ·obtain⟨_,rfl,_⟩:=b;subst a;cases h;simp[Op.equalIn,ald c]
  ·subst a b;split at h<;>try (cases h;done)
   cases h;simp[Op.equalIn,ald c]
  ·obtain⟨_,_,rfl⟩:=b;subst a;cases h;simp[Op.equalIn,ald c]
  ·obtain⟨_,_,rfl⟩:=a;subst b;cases h;simp[Op.equalIn,ald c]
 ·rename_i e c;cases g;cases x<;>cases y<;>simp only[eqD]at h<;>try (cases h;done)
  all_goals (simp only[Rep]at a b)
  ·subst a b;cases h;simp[Op.equalIn,ald c]
  ·obtain⟨_,_,rfl⟩:=b;subst a;cases h;simp[Op.equalIn,ald c]
  ·obtain⟨_,_,rfl,_⟩:=b;subst a;cases h;simp[Op.equalIn,ald c]
  ·obtain⟨_,_,rfl⟩:=a;subst b;cases h;simp[Op.equalIn,ald c]
  ·obtain⟨_,_,rfl,_⟩:=a;subst b;cases h;simp[Op.equalIn,ald c]
 ·rename_i c;cases g;cases x<;>cases y<;>simp only[eqD]at h<;>try (cases h;done)
  all_goals (simp only[Rep]at a b)
  ·obtain⟨_,_,rfl,_⟩:=a;subst b;cases h;simp[Op.equalIn,ald c]
  ·obtain⟨_,_,rfl,_⟩:=b;subst a;cases h;simp[Op.equalIn,ald c]
  ·subst a b;cases h;simp[Op.equalIn,ald c]
 ·rename_i c;cases g;cases x<;>cases y<;>simp only[eqD]at h<;>try (cases h;done)
  all_goals (simp only[Rep]at a b)
  ·obtain⟨_,_,rfl⟩:=a;subst b;cases h;simp[Op.equalIn,ald c]
  ·obtain⟨_,_,rfl⟩:=b;subst a;cases h;simp[Op.equalIn,ald c]
  ·subst a b;cases h;simp[Op.equalIn,ald c]
  ·obtain⟨_,_,rfl,_⟩:=b;subst a;cases h;simp[Op.equalIn,ald c]
  ·obtain⟨_,_,rfl,_⟩:=a;subst b;cases h;simp[Op.equalIn,ald c]
end
end Go.Fw
def alc:=@List.map_cons
def alS:=@Nat.zero_add
def amL:=@List.drop_append
def amP:=@List.size_toArray
def aoM:=@Go.grownCap_le_maxLen
namespace Go.Fw
open Go.RowKit
section
variable {P:Program}{B:bE P}{G:Gh}{σ:List aq}{w:World}
def oA(σ:List aq)(sz:Nat):D->Option (List D×Nat)
 |.list a n _=>if a.length=n*sz then some (a,n) else none
 |.sl l u o n c _=>match σ[l]? with
  |some (.cells a _ d)=>if d=u/\c=sz/\o+n*sz<=a.length then some ((a.drop o).take (n*sz),n) else none
  |_=>none
 |.str s=>if sz=1 then some (s.map λb=>.int .u8 b.toNat,s.length) else none
 |_=>none
def Rel.cells_of(h:Rel B G σ w){l u b o k:Nat}{cs:List D}{frz:Nat}(n:σ[l]?=some (.cells cs frz u))(i:G.blk l u=some b)(m:o+k<=cs.length):
 ∃a:List Value,a.length=k/\af G ((cs.drop o).take k) a/\∀j v,a[j]?=some v->w.cell? ⟨b,o+j,none⟩=some v:=by
 have c:lC σ (.ptr l u o) k=some ((cs.drop o).take k):=by simp[lC,n,m]
 obtain⟨p,r,a,e,d,q,f,g⟩:=IT h c (show Rep G (.ptr l u o) (.pointer (some ⟨b,o,none⟩)) by simp only[Rep];exact⟨b,i,rfl⟩);cases e;exact⟨a,d,f,g⟩
def ag1(E:Rel B G σ w){M:TypeId}{i:TypeInfo}{x:D}{v:Value}{new:List D}{m:Nat}(h:oA σ i.size x=some (new,m))(y:Rep G x v)(g:new.all D.isCell=true)
 (C:(∃R,P.underlying M=some (.slice R))∨P.underlying M=some .string):∃e,Src P i.size M v m e w/\af G new e:=by
 cases x<;>simp only[oA]at h<;>try (cases h;done)
 ·rename_i s;split at h<;>try (cases h;done)
  rename_i K;cases h;simp only[Rep]at y;subst y;refine⟨s.map λb=>.int .u8 b.toNat,?_,?_⟩
  ·have O:∀d:World,(Builtin.firstCells i.size s.length (.string ⟨s.toArray⟩)).run P d=.ok (s.map λb=>Value.int .u8 b.toNat).toArray d:=by
    intro d;simp only[Builtin.firstCells,als];congr 1;rw[Hz];simp
   exact⟨C,λd=>by simp[Builtin.lenOf,nE],O w,O _,by simp[K],by simp[Value.oneCell']⟩
  ·clear g;induction s with
   |nil=>simp[af]
   |cons a s Y=>simp only[alc,af];exact⟨_,_,rfl,by simp[Rep],Y⟩
 ·rename_i Q n z;split at h<;>try (cases h;done)
  rename_i f;cases h;simp only[Rep]at y;obtain⟨a,q,rfl,T,U,V,N⟩:=y;have L:∃e,af G new e/\∀d:World,(∀b o u,G.imm b o=some u->d.cell? ⟨b,o,none⟩=some u)->(Builtin.firstCells i.size m (.slice a m q)).run P d=.ok e.toArray d:=by
   rcases N with⟨b,o,rfl,F⟩|rfl
   ·obtain⟨t,p,H⟩:=F.reps;refine⟨t,p,λd r=> ?_⟩;have J:=p.length;have:=am6 (P:=P) d ⟨b,o,none⟩ t (λj u I=>by rw[fP];exact r _ _ _ (H j u I));rw[<-J,f]at this;exact this
   ·refine⟨[],by simp[af],λd _=> ?_⟩;have X:m*i.size=0:=by simpa using f.symm
    cases a with
    |none=>simp[Builtin.firstCells]
    |some a=>simp only[Builtin.firstCells,X];rfl
  obtain⟨e,p,c⟩:=L;exact⟨e,⟨C,λd=>by simp[Builtin.lenOf],c w E.imm,c _ E.drew.imm,by rw[<-p.length,f],p.oneCell g⟩,p⟩
 ·rename_i l u o n Z z;split at h<;>try (cases h;done)
  rename_i Q S u' J;split at h<;>try (cases h;done)
  rename_i F;obtain⟨rfl,rfl,f⟩:=F;cases h;simp only[Rep]at y;rcases y with⟨b,q,e9,W,rfl,T,U,V,N,h5⟩|⟨rfl,a,rfl⟩
  ·obtain⟨t,A,p,k⟩:=E.cells_of J W f;have c:∀d:World,(∀j v,t[j]?=some v->d.cell? ⟨b,o+j,none⟩=some v)->(Builtin.firstCells i.size m (.slice (some ⟨b,o,none⟩) m q)).run P d=.ok t.toArray d:=by
    intro d r;have:=am6 (P:=P) d ⟨b,o,none⟩ t (λj u I=>by rw[fP];exact r j u I);rw[A]at this;exact this
   exact⟨t,⟨C,λd=>by simp[Builtin.lenOf],c w k,c _ k,by rw[A],p.oneCell g⟩,p⟩
  ·have c:∀d:World,(Builtin.firstCells i.size 0 (.slice a 0 0)).run P d=.ok ([]:List Value).toArray d:=by
    intro d;cases a with
    |none=>simp[Builtin.firstCells]
    |some a=>simp only[Builtin.firstCells,amZ];rfl
   refine⟨[],⟨C,λd=>by simp[Builtin.lenOf],c w,c _,by simp,by simp⟩,?_⟩;simp[af]
def ba:Nat:=1099511627776
def WP:Option TypeDesc->Bool
 |some (.slice _)=>true
 |some .string=>true
 |_=>false
def YL{d:Option TypeDesc}(h:WP d=true):(∃a,d=some (.slice a))∨d=some .string:=by
 unfold WP at h;split at h
 ·exact .inl ⟨_,rfl⟩
 ·exact .inr rfl
 ·cases h
def CG(P:Program)(t a:TypeId):Option (Nat×Nat):=
 match P.underlying t with
 |some (.slice e)=>match P.info? e,mZ P e with
  |some i,some z=>if z.length=i.size/\0<i.size/\WP (P.underlying a)=true then some (i.size,i.bytes) else none
  |_,_=>none
 |_=>none
def IY(σ:List aq)(sz by':Nat)(s x:D):Option (D×List aq):=
 match oA σ sz x with
 |none=>none
 |some (new,m)=>
  if new.all D.isCell=true then
   match s with
   |.list a n full=>
    if a.length=n*sz then
     (if m=0 then some (.list a n full,σ)
     else if full=true/\(n+m)*by'<=ba/\n+m<=ba then some (.sl σ.length 0 0 (n+m) sz false,σ++[.cells (a++new) 0 0]) else none)
    else none
   |.sl l u o n b full=>
    match σ[l]? with
    |some (.cells a frz c)=>
     if c=u/\b=sz/\o+n*sz<=a.length then
      (if m=0 then some (.sl l u o n b full,σ)
      else if (n+m)*by'<=ba/\n+m<=ba then
       (if full=true then some (.sl σ.length 0 0 (n+m) sz false,σ++[.cells ((a.drop o).take (n*sz)++new) 0 0])
       else if o=0/\n*sz=a.length then some (.sl l (a++new).length 0 (n+m) sz false,σ.set l (.cells (a++new) frz (a++new).length))
       else none)
      else none)
     else none
    |_=>none
   |_=>none
  else none
def P1{t f:TypeId}{sz by':Nat}(h:CG P t f=some (sz,by')):∃e i b z,P.underlying t=some (.slice e)/\P.info? e=some i/\i.size=sz/\i.bytes=by'/\0<sz/\
 i.zero=some b/\cDs b.cells.toList=some z/\z.length=sz/\((∃j,P.underlying f=some (.slice j))∨P.underlying f=some .string):=by
 unfold CG at h;split at h<;>try (cases h;done)
 rename_i e o;split at h<;>try (cases h;done)
 rename_i i z g p;split at h<;>try (cases h;done)
 rename_i n;obtain⟨k,l,m⟩:=n;cases h;obtain⟨q,b,a,d,c⟩:=lD p;rw[g]at a;cases a;exact⟨e,i,b,z,o,g,rfl,rfl,l,d,c,k,YL m⟩
def P2(a:Nat):∀(r c:Nat),Builtin.growBy a r c<=max c (a+(a+768) / 4)
 |0,c=>by simp only[Builtin.growBy];omega
 |r+1,c=>by
  simp only[Builtin.growBy];split
  ·omega
  ·have:=P2 a r (c+(c+768) / 4);omega
def WQ{a old:Nat}(h:old<a):Builtin.nextslicecap a old<=2*a+192:=by
 unfold Builtin.nextslicecap;split
 ·omega
 ·split
  ·omega
  ·have:=P2 a 4 old;omega
def U1{a old by':Nat}(h:old<a)(b:a*by'<=ba):Builtin.nextslicecap a old*by'<=281474976710656:=by
 have c:=WQ h;have d:by'<=ba:=amo (Nat.le_mul_of_pos_left by' (show 0<a by omega)) b;have e:Builtin.nextslicecap a old*by'<=(2*a+192)*by':=al6 _ c;have f:(2*a+192)*by'=2*(a*by')+192*by':=by rw[am3,Nat.mul_assoc]
 unfold ba at b d;omega
def Eu(U:Rel B G σ w){t M ty e:TypeId}{i:TypeInfo}{s:Value}{z:List D}(hu:P.underlying t=some (.slice e))(Y:P.info? e=some i)(hz:i.zero=some s)(F:cDs s.cells.toList=some z)(J:z.length=i.size)
 {σ':List aq}{l ver frz:Nat}{cs new:List D}{d a:List Value}{g:Option Addr}{n f m:Nat}{v:Value}(q:Src P i.size M v m a w)(h:af G new a)(o:af G cs d)(W:cs.length=n*i.size)
 (j:(Builtin.firstCells i.size n (.slice g n f)).run P w.drew=.ok d.toArray w.drew)(k:f<n+m)(E:(n+m)*i.bytes<=ba)(x:n+m<=ba)
 (A:σ.length<=σ'.length)(ho:∀L,L≠l->σ'[L]?=σ[L]?)(Z:σ'[l]?=some (.cells (cs++new) frz ver))(X:G.blk l ver=none)(I:ver<=(cs++new).length/\∀O b,G.blk l O=some b->O<=ver)(H:frz<=(cs++new).length):
 ∃u Q C,(Builtin.append_ #[t,M] ty #[.slice g n f,v]).run P w=.ok u Q/\G.Le C/\Rel B C σ' Q/\Rep C (.sl l ver 0 (n+m) i.size false) u:=by
 have e9:new.length=m*i.size:=by rw[h.length,q.newsLen]
 have p:=run_append_grow_src (P:=P) w t M ty e i s hu Y hz g n f d j v m a q k (by unfold ba at x;omega) (U1 k E);have y:=grownCap_ge w (n+m) f e;have r:=aoM w (n+m) f e (by unfold maxLen;unfold ba at x;omega);generalize V:grownCap w (n+m) f e=gc at p y r;obtain⟨S,T⟩:=U.drew.bindCells (l:=l) (u:=ver) (frz:=frz) (cs:=cs++new) (σ':=σ') (hd:=d++a) (tl:=(Builtin.zeroCells s.cells (gc-(n+m))).toList)
  (c:=(d++a).toArray++Builtin.zeroCells s.cells (gc-(n+m))) e A ho Z X I H siq (o.append h)
 refine⟨_,_,_,p,S,T,?_⟩;simp only[Rep];have j3:=o.length;have N:=h.length;have K:s.cells.size=i.size:=by rw[<-J,(mY G F).length];simp
 refine .inl ⟨w.heap.size,gc,_,by simp[Gh.bind],rfl,y,by unfold maxLen at r;exact r,by simp,by simp[Gh.bind];rfl,?_⟩;simp only[Array.size_append,size_zeroCells,K,alS,amP,ak2];have R:d.length+a.length=(n+m)*i.size:=by rw[am3];omega
 rw[R,<-am3];exact al6 _ omq
variable{Z:List Value}
def YM(c:Rel B G σ w){l u b frz:Nat}{cs new:List D}(p:σ[l]?=some (.cells cs frz u))(E:G.blk l u=some b)(hn:new≠[])(T:af G new Z){r:Nat}(K:G.siz b=some r)(e9:cs.length+new.length<=r)(C:new.all D.isCell=true):
 ∃w' a,(storeCells ((⟨b,0,none⟩:Addr).add cs.length) Z).run P w=.ok () w'/\G.Le a/\Rel B a (σ.set l (.cells (cs++new) frz (cs++new).length)) w'/\a.blk l (cs++new).length=some b/\a.siz b=some r:=by
 obtain⟨g,t,z,L,tl,O,V,o4⟩:=c.obj _ _ b p E;have R:=o4.length;have j4:=T.length;have j5:g.size=O.length+tl.length:=by simpa using congrArg List.length V
 rw[K]at L;simp only[ak1]at L;have N:=(c.blk _ _ _ E).2.1;have U:=c.ver _ _ p;have S:0<new.length:=ano.2 hn;have d:=run_storeCells_at (P:=P) b cs.length t Z 0 g w z omq (T.oneCell C);simp only[anx]at d;generalize H:(g.toList.take cs.length++Z++g.toList.drop (cs.length+Z.length)).toArray=nv at d;have q:nv.toList=O++Z++tl.drop Z.length:=by
  rw[<-H,V,R];simp[amL]
 have I:nv.size=g.size:=by
  have:=alD List.length q;simp at this;omega
 have h:G.blk l (cs++new).length=none:=by
  cases v:G.blk l (cs++new).length with
  |none=>rfl
  |some s=>
   have X:=U.2 _ _ v;have M:=U.1;simp only[aq.ver,aq.len,ak2]at X M;omega
 let a:Gh:={G with blk:=λy A=>if y=l/\A=(cs++new).length then some b else G.blk y A};have j:G.Le a:=by
  refine⟨λ_ _ _ x=>x,λ_ _ x=>x,λy A s n=> ?_,λ_ _ x=>x⟩;by_cases e:y=l/\A=(cs++new).length
  ·obtain⟨rfl,rfl⟩:=e;rw[h]at n;cases n
  ·simp only[a,e,alV];exact n
 refine⟨w.setRow b nv,a,by rw[fP,alS];exact d,j,?_,by simp[a],K⟩;refine c.update p E j ?_ (by simp[a,aq.ver]) ?_ rfl rfl (below_setRow c.below N nv) siq (λk J=>setRow_other w b k nv J) ?_ ?_ ?_ ?_ ?_ (by have:=c.frzle _ _ p;simp only[aq.frz,aq.len,ak2]at this⊢;omega)
 ·intro y A s v;by_cases e:y=l/\A=(cs++new).length
  ·simp only[a,e,and_self,al1,ak1]at v;exact .inr ⟨e.1,e.2,v.symm⟩
  ·simp only[a,e,alV]at v;exact .inl v
 ·intro s f x Q;have i:G.imm s f=some x:=Q;refine⟨?_,λ_=>i⟩;by_cases e:s=b
  ·subst e;have o:=c.imm _ _ _ i;have F:f<O.length:=by
    have X:=c.own l _ _ _ _ p E f x i;have M:=c.frzle _ _ p;simp only[aq.frz,aq.len]at M;omega
   rw[cell_setRow_same w s f g nv t (0,0) z];unfold World.cell? at o;rw[z]at o;have m:g[f]?=some x:=o;have e1:nv[f]?=nv.toList[f]? :=by simp
   have e2:g[f]?=g.toList[f]? :=by simp
   rw[e2,V,ak8 F]at m;rw[e1,q,alp,ak8 F];exact m
  ·rw[cell_setRow_other w b nv _ e];exact c.imm _ _ _ i
 ·intro k J;rw[K]at J;exact⟨nv,t,(0,0),setRow_heap w b g nv t (0,0) z,by cases J;rw[I];exact L.symm⟩
 ·cases hm:G.mimm b with
  |none=>rfl
  |some es=>
   obtain⟨Y,_⟩:=c.mimm _ _ hm;rw[z]at Y;cases Y
 ·refine⟨nv,t,setRow_heap w b g nv t (0,0) z,by rw[I,<-L];exact K,_,_,q,?_⟩;exact(af.mono j _ _ o4).append (af.mono j _ _ T)
 ·intro j3 W j6 e f x Q;cases e;exact c.own l _ _ _ _ p E f x Q
 ·have:=U.1;simp only[aq.ver,aq.len,ak2]at this⊢;omega
end
end Go.Fw
namespace Go.Fw
open Go.RowKit
section
variable {P:Program}{B:bE P}{G:Gh}{σ:List aq}{w:World}
def Gh.bind0(G:Gh)(l b:Nat):Gh:={G with blk:=λa c=>if a=l/\c=0 then some b else G.blk a c}
def Rel.bindOther(h:Rel B G σ w)(o:Obj)(ob:aq)(r:∀U f u,ob≠.cells U f u)(K:∀N,G.Le N->∀T:World,T.heap[w.heap.size]?=some o->oP N T w.heap.size ob):
 G.Le (G.bind0 σ.length w.heap.size)/\Rel B (G.bind0 σ.length w.heap.size) (σ++[ob]) (w.alloc o):=by
 have O:∀u,G.blk σ.length u=none:=λu=>by
  cases hx:G.blk σ.length u with
  |none=>rfl
  |some b=>exact absurd (h.blk _ _ _ hx).1 (ama _)
 have D:ob.ver=0:=by cases ob<;>first|rfl|exact absurd rfl (r _ _ _)
 have R:ob.len=0:=by cases ob<;>first|rfl|exact absurd rfl (r _ _ _)
 have Q:ob.frz=0:=by cases ob<;>first|rfl|exact absurd rfl (r _ _ _)
 have s:G.Le (G.bind0 σ.length w.heap.size):=by
  refine⟨λ_ _ _ x=>x,λ_ _ x=>x,λc t b d=> ?_,λ_ _ x=>x⟩;by_cases e:c=σ.length/\t=0
  ·obtain⟨rfl,rfl⟩:=e;rw[O]at d;cases d
  ·simp[Gh.bind0,e,d]
 have l:∀k,k<w.heap.size->(w.alloc o).heap[k]?=w.heap[k]? :=λk q=>aor _ _ _ q;have C:(w.alloc o).heap[w.heap.size]?=some o:=LT _ _;have i:∀c,c≠σ.length->(σ++[ob])[c]?=σ[c]? :=λc Y=>by
  rcases alf c σ.length with h|h
  ·rw[ak8 h]
  ·rw[List.getElem?_append_right h,alg h];have:c-σ.length≠0:=omq;cases q:c-σ.length with
   |zero=>exact absurd q this
   |succ k=>simp
 have g:(σ++[ob])[σ.length]?=some ob:=by simp
 refine⟨s,?_⟩;constructor
 ·exact h.below.alloc h.below.size _
 ·intro b L v J;have A:=h.imm b L v J;rw[aox _ _ _ (by simpa using ed A)];exact A
 ·intro b W Z;obtain⟨q,I⟩:=h.mimm b W Z;exact⟨(l _ (bB q)).trans q,I⟩
 ·intro b n hs;obtain⟨M,X,f,m,p⟩:=h.siz b n hs;exact⟨M,X,f,(l _ (bB m)).trans m,p⟩
 ·intro c t b d;by_cases e:c=σ.length/\t=0
  ·obtain⟨rfl,rfl⟩:=e;simp[Gh.bind0]at d;subst d;exact⟨by simp,h.below.size,by simp⟩
  ·simp[Gh.bind0,e]at d;obtain⟨m,p,h3⟩:=h.blk c t b d;exact⟨by simp;omega,p,by simp;omega⟩
 ·intro l1 u1 S u2 b m p;by_cases E:l1=σ.length/\u1=0
  ·by_cases y:S=σ.length/\u2=0
   ·exact E.1.trans y.1.symm
   ·simp[Gh.bind0,E]at m;simp[Gh.bind0,y]at p;subst m;exact absurd (h.blk _ _ _ p).2.2 (ama _)
  ·by_cases y:S=σ.length/\u2=0
   ·simp[Gh.bind0,y]at p;simp[Gh.bind0,E]at m;subst p;exact absurd (h.blk _ _ _ m).2.2 (ama _)
   ·simp[Gh.bind0,E]at m;simp[Gh.bind0,y]at p;exact h.inj _ _ _ _ _ m p
 ·intro c j b a d;by_cases e:c=σ.length
  ·subst e;rw[g]at a;cases a;simp[Gh.bind0,D]at d;subst d;exact K _ s _ C
  ·simp[Gh.bind0,e]at d;rw[i c e]at a;have q:=h.obj c j b a d;exact q.keep s (l _ q.lt)
 ·intro c F z t b a d L v J;by_cases e:c=σ.length
  ·subst e;rw[g]at a;cases a;exact absurd rfl (r _ _ _)
  ·rw[i c e]at a;have H:G.blk c t=some b:=by simpa[Gh.bind0,e] using d
   exact h.own c F z t b a H L v J
 ·intro c ks M b a d;by_cases e:c=σ.length
  ·subst e;simp[Gh.bind0]at d;subst d;exact h.mimm_new
  ·simp[Gh.bind0,e]at d;rw[i c e]at a;exact h.ownm c ks M b a d
 ·intro c j a;by_cases e:c=σ.length
  ·subst e;rw[g]at a;cases a;refine⟨omq,λu b d=> ?_⟩;by_cases V:u=0
   ·omega
   ·simp[Gh.bind0,V,O]at d
  ·rw[i c e]at a;refine⟨(h.ver c j a).1,λu b d=> ?_⟩;simp[Gh.bind0,e]at d;exact(h.ver c j a).2 u b d
 ·intro c j a;by_cases e:c=σ.length
  ·subst e;rw[g]at a;cases a;omega
  ·rw[i c e]at a;exact h.frzle c j a
 ·exact h.bimm
 ·exact h.bmimm
end
end Go.Fw
