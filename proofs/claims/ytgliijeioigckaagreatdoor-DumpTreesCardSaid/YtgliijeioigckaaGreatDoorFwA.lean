/- A framework for proofs about Go programs in this model: part A. Everything is proved; no condition is added. -/
import Derived.Calls
import Derived.Orders
import Derived.Below
import Derived.KernelRfl
import Derived.Lib.ItoaNum
import Derived.Lib.DecodeN
import Derived.Laws.Cells
import Derived.Laws.CopyRow
import Derived.Laws.CopyOwn
import Derived.Deep.AppendSrc
import Derived.Deep.Upon
import Derived.Laws.Strings
set_option linter.unusedVariables false
set_option linter.unusedSimpArgs false
namespace Go.Fw
inductive D where
 |bool (b:Bool)
 |int (k:IntKind) (n:Int)
 |str (s:List UInt8)
 |nilp
 |ptr (l u o:Nat)
 |rptr (cs:List D) (o:Nat)
 |list (cs:List D) (n:Nat) (full:Bool)
 |sl (l u o n sz:Nat) (full:Bool)
 |map (l:Nat)
 |nilmap
 |cmap (ks vs:List D)
 |pmap (ks vs:List D)
 |func (fn:Fn) (first cap:List D)
 |nilf
 |iface (t:TypeId) (v:D)
 |nili
 |anyi
 |agg (cs:List D)
 |tuple (vs:List D)
 |junk
 deriving Inhabited
structure Gh where
 imm:Nat→Nat→Option Value
 mimm:Nat→Option (Array MapEntry)
 blk:Nat→Nat→Option Nat
 siz:Nat→Option Nat
structure Gh.Le (G G' :Gh):Prop where
 imm:∀b o v,G.imm b o=some v→G'.imm b o=some v
 mimm:∀b es,G.mimm b=some es→G'.mimm b=some es
 blk:∀l u b,G.blk l u=some b→G'.blk l u=some b
 siz:∀b n,G.siz b=some n→G'.siz b=some n
theorem Gh.Le.refl(G:Gh):G.Le G:=⟨fun _ _ _ h=>h,fun _ _ h=>h,fun _ _ _ h=>h,fun _ _ h=>h⟩
theorem Gh.Le.trans{A B C:Gh}(h:A.Le B) (k:B.Le C):A.Le C:=
 ⟨fun b o v x=>k.imm _ _ _ (h.imm b o v x),fun b e x=>k.mimm _ _ (h.mimm b e x),fun l u b x=>k.blk _ _ _ (h.blk l u b x),fun b n x=>k.siz _ _ (h.siz b n x)⟩
mutual
def Rep(G:Gh):D→Value→Prop
 | .bool b,v=>v= .bool b
 | .int k n,v=>v= .int k n
 | .str s,v=>v= .string ⟨s.toArray⟩
 | .nilp,v=>v= .pointer none
 | .ptr l u o,v=>∃b,G.blk l u=some b∧v= .pointer (some ⟨b,o,none⟩)
 | .rptr cs o,v=>∃b o',v= .pointer (some ⟨b,o' +o,none⟩)∧Cells G b o' cs
 | .list cs n full,v=>∃a cap,v= .slice a n cap∧n≤cap∧cap≤9223372036854775807∧(full=true→cap=n)∧
  ((∃b o,a=some ⟨b,o,none⟩∧Cells G b o cs)∨cs=[])
 | .sl l u o n sz full,v=>(∃b cap tot,G.blk l u=some b∧v= .slice (some ⟨b,o,none⟩) n cap∧n≤cap∧cap≤9223372036854775807∧
  (full=true→cap=n)∧G.siz b=some tot∧o+cap*sz≤tot)∨(n=0∧∃a,v= .slice a 0 0)
 | .map l,v=>∃b,G.blk l 0=some b∧v= .map (some b)
 | .nilmap,v=>v= .map none
 | .cmap ks vs,v=>∃b es,v= .map (some b)∧G.mimm b=some es∧Reps G ks (es.toList.map (·.key))∧Reps G vs (es.toList.map (·.val))
 | .pmap ks vs,v=>∃b es π,v= .map (some b)∧G.mimm b=some es∧List.Perm π es.toList∧Reps G ks (π.map (·.key))∧Reps G vs (π.map (·.val))
 | .func fn first cap,v=>∃f c,v= .func fn f c∧Reps G first f.toList∧Reps G cap c.toList
 | .nilf,v=>v= .nilFunc
 | .iface t d,v=>∃x,v= .iface t x∧Rep G d x
 | .nili,v=>v= .nilIface
 | .anyi,v=>∃t x,v= .iface t x
 | .agg cs,v=>∃a,v= .agg a∧Reps G cs a.toList
 | .tuple cs,v=>∃a,v= .tuple a∧Reps G cs a.toList
 | .junk,_=>True
def Cells(G:Gh) (b:Nat):Nat→List D→Prop
 |_,[]=>True
 |o,d::ds=>(∃v,G.imm b o=some v∧Rep G d v)∧Cells G b (o+1) ds
def Reps(G:Gh):List D→List Value→Prop
 |[],vs=>vs=[]
 |d::ds,vs=>∃v r,vs=v::r∧Rep G d v∧Reps G ds r
end
mutual
theorem Rep.mono{G G' :Gh}(h:G.Le G'):∀(d:D) (v:Value),Rep G d v→Rep G' d v
 | .bool _,_,x=>by simpa only[Rep] using x
 | .int _ _,_,x=>by simpa only[Rep] using x
 | .str _,_,x=>by simpa only[Rep] using x
 | .nilp,_,x=>by simpa only[Rep] using x
 | .ptr _ _ _,_,x=>by
   simp only[Rep]at x⊢
   obtain⟨b,e,r⟩:=x
   exact⟨b,h.blk _ _ _ e,r⟩
 | .rptr cs _,_,x=>by
   simp only[Rep]at x⊢
   obtain⟨b,o',e,r⟩:=x
   exact⟨b,o',e,Cells.mono h b _ cs r⟩
 | .list cs _ _,_,x=>by
   simp only[Rep]at x⊢
   obtain⟨a,cap,e,h1,h2,h3,h4⟩:=x
   refine⟨a,cap,e,h1,h2,h3,h4.imp ?_ id⟩
   rintro⟨b,o,ha,hc⟩
   exact⟨b,o,ha,Cells.mono h b _ cs hc⟩
 | .sl _ _ _ _ _ _,_,x=>by
   simp only[Rep]at x⊢
   rcases x with⟨b,cap,tot,e,h1,h2,h3,h4,h5,h6⟩|x
   ·exact .inl ⟨b,cap,tot,h.blk _ _ _ e,h1,h2,h3,h4,h.siz _ _ h5,h6⟩
   ·exact .inr x
 | .map _,_,x=>by
   simp only[Rep]at x⊢
   obtain⟨b,e,r⟩:=x
   exact⟨b,h.blk _ _ _ e,r⟩
 | .nilmap,_,x=>by simpa only[Rep] using x
 | .cmap ks vs,_,x=>by
   simp only[Rep]at x⊢
   obtain⟨b,es,e,hm,h1,h2⟩:=x
   exact⟨b,es,e,h.mimm _ _ hm,Reps.mono h ks _ h1,Reps.mono h vs _ h2⟩
 | .pmap ks vs,_,x=>by
   simp only[Rep]at x⊢
   obtain⟨b,es,π,e,hm,hπ,h1,h2⟩:=x
   exact⟨b,es,π,e,h.mimm _ _ hm,hπ,Reps.mono h ks _ h1,Reps.mono h vs _ h2⟩
 | .func _ first cap,_,x=>by
   simp only[Rep]at x⊢
   obtain⟨f,c,e,h1,h2⟩:=x
   exact⟨f,c,e,Reps.mono h first _ h1,Reps.mono h cap _ h2⟩
 | .nilf,_,x=>by simpa only[Rep] using x
 | .iface _ d,_,x=>by
   simp only[Rep]at x⊢
   obtain⟨y,e,h1⟩:=x
   exact⟨y,e,Rep.mono h d _ h1⟩
 | .nili,_,x=>by simpa only[Rep] using x
 | .anyi,_,x=>by simpa only[Rep] using x
 | .agg cs,_,x=>by
   simp only[Rep]at x⊢
   obtain⟨a,e,h1⟩:=x
   exact⟨a,e,Reps.mono h cs _ h1⟩
 | .tuple cs,_,x=>by
   simp only[Rep]at x⊢
   obtain⟨a,e,h1⟩:=x
   exact⟨a,e,Reps.mono h cs _ h1⟩
 | .junk,_,_=>by simp only[Rep]
theorem Cells.mono{G G' :Gh}(h:G.Le G') (b:Nat):∀(o:Nat) (ds:List D),Cells G b o ds→Cells G' b o ds
 |_,[],_=>by simp only[Cells]
 |o,d::ds,x=>by
  simp only[Cells]at x⊢
  obtain⟨⟨v,e,r⟩,hs⟩:=x
  exact⟨⟨v,h.imm _ _ _ e,Rep.mono h d v r⟩,Cells.mono h b _ ds hs⟩
theorem Reps.mono{G G' :Gh}(h:G.Le G'):∀(ds:List D) (vs:List Value),Reps G ds vs→Reps G' ds vs
 |[],_,x=>by simpa only[Reps] using x
 |d::ds,_,x=>by
  simp only[Reps]at x⊢
  obtain⟨v,r,e,h1,h2⟩:=x
  exact⟨v,r,e,Rep.mono h d v h1,Reps.mono h ds r h2⟩
end
end Go.Fw
namespace Go.Fw
open Go.RowKit
inductive AObj where
 |cells (cs:List D) (frz:Nat) (ver:Nat)
 |map (ks vs:List D)
 |siter (s:List UInt8) (pos:Nat)
 |miter (ks vs:List D) (rem:List Nat) (cur:Option Nat)
 |dead
 |gone
 deriving Inhabited
def AObj.ver:AObj→Nat
 | .cells _ _ u=>u
 |_=>0
def AObj.frz:AObj→Nat
 | .cells _ f _=>f
 |_=>0
def AObj.len:AObj→Nat
 | .cells cs _ _=>cs.length
 |_=>0
def MapAt(w:World) (b:Nat) (es:Array MapEntry):Prop:=w.heap[b]? =some (.map es es.size)∧∀(i:Nat) (e:MapEntry),es[i]? =some e→e.born=i
def ObjAt(G:Gh) (w:World) (b:Nat):AObj→Prop
 | .cells cs _ _=>∃vs et,w.heap[b]? =some (.cells vs et (0,0))∧G.siz b=some vs.size∧∃tl,∃hd,vs.toList=hd++tl∧Reps G cs hd
 | .map ks vs=>∃es,MapAt w b es∧Reps G ks (es.toList.map (·.key))∧Reps G vs (es.toList.map (·.val))
 | .siter s pos=>w.heap[b]? =some (.stringIter ⟨s.toArray⟩ pos)
 | .miter ks vs rem cur=>∃m es seen,w.heap[b]? =some (.mapIter (some m) es.size seen es.size)∧G.mimm m=some es∧Reps G ks (es.toList.map (·.key))∧Reps G vs (es.toList.map (·.val))∧
  (∀i,i ∈ rem↔i<es.size∧seen.contains i=false)∧(∀i,cur=some i→seen.back? =some i)
 | .dead=>False
 | .gone=>b<w.heap.size
def globTab(s:String):Option (List D):=if s= "strconv.ErrSyntax" then some [.anyi] else if s= "strconv.ErrRange" then some [.anyi] else none
def globOf(P:Program) (g:Nat):Option (List D):=(P.globals[g]?).bind fun v=>globTab v.name
structure WTab (P:Program) (w:World):Prop where
 pow:∀g,P.globalNamed "internal/strconv.uint64pow10" =some g→∃t f,w.heap[g]? =some (.cells (Lib.pow10Tab.map fun z=>Value.int .u64 z).toArray t f)
theorem WTab.below{P:Program}{n:Nat}{w w' :World}(h:WTab P w) (hb:Below n w w') (hn:n=w.heap.size):WTab P w' :=by
 subst hn
 have lt:∀{g:Nat}{o:Obj},w.heap[g]? =some o→g<w.heap.size:=fun {g o} h=>by
  rcases Nat.lt_or_ge g w.heap.size with h' |h'
  ·exact h'
  ·rw[Array.getElem?_eq_none h']at h;cases h
 refine⟨fun g hg=> ?_⟩
 obtain⟨t,f,h1⟩:=h.pow g hg
 exact⟨t,f,by rw[hb.block g (lt h1),h1]⟩
def GlobOk(P:Program) (G:Gh) (w:World):Prop:=(∀(g:Nat) (cs:List D),globOf P g=some cs→g<w.heap.size∧Rep G (.rptr cs 0) (.pointer (some ⟨g,0,none⟩)))∧WTab P w
structure Base (P:Program) where
 w:World
 g:Gh
 gl:GlobOk P g w
 lim:∀b o v,g.imm b o=some v→b<w.heap.size
 lmm:∀b es,g.mimm b=some es→b<w.heap.size
structure Rel {P:Program}(B:Base P) (G:Gh) (σ:List AObj) (w:World):Prop where
 below:Below B.w.heap.size B.w w
 imm:∀b o v,G.imm b o=some v→w.cell? ⟨b,o,none⟩=some v
 mimm:∀b es,G.mimm b=some es→MapAt w b es
 siz:∀b n,G.siz b=some n→∃vs et f,w.heap[b]? =some (.cells vs et f)∧vs.size=n
 blk:∀l u b,G.blk l u=some b→l<σ.length∧B.w.heap.size≤b∧b<w.heap.size
 inj:∀l u l' u' b,G.blk l u=some b→G.blk l' u' =some b→l=l'
 obj:∀l ob b,σ[l]? =some ob→G.blk l ob.ver=some b→ObjAt G w b ob
 own:∀l cs frz u b,σ[l]? =some (.cells cs frz u)→G.blk l u=some b→∀o v,G.imm b o=some v→o<frz
 ownm:∀l ks vs b,σ[l]? =some (.map ks vs)→G.blk l 0=some b→G.mimm b=none
 ver:∀l ob,σ[l]? =some ob→ob.ver≤ob.len∧∀u b,G.blk l u=some b→u≤ob.ver
 frzle:∀(l:Nat) (ob:AObj),σ[l]? =some ob→ob.frz≤ob.len
 bimm:∀b o,b<B.w.heap.size→G.imm b o=B.g.imm b o
 bmimm:∀b,b<B.w.heap.size→G.mimm b=B.g.mimm b
theorem lt_of_some{w:World}{b:Nat}{o:Obj}(h:w.heap[b]? =some o):b<w.heap.size:=by
 rcases Nat.lt_or_ge b w.heap.size with h' |h'
 ·exact h'
 ·rw[Array.getElem?_eq_none h']at h;cases h
theorem lt_of_cell{w:World}{b o:Nat}{v:Value}(h:w.cell? ⟨b,o,none⟩=some v):b<w.heap.size:=
 World.block_lt_of_cell? w _ h
theorem ObjAt.keep{G G' :Gh}{w w' :World}{b:Nat}{ob:AObj}(hG:G.Le G') (h:ObjAt G w b ob) (e:w'.heap[b]? =w.heap[b]?):ObjAt G' w' b ob:=by
 cases ob with
 |cells cs frz u=>
  obtain⟨vs,et,h1,h2,tl,hd,h3,h4⟩:=h
  exact⟨vs,et,e.trans h1,hG.siz _ _ h2,tl,hd,h3,Reps.mono hG _ _ h4⟩
 |map ks vs=>
  obtain⟨es,h1,h2,h3⟩:=h
  exact⟨es,⟨e.trans h1.1,h1.2⟩,Reps.mono hG _ _ h2,Reps.mono hG _ _ h3⟩
 |siter s pos=>exact e.trans h
 |miter ks vs rem cur=>
  obtain⟨m,es,seen,h1,h2,h3,h4,h5,h6⟩:=h
  exact⟨m,es,seen,e.trans h1,hG.mimm _ _ h2,Reps.mono hG _ _ h3,Reps.mono hG _ _ h4,h5,h6⟩
 |dead=>exact h.elim
 |gone=>
  have h' :b<w.heap.size:=h
  obtain⟨o,ho⟩:∃o,w.heap[b]? =some o:=⟨_,Array.getElem?_eq_getElem h'⟩
  exact lt_of_some (e.trans ho)
theorem ObjAt.lt{G:Gh}{w:World}{b:Nat}{ob:AObj}(h:ObjAt G w b ob):b<w.heap.size:=by
 cases ob with
 |cells cs frz u=>obtain⟨vs,et,h1,_⟩:=h;exact lt_of_some h1
 |map ks vs=>obtain⟨es,h1,_⟩:=h;exact lt_of_some h1.1
 |siter s pos=>exact lt_of_some h
 |miter ks vs rem cur=>obtain⟨m,es,seen,h1,_⟩:=h;exact lt_of_some h1
 |dead=>exact h.elim
 |gone=>exact h
structure Grow (G G' :Gh) (w w' :World):Prop where
 le:G.Le G'
 below:Below w.heap.size w w'
 blk:G'.blk=G.blk
 imm:∀b o v,G'.imm b o=some v→w'.cell? ⟨b,o,none⟩=some v
 mimm:∀b es,G'.mimm b=some es→MapAt w' b es
 siz:∀b n,G'.siz b=some n→∃vs et f,w'.heap[b]? =some (.cells vs et f)∧vs.size=n
 imm_new:∀b o,b<w.heap.size→G'.imm b o=G.imm b o
 mimm_new:∀b,b<w.heap.size→G'.mimm b=G.mimm b
theorem Rel.grow{P:Program}{B:Base P}{G G' :Gh}{σ:List AObj}{w w' :World}(h:Rel B G σ w) (g:Grow G G' w w'):Rel B G' σ w' where
 below:=h.below.trans (g.below.mono h.below.size)
 imm:=g.imm
 mimm:=g.mimm
 siz:=g.siz
 blk l u b hb:=by
  rw[g.blk]at hb
  obtain⟨h1,h2,h3⟩:=h.blk l u b hb
  exact⟨h1,h2,Nat.lt_of_lt_of_le h3 g.below.size⟩
 inj:=by rw[g.blk];exact h.inj
 obj l ob b ho hb:=by
  rw[g.blk]at hb
  have hk:=h.obj l ob b ho hb
  exact hk.keep g.le (g.below.block b hk.lt)
 own l cs frz u b ho hb o v hi:=by
  rw[g.blk]at hb
  rw[g.imm_new b o (h.blk _ _ _ hb).2.2]at hi
  exact h.own l cs frz u b ho hb o v hi
 ownm l ks vs b ho hb:=by
  rw[g.blk]at hb
  rw[g.mimm_new b (h.blk _ _ _ hb).2.2]
  exact h.ownm l ks vs b ho hb
 ver:=by rw[g.blk];exact h.ver
 frzle:=h.frzle
 bimm b o hb:=(g.imm_new b o (Nat.lt_of_lt_of_le hb h.below.size)).trans (h.bimm b o hb)
 bmimm b hb:=(g.mimm_new b (Nat.lt_of_lt_of_le hb h.below.size)).trans (h.bmimm b hb)
theorem Grow.of_below{P:Program}{B:Base P}{G:Gh}{σ:List AObj}{w w' :World}(h:Rel B G σ w) (hb:Below w.heap.size w w'):Grow G G w w' where
 le:= .refl G
 below:=hb
 blk:=rfl
 imm b o v hi:=by
  have hc:=h.imm b o v hi
  rw[hb.cell (p:=⟨b,o,none⟩) (lt_of_cell hc)];exact hc
 mimm b es hm:=by
  obtain⟨hc,hb2⟩:=h.mimm b es hm
  exact⟨(hb.block b (lt_of_some hc)).trans hc,hb2⟩
 siz b n hs:=by
  obtain⟨vs,et,f,h1,h2⟩:=h.siz b n hs
  exact⟨vs,et,f,(hb.block b (lt_of_some h1)).trans h1,h2⟩
 imm_new _ _ _:=rfl
 mimm_new _ _:=rfl
theorem Rel.of_below{P:Program}{B:Base P}{G:Gh}{σ:List AObj}{w w' :World}(h:Rel B G σ w) (hb:Below w.heap.size w w'):Rel B G σ w' :=
 h.grow (.of_below h hb)
theorem Rel.drew{P:Program}{B:Base P}{G:Gh}{σ:List AObj}{w:World}(h:Rel B G σ w):Rel B G σ w.drew:=h.of_below (Below.refl _ _).drew
def Gh.addImm(G:Gh) (b:Nat) (vs:List Value):Gh:=
 {G with imm:=fun b' o=>if b' =b then vs[o]? else G.imm b' o}
theorem cell_new(w:World) (c:Array Value) (t:TypeId) (f:Nat×Nat) (o:Nat):(w.alloc (.cells c t f)).cell? ⟨w.heap.size,o,none⟩=c[o]? :=by
 have h:(w.alloc (.cells c t f)).heap[w.heap.size]? =some (.cells c t f):=by show(w.heap.push _)[w.heap.size]? =_;simp
 unfold World.cell?;rw[h];rfl
theorem heap_new(w:World) (o:Obj):(w.alloc o).heap[w.heap.size]? =some o:=by show(w.heap.push _)[w.heap.size]? =_;simp
theorem grow_new{P:Program}{B:Base P}{G:Gh}{σ:List AObj}{w:World}(h:Rel B G σ w) (hd tl:List Value) (t:TypeId) (f:Nat×Nat) (c:Array Value) (hc:c.toList=hd++tl):
 Grow G (G.addImm w.heap.size hd) w (w.alloc (.cells c t f)) where
 le:=by
  refine⟨fun b o v hi=> ?_,fun _ _ x=>x,fun _ _ _ x=>x,fun _ _ x=>x⟩
  have hlt:=lt_of_cell (h.imm b o v hi)
  have:b≠w.heap.size:=Nat.ne_of_lt hlt
  simp[Gh.addImm,this,hi]
 below:=(Below.refl _ _).alloc (Nat.le_refl _) _
 blk:=rfl
 imm b o v hi:=by
  by_cases e:b=w.heap.size
  ·subst e
   simp only[Gh.addImm,if_true]at hi
   rw[cell_new]
   have:c[o]? =c.toList[o]? :=by simp
   rw[this,hc,List.getElem?_append_left]
   ·exact hi
   ·rcases Nat.lt_or_ge o hd.length with h' |h'
    ·exact h'
    ·rw[List.getElem?_eq_none h']at hi;cases hi
  ·simp only[Gh.addImm,e,if_false]at hi
   have hcl:=h.imm b o v hi
   have hlt:=lt_of_cell hcl
   rw[World.cell?_alloc_lt _ _ _ (by simpa using hlt)];exact hcl
 mimm b es hm:=by
  obtain⟨hk,hb2⟩:=h.mimm b es hm
  exact⟨(Below.heap_alloc _ _ _ (lt_of_some hk)).trans hk,hb2⟩
 siz b n hs:=by
  obtain⟨vs,et,f',h1,h2⟩:=h.siz b n hs
  exact⟨vs,et,f',(Below.heap_alloc _ _ _ (lt_of_some h1)).trans h1,h2⟩
 imm_new b o hb:=by
  have:b≠w.heap.size:=Nat.ne_of_lt hb
  simp[Gh.addImm,this]
 mimm_new _ _:=rfl
theorem cells_addImm{G:Gh}{b:Nat}(vs:List Value):∀(ds:List D) (pre r:List Value),vs=pre++r→Reps G ds r→G.Le (G.addImm b vs)→Cells (G.addImm b vs) b pre.length ds
 |[],_,_,_,_,_=>by simp only[Cells]
 |d::ds,pre,r,e,hr,hle=>by
  simp only[Reps]at hr
  obtain⟨v,r',rfl,h1,h2⟩:=hr
  simp only[Cells]
  refine⟨⟨v,by simp[Gh.addImm,e],Rep.mono hle _ _ h1⟩,?_⟩
  have:=cells_addImm (b:=b) vs ds (pre++[v]) r' (by simp[e]) h2 hle
  simpa using this
end Go.Fw
namespace Go.Fw
open Go.RowKit
def Gh.bind(G:Gh) (l u b n:Nat):Gh:=
 {G with blk:=fun l' u' =>if l' =l∧u' =u then some b else G.blk l' u',siz:=fun k=>if k=b then some n else G.siz k}
section
variable {P:Program}{B:Base P}{G:Gh}{σ σ' :List AObj}{w:World}
theorem Rel.imm_lt(h:Rel B G σ w) {b o:Nat}{v:Value}(hi:G.imm b o=some v):b<w.heap.size:=lt_of_cell (h.imm b o v hi)
theorem Rel.imm_new(h:Rel B G σ w) (o:Nat):G.imm w.heap.size o=none:=by
 cases hi:G.imm w.heap.size o with
 |none=>rfl
 |some v=>exact absurd (h.imm_lt hi) (Nat.lt_irrefl _)
theorem Rel.mimm_new(h:Rel B G σ w):G.mimm w.heap.size=none:=by
 cases hi:G.mimm w.heap.size with
 |none=>rfl
 |some v=>obtain⟨hc,_⟩:=h.mimm _ _ hi;exact absurd (lt_of_some hc) (Nat.lt_irrefl _)
theorem Rel.siz_new(h:Rel B G σ w):G.siz w.heap.size=none:=by
 cases hi:G.siz w.heap.size with
 |none=>rfl
 |some v=>obtain⟨vs,et,f,hc,_⟩:=h.siz _ _ hi;exact absurd (lt_of_some hc) (Nat.lt_irrefl _)
theorem bind_le(h:Rel B G σ w) {l u n:Nat}(hf:G.blk l u=none):G.Le (G.bind l u w.heap.size n):=by
 refine⟨fun _ _ _ x=>x,fun _ _ x=>x,fun l' u' b hb=> ?_,fun b n' hs=> ?_⟩
 ·by_cases e:l' =l∧u' =u
  ·obtain⟨rfl,rfl⟩:=e;rw[hf]at hb;cases hb
  ·simp[Gh.bind,e,hb]
 ·by_cases e:b=w.heap.size
  ·subst e;rw[h.siz_new]at hs;cases hs
  ·simp[Gh.bind,e,hs]
theorem Rel.bindCells(h:Rel B G σ w) {l u frz:Nat}{cs:List D}{hd tl:List Value}{c:Array Value}(t:TypeId) (hlen:σ.length≤σ'.length) (ho:∀l',l'≠l→σ'[l']? =σ[l']?)
 (hl:σ'[l]? =some (.cells cs frz u)) (hf:G.blk l u=none) (hvr:u≤cs.length∧∀u' b,G.blk l u' =some b→u'≤u) (hfz:frz≤cs.length) (hc:c.toList=hd++tl) (hr:Reps G cs hd):
 G.Le (G.bind l u w.heap.size c.size)∧Rel B (G.bind l u w.heap.size c.size) σ' (w.alloc (.cells c t)):=by
 have hle:=bind_le h (n:=c.size) hf
 have hold:∀k,k<w.heap.size→(w.alloc (.cells c t)).heap[k]? =w.heap[k]? :=fun k hk=>Below.heap_alloc _ _ _ hk
 have hnew:(w.alloc (.cells c t)).heap[w.heap.size]? =some (.cells c t):=heap_new _ _
 refine⟨hle,?_⟩
 constructor
 ·exact h.below.alloc h.below.size _
 ·intro b o v hi
  have hcl:=h.imm b o v hi
  rw[World.cell?_alloc_lt _ _ _ (by simpa using lt_of_cell hcl)];exact hcl
 ·intro b es hm
  obtain⟨hk,hb2⟩:=h.mimm b es hm
  exact⟨(hold _ (lt_of_some hk)).trans hk,hb2⟩
 ·intro b n hs
  by_cases e:b=w.heap.size
  ·subst e
   simp[Gh.bind]at hs
   exact⟨c,t,_,hnew,hs⟩
  ·simp[Gh.bind,e]at hs
   obtain⟨vs,et,f,h1,h2⟩:=h.siz b n hs
   exact⟨vs,et,f,(hold _ (lt_of_some h1)).trans h1,h2⟩
 ·intro l' u' b hb
  by_cases e:l' =l∧u' =u
  ·obtain⟨rfl,rfl⟩:=e
   simp[Gh.bind]at hb
   subst hb
   refine⟨?_,h.below.size,by simp⟩
   rcases Nat.lt_or_ge l' σ'.length with h' |h'
   ·exact h'
   ·rw[List.getElem?_eq_none h']at hl;cases hl
  ·simp[Gh.bind,e]at hb
   obtain⟨h1,h2,h3⟩:=h.blk l' u' b hb
   exact⟨Nat.lt_of_lt_of_le h1 hlen,h2,by simp;omega⟩
 ·intro l1 u1 l2 u2 b h1 h2
  by_cases e1:l1=l∧u1=u
  ·by_cases e2:l2=l∧u2=u
   ·exact e1.1.trans e2.1.symm
   ·simp[Gh.bind,e1]at h1
    simp[Gh.bind,e2]at h2
    subst h1
    exact absurd (h.blk _ _ _ h2).2.2 (Nat.lt_irrefl _)
  ·by_cases e2:l2=l∧u2=u
   ·simp[Gh.bind,e2]at h2
    simp[Gh.bind,e1]at h1
    subst h2
    exact absurd (h.blk _ _ _ h1).2.2 (Nat.lt_irrefl _)
   ·simp[Gh.bind,e1]at h1
    simp[Gh.bind,e2]at h2
    exact h.inj _ _ _ _ _ h1 h2
 ·intro l' ob b hob hb
  by_cases e:l' =l
  ·subst e
   rw[hl]at hob
   cases hob
   simp[Gh.bind,AObj.ver]at hb
   subst hb
   exact⟨c,t,hnew,by simp[Gh.bind],tl,hd,hc,Reps.mono hle _ _ hr⟩
  ·simp[Gh.bind,e]at hb
   rw[ho l' e]at hob
   have hk:=h.obj l' ob b hob hb
   exact hk.keep hle (hold _ hk.lt)
 ·intro l' cs' frz' u' b hob hb o v hi
  by_cases e:l' =l∧u' =u
  ·simp[Gh.bind,e]at hb
   subst hb
   have:G.imm w.heap.size o=some v:=hi
   rw[h.imm_new]at this;cases this
  ·have hb' :G.blk l' u' =some b:=by simpa[Gh.bind,e] using hb
   by_cases e' :l' =l
   ·subst e'
    rw[hl]at hob;cases hob
    exact absurd ⟨rfl,rfl⟩ e
   ·rw[ho l' e']at hob
    exact h.own l' cs' frz' u' b hob hb' o v hi
 ·intro l' ks vs b hob hb
  by_cases e:l' =l
  ·subst e;rw[hl]at hob;cases hob
  ·simp[Gh.bind,e]at hb
   rw[ho l' e]at hob
   exact h.ownm l' ks vs b hob hb
 ·intro l' ob hob
  by_cases e:l' =l
  ·subst e
   rw[hl]at hob;cases hob
   refine⟨hvr.1,fun u' b hb=> ?_⟩
   by_cases e' :u' =u
   ·subst e';exact Nat.le_refl _
   ·simp[Gh.bind,e']at hb
    exact hvr.2 u' b hb
  ·rw[ho l' e]at hob
   refine⟨(h.ver l' ob hob).1,fun u' b hb=> ?_⟩
   simp[Gh.bind,e]at hb
   exact(h.ver l' ob hob).2 u' b hb
 ·intro l' ob hob
  by_cases e:l' =l
  ·subst e
   rw[hl]at hob;cases hob
   exact hfz
  ·rw[ho l' e]at hob
   exact h.frzle l' ob hob
 ·exact h.bimm
 ·exact h.bmimm
theorem Rel.update(h:Rel B G σ w) {G' :Gh}{w' :World}{l b:Nat}{ob ob' :AObj}(hl:σ[l]? =some ob) (hb:G.blk l ob.ver=some b)
 (hle:G.Le G') (hblk:∀l' u' b',G'.blk l' u' =some b'→G.blk l' u' =some b'∨(l' =l∧u' =ob'.ver∧b' =b))
 (hcur:G'.blk l ob'.ver=some b)
 (himm:∀b' o v,G'.imm b' o=some v→w'.cell? ⟨b',o,none⟩=some v∧(b'≠b→G.imm b' o=some v)) (hmim:G'.mimm=G.mimm) (hsz:G'.siz=G.siz)
 (hBel:Below B.w.heap.size B.w w') (hsize:w'.heap.size=w.heap.size) (hoth:∀k,k≠b→w'.heap[k]? =w.heap[k]?)
 (hsb:∀n,G.siz b=some n→∃vs et f,w'.heap[b]? =some (.cells vs et f)∧vs.size=n) (hmb:G.mimm b=none)
 (hobj:ObjAt G' w' b ob') (hown:∀cs frz u,ob' = .cells cs frz u→∀o v,G'.imm b o=some v→o<frz) (hvr:ob.ver≤ob'.ver∧ob'.ver≤ob'.len) (hfz:ob'.frz≤ob'.len):Rel B G' (σ.set l ob') w' :=by
 have hlt:l<σ.length:=by
  rcases Nat.lt_or_ge l σ.length with h' |h'
  ·exact h'
  ·rw[List.getElem?_eq_none h']at hl;cases hl
 have hne:∀l' u' b',l'≠l→G'.blk l' u' =some b'→G.blk l' u' =some b'∧b'≠b:=by
  intro l' u' b' hn hx
  rcases hblk _ _ _ hx with h1|⟨h1,_⟩
  ·exact⟨h1,fun e=>hn (h.inj _ _ _ _ _ (e▸h1) hb)⟩
  ·exact absurd h1 hn
 constructor
 ·exact hBel
 ·exact fun b' o v hi=>(himm b' o v hi).1
 ·intro b' es hm
  rw[hmim]at hm
  obtain⟨hk,hb2⟩:=h.mimm b' es hm
  by_cases e:b' =b
  ·subst e;rw[hmb]at hm;cases hm
  ·exact⟨(hoth _ e).trans hk,hb2⟩
 ·intro b' n hs
  rw[hsz]at hs
  by_cases e:b' =b
  ·subst e;exact hsb n hs
  ·obtain⟨vs,et,f,h1,h2⟩:=h.siz b' n hs
   exact⟨vs,et,f,(hoth _ e).trans h1,h2⟩
 ·intro l' u' b' hx
  rw[List.length_set,hsize]
  rcases hblk _ _ _ hx with h1|⟨h1,_,h3⟩
  ·exact h.blk _ _ _ h1
  ·subst h1;subst h3;exact h.blk _ _ _ hb
 ·intro l1 u1 l2 u2 b' h1 h2
  by_cases e1:l1=l
  ·by_cases e2:l2=l
   ·exact e1.trans e2.symm
   ·have hb1:b' =b:=by
     rcases hblk _ _ _ h1 with h3|⟨_,_,h3⟩
     ·subst e1
      obtain⟨h4,h5⟩:=hne _ _ _ e2 h2
      exact absurd (h.inj _ _ _ _ _ h4 h3) e2
     ·exact h3
    exact absurd hb1 (hne _ _ _ e2 h2).2
  ·by_cases e2:l2=l
   ·have hb1:b' =b:=by
     rcases hblk _ _ _ h2 with h3|⟨_,_,h3⟩
     ·subst e2
      obtain⟨h4,h5⟩:=hne _ _ _ e1 h1
      exact absurd (h.inj _ _ _ _ _ h4 h3) e1
     ·exact h3
    exact absurd hb1 (hne _ _ _ e1 h1).2
   ·exact h.inj _ _ _ _ _ (hne _ _ _ e1 h1).1 (hne _ _ _ e2 h2).1
 ·intro l' ob'' b' hob hx
  by_cases e:l' =l
  ·subst e
   rw[List.getElem?_set_self hlt]at hob
   cases hob
   rw[hcur]at hx;cases hx
   exact hobj
  ·rw[List.getElem?_set_ne (Ne.symm e)]at hob
   obtain⟨h1,h2⟩:=hne _ _ _ e hx
   exact(h.obj l' ob'' b' hob h1).keep hle (hoth _ h2)
 ·intro l' cs frz u b' hob hx o v hi
  by_cases e:l' =l
  ·subst e
   rw[List.getElem?_set_self hlt]at hob
   cases hob
   have:b' =b:=by
    have:=hcur
    simp only[AObj.ver]at this
    rw[this]at hx;cases hx;rfl
   subst this
   exact hown _ _ _ rfl o v hi
  ·rw[List.getElem?_set_ne (Ne.symm e)]at hob
   obtain⟨h1,h2⟩:=hne _ _ _ e hx
   exact h.own l' cs frz u b' hob h1 o v ((himm _ _ _ hi).2 h2)
 ·intro l' ks vs b' hob hx
  rw[hmim]
  by_cases e:l' =l
  ·subst e
   rw[List.getElem?_set_self hlt]at hob
   cases hob
   have:b' =b:=by
    have:=hcur
    simp only[AObj.ver]at this
    rw[this]at hx;cases hx;rfl
   subst this;exact hmb
  ·rw[List.getElem?_set_ne (Ne.symm e)]at hob
   exact h.ownm l' ks vs b' hob (hne _ _ _ e hx).1
 ·intro l' ob'' hob
  by_cases e:l' =l
  ·subst e
   rw[List.getElem?_set_self hlt]at hob
   cases hob
   refine⟨hvr.2,fun u b' hx=> ?_⟩
   rcases hblk _ _ _ hx with h1|⟨_,h1,_⟩
   ·exact Nat.le_trans ((h.ver _ _ hl).2 u b' h1) hvr.1
   ·omega
  ·rw[List.getElem?_set_ne (Ne.symm e)]at hob
   exact⟨(h.ver _ _ hob).1,fun u b' hx=>(h.ver _ _ hob).2 u b' (hne _ _ _ e hx).1⟩
 ·intro l' ob'' hob
  by_cases e:l' =l
  ·subst e
   rw[List.getElem?_set_self hlt]at hob
   cases hob
   exact hfz
  ·rw[List.getElem?_set_ne (Ne.symm e)]at hob
   exact h.frzle _ _ hob
 ·intro b' o hb'
  have hbB:=(h.blk _ _ _ hb).2.1
  rw[←h.bimm b' o hb']
  cases hx:G'.imm b' o with
  |none=>
   cases hy:G.imm b' o with
   |none=>rfl
   |some v=>rw[hle.imm _ _ _ hy]at hx;cases hx
  |some v=>exact((himm _ _ _ hx).2 (by omega)).symm
 ·intro b' hb'
  rw[hmim];exact h.bmimm b' hb'
end
end Go.Fw
namespace Go.Fw
open Go.RowKit
def cD1:Value→Option D
 | .bool b=>some (.bool b)
 | .int k n=>some (.int k n)
 | .string s=>some (.str s.data.toList)
 | .pointer none=>some .nilp
 | .slice none 0 0=>some (.list [] 0 true)
 | .map none=>some .nilmap
 | .nilFunc=>some .nilf
 | .nilIface=>some .nili
 |_=>none
theorem cD1_rep(G:Gh) {v:Value}{d:D}(h:cD1 v=some d):Rep G d v:=by
 unfold cD1 at h
 split at h<;>first|(cases h;done)|(cases h;simp[Rep])
def cDs:List Value→Option (List D)
 |[]=>some []
 |v::vs=>match cD1 v with
  |some d=>match cDs vs with
   |some ds=>some (d::ds)
   |none=>none
  |none=>none
theorem cDs_rep(G:Gh):∀{vs:List Value}{ds:List D},cDs vs=some ds→Reps G ds vs
 |[],_,h=>by simp only[cDs,Option.some.injEq]at h;subst h;simp only[Reps]
 |v::vs,_,h=>by
  simp only[cDs]at h
  split at h
  ·rename_i d hd
   split at h
   ·rename_i ds hds
    cases h
    simp only[Reps]
    exact⟨v,vs,rfl,cD1_rep G hd,cDs_rep G hds⟩
   ·cases h
  ·cases h
def constD:Value→Option D
 | .agg cs=>(cDs cs.toList).map .agg
 |v=>cD1 v
theorem constD_rep(G:Gh) {v:Value}{d:D}(h:constD v=some d):Rep G d v:=by
 unfold constD at h
 split at h
 ·rename_i cs
  simp only[Option.map_eq_some_iff]at h
  obtain⟨ds,h1,rfl⟩:=h
  simp only[Rep]
  exact⟨cs,rfl,cDs_rep G h1⟩
 ·exact cD1_rep G h
def D.isCell:D→Bool
 | .agg _| .tuple _| .junk=>false
 |_=>true
def D.cells? :D→Option (List D)
 | .agg cs=>some cs
 | .tuple _=>none
 | .junk=>none
 |d=>some [d]
theorem rep_oneCell{G:Gh}{d:D}{v:Value}(hc:d.isCell=true) (h:Rep G d v):v.oneCell' =true:=by
 cases d<;>simp only[D.isCell,Bool.false_eq_true]at hc<;>simp only[Rep]at h
 case ptr=>obtain⟨b,_,rfl⟩:=h;rfl
 case rptr=>obtain⟨b,_,rfl,_⟩:=h;rfl
 case list=>obtain⟨a,c,rfl,_⟩:=h;rfl
 case sl=>rcases h with⟨a,c,t,_,rfl,_⟩|⟨_,a,rfl⟩<;>rfl
 case map=>obtain⟨a,_,rfl⟩:=h;rfl
 case cmap=>obtain⟨a,_,rfl,_⟩:=h;rfl
 case pmap=>obtain⟨a,_,_,rfl,_⟩:=h;rfl
 case func=>obtain⟨a,_,rfl,_⟩:=h;rfl
 case iface=>obtain⟨a,rfl,_⟩:=h;rfl
 case anyi=>obtain⟨a,_,rfl⟩:=h;rfl
 all_goals (subst h;rfl)
theorem rep_cells{G:Gh}{d:D}{v:Value}{cs:List D}(hc:d.cells? =some cs) (h:Rep G d v):Reps G cs v.cells.toList:=by
 by_cases hd:d.isCell=true
 ·have h1:=rep_oneCell hd h
  have h2:v.cells= #[v]:=by cases v<;>first|rfl|simp[Value.oneCell']at h1
  have h3:cs=[d]:=by cases d<;>simp_all[D.cells?,D.isCell]
  subst h3
  rw[h2]
  simp only[Reps]
  exact⟨v,[],rfl,h,rfl⟩
 ·cases d<;>simp only[D.isCell,not_true_eq_false]at hd<;>simp only[D.cells?,Option.some.injEq]at hc
  ·subst hc
   simp only[Rep]at h
   obtain⟨a,rfl,h⟩:=h
   exact h
  ·cases hc
  ·cases hc
theorem Reps.length{G:Gh}:∀{ds:List D}{vs:List Value},Reps G ds vs→ds.length=vs.length
 |[],_,h=>by simp only[Reps]at h;subst h;rfl
 |d::ds,_,h=>by
  simp only[Reps]at h
  obtain⟨v,r,rfl,_,h2⟩:=h
  simp[Reps.length h2]
theorem Reps.get{G:Gh}:∀{ds:List D}{vs:List Value}(i:Nat) {d:D},Reps G ds vs→ds[i]? =some d→∃v,vs[i]? =some v∧Rep G d v
 |[],_,_,_,_,h=>by simp at h
 |d::ds,_,0,_,hr,h=>by
  simp only[Reps]at hr
  obtain⟨v,r,rfl,h1,_⟩:=hr
  simp at h;subst h
  exact⟨v,rfl,h1⟩
 |d::ds,_,i+1,_,hr,h=>by
  simp only[Reps]at hr
  obtain⟨v,r,rfl,_,h2⟩:=hr
  simpa using Reps.get i h2 (by simpa using h)
theorem Reps.append{G:Gh}:∀{ds es:List D}{vs us:List Value},Reps G ds vs→Reps G es us→Reps G (ds++es) (vs++us)
 |[],_,_,_,h,k=>by simp only[Reps]at h;subst h;simpa using k
 |d::ds,_,_,_,h,k=>by
  simp only[Reps]at h
  obtain⟨v,r,rfl,h1,h2⟩:=h
  simp only[List.cons_append,Reps]
  exact⟨v,_,rfl,h1,Reps.append h2 k⟩
theorem Reps.take{G:Gh}:∀{ds:List D}{vs:List Value}(n:Nat),Reps G ds vs→Reps G (ds.take n) (vs.take n)
 |[],_,_,h=>by simp only[Reps]at h;subst h;simp[Reps]
 |_::_,_,0,_=>by simp[Reps]
 |d::ds,_,n+1,h=>by
  simp only[Reps]at h
  obtain⟨v,r,rfl,h1,h2⟩:=h
  simp only[List.take_succ_cons,Reps]
  exact⟨v,_,rfl,h1,Reps.take n h2⟩
theorem Reps.drop{G:Gh}:∀{ds:List D}{vs:List Value}(n:Nat),Reps G ds vs→Reps G (ds.drop n) (vs.drop n)
 |[],_,_,h=>by simp only[Reps]at h;subst h;simp[Reps]
 |_::_,_,0,h=>by simpa using h
 |d::ds,_,n+1,h=>by
  simp only[Reps]at h
  obtain⟨v,r,rfl,h1,h2⟩:=h
  simpa using Reps.drop n h2
theorem Reps.oneCell{G:Gh}:∀{ds:List D}{vs:List Value},Reps G ds vs→ds.all D.isCell=true→∀v ∈ vs,v.oneCell' =true
 |[],_,h,_=>by simp only[Reps]at h;subst h;simp
 |d::ds,_,h,ha=>by
  simp only[Reps]at h
  obtain⟨v,r,rfl,h1,h2⟩:=h
  simp only[List.all_cons,Bool.and_eq_true]at ha
  intro u hu
  rcases List.mem_cons.1 hu with rfl|hu
  ·exact rep_oneCell ha.1 h1
  ·exact Reps.oneCell h2 ha.2 u hu
theorem Cells.reps{G:Gh}{b:Nat}:∀{o:Nat}{ds:List D},Cells G b o ds→∃vs,Reps G ds vs∧∀j v,vs[j]? =some v→G.imm b (o+j)=some v
 |_,[],_=>⟨[],by simp only[Reps],by simp⟩
 |o,d::ds,h=>by
  simp only[Cells]at h
  obtain⟨⟨v,hv,hr⟩,hs⟩:=h
  obtain⟨vs,h1,h2⟩:=Cells.reps hs
  refine⟨v::vs,by simp only[Reps];exact⟨v,vs,rfl,hr,h1⟩,?_⟩
  intro j u hj
  cases j with
  |zero=>simp at hj;subst hj;exact hv
  |succ j=>
   have:=h2 j u (by simpa using hj)
   rw[show o+(j+1)=o+1+j from by omega];exact this
theorem Cells.drop{G:Gh}{b:Nat}:∀{o:Nat}{ds:List D}(n:Nat),Cells G b o ds→Cells G b (o+n) (ds.drop n)
 |_,[],_,_=>by simp[Cells]
 |_,_::_,0,h=>by simpa using h
 |o,d::ds,n+1,h=>by
  simp only[Cells]at h
  have:=Cells.drop n h.2
  rw[show o+(n+1)=o+1+n from by omega];simpa using this
theorem Cells.take{G:Gh}{b:Nat}:∀{o:Nat}{ds:List D}(n:Nat),Cells G b o ds→Cells G b o (ds.take n)
 |_,[],_,_=>by simp[Cells]
 |_,_::_,0,_=>by simp[Cells]
 |o,d::ds,n+1,h=>by
  simp only[Cells]at h
  simp only[List.take_succ_cons,Cells]
  exact⟨h.1,Cells.take n h.2⟩
theorem addr_add(b o n:Nat):(⟨b,o,none⟩:Addr).add n=⟨b,o+n,none⟩:=by unfold Addr.add;split<;>simp_all
def readAt(σ:List AObj):D→Nat→Option (List D)
 | .ptr l u o,n=>match σ[l]? with
   |some (.cells cs _ u')=>if u' =u∧o+n≤cs.length then some ((cs.drop o).take n) else none
   |_=>none
 | .rptr cs o,n=>if o+n≤cs.length then some ((cs.drop o).take n) else none
 |_,_=>none
theorem readAt_ok{P:Program}{B:Base P}{G:Gh}{σ:List AObj}{w:World}(hR:Rel B G σ w) {d:D}{n:Nat}{cs:List D}{v:Value}(h:readAt σ d n=some cs) (hv:Rep G d v):
 ∃b o vs,v= .pointer (some ⟨b,o,none⟩)∧vs.length=n∧cs.length=n∧Reps G cs vs∧∀j u,vs[j]? =some u→w.cell? ⟨b,o+j,none⟩=some u:=by
 cases d<;>simp only[readAt]at h<;>try (cases h;done)
 case ptr l u o=>
  simp only[Rep]at hv
  obtain⟨b,hb,rfl⟩:=hv
  split at h
  ·rename_i cs' frz u' hl
   split at h
   ·rename_i hc
    cases h
    obtain⟨rfl,hlen⟩:=hc
    have hob:=hR.obj l _ b hl hb
    obtain⟨vs,et,h1,h2,tl,hd,h3,h4⟩:=hob
    have hl4:=h4.length
    refine⟨b,o,(hd.drop o).take n,rfl,by simp;omega,by simp;omega,(h4.drop o).take n,?_⟩
    intro j u hj
    rw[List.getElem?_take]at hj
    split at hj
    ·rw[List.getElem?_drop]at hj
     have hlt:o+j<hd.length:=by
      rcases Nat.lt_or_ge (o+j) hd.length with h' |h'
      ·exact h'
      ·rw[List.getElem?_eq_none h']at hj;cases hj
     unfold World.cell?
     rw[h1]
     show vs[o+j]? =some u
     have:vs[o+j]? =vs.toList[o+j]? :=by simp
     rw[this,h3,List.getElem?_append_left hlt];exact hj
    ·cases hj
   ·cases h
  ·cases h
 case rptr cs' o=>
  simp only[Rep]at hv
  obtain⟨b,o',rfl,hc⟩:=hv
  split at h
  ·rename_i hlen
   cases h
   obtain⟨vs,h1,h2⟩:=((hc.drop o).take n).reps
   have hl:=h1.length
   refine⟨b,o' +o,vs,rfl,by rw[←hl];simp;omega,by simp;omega,h1,?_⟩
   intro j u hj
   exact hR.imm _ _ _ (h2 j u hj)
  ·cases h
def Out{P:Program}(B:Base P) (G:Gh) (d:D) (σ' :List AObj) (r:Result Next):Prop:=
 ∃v w' G',(r= .ok (.value v) w'∨(r= .ok .skip w'∧v=undef))∧G.Le G'∧Rel B G' σ' w'∧Rep G' d v
theorem Out.here{P:Program}{B:Base P}{G:Gh}{d:D}{σ:List AObj}{w:World}{v:Value}(hR:Rel B G σ w) (hv:Rep G d v):Out B G d σ (.ok (.value v) w):=
 ⟨v,w,G,.inl rfl,.refl G,hR,hv⟩
def descAgg:TypeDesc→Bool
 | .struct _=>true
 | .array _ _=>true
 |_=>false
section
variable (P:Program)
def tyLd(t:TypeId):Option (Nat×Bool):=
 match P.info? t,P.underlying t with
 |some i,some d=>some (i.size,descAgg d)
 |_,_=>none
def tyFld(s:TypeId) (f:Nat):Option Nat:=
 match P.underlying s with
 |some (.struct fs)=>match fs[f]? with
  |some x=>match P.info? x.type with
   |some j=>if j.size=0 then none else some x.offset
   |none=>none
  |none=>none
 |_=>none
def tyZero(t:TypeId):Option (List D):=
 match P.info? t with
 |some i=>match i.zero with
  |some v=>cDs v.cells.toList
  |none=>none
 |none=>none
def tySl(t:TypeId):Option (Nat×Nat):=
 match P.underlying t with
 |some (.slice e)=>match P.info? e with
  |some i=>some (i.size,i.bytes)
  |none=>none
 |_=>none
def tyArr(t:TypeId):Option (Nat×Nat):=
 match P.underlying t with
 |some (.array n e)=>match P.info? e with
  |some i=>some (n,i.size)
  |none=>none
 |_=>none
end
section
variable {P:Program}{B:Base P}{G:Gh}{σ:List AObj}{w:World}
theorem tyLd_inv{t:TypeId}{n:Nat}{b:Bool}(h:tyLd P t=some (n,b)):∃i d,P.info? t=some i∧P.underlying t=some d∧i.size=n∧descAgg d=b:=by
 unfold tyLd at h
 split at h
 ·rename_i i d hi hd
  simp only[Option.some.injEq,Prod.mk.injEq]at h
  exact⟨i,d,hi,hd,h.1,h.2⟩
 ·cases h
theorem run_isAgg{t:TypeId}{d:TypeDesc}(hd:P.underlying t=some d):(isAgg t).run P w= .ok (descAgg d) w:=by
 unfold isAgg
 simp only[Sem.run_bind,run_underlying hd,Result.andThen_ok]
 cases d<;>rfl
theorem load_ok(hR:Rel B G σ w) {t:TypeId}{n:Nat}{b:Bool}(ht:tyLd P t=some (n,b)) {d:D}{v:Value}(hv:Rep G d v) {cs:List D}(h:readAt σ d n=some cs) (hb:b=true∨n=1):
 ∃u,(Instr.loadAt t v).run P w= .ok u w∧(if b then Rep G (.agg cs) u else ∃x,cs=[x]∧Rep G x u):=by
 obtain⟨i,ds,hi,hd,rfl,hbb⟩:=tyLd_inv ht
 obtain⟨bl,o,vs,rfl,hlen,hlen2,hreps,hcell⟩:=readAt_ok hR h hv
 have hl:(loadCells ⟨bl,o,none⟩ vs.length).run P w= .ok vs.toArray w:=
  run_loadCells_list w ⟨bl,o,none⟩ vs (fun j u hj=>by rw[addr_add];exact hcell j u hj)
 unfold Instr.loadAt Instr.sureAddr loadVar
 simp only[Sem.run_bind,Sem.run_pure,Result.andThen_ok,run_isAgg hd,hbb]
 cases b with
 |true=>
  refine⟨.agg vs.toArray,?_,?_⟩
  ·rw[hlen]at hl
   simp[sizeOf,typeInfo,hi,hl]
  ·simp only[if_true,Rep];exact⟨_,rfl,by simpa using hreps⟩
 |false=>
  have hn:i.size=1:=hb.resolve_left (by simp)
  rw[hn]at hlen hlen2
  match vs,hlen with
  |[u],_=>
   match cs,hlen2 with
   |[x],_=>
    have hc:=hcell 0 u rfl
    refine⟨u,by simp[show w.cell? ⟨bl,o,none⟩=some u from hc],?_⟩
    simp only[Reps]at hreps
    obtain⟨v',r,e,hx,_⟩:=hreps
    cases e
    exact⟨x,rfl,hx⟩
end
end Go.Fw
namespace Go.Fw
open Go.RowKit
section
variable {P:Program}{B:Base P}{G:Gh}{σ:List AObj}{w:World}
def writeAt(σ:List AObj):D→List D→Option (List AObj)
 | .ptr l u o,new=>match σ[l]? with
   |some (.cells cs frz u')=>if u' =u∧frz≤o∧o+new.length≤cs.length∧new.all D.isCell=true then
    some (σ.set l (.cells (cs.take o++new++cs.drop (o+new.length)) frz u)) else none
   |_=>none
 |_,_=>none
theorem write_ok(hR:Rel B G σ w) {d:D}{new:List D}{σ' :List AObj}{v:Value}{us:List Value}(h:writeAt σ d new=some σ') (hv:Rep G d v) (hu:Reps G new us):
 ∃a w',v= .pointer (some a)∧(storeCells a us).run P w= .ok () w'∧Rel B G σ' w' :=by
 cases d<;>simp only[writeAt]at h<;>try (cases h;done)
 case ptr l u o=>
  simp only[Rep]at hv
  obtain⟨b,hb,rfl⟩:=hv
  split at h
  ·rename_i cs frz u' hl
   split at h
   ·rename_i hc
    obtain⟨rfl,hfrz,hlen,hall⟩:=hc
    cases h
    obtain⟨vs,et,h1,h2,tl,hd,h3,h4⟩:=hR.obj l _ b hl hb
    have hul:=hu.length
    have hl4:=h4.length
    have hsz:vs.size=hd.length+tl.length:=by
     have:=congrArg List.length h3
     simpa using this
    have hbB:=(hR.blk _ _ _ hb).2.1
    have hrun:=run_storeCells_at (P:=P) b o et us 0 vs w h1 (by omega) (hu.oneCell hall)
    refine⟨_,_,rfl,hrun,?_⟩
    simp only[Nat.add_zero]
    generalize hnew:(vs.toList.take o++us++vs.toList.drop (o+us.length)).toArray=nv
    have hnl:nv.toList=hd.take o++us++hd.drop (o+us.length)++tl:=by
     rw[←hnew,h3]
     simp only[List.take_append_of_le_length (show o≤hd.length by omega),List.drop_append_of_le_length (show o+us.length≤hd.length by omega),List.append_assoc]
    have hns:nv.size=vs.size:=by
     have:=congrArg List.length hnl
     simp at this
     omega
    refine hR.update hl hb (.refl G) (fun _ _ _ x=> .inl x) hb ?_ rfl rfl (below_setRow hR.below hbB nv) (by simp) (fun k hk=>setRow_other w b k nv hk) ?_ ?_ ?_ ?_ ⟨Nat.le_refl _,by have:=(hR.ver _ _ hl).1;simp only[AObj.ver,AObj.len]at this⊢;simp;omega⟩ (by have:=hR.frzle _ _ hl;simp only[AObj.frz,AObj.len]at this⊢;simp;omega)
    ·intro b' o' x hi
     refine⟨?_,fun _=>hi⟩
     by_cases e:b' =b
     ·subst e
      have hlt:=hR.own l _ _ _ _ hl hb o' x hi
      have hcl:=hR.imm _ _ _ hi
      rw[cell_setRow_same w b' o' vs nv et (0,0) h1]
      unfold World.cell? at hcl
      rw[h1]at hcl
      have hcl' :vs[o']? =some x:=hcl
      have e1:nv[o']? =nv.toList[o']? :=by simp
      have e2:vs[o']? =vs.toList[o']? :=by simp
      rw[e2,h3,List.getElem?_append_left (by omega)]at hcl'
      rw[e1,hnl,List.append_assoc,List.append_assoc,List.getElem?_append_left (by simp;omega),List.getElem?_take_of_lt (by omega)]
      exact hcl'
     ·rw[cell_setRow_other w b nv _ e];exact hR.imm _ _ _ hi
    ·intro n hn
     rw[h2]at hn
     exact⟨nv,et,(0,0),setRow_heap w b vs nv et (0,0) h1,by cases hn;exact hns⟩
    ·cases hm:G.mimm b with
     |none=>rfl
     |some es=>
      obtain⟨hc,_⟩:=hR.mimm _ _ hm
      rw[h1]at hc;cases hc
    ·refine⟨nv,et,setRow_heap w b vs nv et (0,0) h1,by rw[hns];exact h2,tl,_,hnl,?_⟩
     rw[←hul]
     exact((h4.take o).append hu).append (h4.drop _)
    ·intro cs' frz' u'' e o' x hi
     cases e
     exact hR.own l _ _ _ _ hl hb o' x hi
   ·cases h
  ·cases h
theorem store_ok(hR:Rel B G σ w) {t:TypeId}{n:Nat}{bb:Bool}(ht:tyLd P t=some (n,bb)) {d x:D}{v u:Value}{cs:List D}{σ' :List AObj}(hx:x.cells? =some cs) (hn:cs.length=n)
 (h:writeAt σ d cs=some σ') (hv:Rep G d v) (hu:Rep G x u):∃w',(Instr.storeAt t v u).run P w= .ok () w'∧Rel B G σ' w' :=by
 obtain⟨i,ds,hi,hd,rfl,hbb⟩:=tyLd_inv ht
 have hcs:=rep_cells hx hu
 have hl:=hcs.length
 obtain⟨a,w',rfl,hrun,hR'⟩:=write_ok (P:=P) hR h hv hcs
 refine⟨w',?_,hR'⟩
 have hsz:u.cells.size=i.size:=by simpa[hn] using hl.symm
 unfold Instr.storeAt Instr.sureAddr storeVar
 simp only[Sem.run_bind,Sem.run_pure,Result.andThen_ok,sizeOf,typeInfo,run_program,hi,hsz,ne_eq,not_true_eq_false,if_false]
 exact hrun
theorem newObj_ok(hR:Rel B G σ w) {cs:List D}{vs:List Value}(hr:Reps G cs vs) (tl:List Value) (t:TypeId) (c:Array Value) (hc:c.toList=vs++tl):
 ∃G',G.Le G'∧Rel B G' (σ++[.cells cs 0 0]) (w.alloc (.cells c t))∧G'.blk σ.length 0=some w.heap.size∧G'.siz w.heap.size=some c.size:=by
 have hf:G.blk σ.length 0=none:=by
  cases h:G.blk σ.length 0 with
  |none=>rfl
  |some b=>exact absurd (hR.blk _ _ _ h).1 (Nat.lt_irrefl _)
 obtain⟨h1,h2⟩:=hR.bindCells (l:=σ.length) (u:=0) (frz:=0) (cs:=cs) (σ' :=σ++[.cells cs 0 0]) t (by simp) (fun l' hl' =>by
  rcases Nat.lt_or_ge l' σ.length with h|h
  ·rw[List.getElem?_append_left h]
  ·rw[List.getElem?_append_right h,List.getElem?_eq_none h]
   have:l' -σ.length≠0:=by omega
   cases hk:l' -σ.length with
   |zero=>exact absurd hk this
   |succ k=>simp) (by simp) hf ⟨Nat.zero_le _,fun u' b h=>absurd (hR.blk _ _ _ h).1 (Nat.lt_irrefl _)⟩ (Nat.zero_le _) hc hr
 exact⟨_,h1,h2,by simp[Gh.bind],by simp[Gh.bind]⟩
theorem tyZero_inv{t:TypeId}{cs:List D}(h:tyZero P t=some cs):∃i v,P.info? t=some i∧i.zero=some v∧cDs v.cells.toList=some cs:=by
 unfold tyZero at h
 split at h
 ·rename_i i hi
  split at h
  ·rename_i v hv;exact⟨i,v,hi,hv,h⟩
  ·cases h
 ·cases h
theorem alloc_ok(hR:Rel B G σ w) {t:TypeId}{cs:List D}(h:tyZero P t=some cs):
 ∃w' G' v,(Instr.alloc t true (.tuple #[])).run P w= .ok v w'∧G.Le G'∧Rel B G' (σ++[.cells cs 0 0]) w'∧Rep G' (.ptr σ.length 0 0) v:=by
 obtain⟨i,v,hi,hv,hz⟩:=tyZero_inv h
 obtain⟨G',h1,h2,h3,h4⟩:=newObj_ok hR (cDs_rep G hz) [] t v.cells (by simp)
 refine⟨_,G',.pointer (some ⟨w.heap.size,0,none⟩),?_,h1,h2,?_⟩
 ·unfold Instr.alloc
  simp only[zeroValue,typeInfo,Sem.run_bind,run_program,Result.andThen_ok,hi,Sem.run_pure,hv,newVar,newRow,run_newObj]
  rfl
 ·simp only[Rep];exact⟨_,h3,rfl⟩
theorem box_ok(hR:Rel B G σ w) {t:TypeId}{x:D}{cs:List D}{u:Value}(hx:x.cells? =some cs) (hu:Rep G x u):
 ∃w' G' v,(Instr.box t u).run P w= .ok v w'∧G.Le G'∧Rel B G' (σ++[.cells cs 0 0]) w'∧Rep G' (.ptr σ.length 0 0) v:=by
 obtain⟨G',h1,h2,h3,h4⟩:=newObj_ok hR (rep_cells hx hu) [] t u.cells (by simp)
 refine⟨_,G',.pointer (some ⟨w.heap.size,0,none⟩),?_,h1,h2,?_⟩
 ·unfold Instr.box
  simp only[Sem.run_bind,Sem.run_pure,Result.andThen_ok,newVar,newRow,run_newObj]
  rfl
 ·simp only[Rep];exact⟨_,h3,rfl⟩
def ptrAdd:D→Nat→Option D
 | .ptr l u o,n=>some (.ptr l u (o+n))
 | .rptr cs o,n=>some (.rptr cs (o+n))
 |_,_=>none
theorem ptrAdd_ok{d d' :D}{n:Nat}{v:Value}(h:ptrAdd d n=some d') (hv:Rep G d v):∃a,v= .pointer (some a)∧Rep G d' (.pointer (some (a.add n))):=by
 cases d<;>simp only[ptrAdd,Option.some.injEq]at h<;>try (cases h;done)
 ·subst h
  simp only[Rep]at hv⊢
  obtain⟨b,hb,rfl⟩:=hv
  exact⟨_,rfl,b,hb,by rw[addr_add]⟩
 ·subst h
  simp only[Rep]at hv⊢
  obtain⟨b,o',rfl,hc⟩:=hv
  exact⟨_,rfl,b,o',by rw[addr_add,Nat.add_assoc],hc⟩
theorem fieldAt_ok{s:TypeId}{f off:Nat}(h:tyFld P s f=some off) {d d' :D}{v:Value}(hd:ptrAdd d off=some d') (hv:Rep G d v):
 ∃u,(Instr.fieldAt s v f).run P w= .ok u w∧Rep G d' u:=by
 unfold tyFld at h
 split at h<;>try (cases h;done)
 rename_i fs hs
 split at h<;>try (cases h;done)
 rename_i x hx
 split at h<;>try (cases h;done)
 rename_i j hj
 split at h<;>try (cases h;done)
 rename_i hnz
 simp only[Option.some.injEq]at h
 subst h
 obtain⟨a,rfl,hr⟩:=ptrAdd_ok hd hv
 refine⟨_,?_,hr⟩
 unfold Instr.fieldAt Instr.sureAddr fieldPlace
 simp[run_underlying hs,hx,sizeOf,typeInfo,hj,hnz]
def idxInt:D→Option Int
 | .int _ n=>some n
 |_=>none
theorem idxInt_ok{d:D}{n:Int}{v:Value}(h:idxInt d=some n) (hv:Rep G d v):∃k,v= .int k n:=by
 cases d<;>simp only[idxInt,Option.some.injEq]at h<;>try (cases h;done)
 subst h
 simp only[Rep]at hv
 exact⟨_,hv⟩
def idxSl(sz:Nat) (x:D) (i:Int):Option D:=
 match x with
 | .list cs n _=>if 0≤i∧i<n∧0<sz∧cs.length=n*sz then some (.rptr cs (i.toNat*sz)) else none
 | .sl l u o n sz' _=>if 0≤i∧i<n∧sz' =sz then some (.ptr l u (o+i.toNat*sz)) else none
 |_=>none
theorem tySl_inv{t:TypeId}{sz by' :Nat}(h:tySl P t=some (sz,by')):∃e i,P.underlying t=some (.slice e)∧P.info? e=some i∧i.size=sz∧i.bytes=by' :=by
 unfold tySl at h
 split at h<;>try (cases h;done)
 rename_i e he
 split at h<;>try (cases h;done)
 rename_i i hi
 simp only[Option.some.injEq,Prod.mk.injEq]at h
 exact⟨e,i,he,hi,h.1,h.2⟩
theorem tyArr_inv{t:TypeId}{n sz:Nat}(h:tyArr P t=some (n,sz)):∃e i,P.underlying t=some (.array n e)∧P.info? e=some i∧i.size=sz:=by
 unfold tyArr at h
 split at h<;>try (cases h;done)
 rename_i m e he
 split at h<;>try (cases h;done)
 rename_i i hi
 simp only[Option.some.injEq,Prod.mk.injEq]at h
 obtain⟨rfl,h2⟩:=h
 exact⟨e,i,he,hi,h2⟩
theorem indexAtSl_ok{t:TypeId}{sz by' :Nat}(h:tySl P t=some (sz,by')) {x x' ix:D}{i:Int}{v iv:Value}(hi:idxInt ix=some i) (hx:idxSl sz x i=some x') (hv:Rep G x v) (hiv:Rep G ix iv):
 ∃u,(Instr.indexAt t v iv).run P w= .ok u w∧Rep G x' u:=by
 obtain⟨e,inf,hu,hinf,rfl,_⟩:=tySl_inv h
 obtain⟨k,rfl⟩:=idxInt_ok hi hiv
 cases x<;>simp only[idxSl]at hx<;>try (cases hx;done)
 ·rename_i cs n full
  split at hx<;>try (cases hx;done)
  rename_i hc
  obtain⟨h0,h1,h2,h3⟩:=hc
  cases hx
  simp only[Rep]at hv
  obtain⟨a,cap,rfl,_,_,_,h6⟩:=hv
  rcases h6 with⟨b,o,rfl,hcl⟩|rfl
  ·refine⟨.pointer (some ((⟨b,o,none⟩:Addr).add (i.toNat*inf.size))),?_,?_⟩
   ·unfold Instr.indexAt
    simp[asIntOf,run_underlying hu,h0,h1,sizeOf,typeInfo,hinf]
   ·simp only[Rep]
    exact⟨b,o,by rw[addr_add],hcl⟩
  ·simp only[List.length_nil]at h3
   have:n=0:=by
    rcases Nat.mul_eq_zero.1 h3.symm with h|h<;>omega
   omega
 ·rename_i l u o n sz' full
  split at hx<;>try (cases hx;done)
  rename_i hc
  obtain⟨h0,h1,rfl⟩:=hc
  cases hx
  simp only[Rep]at hv
  rcases hv with⟨b,cap,tot,hb,rfl,_⟩|⟨rfl,_⟩
  ·refine⟨.pointer (some ((⟨b,o,none⟩:Addr).add (i.toNat*inf.size))),?_,?_⟩
   ·unfold Instr.indexAt
    simp[asIntOf,run_underlying hu,h0,h1,sizeOf,typeInfo,hinf]
   ·simp only[Rep]
    exact⟨b,hb,by rw[addr_add]⟩
  ·omega
theorem indexAtArr_ok{t:TypeId}{len sz:Nat}(h:tyArr P t=some (len,sz)) {x x' ix:D}{i:Int}{v iv:Value}(hi:idxInt ix=some i) (h0:0≤i) (h1:i<len) (hx:ptrAdd x (i.toNat*sz)=some x') (hv:Rep G x v) (hiv:Rep G ix iv):
 ∃u,(Instr.indexAt t v iv).run P w= .ok u w∧Rep G x' u:=by
 obtain⟨e,inf,hu,hinf,rfl⟩:=tyArr_inv h
 obtain⟨k,rfl⟩:=idxInt_ok hi hiv
 obtain⟨a,rfl,hr⟩:=ptrAdd_ok hx hv
 refine⟨_,?_,hr⟩
 unfold Instr.indexAt Instr.sureAddr
 simp[asIntOf,run_underlying hu,h0,h1,sizeOf,typeInfo,hinf]
end
end Go.Fw
namespace Go.Fw
open Go.RowKit
section
variable {P:Program}{B:Base P}{G:Gh}{σ:List AObj}{w:World}
theorem bytes_get(l:List UInt8) (i:Nat):(⟨l.toArray⟩:ByteArray)[i]? =l[i]? :=by
 rcases Nat.lt_or_ge i l.length with h|h
 ·have h' :i<(⟨l.toArray⟩:ByteArray).size:=by simpa[ByteArray.size] using h
  rw[List.getElem?_eq_getElem h]
  exact(getElem?_pos (⟨l.toArray⟩:ByteArray) i h').trans rfl
 ·have h' :¬i<(⟨l.toArray⟩:ByteArray).size:=by simpa[ByteArray.size] using h
  rw[List.getElem?_eq_none h]
  exact getElem?_neg (⟨l.toArray⟩:ByteArray) i h'
theorem bytes_size(l:List UInt8):(⟨l.toArray⟩:ByteArray).size=l.length:=by simp[ByteArray.size]
theorem bytes_extract(l:List UInt8) (a b:Nat):(⟨l.toArray⟩:ByteArray).extract a b=⟨((l.take b).drop a).toArray⟩:=by
 apply ByteArray.ext
 rw[ByteArray.data_extract]
 simp[List.drop_take]
theorem bytes_append(a b:List UInt8):(⟨a.toArray⟩:ByteArray)++⟨b.toArray⟩=⟨(a++b).toArray⟩:=by
 apply ByteArray.ext
 simp[ByteArray.data_append]
theorem bytes_toList(l:List UInt8):(⟨l.toArray⟩:ByteArray).toList=l:=by
 have h:∀(s:ByteArray),s.toList=s.data.toList:=fun s=>ByteArray.toList_eq s
 rw[h]
def tyFldV(P:Program) (s:TypeId) (f:Nat):Option (Nat×Nat×Bool):=
 match P.underlying s with
 |some (.struct fs)=>match fs[f]? with
  |some x=>match tyLd P x.type with
   |some (n,b)=>some (x.offset,n,b)
   |none=>none
  |none=>none
 |_=>none
def partD(cs:List D) (off n:Nat) (agg:Bool):Option D:=
 if agg then(if off+n≤cs.length then some (.agg ((cs.drop off).take n)) else none) else cs[off]?
theorem part_ok{t:TypeId}{n off:Nat}{b:Bool}(ht:tyLd P t=some (n,b)) {cs:List D}{a:Array Value}{d:D}(hr:Reps G cs a.toList) (h:partD cs off n b=some d):
 ∃u,(part t a off).run P w= .ok u w∧Rep G d u:=by
 obtain⟨i,ds,hi,hd,rfl,hbb⟩:=tyLd_inv ht
 unfold part
 simp only[Sem.run_bind,run_isAgg hd,hbb,Result.andThen_ok]
 unfold partD at h
 cases b with
 |true=>
  simp only[if_true]at h⊢
  split at h
  ·cases h
   refine⟨.agg (a.extract off (off+i.size)),by simp[sizeOf,typeInfo,hi],?_⟩
   simp only[Rep]
   refine⟨_,rfl,?_⟩
   have:(a.extract off (off+i.size)).toList=(a.toList.drop off).take i.size:=by
    simp
   rw[this]
   exact(hr.drop off).take i.size
  ·cases h
 |false=>
  simp only[Bool.false_eq_true,if_false]at h⊢
  obtain⟨v,hv,hrep⟩:=hr.get off h
  have:a[off]? =some v:=by simpa using hv
  exact⟨v,by rw[this];rfl,hrep⟩
theorem field_ok{s:TypeId}{f off n:Nat}{b:Bool}(h:tyFldV P s f=some (off,n,b)) {cs:List D}{d:D}{v:Value}(hd:partD cs off n b=some d) (hv:Rep G (.agg cs) v):
 ∃u,(Instr.field s v f).run P w= .ok u w∧Rep G d u:=by
 unfold tyFldV at h
 split at h<;>try (cases h;done)
 rename_i fs hs
 split at h<;>try (cases h;done)
 rename_i x hx
 split at h<;>try (cases h;done)
 rename_i n' b' ht
 simp only[Option.some.injEq,Prod.mk.injEq]at h
 obtain⟨rfl,rfl,rfl⟩:=h
 simp only[Rep]at hv
 obtain⟨a,rfl,hr⟩:=hv
 obtain⟨u,hu,hrep⟩:=part_ok (w:=w) ht hr hd
 refine⟨u,?_,hrep⟩
 unfold Instr.field
 simp[run_underlying hs,hx,asAgg,hu]
theorem indexStr_ok{t:TypeId}(ht:P.underlying t=some .string) {s:List UInt8}{ix:D}{i:Int}{b:UInt8}{iv:Value}(hi:idxInt ix=some i) (h0:0≤i) (hb:s[i.toNat]? =some b) (hiv:Rep G ix iv):
 ∃u,(Instr.index t (.string ⟨s.toArray⟩) iv).run P w= .ok u w∧Rep G (.int .u8 b.toNat) u:=by
 obtain⟨k,rfl⟩:=idxInt_ok hi hiv
 refine⟨.int .u8 b.toNat,?_,by simp[Rep]⟩
 unfold Instr.index
 simp only[Sem.run_bind,asIntOf,Sem.run_pure,Result.andThen_ok,run_underlying ht,h0,if_true,bytes_get,hb]
theorem indexArr_ok{t e:TypeId}{len n:Nat}{b:Bool}(ht:P.underlying t=some (.array len e)) (he:tyLd P e=some (n,b)) {cs:List D}{ix d:D}{i:Int}{v iv:Value}(hi:idxInt ix=some i) (h0:0≤i) (h1:i<len)
 (hd:partD cs (i.toNat*n) n b=some d) (hv:Rep G (.agg cs) v) (hiv:Rep G ix iv):∃u,(Instr.index t v iv).run P w= .ok u w∧Rep G d u:=by
 obtain⟨k,rfl⟩:=idxInt_ok hi hiv
 simp only[Rep]at hv
 obtain⟨a,rfl,hr⟩:=hv
 obtain⟨inf,_,hinf,_,rfl,_⟩:=tyLd_inv he
 obtain⟨u,hu,hrep⟩:=part_ok (w:=w) he hr hd
 refine⟨u,?_,hrep⟩
 unfold Instr.index
 simp[asIntOf,run_underlying ht,h0,h1,sizeOf,typeInfo,hinf,hu]
def fillD(place:Nat→Option (Nat×Nat)):List D→List (Nat×D)→Option (List D)
 |cells,[]=>some cells
 |cells,(i,d)::rest=>
  match place i,d.cells? with
  |some (off,n),some cs=>if cs.length=n∧off+n≤cells.length then fillD place (cells.take off++cs++cells.drop (off+n)) rest else none
  |_,_=>none
theorem fold_set(off:Nat):∀(vs:List Value) (k:Nat) (cells:Array Value),off+k+vs.length≤cells.size→
 ((vs.zipIdx k).foldl (fun cs (x:Value×Nat)=>cs.setIfInBounds (off+x.2) x.1) cells).toList=cells.toList.take (off+k)++vs++cells.toList.drop (off+k+vs.length)
 |[],k,cells,_=>by simp
 |v::vs,k,cells,h=>by
  simp only[List.length_cons]at h
  rw[List.zipIdx_cons,List.foldl_cons,fold_set off vs (k+1) _ (by simp;omega)]
  simp only[Array.toList_setIfInBounds,List.length_cons]
  have hk:off+k<cells.toList.length:=by simp;omega
  have e0:(cells.toList.set (off+k) v).take (off+k)=cells.toList.take (off+k):=by
   apply List.ext_getElem?
   intro i
   simp only[List.getElem?_take]
   split
   ·rw[List.getElem?_set_ne (by omega)]
   ·rfl
  have e1:(cells.toList.set (off+k) v).take (off+(k+1))=cells.toList.take (off+k)++[v]:=by
   rw[show off+(k+1)=off+k+1 from by omega,List.take_succ_eq_append_getElem (by simpa using hk),e0,List.getElem_set_self]
  have e2:(cells.toList.set (off+k) v).drop (off+(k+1)+vs.length)=cells.toList.drop (off+k+(vs.length+1)):=by
   rw[List.drop_set_of_lt (by omega)]
   congr 1;omega
  rw[e1,e2]
  simp
theorem fill_ok(place:Nat→Option (Nat×Nat)):∀(parts:List (Nat×D)) (cells:List D) (out:List D) (cv:Array Value) (pv:List (Nat×Value)),
 fillD place cells parts=some out→Reps G cells cv.toList→parts.length=pv.length→(∀(j i:Nat) (d:D),parts[j]? =some (i,d)→∃v,pv[j]? =some (i,v)∧Rep G d v)→
 ∃ov,Instr.fill place cv pv=some ov∧Reps G out ov.toList
 |[],cells,out,cv,pv,h,hr,hl,_=>by
  simp only[fillD,Option.some.injEq]at h
  subst h
  match pv,hl with
  |[],_=>exact⟨cv,rfl,hr⟩
 |(i,d)::rest,cells,out,cv,pv,h,hr,hl,hp=>by
  match pv,hl with
  |(i',v)::pr,hl=>
   have h0:=hp 0 i d rfl
   obtain⟨v',e,hrep⟩:=h0
   simp only[List.getElem?_cons_zero,Option.some.injEq,Prod.mk.injEq]at e
   obtain⟨rfl,rfl⟩:=e
   simp only[fillD]at h
   split at h<;>try (cases h;done)
   rename_i off n cs hpl hcs
   split at h<;>try (cases h;done)
   rename_i hc
   obtain⟨hn,hoff⟩:=hc
   have hcr:=rep_cells hcs hrep
   have hcl:=hcr.length
   have hrl:=hr.length
   have hv:v.cells.size=n:=by rw[←hn,hcl];simp
   have hcv:cv.size=cells.length:=by rw[hrl];simp
   have hfold:=fold_set off v.cells.toList 0 cv (by simp;omega)
   simp only[Nat.add_zero]at hfold
   have hreps:Reps G (cells.take off++cs++cells.drop (off+n)) (cv.toList.take off++v.cells.toList++cv.toList.drop (off+v.cells.toList.length)):=by
    rw[show off+v.cells.toList.length=off+n from by simp[hv]]
    exact((hr.take off).append hcr).append (hr.drop _)
   rw[←hfold]at hreps
   obtain⟨ov,ho,hro⟩:=fill_ok place rest _ out _ pr h hreps (by simpa using hl) (fun j i d hj=>by simpa using hp (j+1) i d (by simpa using hj))
   refine⟨ov,?_,hro⟩
   simp only[Instr.fill,hpl]
   rw[if_neg (by simp;omega)]
   rw[←ho]
   congr 1
   rw[←Array.foldl_toList,Array.toList_zipIdx]
def placesOf(P:Program) (fs:List Field):Option (List (Nat×Nat)):=
 match fs with
 |[]=>some []
 |f::r=>match P.info? f.type,placesOf P r with
  |some i,some ps=>some ((f.offset,i.size)::ps)
  |_,_=>none
theorem run_places(w:World):∀{fs:List Field}{ps:List (Nat×Nat)},placesOf P fs=some ps→
 (fs.mapM fun f=>do pure (f.offset,←sizeOf f.type):Sem (List (Nat×Nat))).run P w= .ok ps w
 |[],ps,h=>by simp only[placesOf,Option.some.injEq]at h;subst h;simp
 |f::r,ps,h=>by
  simp only[placesOf]at h
  split at h<;>try (cases h;done)
  rename_i i ps' hi hps
  cases h
  have ih:=run_places w hps
  simp only[List.mapM_cons,Sem.run_bind,sizeOf,typeInfo,run_program,hi,Sem.run_pure,Result.andThen_ok]at ih⊢
  rw[ih]
  simp
inductive BKind where
 |struct (ps:List (Nat×Nat))
 |array (n:Nat)
def BKind.place:BKind→Nat→Option (Nat×Nat)
 | .struct ps,i=>ps[i]?
 | .array n,i=>some (i*n,n)
def tyBuild(P:Program) (t:TypeId):Option (List D×BKind):=
 match tyZero P t,P.underlying t with
 |some z,some (.struct fs)=>match placesOf P fs.toList with
  |some ps=>some (z,.struct ps)
  |none=>none
 |some z,some (.array _ e)=>match P.info? e with
  |some i=>some (z,.array i.size)
  |none=>none
 |_,_=>none
theorem build_ok{t:TypeId}{z:List D}{bk:BKind}(h:tyBuild P t=some (z,bk)) {parts:List (Nat×D)}{out:List D}(hf:fillD bk.place z parts=some out) {pv:Array (Nat×Value)}
 (hl:parts.length=pv.size) (hp:∀(j i:Nat) (d:D),parts[j]? =some (i,d)→∃v,pv[j]? =some (i,v)∧Rep G d v):
 ∃u,(Instr.build t pv).run P w= .ok u w∧Rep G (.agg out) u:=by
 have hfill:∀(place:Nat→Option (Nat×Nat)) (cv:Array Value),fillD place z parts=some out→Reps G z cv.toList→∃ov,Instr.fill place cv pv.toList=some ov∧Reps G out ov.toList:=by
  intro place cv h1 h2
  exact fill_ok place parts z out cv pv.toList h1 h2 (by simpa using hl) (fun j i d hj=>by obtain⟨v,h3,h4⟩:=hp j i d hj;exact⟨v,by simpa using h3,h4⟩)
 unfold tyBuild at h
 split at h
 ·rename_i z' fs hz hu
  split at h<;>try (cases h;done)
  rename_i ps hps
  simp only[Option.some.injEq,Prod.mk.injEq]at h
  obtain⟨rfl,rfl⟩:=h
  obtain⟨i,v,hi,hv,hcd⟩:=tyZero_inv hz
  have hr:=run_places w hps
  obtain⟨ov,ho,hro⟩:=hfill _ v.cells hf (cDs_rep G hcd)
  refine⟨.agg ov,?_,by simp only[Rep];exact⟨_,rfl,hro⟩⟩
  unfold Instr.build
  simp only[zeroValue,typeInfo,Sem.run_bind,run_program,Result.andThen_ok,hi,Sem.run_pure,hv,run_underlying hu,Array.mapM_eq_mapM_toList,Sem.run_map,hr]
  have:(fun x=>ps.toArray[x]?)=BKind.place (.struct ps):=by funext x;simp[BKind.place]
  rw[this,ho]
  rfl
 ·rename_i z' n e hz hu
  split at h<;>try (cases h;done)
  rename_i i hi
  simp only[Option.some.injEq,Prod.mk.injEq]at h
  obtain⟨rfl,rfl⟩:=h
  obtain⟨i',v,hi',hv,hcd⟩:=tyZero_inv hz
  obtain⟨ov,ho,hro⟩:=hfill _ v.cells hf (cDs_rep G hcd)
  refine⟨.agg ov,?_,by simp only[Rep];exact⟨_,rfl,hro⟩⟩
  unfold Instr.build
  simp only[zeroValue,typeInfo,Sem.run_bind,run_program,Result.andThen_ok,hi',Sem.run_pure,hv,run_underlying hu,sizeOf,hi]
  have:(fun x=>some (x*i.size,i.size))=BKind.place (.array i.size):=by funext x;simp[BKind.place]
  rw[this,ho]
  rfl
 ·cases h
def repZ(z:List D):Nat→List D
 |0=>[]
 |n+1=>z++repZ z n
theorem repZ_length(z:List D):∀n,(repZ z n).length=n*z.length
 |0=>by simp[repZ]
 |n+1=>by simp[repZ,repZ_length z n,Nat.succ_mul,Nat.add_comm]
theorem Reps.of_get{G:Gh}:∀{ds:List D}{vs:List Value},ds.length=vs.length→(∀(i:Nat) (d:D) (v:Value),ds[i]? =some d→vs[i]? =some v→Rep G d v)→Reps G ds vs
 |[],[],_,_=>by simp only[Reps]
 |d::ds,v::vs,hl,h=>by
  simp only[Reps]
  exact⟨v,vs,rfl,h 0 d v rfl rfl,Reps.of_get (by simpa using hl) fun i d' v' h1 h2=>h (i+1) d' v' (by simpa using h1) (by simpa using h2)⟩
theorem repZ_get(z:List D) (hz:z≠[]):∀(n i:Nat),i<n*z.length→(repZ z n)[i]? =z[i % z.length]?
 |0,i,h=>by simp at h
 |n+1,i,h=>by
  have hpos:0<z.length:=List.length_pos_iff.2 hz
  simp only[repZ]
  rcases Nat.lt_or_ge i z.length with h' |h'
  ·rw[List.getElem?_append_left h',Nat.mod_eq_of_lt h']
  ·rw[List.getElem?_append_right h',repZ_get z hz n (i-z.length) (by rw[Nat.succ_mul]at h;omega)]
   congr 1
   rw[Nat.mod_eq_sub_mod h']
theorem zeros_ok{z:List D}{zv:Array Value}(hr:Reps G z zv.toList) (n:Nat):
 Reps G (repZ z n) (((Array.range (n*z.length)).map (zv[· % zv.size]!)).toList):=by
 have hl:z.length=zv.size:=by simpa using hr.length
 refine Reps.of_get (by simp[repZ_length]) ?_
 intro i d v h1 h2
 have hi:i<n*z.length:=by
  rcases Nat.lt_or_ge i (n*z.length) with h' |h'
  ·exact h'
  ·rw[List.getElem?_eq_none (by simpa using h')]at h2;cases h2
 have hz:z≠[]:=by
  rintro rfl
  simp at hi
 rw[repZ_get z hz n i hi]at h1
 obtain⟨u,hu,hrep⟩:=hr.get _ h1
 have hmod:i % zv.size<zv.size:=Nat.mod_lt _ (by rw[←hl];exact List.length_pos_iff.2 hz)
 have:v=zv[i % zv.size]! :=by
  simp only[Array.toList_map,Array.toList_range,List.getElem?_map,List.getElem?_range hi,Option.map_some,Option.some.injEq]at h2
  exact h2.symm
 rw[this,getElem!_pos zv _ hmod]
 have h3:zv.toList[i % z.length]? =some (zv[i % zv.size]):=by
  rw[hl]
  simp[Array.getElem?_eq_getElem hmod]
 rw[h3]at hu
 cases hu
 exact hrep
def tyBS(P:Program) (t:TypeId):Option (List D×Nat):=
 match P.underlying t with
 |some (.slice e)=>match tyZero P e,P.info? e with
  |some z,some i=>if z.length=i.size∧0<i.size then some (z,i.size) else none
  |_,_=>none
 |_=>none
theorem buildSlice_ok(hR:Rel B G σ w) {t:TypeId}{z:List D}{sz:Nat}(h:tyBS P t=some (z,sz)) {len:Nat}(hlen:len*sz≤16777216) {parts:List (Nat×D)}{out:List D}
 (hf:fillD (fun i=>some (i*sz,sz)) (repZ z len) parts=some out) {pv:Array (Nat×Value)}(hl:parts.length=pv.size) (hp:∀(j i:Nat) (d:D),parts[j]? =some (i,d)→∃v,pv[j]? =some (i,v)∧Rep G d v):
 ∃u w' G',(Instr.buildSlice t len pv).run P w= .ok u w'∧G.Le G'∧Rel B G' σ w'∧Rep G' (.list out len true) u:=by
 unfold tyBS at h
 split at h<;>try (cases h;done)
 rename_i e hu
 split at h<;>try (cases h;done)
 rename_i z' i hz hi
 split at h<;>try (cases h;done)
 rename_i hc
 obtain⟨hzl,hpos⟩:=hc
 simp only[Option.some.injEq,Prod.mk.injEq]at h
 obtain⟨rfl,rfl⟩:=h
 obtain⟨i',v,hi',hv,hcd⟩:=tyZero_inv hz
 rw[hi]at hi';cases hi'
 have hzr:=cDs_rep G hcd
 have hcs:=zeros_ok hzr len
 rw[hzl]at hcs
 obtain⟨ov,ho,hro⟩:=fill_ok (G:=G) _ parts _ out _ pv.toList hf hcs (by simpa using hl) (fun j i d hj=>by obtain⟨v,h3,h4⟩:=hp j i d hj;exact⟨v,by simpa using h3,h4⟩)
 have hg:=grow_new hR ov.toList [] e (0,0) ov (by simp)
 refine⟨.slice (some ⟨w.heap.size,0,none⟩) len len,w.alloc (.cells ov e),_,?_,hg.le,hR.grow hg,?_⟩
 ·unfold Instr.buildSlice
  have h24:¬(len*i.size>2 ^ 24):=by omega
  simp only[run_underlying hu,Sem.run_bind,Result.andThen_ok,sizeOf,typeInfo,run_program,hi,Sem.run_pure,h24,if_false]
  by_cases h0:len*i.size=0
  ·have hlen0:len=0:=by
    rcases Nat.mul_eq_zero.1 h0 with h|h<;>omega
   subst hlen0
   have e0:∀f:Nat→Value,Array.map f (Array.range 0)= #[]:=by intro f;simp
   simp only[Nat.zero_mul,e0]at ho
   simp only[Nat.zero_mul,if_true,Sem.run_bind,Sem.run_pure,Result.andThen_ok,e0,ho]
   simp only[newRow,Sem.run_bind,run_newObj,Result.andThen_ok,Sem.run_pure]
   rfl
  ·simp only[h0,if_false,Sem.run_bind,zeroValue,typeInfo,run_program,Result.andThen_ok,hi,Sem.run_pure,hv]
   rw[ho]
   simp only[newRow,Sem.run_bind,run_newObj,Result.andThen_ok,Sem.run_pure]
   rfl
 ·simp only[Rep]
  refine⟨_,len,rfl,Nat.le_refl _,?_,fun _=>rfl,?_⟩
  ·have:len≤len*i.size:=Nat.le_mul_of_pos_right _ hpos
   omega
  ·exact .inl ⟨_,_,rfl,cells_addImm ov.toList out [] ov.toList rfl hro hg.le⟩
end
end Go.Fw
namespace Go.Fw
open Go.RowKit
section
variable {P:Program}{B:Base P}{G:Gh}{σ:List AObj}{w:World}
def oget(d:Int):Option Int→Int
 |some h=>h
 |none=>d
def bnds(n:Nat) (full:Bool) (lo hi mx:Option Int):Option (Nat×Nat×Bool):=
 match mx with
 |none=>if 0≤oget 0 lo∧oget 0 lo≤oget n hi∧oget n hi≤n then some ((oget 0 lo).toNat,(oget n hi).toNat,full&&decide (oget n hi=n)) else none
 |some m=>if hi.isSome=true∧0≤oget 0 lo∧oget 0 lo≤oget n hi∧oget n hi≤m∧m≤n then some ((oget 0 lo).toNat,(oget n hi).toNat,decide (m=oget n hi)) else none
def optInt:Option D→Option (Option Int)
 |none=>some none
 |some d=>match idxInt d with
  |some i=>some (some i)
  |none=>none
def RepO(G:Gh):Option D→Option Value→Prop
 |none,none=>True
 |some d,some v=>Rep G d v
 |_,_=>False
inductive OptV:Option Int→Option Value→Prop
 |none:OptV none none
 |some (k:IntKind) (n:Int):OptV (some n) (some (.int k n))
theorem optInt_ok{d:Option D}{v:Option Value}{i:Option Int}(h:optInt d=some i) (hr:RepO G d v):OptV i v:=by
 cases d with
 |none=>
  cases v with
  |none=>simp only[optInt,Option.some.injEq]at h;subst h;exact .none
  |some v=>exact hr.elim
 |some d=>
  cases v with
  |none=>exact hr.elim
  |some v=>
   simp only[optInt]at h
   split at h<;>try (cases h;done)
   rename_i n hn
   simp only[Option.some.injEq]at h
   obtain⟨k,rfl⟩:=idxInt_ok hn hr
   subst h;exact .some k n
theorem sbound_run(k:IntKind) (i:Int) (y:Nat) (c:BoundsCode) (h0:0≤i) (h1:i≤y):(Instr.sliceBound (.int k i) y c).run P w= .ok i.toNat w:=by
 unfold Instr.sliceBound
 simp[asIntOf,h0,h1]
theorem bounds_run(isS:Bool) {n cap:Nat}{full:Bool}{lo hi mx:Option Int}{lv hv mv:Option Value}{l h:Nat}{f:Bool}(hb:bnds n full lo hi mx=some (l,h,f)) (hl:OptV lo lv) (hh:OptV hi hv) (hm:OptV mx mv)
 (hn:n≤cap) (hf:full=true→cap=n):
 ∃m,(Instr.sliceBounds isS n cap lv hv mv).run P w= .ok (l,h,m) w∧l≤h∧h≤n∧h≤m∧m≤cap∧(f=true→m=h):=by
 cases hm with
 |none=>
  simp only[bnds]at hb
  split at hb<;>try (cases hb;done)
  rename_i hc
  simp only[Option.some.injEq,Prod.mk.injEq]at hb
  obtain⟨rfl,rfl,rfl⟩:=hb
  obtain⟨c1,c2,c3⟩:=hc
  refine⟨cap,?_,by omega,by omega,by omega,Nat.le_refl _,?_⟩
  ·cases hh with
   |none=>
    cases hl with
    |none=>simp[Instr.sliceBounds,oget]
    |some k x=>
     have:=sbound_run (P:=P) (w:=w) k x n .sliceB c1 (by simpa[oget] using c2)
     simp[Instr.sliceBounds,this,oget]
   |some k' y=>
    have c1' :0≤y:=by simp only[oget]at c1 c2;omega
    have e1:=sbound_run (P:=P) (w:=w) k' y cap (if isS then .sliceAcap else .sliceAlen) c1' (by simp only[oget]at c3;omega)
    cases hl with
    |none=>simp[Instr.sliceBounds,e1,oget]
    |some k x=>
     have:=sbound_run (P:=P) (w:=w) k x y.toNat .sliceB c1 (by simp only[oget]at c2;omega)
     simp[Instr.sliceBounds,e1,this,oget]
  ·intro hfull
   simp only[Bool.and_eq_true,decide_eq_true_eq]at hfull
   have:=hf hfull.1
   have:=hfull.2
   omega
 |some km m=>
  simp only[bnds]at hb
  split at hb<;>try (cases hb;done)
  rename_i hc
  simp only[Option.some.injEq,Prod.mk.injEq]at hb
  obtain⟨rfl,rfl,rfl⟩:=hb
  obtain⟨c0,c1,c2,c3,c4⟩:=hc
  cases hh with
  |none=>simp at c0
  |some k' y=>
   have c2' :=c2
   have c3' :=c3
   have c1' :=c1
   simp only[oget]at c3 c1' c2'
   have e0:=sbound_run (P:=P) (w:=w) km m cap (if isS then .slice3Acap else .slice3Alen) (by omega) (by omega)
   have e1:=sbound_run (P:=P) (w:=w) k' y m.toNat .slice3B (by omega) (by omega)
   refine⟨m.toNat,?_,by simp only[oget];omega,by simp only[oget];omega,by simp only[oget];omega,by omega,?_⟩
   ·cases hl with
    |none=>simp[Instr.sliceBounds,e0,e1,oget]
    |some k x=>
     have:=sbound_run (P:=P) (w:=w) k x y.toNat .slice3C c1 (by simp only[oget]at c1 c2;omega)
     simp[Instr.sliceBounds,e0,e1,this,oget]
   ·intro hfull
    have hfull' :m=oget n (some y):=by simpa using hfull
    simp only[oget]at hfull'⊢
    omega
def sliceD(sz:Nat) (x:D) (lo hi mx:Option Int):Option D:=
 match x with
 | .list cs n full=>match bnds n full lo hi mx with
   |some (l,h,f)=>if cs.length=n*sz then some (.list ((cs.drop (l*sz)).take ((h-l)*sz)) (h-l) f) else none
   |none=>none
 | .sl l' u o n sz' full=>match bnds n full lo hi mx with
   |some (l,h,f)=>if sz' =sz then(if l=h then some (.list [] 0 f) else some (.sl l' u (o+l*sz) (h-l) sz f)) else none
   |none=>none
 |_=>none
theorem slice_ok{t:TypeId}{sz by' :Nat}(ht:tySl P t=some (sz,by')) {x x' :D}{lo hi mx:Option Int}{lv hv mv:Option Value}{v:Value}(hx:sliceD sz x lo hi mx=some x') (hl:OptV lo lv) (hh:OptV hi hv) (hm:OptV mx mv) (hv' :Rep G x v):
 ∃u,(Instr.sliceAt t v lv hv mv).run P w= .ok u w∧Rep G x' u:=by
 obtain⟨e,i,hu,hi',rfl,_⟩:=tySl_inv ht
 cases x<;>simp only[sliceD]at hx<;>try (cases hx;done)
 ·rename_i cs n full
  split at hx<;>try (cases hx;done)
  rename_i l h f hb
  split at hx<;>try (cases hx;done)
  rename_i hlen
  cases hx
  simp only[Rep]at hv'
  obtain⟨a,cap,rfl,h1,h2,h3,h4⟩:=hv'
  obtain⟨m,hrun,b1,b2,b3,b4,b5⟩:=bounds_run (P:=P) (w:=w) true hb hl hh hm h1 h3
  refine⟨.slice (if m=l then a else a.map (·.add (l*i.size))) (h-l) (m-l),?_,?_⟩
  ·unfold Instr.sliceAt Instr.slice
   simp[run_underlying hu,hrun,sizeOf,typeInfo,hi']
  ·simp only[Rep]
   refine⟨_,m-l,rfl,by omega,by omega,fun hf=>by have:=b5 hf;omega,?_⟩
   rcases h4 with⟨b,o,rfl,hc⟩|rfl
   ·by_cases e:m=l
    ·right
     have:h-l=0:=by omega
     simp[this]
    ·left
     simp only[e,if_false,Option.map_some]
     exact⟨b,o+l*i.size,by rw[addr_add],(hc.drop _).take _⟩
   ·right;simp
 ·rename_i l' u' o n sz' full
  split at hx<;>try (cases hx;done)
  rename_i l h f hb
  split at hx<;>try (cases hx;done)
  rename_i hsz
  subst hsz
  simp only[Rep]at hv'
  rcases hv' with⟨b,cap,tot,hbl,rfl,h1,h2,h3,h4,h5⟩|⟨rfl,a,rfl⟩
  ·obtain⟨m,hrun,b1,b2,b3,b4,b5⟩:=bounds_run (P:=P) (w:=w) true hb hl hh hm h1 h3
   refine⟨.slice (if m=l then some ⟨b,o,none⟩ else some ⟨b,o+l*i.size,none⟩) (h-l) (m-l),?_,?_⟩
   ·unfold Instr.sliceAt Instr.slice
    simp[run_underlying hu,hrun,sizeOf,typeInfo,hi',addr_add]
   ·split at hx
    ·cases hx
     rename_i e
     simp only[Rep]
     exact⟨_,m-l,by congr 1;omega,by omega,by omega,fun hf=>by have:=b5 hf;omega,.inr trivial⟩
    ·cases hx
     rename_i e
     have e' :m≠l:=by omega
     simp only[Rep,e',if_false]
     refine .inl ⟨b,m-l,tot,hbl,rfl,by omega,by omega,fun hf=>by have:=b5 hf;omega,h4,?_⟩
     have:o+l*i.size+(m-l)*i.size=o+m*i.size:=by
      rw[Nat.add_assoc,←Nat.add_mul];congr 2;omega
     rw[this]
     exact Nat.le_trans (Nat.add_le_add_left (Nat.mul_le_mul_right _ b4) _) h5
  ·obtain⟨m,hrun,b1,b2,b3,b4,b5⟩:=bounds_run (P:=P) (w:=w) true hb hl hh hm (Nat.le_refl 0) (fun _=>rfl)
   have hm0:m=0:=by omega
   have hl0:l=0:=by omega
   have hh0:h=0:=by omega
   subst hm0 hl0 hh0
   rw[if_pos rfl]at hx
   cases hx
   refine⟨.slice a 0 0,?_,?_⟩
   ·unfold Instr.sliceAt Instr.slice
    simp[run_underlying hu,hrun,sizeOf,typeInfo,hi']
   ·simp only[Rep]
    exact⟨_,0,rfl,Nat.le_refl _,Nat.zero_le _,fun _=>rfl,.inr trivial⟩
theorem sliceStr_ok{t:TypeId}(ht:P.underlying t=some .string) {s:List UInt8}{lo hi:Option Int}{lv hv:Option Value}{l h:Nat}{f:Bool}(hb:bnds s.length true lo hi none=some (l,h,f)) (hl:OptV lo lv) (hh:OptV hi hv):
 (Instr.sliceAt t (.string ⟨s.toArray⟩) lv hv none).run P w= .ok (.string ⟨((s.take h).drop l).toArray⟩) w:=by
 obtain⟨m,hrun,b1,b2,b3,b4,b5⟩:=bounds_run (P:=P) (w:=w) false hb hl hh .none (Nat.le_refl _) (fun _=>rfl)
 unfold Instr.sliceAt Instr.slice
 simp[run_underlying ht,bytes_size,hrun,bytes_extract]
def sliceArrD(n sz:Nat) (x:D) (lo hi mx:Option Int):Option D:=
 match x with
 | .ptr l' u o=>match bnds n true lo hi mx with
   |some (l,h,f)=>if l=h then some (.list [] 0 f) else some (.sl l' u (o+l*sz) (h-l) sz f)
   |none=>none
 |_=>none
theorem sliceArr_ok(hR:Rel B G σ w) {t:TypeId}{n sz:Nat}(ht:tyArr P t=some (n,sz)) (hn:n≤9223372036854775807) {x x' :D}{lo hi mx:Option Int}{lv hv mv:Option Value}{v:Value}{cs:List D}(hrd:readAt σ x (n*sz)=some cs)
 (hx:sliceArrD n sz x lo hi mx=some x') (hl:OptV lo lv) (hh:OptV hi hv) (hm:OptV mx mv) (hv' :Rep G x v):
 ∃u,(Instr.sliceAt t v lv hv mv).run P w= .ok u w∧Rep G x' u:=by
 obtain⟨e,i,hu,hi',rfl⟩:=tyArr_inv ht
 cases x<;>simp only[sliceArrD]at hx<;>try (cases hx;done)
 rename_i l' u' o
 split at hx<;>try (cases hx;done)
 rename_i l h f hb
 simp only[readAt]at hrd
 split at hrd<;>try (cases hrd;done)
 rename_i cs' frz u'' hob
 split at hrd<;>try (cases hrd;done)
 rename_i hc
 obtain⟨rfl,hlen⟩:=hc
 simp only[Rep]at hv'
 obtain⟨b,hbl,rfl⟩:=hv'
 obtain⟨vs,et,o1,o2,tl,hd,o3,o4⟩:=hR.obj _ _ b hob hbl
 have hl4:=o4.length
 have hsz:vs.size=hd.length+tl.length:=by simpa using congrArg List.length o3
 obtain⟨m,hrun,b1,b2,b3,b4,b5⟩:=bounds_run (P:=P) (w:=w) false hb hl hh hm (Nat.le_refl _) (fun _=>rfl)
 refine⟨.slice (if m=l then some ⟨b,o,none⟩ else some ⟨b,o+l*i.size,none⟩) (h-l) (m-l),?_,?_⟩
 ·unfold Instr.sliceAt Instr.sureAddr
  simp only[run_underlying hu,Sem.run_bind,Sem.run_pure,Result.andThen_ok,hrun,sizeOf,typeInfo,run_program,hi',addr_add]
  by_cases e:m=l<;>simp[e]
 ·split at hx
  ·cases hx
   simp only[Rep]
   exact⟨_,m-l,by congr 1;omega,by omega,by omega,fun hf=>by have:=b5 hf;omega,.inr trivial⟩
  ·cases hx
   rename_i e
   have e' :m≠l:=by omega
   simp only[Rep,e',if_false]
   refine .inl ⟨b,m-l,vs.size,hbl,rfl,by omega,by omega,fun hf=>by have:=b5 hf;omega,o2,?_⟩
   have:o+l*i.size+(m-l)*i.size=o+m*i.size:=by
    rw[Nat.add_assoc,←Nat.add_mul];congr 2;omega
   rw[this]
   have:=Nat.mul_le_mul_right i.size b4
   omega
inductive LKind where
 |slice|string|array (n:Nat)
 deriving DecidableEq
def tyLen(P:Program) (t:TypeId):Option LKind:=
 match P.underlying t with
 |some (.slice _)=>some .slice
 |some .string=>some .string
 |some (.array n _)=>some (.array n)
 |some (.pointer a)=>match P.underlying a with
  |some (.array n _)=>some (.array n)
  |_=>none
 |_=>none
def lenK:LKind→D→Option Nat
 | .slice,.list _ n _=>some n
 | .slice,.sl _ _ _ n _ _=>some n
 | .string,.str s=>some s.length
 | .array n,_=>some n
 |_,_=>none
theorem len_ok{t ty:TypeId}{k:LKind}(ht:tyLen P t=some k) {x:D}{n:Nat}{v:Value}(hx:lenK k x=some n) (hv:Rep G x v):
 (Builtin.len_ #[t] ty #[v]).run P w= .ok (.int .i64 n) w:=by
 unfold tyLen at ht
 unfold Builtin.len_
 split at ht
 ·rename_i e hu
  cases ht
  cases x<;>simp only[lenK,Option.some.injEq]at hx<;>try (cases hx;done)
  ·subst hx
   simp only[Rep]at hv
   obtain⟨a,cap,rfl,_⟩:=hv
   simp[run_underlying hu,goInt]
  ·subst hx
   simp only[Rep]at hv
   rcases hv with⟨a,cap,tot,_,rfl,_⟩|⟨rfl,a,rfl⟩<;>simp[run_underlying hu,goInt]
 ·rename_i hu
  cases ht
  cases x<;>simp only[lenK,Option.some.injEq]at hx<;>try (cases hx;done)
  subst hx
  simp only[Rep]at hv
  subst hv
  simp[run_underlying hu,goInt,bytes_size]
 ·rename_i m e hu
  cases ht
  simp only[lenK,Option.some.injEq]at hx
  subst hx
  simp[run_underlying hu,goInt]
 ·rename_i a hu
  split at ht<;>try (cases ht;done)
  rename_i m e ha
  cases ht
  simp only[lenK,Option.some.injEq]at hx
  subst hx
  simp[run_underlying hu,run_underlying ha,goInt]
 ·cases ht
end
end Go.Fw
