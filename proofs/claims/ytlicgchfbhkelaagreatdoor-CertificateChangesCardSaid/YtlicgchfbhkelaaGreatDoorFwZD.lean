/- A framework for proofs about Go programs in this model: part ZD. Everything is proved; no condition is added. -/
import Derived.ChangeArms
import GoSem.ClaimJoined
import Derived.ChangeSame
import Derived.WideShapes
import Derived.WideKeyArgs
import Derived.Stop.LaidErr
import Derived.Lib.LaidTab
import Derived.Lib.LaidU8
import Derived.Shelf.Vars
import Derived.Test.YtlicgchfbhkelaaGreatDoorFwZC
set_option linter.unusedVariables false
set_option linter.unusedSimpArgs false
set_option linter.defProp false
namespace Go.Fw
open Go.RowKit
mutual
def uJ(P:Program):Nat->TC->TypeId->Bool
 |0,_,_=>false
 |n+1,c,t=>match c with
  |.byte=>match P.underlying t with
   |some (.int k)=>decide (k=.u8)
   |_=>false
  |.int k=>match P.underlying t with
   |some (.int k')=>decide (k'=k)
   |_=>false
  |.bool=>match P.underlying t with
   |some .bool=>true
   |_=>false
  |.str=>match P.underlying t with
   |some .string=>true
   |_=>false
  |.sl c=>match P.underlying t with
   |some (.slice e)=>uJ P n c e&&(Nat.beq (P.cellsOf e) c.sz&&(Nat.blt 0 c.sz&&Nat.blt 0 (P.bytesOf e)))
   |_=>false
  |.node=>false
  |.spot=>false
  |c=>match P.underlying t with
   |some (.struct fs)=>LU P n c 0 fs.toList&&Nat.beq (P.cellsOf t) c.sz
   |_=>false
def LU (P:Program):Nat->TC->Nat->List Field->Bool
 |0,_,_,_=>false
 |n+1,c,off,fs=>match fs with
  |[]=>match c with
   |.unit=>true
   |_=>false
  |f::r=>match r with
   |[]=>Nat.beq f.offset off&&(Nat.beq (P.cellsOf f.type) c.sz&&uJ P n c f.type)
   |_::_=>match c with
    |.pair a b=>Nat.beq f.offset off&&(Nat.beq (P.cellsOf f.type) a.sz&&(uJ P n a f.type&&LU P n b (off+a.sz) r))
    |_=>false
end
def TC.ok:(t:TC)->t.Den->Prop
 |.byte,_=>True
 |.int k,n=>k.min<=n/\n<=k.max
 |.bool,_=>True
 |.str,s=>s.length<=maxLen
 |.sl t,c=>c.length<=maxLen/\∀x∈c,t.ok x
 |.pair a b,x=>a.ok x.1/\b.ok x.2
 |.unit,_=>True
 |.node,_=>True
 |.spot,_=>True
def TC.sm:(t:TC)->t.Den->Prop
 |.byte,_=>True
 |.int _,_=>True
 |.bool,_=>True
 |.str,s=>s.length<=reachBytes
 |.sl t,c=>c.length<=reachBytes/\∀x∈c,t.sm x
 |.pair a b,x=>a.sm x.1/\b.sm x.2
 |.unit,_=>True
 |.node,_=>True
 |.spot,_=>True
def Ep{H:Type}{P:Program}{e:TypeId}{p:Nat->Bool}:∀{ds:List (DataW H)}{d:DataW H},(DataW.weightsAll P e ds).all p=true->d∈ds->(d.weights P e).all p=true
 |[],_,_,h=>by cases h
 |d::ds,x,h,a=>by
  simp only[DataW.weightsAll,anO,akY]at h;rcases alr.1 a with rfl|a
  ·exact h.1
  ·exact Ep h.2 a
def uK{H:Type}{P:Program}{p:Nat->Bool}:∀{a:List TypeId}{ds:List (DataW H)},(DataW.weightsEach P a ds).all p=true->∀(i:Nat) t d,a[i]?=some t->ds[i]?=some d->(d.weights P t).all p=true
 |[],_,_,i,t,d,h,_=>by simp at h
 |_::_,[],_,i,t,d,_,h=>by simp at h
 |t::a,d::ds,h,i,f,e,b,c=>by
  simp only[DataW.weightsEach,anO,akY]at h;cases i with
  |zero=>
   cases b;cases c;exact h.1
  |succ i=>exact uK h.2 i f e (by simpa using b) (by simpa using c)
def af.one{G:Gh}{d:D}{v:Value}(h:Rep G d v):af G [d] [v]:=by simp only[af];exact⟨v,[],rfl,h,rfl⟩
def aiI{n:Int}(h:(Lit.int .u8 n).wf=true):∃b:UInt8,n=(b.toNat:Int):=by
 simp only[Lit.wf,akY,alL]at h;have a:IntKind.u8.min=0:=by decide
 have c:IntKind.u8.max=255:=by decide
 rw[a,c]at h;exact⟨UInt8.ofNat n.toNat,by simp;omega⟩
section
variable {H:Type}{enc:TypeId×Value→H}{P:Program}{w:World}{base:Nat}{sp:Nat→Bool}{held:Bool}
def IR{a:Addr}{n:Nat}{cs:List Value}(h:w.cells? base a n=some cs):cs.length=n/\∀i,i<n->w.cell? (a.add i)=cs[i]? :=by
 unfold World.cells? at h;split at h<;>try (cases h;done)
 exact⟨by simpa using mapM_some_length h,λi b=>mapM_some_get h i i (by simp[b])⟩
def Hy{G:Gh}{b:Nat}:∀{xs:List D}{vs:List Value}{o:Nat},af (snap G w) xs vs->(∀i v,vs[i]?=some v->w.cell? ⟨b,o+i,none⟩=some v)->Cells (snap G w) b o xs
 |[],_,_,_,_=>trivial
 |x::xs,_,o,h,k=>by
  simp only[af]at h;obtain⟨v,r,rfl,a,c⟩:=h;refine⟨⟨v,k 0 v rfl,a⟩,Hy c λi u d=> ?_⟩;have:=k (i+1) u (by simpa using d);rwa[show o+1+i=o+(i+1) from omq]
def PY{G:Gh}{α:Type}{E:Enc α}:∀{xs:List α}{vss:List (List Value)},vss.length=xs.length->(∀(i:Nat) x b,xs[i]?=some x->vss[i]?=some b->af G (E.cells x) b)->af G (bH E xs) vss.flatten
 |[],vss,a,_=>by
  have:vss=[]:=List.length_eq_zero_iff.1 (by simpa using a);subst this;rw[show bH E ([]:List α)=[] from E.fnil];simp only[List.flatten_nil,af]
 |x::xs,[],a,_=>by simp at a
 |x::xs,b::vss,a,h=>by
  rw[show bH E (x::xs)=E.cells x++bH E xs from E.fcons x xs,List.flatten_cons];exact(h 0 x b rfl rfl).append (PY (by simpa using a) λi y e d c=>h (i+1) y e (by simpa using d) (by simpa using c))
def Lc{α:Type}{sz:Nat}:∀{vss:List (List α)}{i:Nat}{v:α},(∀a∈vss,a.length=sz)->0<sz->vss.flatten[i]?=some v->∃a,vss[i / sz]?=some a/\a[i % sz]?=some v
 |[],i,v,_,_,h=>by simp at h
 |a::vss,i,v,c,d,h=>by
  have j:=c a (alG ..);rw[List.flatten_cons]at h;rcases alf i sz with b|b
  ·rw[ak8 omq]at h;exact⟨a,by rw[Nat.div_eq_of_lt b];rfl,by rw[Nat.mod_eq_of_lt b];exact h⟩
  ·rw[ale omq,j]at h;obtain⟨k,e,f⟩:=Lc (λu g=>c u (alj _ g)) d h;refine⟨k,?_,?_⟩
   ·have:i / sz=(i-sz) / sz+1:=by
     rw[<-Nat.sub_add_cancel b,Nat.add_div_right _ d];simp
    rw[this];simpa using e
   ·rw[Nat.mod_eq_sub_mod b];exact f
def SH{α k:Type}{R:Nat->α->k->Prop}:∀n:Nat,(∀i,i<n->∃x y,R i x y)->∃(xs:List α)(f:List k),xs.length=n/\f.length=n/\∀(i:Nat) x y,xs[i]?=some x->f[i]?=some y->R i x y
 |0,_=>⟨[],[],rfl,rfl,λi x y h=>by simp at h⟩
 |n+1,h=>by
  obtain⟨xs,f,g,j,l⟩:=SH n λi e=>h i omq;obtain⟨x,y,m⟩:=h n omq;refine⟨xs++[x],f++[y],by simp[g],by simp[j],λi a b c d=> ?_⟩;rcases aoR i n with e|e|e
  ·rw[ak8 omq]at c d;exact l i a b c d
  ·subst e;rw[ale omq,g]at c;rw[ale omq,j]at d;simp at c d;subst c d;exact m
  ·rw[alg soq]at c;cases c
mutual
def zW(G:Gh):∀(n:Nat)(c:TC)(t:TypeId),uJ P n c t=true->∀(fuel:Nat)(cs:List Value)(x:DataW H×List MemPlace),DataW.trod enc P w base sp held fuel t cs=some x->
 ∃y:c.Den,af (snap G w) (c.cells y) cs/\c.ok y/\((x.1.weights P t).all (· <=reachBytes)=true->c.sm y)
 |0,_,_,h,_,_,_,_=>by simp[uJ]at h
 |n+1,.byte,t,h,fuel,cs,x,hx=>by
  simp only[uJ]at h;split at h<;>try (cases h;done)
  rename_i k hu;have:=alC h;subst this;obtain⟨m,rfl,_,hw⟩:=DataW.trod_int hu hx;obtain⟨b,rfl⟩:=aiI hw;exact⟨b,af.one (by simp only[Rep]),trivial,λ_=>trivial⟩
 |n+1,.int k,t,h,fuel,cs,x,hx=>by
  simp only[uJ]at h;split at h<;>try (cases h;done)
  rename_i k' hu;have:=alC h;subst this;obtain⟨m,rfl,_,hw⟩:=DataW.trod_int hu hx;simp only[Lit.wf,akY,alL]at hw;exact⟨m,af.one (by simp only[Rep]),hw,λ_=>trivial⟩
 |n+1,.bool,t,h,fuel,cs,x,hx=>by
  simp only[uJ]at h;split at h<;>try (cases h;done)
  rename_i hu;obtain⟨b,rfl,_⟩:=DataW.trod_bool hu hx;exact⟨b,af.one (by simp only[Rep]),trivial,λ_=>trivial⟩
 |n+1,.str,t,h,fuel,cs,x,hx=>by
  simp only[uJ]at h;split at h<;>try (cases h;done)
  rename_i hu;obtain⟨s,rfl,rfl,hs⟩:=DataW.trod_string hu hx;exact⟨s.data.toList,af.one (by simp only[Rep]),by simpa[TC.ok] using hs,λh=>by simpa[DataW.weights,TC.sm] using h⟩
 |n+1,.sl c,t,h,fuel,cs,x,hx=>by
  simp only[uJ]at h;split at h<;>try (cases h;done)
  rename_i e hu;simp only[akY]at h;obtain⟨h1,h2,h3,h33⟩:=h;have h2:=bq h2;have h3:0<c.sz:=alb h3;have h33:0<P.bytesOf e:=alb h33;rcases DataW.trod_slice hu hx with⟨rfl,_⟩|⟨a,len,cap,elems,rest,m,_,rfl,rfl,_,hlc,hcm,hel,hr,_⟩
  ·refine⟨[],af.one ?_,by simp[TC.ok,maxLen],λ_=>by simp[TC.sm]⟩;simp only[Rep];exact⟨none,0,rfl,ak7 _,omq,(λh=>by cases h),.inr c.enc.fnil⟩
  ·obtain⟨xs,vss,k1,k2,k3⟩:=SH (R:=λi (y:c.Den)(vs:List Value)=>w.cells? base (a.add (i*P.cellsOf e)) (P.cellsOf e)=some vs/\af (snap G w) (c.cells y) vs/\c.ok y/\((DataW.weightsAll P e (elems.map (·.1))).all (· <=reachBytes)=true->c.sm y)) len λi hi=>by
    have h4:=hr i hi;rw[akZ omq]at h4;obtain⟨vs,h5,h6⟩:=anC.1 h4;obtain⟨y,h7,h8,h9⟩:=zW G n c e h1 m vs _ h6;exact⟨y,vs,h5,h7,h8,λhw=>h9 (Ep hw (alW.2 ⟨_,alZ _,rfl⟩))⟩
   have hvs:∀vs∈vss,vs.length=c.sz:=by
    intro vs hvs;obtain⟨i,hi⟩:=amc hvs;have hil:=aj hi;obtain⟨h5,_⟩:=k3 i _ vs (akZ omq) hi;rw[(IR h5).1,h2]
   refine⟨xs,af.one ?_,⟨by rw[k1];exact amo hlc hcm,λy hy=> ?_⟩,λhw=> ?_⟩
   ·simp only[Rep];refine⟨some a,cap,by rw[k1],by rw[k1];exact hlc,hcm,(λh=>by cases h),?_⟩;rcases aob len with h0|h0
    ·right;have:xs=[]:=List.length_eq_zero_iff.1 omq;subst this;exact c.enc.fnil
    ·left;have hs:a.spot=none:=by
      have hv0:0<vss.length:=omq;have h0':=(k3 0 _ _ (akZ omq) (akZ hv0)).1;have h9:=(IR h0').2 0 omq;have hl0:=hvs _ (alZ hv0);rw[akZ omq,amZ]at h9;unfold Addr.add at h9;simp only[al1]at h9;unfold World.cell? at h9;split at h9<;>try (cases h9;done)
      split at h9<;>try (cases h9;done)
      rename_i hn;simpa using hn
     obtain⟨ab,ao,_⟩:=a;simp only at hs;subst hs;have hcell:∀(i:Nat) v,vss.flatten[i]?=some v->w.cell? ⟨ab,ao+i,none⟩=some v:=by
      intro i v hv;obtain⟨vs,h5,h6⟩:=Lc hvs h3 hv;have hil:=aj h5;obtain⟨h7,_⟩:=k3 _ _ vs (akZ omq) h5;have h8:=(IR h7).2 (i % c.sz) (by rw[h2];exact Nat.mod_lt _ h3);rw[h6,h2]at h8;have hd:i / c.sz*c.sz+i % c.sz=i:=by rw[Nat.mul_comm];exact Nat.div_add_mod i c.sz
      have hadd:((⟨ab,ao,none⟩:Addr).add (i / c.sz*c.sz)).add (i % c.sz)=⟨ab,ao+i,none⟩:=by
       unfold Addr.add;by_cases e1:i / c.sz*c.sz=0<;>by_cases e2:i % c.sz=0<;>simp only[e1,e2,al1,alV]
       ·rw[show ao+i=ao from omq]
       ·rw[show ao+i % c.sz=ao+i from omq]
       ·rw[show ao+i / c.sz*c.sz=ao+i from omq]
       ·rw[show ao+i / c.sz*c.sz+i % c.sz=ao+i from omq]
      rw[hadd]at h8;exact h8
     have hreps:=PY (G:=snap G w) (E:=c.enc) (xs:=xs) (vss:=vss) omq λi y vs hy hv=>(k3 i y vs hy hv).2.1;exact⟨ab,ao,rfl,Hy hreps hcell⟩
   ·obtain⟨i,hi⟩:=amc hy;have hil:=aj hi;exact(k3 i y (vss[i]'(by omega)) hi (akZ omq)).2.2.1
   ·simp only[DataW.weights,hu,amw,anO,akY,alL,alQ]at hw;refine⟨?_,λy hy=> ?_⟩
    ·have h9:=aog (elems.length+rest.length) h33;omega
    ·obtain⟨i,hi⟩:=amc hy;have hil:=aj hi;exact(k3 i y (vss[i]'(by omega)) hi (akZ omq)).2.2.2 hw.2.1
 |n+1,.pair a b,t,h,fuel,cs,x,hx=>by
  simp only[uJ]at h;split at h<;>try (cases h;done)
  rename_i fs hu;simp only[akY]at h;obtain⟨xs,m,_,rfl,hl,hxs,hf⟩:=DataW.trod_struct hu hx;obtain⟨y,h1,h2⟩:=OV G n (.pair a b) 0 fs.toList h.1 m cs (((DataW.agg (xs.map (·.1))).weights P t).all (· <=reachBytes)=true) λi f hi=>⟨xs[i]'(by rw[hxs];simpa using aj hi),by
   rw[hf i f (by simpa using hi),List.getElem?_eq_getElem],λhw=>by
   simp only[DataW.weights,hu]at hw;exact uK hw i f.type _ (by rw[al4,hi];rfl) (by rw[al4,akZ];rfl)⟩
  refine⟨y,?_,h2⟩;rw[alR,<-bq h.2,<-hl,amC]at h1;exact h1
 |n+1,.unit,t,h,fuel,cs,x,hx=>by
  simp only[uJ]at h;split at h<;>try (cases h;done)
  rename_i fs hu;simp only[akY]at h;obtain⟨xs,m,_,rfl,hl,hxs,hf⟩:=DataW.trod_struct hu hx;obtain⟨y,h1,h2⟩:=OV G n .unit 0 fs.toList h.1 m cs (((DataW.agg (xs.map (·.1))).weights P t).all (· <=reachBytes)=true) λi f hi=>⟨xs[i]'(by rw[hxs];simpa using aj hi),by
   rw[hf i f (by simpa using hi),List.getElem?_eq_getElem],λhw=>by
   simp only[DataW.weights,hu]at hw;exact uK hw i f.type _ (by rw[al4,hi];rfl) (by rw[al4,akZ];rfl)⟩
  refine⟨y,?_,h2⟩;rw[alR,<-bq h.2,<-hl,amC]at h1;exact h1
 |n+1,.node,t,h,fuel,cs,x,hx=>by simp[uJ]at h
 |n+1,.spot,t,h,fuel,cs,x,hx=>by simp[uJ]at h
def OV (G:Gh):∀(n:Nat)(c:TC)(off:Nat)(fs:List Field),LU P n c off fs=true->∀(m:Nat)(cs:List Value)(W:Prop),
 (∀(i:Nat)(f:Field),fs[i]?=some f->∃x,DataW.trod enc P w base sp held m f.type ((cs.drop f.offset).take (P.cellsOf f.type))=some x/\(W->(x.1.weights P f.type).all (· <=reachBytes)=true))->∃y:c.Den,af (snap G w) (c.cells y) ((cs.drop off).take c.sz)/\c.ok y/\(W->c.sm y)
 |0,_,_,_,h,_,_,_,_=>by simp[LU]at h
 |n+1,c,off,[],h,m,cs,W,hf=>by
  simp only[LU]at h;split at h<;>try (cases h;done)
  exact⟨(),by simp only[show TC.unit.sz=0 from rfl,aoK];show af _ [] [];simp only[af],trivial,λ_=>trivial⟩
 |n+1,c,off,[f],h,m,cs,W,hf=>by
  simp only[LU,akY]at h;obtain⟨h1,h2,h3⟩:=h;obtain⟨x,hx,hw⟩:=hf 0 f rfl;rw[bq h1,bq h2]at hx;obtain⟨y,k1,k2,k3⟩:=zW G n c f.type h3 m _ x hx;exact⟨y,k1,k2,λh=>k3 (hw h)⟩
 |n+1,c,off,f::g::r,h,m,cs,W,hf=>by
  simp only[LU]at h;split at h<;>try (cases h;done)
  rename_i a b;simp only[akY]at h;obtain⟨h1,h2,h3,h4⟩:=h;obtain⟨x,hx,hw⟩:=hf 0 f rfl;rw[bq h1,bq h2]at hx;obtain⟨ya,k1,k2,k5⟩:=zW G n a f.type h3 m _ x hx;obtain⟨yb,k3,k4,k6⟩:=OV G n b (off+a.sz) (g::r) h4 m cs W λi f' hi=>hf (i+1) f' (by simpa using hi);refine⟨(ya,yb),?_,⟨k2,k4⟩,λh=>⟨k5 (hw h),k6 h⟩⟩;have e:(cs.drop off).take (TC.pair a b).sz=(cs.drop off).take a.sz++(cs.drop (off+a.sz)).take b.sz:=by
   rw[show(TC.pair a b).sz=a.sz+b.sz from rfl,List.take_add,amG]
  rw[e];exact k1.append k3
end
end
end Go.Fw
namespace Go.Fw
open Go.RowKit Go.WideShapes Go.ChangeShapes
section
variable {H:Type}{enc:TypeId×Value→H}{P:Program}
def post_below{f:Func}{s:ChangeSpec}{c n d m:Bool}{W o:World}{args:Array Value}{v:Value}{ds q:List (DataW H)}{a pa pv:List MemPlace}
 (y:DataW.Whole enc P f.params.toList s.vars c W args.toList ds q a)
 (l:∀(b:Nat)(sp:Nat->Bool)(hd:Bool),DataW.TrodAll enc P o b sp hd f.resultTypes.toList (v.resultList f.resultTypes.size) (s.fn H (ds++q)).results [])
 (e:∀sp:Nat->Bool,(∀p∈a,sp p.block=true)->DataW.TrodAll enc P o 0 sp true f.params.toList args.toList (s.fn H (ds++q)).args pa)
 (h:∀sp:Nat->Bool,(∀p∈a,sp p.block=true)->DataW.TrodVars enc P o sp s.vars (s.fn H (ds++q)).vars pv)
 (i:a=pa++pv)(A:Below W.heap.size W o)
 (z:∀(j:Nat)(t:TypeId)(r:Value),f.resultTypes[j]?=some t->(v.resultList f.resultTypes.size)[j]?=some r->Value.okWide P o .any 0 t r):
 s.post enc P f c n d m W args v o:=by
 have w:∀p∈a,p.block<W.heap.size:=λp g=>y.lt p g;have k:∀p∈a,(λb=>decide (b<W.heap.size)) p.block=true:=λp g=>by simpa using w p g
 refine⟨ds,q,a,[],pa,pv,y,l _ _ _,e _ k,h _ k,World.keptBut_mono (λp g=>⟨g,?_⟩) (A.frame (· ∈a)),λ_=> ?_⟩
 ·rw[i,alM]at g;exact Or.inr g
 ·obtain⟨_,_,_,_,_,D,C⟩:=y;refine⟨z,_,_,([]++pa)++pv,⟨[]++pa,pv,trodAll_append (e _ (λ_ _=>rfl)) (l _ _ _),h _ (λ_ _=>rfl),rfl,?_,?_⟩,?_⟩
  ·intro b x g;have u:MemPlace.cell b x∈a:=by rw[i];simpa using g
   rw[A.frozen (w _ u)];exact D b x u
  ·intro B;have:=C B;rw[i]at this;simpa using this
  ·intro p g _;rw[i];simpa using g
end
def G0:Gh:=⟨λ_ _=>none,λ_=>none,λ_ _=>none,λ_=>none⟩
end Go.Fw
namespace Go.Fw
open Go.RowKit
def cq.run2{P:Program}{f:FuncId}{ds:List D}{b:Bool}(h:cq P f ds (.bool b))(w:World)(g:GlobOk P (snap G0 w) w){vals:List Value}(i:af (snap G0 w) ds vals):
 Calls P f vals.toArray w λe j=>e=.returned (.bool b)/\Below w.heap.size w j:=
 (h (snap G0 w) w vals ⟨λ_ _ _ x=>x,λ_ _ x=>(by cases x),λ_ _ x=>(by cases x)⟩ g i).mono λ_ _ ⟨v,k,c,d,a⟩=>⟨by simp only[Rep]at a;rw[c,a],d.below⟩
end Go.Fw
namespace Go.Proofs.Tryz
open Go Go.Fw
noncomputable abbrev JH:TC:=.pair abd (.pair tc1 Sh)
def law_ends(v:iC)(g:okC v)(n:Nat)(d:n<65536)(x:UInt8)(f:Bool):cq prog 4 [.agg (JH.cells v),.int .u16 (n:Int),.int .u8 (x.toNat:Int)] (.bool true):=by
 obtain⟨_,_,_,h⟩:=agR.2;obtain⟨b,a,_,c⟩:=h (v,(n:Int),(x.toNat:Int)) true (UI hNN v g n d x);have e:b=.bool true:=by
  have a:some ((SV.bool true,([]:List DV)))=some (b,[]):=a;cases a;rfl
 subst e;refine c _ rfl _ ?_;simp only[VRs,VR];exact⟨_,_,rfl,⟨_,rfl,TC.scells_ok [] [] JH v⟩,_,_,rfl,rfl,_,_,rfl,rfl,rfl⟩
end Go.Proofs.Tryz
namespace Go.Proofs.Tryz
open Go Go.Fw Go.RowKit Go.ChangeShapes Go.WideShapes
set_option maxRecDepth 100000
def u37:∃a,prog.underlying 37=some (.struct a):=by
 have h:(match prog.underlying 37 with|some (.struct _)=>true|_=>false)=true:=krq;split at h
 ·rename_i a b;exact⟨a,b⟩
 ·cases h
def u38:prog.underlying 38=some (.int .u16):=krq
def u5:prog.underlying 5=some (.int .u8):=krq
section
variable {H:Type}{enc:TypeId×Value→H}{W:World}{base b0:Nat}{sp:Nat→Bool}{held:Bool}
def agi{y:JH.Den}(h:JH.sm y):okC y:=by
 have k:reachBytes=140737488351232:=rfl;simp only[TC.sm,k]at h;obtain⟨⟨_,_,_,⟨i,d⟩,_,_,⟨j,e⟩,_,_,_,_,_,l,f⟩,_⟩:=h;exact⟨⟨i,λr b=>⟨(d r b).1,λa c=>((d r b).2 a c).2.1⟩⟩,⟨j,λr b=>⟨(e r b).1,λa c=>((e r b).2 a c).2.1⟩⟩,λx g=>⟨(f x g).1,(f x g).2.2.1⟩⟩
def open_ends{v0 j v2:Value}{k l d2:DataW H}{I q1 J:List MemPlace}(g:Value.okWide prog W .any b0 37 v0)(B:Value.okWide prog W .any b0 38 j)(C:Value.okWide prog W .any b0 5 v2)
 (v:DataW.Trod enc prog W base sp held 37 v0 k I)(w:DataW.Trod enc prog W base sp held 38 j l q1)(x:DataW.Trod enc prog W base sp held 5 v2 d2 J)
 (o:(DataW.weightsEach prog [37,38,5] [k,l,d2]).all (· <=reachBytes)=true):∃(y:iC)(n:Nat)(s:UInt8),af (snap G0 W) [.agg (JH.cells y),.int .u16 (n:Int),.int .u8 (s.toNat:Int)] [v0,j,v2]/\okC y/\n<65536:=by
 obtain⟨R,d⟩:=u37;obtain⟨E,r⟩:=v;obtain⟨F,t⟩:=w;obtain⟨G,u⟩:=x;have f:∃a,v0=.agg a:=by
  unfold Value.okWide at g;rw[d]at g;obtain⟨a,rfl,_⟩:=g;exact⟨a,rfl⟩
 obtain⟨a,rfl⟩:=f;obtain⟨m,rfl⟩:=okWide_int u38 B;obtain⟨D,rfl⟩:=okWide_int u5 C;obtain⟨y,K,_,L⟩:=zW (P:=prog) (enc:=enc) G0 80 JH 37 krq E _ _ r;obtain⟨z,O,Q,_⟩:=zW (P:=prog) (enc:=enc) G0 20 (.int .u16) 38 krq F _ _ t;obtain⟨s,M,N,_⟩:=zW (P:=prog) (enc:=enc) G0 20 (.int .u8) 5 krq G _ _ u;simp only[DataW.weightsEach,anO,akY]at o;have i:∀z:Int,IntKind.u16.min<=z/\z<=IntKind.u16.max->z.toNat<65536/\(z.toNat:Int)=z:=λz h=>by
  rw[show IntKind.u16.min=0 from by decide,show IntKind.u16.max=65535 from by decide]at h;omega
 have b:∀z:Int,IntKind.u8.min<=z/\z<=IntKind.u8.max->((UInt8.ofNat z.toNat).toNat:Int)=z:=λz h=>by
  rw[show IntKind.u8.min=0 from by decide,show IntKind.u8.max=255 from by decide]at h;rw[amx];omega
 have p:=i z Q;have A:=b s N;refine⟨y,z.toNat,UInt8.ofNat s.toNat,?_,agi (L o.1),p.1⟩;have q:af (snap G0 W) [.int .u8 s] [.int .u8 D]:=M;have c:af (snap G0 W) [.int .u16 z] [.int .u16 m]:=O;rw[p.2,A];simp only[af]at q c⊢;obtain⟨_,_,e,c,_⟩:=c;cases e;refine⟨_,_,rfl,?_,_,_,rfl,c,q⟩;simp only[Rep];exact⟨a,rfl,K⟩
end
def Om:prog.globals.size=8:=krq
def Yv:((List.range 8).all λg=>match mX prog g with|none=>true|some _=>Nat.beq g 1||Nat.beq g 2)=true:=krq
def aiH{g:Nat}{cs:List D}(h:mX prog g=some cs):cs=[.anyi]/\(g=1∨g=2):=by
 constructor
 ·unfold mX OU at h;obtain⟨v,_,h⟩:=anC.1 h;split at h
  ·cases h;rfl
  ·split at h
   ·cases h;rfl
   ·cases h
 ·have b:g<8:=by
   rw[<-Om];unfold mX at h;obtain⟨v,c,_⟩:=anC.1 h;exact(alE.1 c).1
  have a:=alv.1 Yv g (anD.2 b);rw[h]at a;simp only[amI]at a;rcases a with a|a
  ·exact .inl (amp a)
  ·exact .inr (amp a)
def E6{W:World}{n:String}{g:Nat}{l:Array Value}(b:prog.globalNamed n=some g)(h:W.var? prog n=some l):∃t f,W.heap[g]?=some (.cells l t f):=by
 unfold World.var? at h;rw[b]at h;simp only[akX]at h;split at h
 ·rename_i c t f a;cases h;exact⟨t,f,a⟩
 ·cases h
def RR{W:World}{n:String}{g:Nat}{x:Value}(b:prog.globalNamed n=some g)(h:W.var? prog n=some #[x]):g<W.heap.size/\W.cell? ⟨g,0,none⟩=some x:=by
 obtain⟨t,f,a⟩:=E6 b h;refine⟨bB a,?_⟩;unfold World.cell?;rw[a];rfl
def agj{W:World}(h:W.ShapedOpen prog):∃m t f,W.heap[3]?=some (.cells #[.int .i64 m] t f):=by
 obtain⟨zero,t,b,e,i,j,k⟩:∃zero t,((begin prog (λ_ _=>0) default).world.heap[3]?).bind Obj.row?=some (zero,t)/\zero.size=1/\prog.buildable t=true/\prog.cellTypes prog.depth t=some [t]/\prog.underlying t=some (.int .i64):=⟨#[.int .i64 0],3,krq,krq,krq,krq,krq⟩;obtain⟨a,c,g,_⟩:=h.1 3 zero t (by rw[Om];decide) b;obtain⟨m,d⟩:=Go.Proofs.cell_of_shapedOpen_int h (by rw[Om];decide) b e i j k;obtain⟨v,rfl⟩:∃v,a= #[v]:=by
  obtain⟨l⟩:=a
  match l,g.trans e with
  |[v],_=>exact⟨v,rfl⟩
 have:v=.int .i64 m:=by
  simp only[World.cell?,c]at d;simpa using d
 subst this;exact⟨m,_,_,c⟩
def glob_ok{W:World}{j t2:TypeId}{k m:Value}(q:Lib.TabIs prog W "internal/strconv.uint64pow10" .u64 Lib.pow10Tab)(n:W.var? prog "strconv.ErrSyntax" =some #[.iface j k])(o:W.var? prog "strconv.ErrRange" =some #[.iface t2 m])
 (i:Lib.Utf8Tabs 6 7 W)(c:∃l,W.var? prog "unicode/utf8.first" =some l)(d:∃l,W.var? prog "unicode/utf8.acceptRanges" =some l)(p:W.ShapedOpen prog):GlobOk prog (snap G0 W) W:=by
 refine⟨λg u h=> ?_,⟨λg a=>E6 a q,λg a=> ?_,λg a=> ?_,λg a=> ?_⟩⟩
 ·obtain⟨rfl,a⟩:=aiH h;have e:∃t x,g<W.heap.size/\W.cell? ⟨g,0,none⟩=some (.iface t x):=by
   rcases a with rfl|rfl
   ·exact⟨j,k,RR krq n⟩
   ·exact⟨t2,m,RR krq o⟩
  obtain⟨t,x,r,s⟩:=e;refine⟨r,?_⟩;simp only[Rep];exact⟨g,0,rfl,⟨_,s,by simp only[Rep];exact⟨t,x,rfl⟩⟩,trivial⟩
 ·obtain rfl:g=3:=alX (a.symm.trans krq);exact agj p
 ·obtain rfl:g=6:=alX (a.symm.trans krq);obtain⟨l,c⟩:=c;obtain⟨t,f,b⟩:=E6 a c;exact⟨bB b,i.1⟩
 ·obtain rfl:g=7:=alX (a.symm.trans krq);obtain⟨l,d⟩:=d;obtain⟨t,f,b⟩:=E6 a d;exact⟨bB b,i.2⟩
end Go.Proofs.Tryz
