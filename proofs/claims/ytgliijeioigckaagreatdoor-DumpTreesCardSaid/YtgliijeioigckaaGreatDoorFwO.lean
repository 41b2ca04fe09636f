/- A framework for proofs about Go programs in this model: part O. Everything is proved; no condition is added. -/
import Derived.Deep.QuietTactic
import Derived.BigQuiet
import Derived.WalkKit
import Derived.Orders
import Derived.Deep.CutBlock
import Derived.Deep.CutRange
import Derived.Deep.RegionWith
import Derived.StillTailTactics
import Derived.Handy
import Derived.Maps.AppendAt
import Derived.Test.YtgliijeioigckaaGreatDoorFwL
import Derived.Test.YtgliijeioigckaaGreatDoorFwN
set_option linter.unusedVariables false
set_option linter.unusedSimpArgs false
namespace Go.Fw
open Go.RowKit
def Rdr(w:World) (B:Nat) (s:List UInt8) (a:Nat):Prop:=w.heap[B]? =some (.cells #[.string ⟨s.toArray⟩,.int .i64 (a:Int)] 95 (0,0))
structure RStep (B:Nat) (s:List UInt8) (w w' :World) (a:Nat):Prop where
 size:w.heap.size≤w'.heap.size
 same:∀k,k<w.heap.size→k≠B→w'.heap[k]? =w.heap[k]?
 rdr:Rdr w' B s a
 rest:w'.os=w.os∧w'.tape=w.tape∧w'.output=w.output
theorem RStep.drew{B:Nat}{s:List UInt8}{w:World}{a:Nat}(h:Rdr w B s a) (k:Nat):RStep B s w (w.drewN k) a:=
 ⟨by simp,fun j _ _=>by simp,by unfold Rdr at h⊢;simpa using h,rfl,rfl,rfl⟩
theorem RStep.set{B:Nat}{s:List UInt8}{w:World}{a a' :Nat}(h:Rdr w B s a):RStep B s w (w.setCell ⟨B,1,none⟩ (.int .i64 (a' :Int))) a' :=by
 have hlt:B<w.heap.size:=(Array.getElem?_eq_some_iff.1 h).1
 refine⟨by simp,fun k _ hk=>Below.heap_setCell w ⟨B,1,none⟩ _ k hk,?_,rfl,rfl,rfl⟩
 unfold Rdr at h⊢
 simp only[World.setCell,Array.getElem?_modify]
 rw[if_pos trivial,h]
 rfl
theorem RStep.trans{B:Nat}{s:List UInt8}{w w' w'' :World}{a a' :Nat}(h:RStep B s w w' a) (k:RStep B s w' w'' a'):RStep B s w w'' a' :=
 ⟨Nat.le_trans h.size k.size,fun j hj hn=>(k.same j (Nat.lt_of_lt_of_le hj h.size) hn).trans (h.same j hj hn),k.rdr,k.rest.1.trans h.rest.1,k.rest.2.1.trans h.rest.2.1,k.rest.2.2.trans h.rest.2.2⟩
end Go.Fw
namespace Go.Proofs
open Go.RowKit Go.Shelf Go.Fw
attribute [local go_sem] Oper.semAt_some
set_option maxRecDepth 100000 in
set_option maxHeartbeats 2000000 in
theorem Tryz.skip_ok(B a:Nat) (s:List UInt8) (c:UInt8) (w:World) (hB:Rdr w B s a) (hs:s.length≤1000000) (ha:a≤s.length):
 Calls Tryz.prog 81 #[.pointer (some ⟨B,0,none⟩),.int .u8 (c.toNat:Int)] w fun e w' =>∃(b:Bool) (a' :Nat),e= .returned (.bool b)∧RStep B s w w' a'∧(b=true∧s[a]? =some c∧a' =a+1∨b=false∧s[a]?≠some c∧a' =a):=by
 have c0:w.cell? ⟨B,0,none⟩=some (.string ⟨s.toArray⟩):=by simp[World.cell?,show w.heap[B]? =_ from hB]
 have c1:w.cell? ⟨B,1,none⟩=some (.int .i64 (a:Int)):=by simp[World.cell?,show w.heap[B]? =_ from hB]
 have f1:w.frozen? ⟨B,1,none⟩=false:=by simp[World.frozen?,show w.heap[B]? =_ from hB]
 by_cases hlt' :a<s.length
 ·have hlt:decide ((a:Int)<((⟨s.toArray⟩:ByteArray).size:Int))=true:=by
   rw[decide_eq_true_eq];show(a:Int)<(s.toArray.size:Int);rw[List.size_toArray];omega
  have hget:Hid (s[a]? =some s[a]):=List.getElem?_eq_getElem hlt'
  have hch:Hid (((⟨s.toArray⟩:ByteArray)[a]'(by show a<s.toArray.size;simpa using hlt'))=s[a]):=by show s.toArray[a]'_=_;simp
  go_enter Tryz.func81,Tryz.ntmps81
  go_wp2
  go_quiet (fail)
  go_wp2
  ·rename_i h
   rw[hch.out]at h
   have e:s[a]=c:=UInt8.toNat_inj.1 (Int.ofNat.inj (by simpa using h))
   go_ret
   exact⟨true,a+1,rfl,(RStep.drew hB nq).trans (RStep.set (a' :=a+1) (RStep.drew hB nq).rdr),.inl ⟨rfl,by rw[hget.out,e],rfl⟩⟩
  ·rename_i h
   rw[hch.out]at h
   have e:s[a]≠c:=fun e=>by rw[e]at h;simp at h
   go_ret
   exact⟨false,a,rfl,RStep.drew hB nq,.inr ⟨rfl,by rw[hget.out];simpa using e,rfl⟩⟩
 ·have hlt:decide ((a:Int)<((⟨s.toArray⟩:ByteArray).size:Int))=false:=by
   rw[decide_eq_false_iff_not];show ¬(a:Int)<(s.toArray.size:Int);rw[List.size_toArray];omega
  go_enter Tryz.func81,Tryz.ntmps81
  go_wp2
  go_quiet (fail)
  go_wp2
  go_ret
  exact⟨false,a,rfl,RStep.drew hB nq,.inr ⟨rfl,by rw[List.getElem?_eq_none (by omega)];simp,rfl⟩⟩
end Go.Proofs
namespace Go.Fw
theorem wp_region_inv{P:Program}{id:Nat}{ops:Array Oper}{Q:Exit→Act→World→Prop}{a:Act}{w:World}(hm:P.follows .mixedOrders=true)
 (hl:∀(i:Nat) o,ops[i]? =some o→∀e ∈ o.after.toList,Region.binds .any e=true→e.on<i)
 (Inv:Array Bool→Act→World→Prop) (h0:Inv (Array.replicate ops.size false) a {w with drawn:=w.drawn+1})
 (step:∀L i o a w,L.size=ops.size→ops[i]? =some o→L.getD i true=false→(∀e ∈ o.after.toList,Region.binds .any e=true→L.getD e.on false=true)→Clo ops L→Inv L a w→wpOp P ops Q i (Inv (L.setIfInBounds i true)) a w)
 (fin:∀L a w,(∀i<ops.size,L.getD i true=true)→L.size=ops.size→Inv L a w→Q .normal a w):(Code.region id ops true).wp P Q a w:=by
 refine wp_region_any hm ?_
 have done:∀L a w,L.size=ops.size→Inv L a w→Region.ready .any ops L=[]→Q .normal a w:=fun L a w hs hi hr=>fin L a w (fun i hlt=>ready_all hl hr (i+1) i (Nat.lt_succ_self i) hlt) hs hi
 have key:∀(fuel:Nat) (L:Array Bool) (a:Act) (w:World),L.size=ops.size→L.toList.count false≤fuel→Clo ops L→Inv L a w→wpAny P .any ops Q fuel L a w:=by
  intro fuel
  induction fuel with
  |zero=>
   intro L a w hs hc hclo hi
   have hr:Region.ready .any ops L=[]:=by
    unfold Region.ready
    refine List.filter_eq_nil_iff.2 fun i hi' => ?_
    have hlt:i<L.size:=by rw[hs];exact List.mem_range.1 hi'
    have:L.getD i true=true:=by
     rw[Array.getD_eq_getD_getElem?,Array.getElem?_eq_getElem hlt,Option.getD_some]
     cases hx:L[i] with
     |true=>rfl
     |false=>
      have hm:false ∈ L.toList:=by rw[←hx];simp
      have:=List.count_pos_iff.2 hm
      omega
    rw[this]
    simp
   exact⟨hr,done L a w hs hi hr⟩
  |succ fuel ih=>
   intro L a w hs hc hclo hi
   refine⟨done L a w hs hi,fun i hir=> ?_⟩
   unfold Region.ready at hir
   obtain⟨h1,h2⟩:=List.mem_filter.1 hir
   have hlt:=List.mem_range.1 h1
   rw[Array.getElem?_eq_getElem hlt]at h2
   simp only[Bool.and_eq_true,Bool.not_eq_true',Option.map_some,Option.getD_some]at h2
   obtain⟨h3,h4⟩:=h2
   rw[Array.all_eq_true']at h4
   refine wpOp_mono (fun a' w' hI=>ih _ a' w' (by simp[hs]) ?_ (fun j o' hj hjL e he hb=> ?_) hI) (step L i _ a w hs (Array.getElem?_eq_getElem hlt) h3 (fun e he hb=> ?_) hclo hi)
   ·have hx:L[i]'(by omega)=false:=by
     rw[Array.getD_eq_getD_getElem?,Array.getElem?_eq_getElem (by omega),Option.getD_some]at h3
     exact h3
    rw[Array.toList_setIfInBounds,List.count_set (by simpa using (by omega:i<L.size))]
    have hx' :L.toList[i]'(by simpa using (by omega:i<L.size))=false:=by simpa using hx
    rw[hx']
    have hpos:0<L.toList.count false:=List.count_pos_iff.2 (by rw[←hx'];exact List.getElem_mem _)
    have e1:(false==false)=true:=rfl
    have e2:(true==false)=false:=rfl
    rw[e1,e2,if_pos rfl]
    simp only[Bool.false_eq_true,if_false]
    omega
   ·rcases getD_set hjL with rfl|hjL
    ·rw[Array.getElem?_eq_getElem hlt]at hj
     cases hj
     have:=h4 e (by simpa using he)
     rw[hb]at this
     exact getD_keep (by simpa using this)
    ·exact getD_keep (hclo j o' hj hjL e he hb)
   ·have:=h4 e (by simpa using he)
    rw[hb]at this
    simpa using this
 refine key _ _ _ _ (by simp) (by rw[Array.toList_replicate,List.count_replicate];simp) (fun i o hi hL=> ?_) h0
 exfalso
 rw[Array.getD_eq_getD_getElem?]at hL
 rcases Nat.lt_or_ge i ops.size with h1|h1
 ·simp[h1]at hL
 ·simp[h1]at hL
end Go.Fw
namespace Go.Proofs.Tryz
open Go Go.Fw Go.RowKit
theorem parse_ok(x:List UInt8) (hx:x.length<1000000):PureOK prog 11 [.str x] (.tuple [bytesD (res1 (pr [] 0 x)).1,.agg [.int .i64 (res1 (pr [] 0 x)).2.1,.int .i64 (res1 (pr [] 0 x)).2.2]]):=by
 obtain⟨_,_,_,h⟩:=c_dump_ParseHex (x.length+3)
 obtain⟨v,h1,_,h3⟩:=h x _ (parse_val (by omega) hx)
 generalize res1 (pr [] 0 x)=r at h1 h3⊢
 obtain⟨l,c,o⟩:=r
 have e:v= .tup [.sl .byte l false,.agg [.int .i64 c,.int .i64 o]]:=by
  have h1:some ((SV.tup [.sl .byte l false,.agg [.int .i64 c,.int .i64 o]],([]:List DV)))=some (v,[]):=h1
  cases h1;rfl
 subst e
 exact h3 _ rfl _ (by simp only[VRs];exact⟨_,_,rfl,rfl,rfl⟩)
theorem index_ok(c:UInt8):PureOK prog 31 [.str [48,49,50,51,52,53,54,55,56,57,97,98,99,100,101,102],.int .u8 (c.toNat:Int)] (.int .i64 (hv c)):=by
 obtain⟨_,_,_,h⟩:=c_strings_IndexByte_v1
 obtain⟨v,h1,_,h3⟩:=h (c.toNat:Int) (hv c) rfl
 have e:v= .int .i64 (hv c):=by
  have h1:some ((SV.int .i64 (hv c),([]:List DV)))=some (v,[]):=h1
  cases h1;rfl
 subst e
 exact h3 _ rfl _ (by simp only[VRs];exact⟨_,_,rfl,rfl,_,_,rfl,rfl,rfl⟩)
theorem parse_calls{G:Gh}{w:World}(hI:ImmOk G w) (hG:GlobOk prog G w) (x:List UInt8) (hx:x.length<1000000):
 Calls prog 11 #[.string ⟨x.toArray⟩] w fun e w' =>∃v G',e= .returned (.tuple #[v,.agg #[.int .i64 (res1 (pr [] 0 x)).2.1,.int .i64 (res1 (pr [] 0 x)).2.2]])∧Grow G G' w w'∧Rep G' (bytesD (res1 (pr [] 0 x)).1) v:=by
 refine(parse_ok x hx G w [.string ⟨x.toArray⟩] hI hG (by simp only[Reps,Rep];exact⟨_,_,rfl,rfl,rfl⟩)).mono ?_
 rintro e w' ⟨v,G',rfl,hg,hr⟩
 simp only[Rep]at hr
 obtain⟨⟨l⟩,rfl,hr⟩:=hr
 simp only[Reps,Rep]at hr
 obtain⟨v1,_,hl,h1,v2,_,rfl,⟨⟨l2⟩,rfl,h2⟩,rfl⟩:=hr
 simp only at hl h2
 obtain⟨v3,_,h3,rfl,v4,_,rfl,rfl,rfl⟩:=h2
 subst h3 hl
 exact⟨v1,G',rfl,hg,h1⟩
theorem index_calls{G:Gh}{w:World}(hI:ImmOk G w) (hG:GlobOk prog G w) (c:UInt8):
 Calls prog 31 #[.string ⟨#[48,49,50,51,52,53,54,55,56,57,97,98,99,100,101,102]⟩,.int .u8 (c.toNat:Int)] w fun e w' =>e= .returned (.int .i64 (hv c))∧Below w.heap.size w w' :=by
 refine(index_ok c G w [.string ⟨#[48,49,50,51,52,53,54,55,56,57,97,98,99,100,101,102]⟩,.int .u8 (c.toNat:Int)] hI hG (by simp only[Reps,Rep];exact⟨_,_,rfl,rfl,_,_,rfl,rfl,rfl⟩)).mono ?_
 rintro e w' ⟨v,G',rfl,hg,hr⟩
 simp only[Rep]at hr
 subst hr
 exact⟨rfl,hg.below⟩
end Go.Proofs.Tryz
namespace Go.Fw
open Go.RowKit
structure BW (rl:List UInt8) (rc ro:Int) (G:Gh) (W0:World) (L:Array Bool) (w:World) (s8 v1:Value) (G1:Gh):Prop where
 low:Below W0.heap.size W0 w
 im:ImmOk G1 w
 le:G.Le G1
 new:∀b o,b<W0.heap.size→G1.imm b o=G.imm b o
 mnew:∀b,b<W0.heap.size→G1.mimm b=G.mimm b
 pre:L.getD 10 false=false→G1=G
 rep:L.getD 10 false=true→Rep G1 (bytesD rl) v1
 box:L.getD 14 false=true→∃E,s8= .pointer (some ⟨E,0,none⟩)∧W0.heap.size≤E∧(∃c0 c1,w.heap[E]? =some (.cells #[c0,c1] 31 (0,0)))∧(∀o,G1.imm E o=none)
 fin:L.getD 16 false=true→∃E,s8= .pointer (some ⟨E,0,none⟩)∧w.heap[E]? =some (.cells #[.int .i64 rc,.int .i64 ro] 31 (0,0))
theorem getD_set'{L:Array Bool}{i k:Nat}(h:k≠i):(L.setIfInBounds i true).getD k false=L.getD k false:=by
 cases e:L.getD k false with
 |true=>exact getD_keep e
 |false=>
  cases c:(L.setIfInBounds i true).getD k false with
  |false=>rfl
  |true=>
   rcases getD_set c with c|c
   ·exact absurd c h
   ·rw[e]at c;cases c
theorem ImmOk.out{G:Gh}{w:World}(h:ImmOk G w) {b o:Nat}(hb:w.heap.size≤b):G.imm b o=none:=by
 cases e:G.imm b o with
 |none=>rfl
 |some v=>
  have:=h.imm b o v e
  simp[World.cell?,Array.getElem?_eq_none hb]at this
variable {rl:List UInt8}{rc ro:Int}{G G1:Gh}{W0 w:World}{L:Array Bool}{s8 v1:Value}
theorem BW.same(h:BW rl rc ro G W0 L w s8 v1 G1) {i:Nat}(h10:10≠i) (h14:14≠i) (h16:16≠i):BW rl rc ro G W0 (L.setIfInBounds i true) w s8 v1 G1:=
 ⟨h.low,h.im,h.le,h.new,h.mnew,by rw[getD_set' h10];exact h.pre,by rw[getD_set' h10];exact h.rep,by rw[getD_set' h14];exact h.box,by rw[getD_set' h16];exact h.fin⟩
theorem BW.call(h:BW rl rc ro G W0 L w s8 v1 G1) {G' :Gh}{w' :World}{v:Value}(h10:L.getD 10 false=false) (h16:L.getD 16 false=false) (hg:Grow G G' w w') (hr:Rep G' (bytesD rl) v) (hs:L.size=17):BW rl rc ro G W0 (L.setIfInBounds 10 true) w' s8 v G' :=by
 have e:=h.pre h10
 subst e
 refine⟨h.low.trans (hg.below.mono h.low.size),⟨hg.imm,hg.mimm,hg.siz⟩,hg.le,fun b o hb=>hg.imm_new b o (Nat.lt_of_lt_of_le hb h.low.size),fun b hb=>hg.mimm_new b (Nat.lt_of_lt_of_le hb h.low.size),fun e=> ?_,fun _=>hr,fun e=> ?_,fun e=> ?_⟩
 ·rw[Array.getD_eq_getD_getElem?,Array.getElem?_setIfInBounds_self,if_pos (by omega)]at e;cases e
 ·rw[getD_set' (by decide)]at e
  obtain⟨E,h1,h2,⟨c0,c1,h3⟩,h4⟩:=h.box e
  have hE:=(Array.getElem?_eq_some_iff.1 h3).1
  exact⟨E,h1,h2,⟨c0,c1,(hg.below.block E hE).trans h3⟩,fun o=>(hg.imm_new E o hE).trans (h4 o)⟩
 ·rw[getD_set' (by decide),h16]at e;cases e
theorem BW.alloc(h:BW rl rc ro G W0 L w s8 v1 G1) {w' :World}(hb:Below w.heap.size w w') {c0 c1:Value}(hE:w'.heap[w.heap.size]? =some (.cells #[c0,c1] 31 (0,0))) (h16:L.getD 16 false=false):BW rl rc ro G W0 (L.setIfInBounds 14 true) w' (.pointer (some ⟨w.heap.size,0,none⟩)) v1 G1:=by
 refine⟨h.low.trans (hb.mono h.low.size),imm_below h.im hb,h.le,h.new,h.mnew,by rw[getD_set' (by decide)];exact h.pre,by rw[getD_set' (by decide)];exact h.rep,fun _=>⟨_,rfl,h.low.size,⟨c0,c1,hE⟩,fun o=>h.im.out (Nat.le_refl _)⟩,fun e=> ?_⟩
 rw[getD_set' (by decide),h16]at e;cases e
theorem BW.store(h:BW rl rc ro G W0 L w s8 v1 G1) {E:Nat}{c0 c1:Value}(h8:s8= .pointer (some ⟨E,0,none⟩)) (hE:W0.heap.size≤E) (hc:w.heap[E]? =some (.cells #[c0,c1] 31 (0,0))) (him:∀o,G1.imm E o=none) (h14:L.getD 14 false=true) (hs:L.size=17):BW rl rc ro G W0 (L.setIfInBounds 16 true) ((w.setCell ⟨E,0,none⟩ (.int .i64 rc)).setCell ⟨E,1,none⟩ (.int .i64 ro)) s8 v1 G1:=by
 have k1:((w.setCell ⟨E,0,none⟩ (.int .i64 rc)).setCell ⟨E,1,none⟩ (.int .i64 ro)).heap[E]? =some (.cells #[.int .i64 rc,.int .i64 ro] 31 (0,0)):=by
  simp only[World.setCell,Array.getElem?_modify]
  rw[if_pos trivial,if_pos trivial,hc]
  rfl
 have k2:∀k,k≠E→((w.setCell ⟨E,0,none⟩ (.int .i64 rc)).setCell ⟨E,1,none⟩ (.int .i64 ro)).heap[k]? =w.heap[k]? :=fun k hk=>(Below.heap_setCell _ ⟨E,1,none⟩ _ k hk).trans (Below.heap_setCell _ ⟨E,0,none⟩ _ k hk)
 refine⟨(h.low.setCell (p:=⟨E,0,none⟩) hE _).setCell (p:=⟨E,1,none⟩) hE _,⟨fun b o v hb=> ?_,fun b es hb=> ?_,fun b n hb=> ?_⟩,h.le,h.new,h.mnew,by rw[getD_set' (by decide)];exact h.pre,by rw[getD_set' (by decide)];exact h.rep,fun _=>⟨E,h8,hE,⟨_,_,k1⟩,him⟩,fun _=>⟨E,h8,k1⟩⟩
 ·by_cases e:b=E
  ·subst e;rw[him o]at hb;cases hb
  ·have:=h.im.imm b o v hb
   simp only[World.cell?,k2 b e]at this⊢
   exact this
 ·by_cases e:b=E
  ·subst e
   have:=(h.im.mimm b es hb).1
   rw[hc]at this;cases this
  ·exact⟨(k2 b e).trans (h.im.mimm b es hb).1,(h.im.mimm b es hb).2⟩
 ·obtain⟨vs,et,f,h1,h2⟩:=h.im.siz b n hb
  by_cases e:b=E
  ·subst e
   rw[hc]at h1
   cases h1
   exact⟨_,_,_,k1,h2⟩
  ·exact⟨vs,et,f,(k2 b e).trans h1,h2⟩
end Go.Fw
namespace Go.Proofs
open Go.RowKit Go.Shelf Go.Fw
attribute [local go_sem] Oper.semAt_some
def opb_0:Oper:={dst:=some 43,op:= .move (.tmp 0),type:=93,pos:= "dump.go:100",after:= #[],guard:=none}
def opb_1:Oper:={dst:=some 44,op:= .nilCheck (.tmp 43),type:=0,pos:= "dump.go:100",after:= #[⟨0,.data⟩],guard:=none}
def opb_2:Oper:={dst:=some 45,op:= .fieldAddr 95 (.tmp 44) 0,type:=0,pos:= "dump.go:100",after:= #[⟨1,.data⟩],guard:=none}
def opb_3:Oper:={dst:=some 46,op:= .load 9 (.tmp 45),type:=9,pos:= "dump.go:100",after:= #[⟨2,.data⟩],guard:=none}
def opb_4:Oper:={dst:=some 47,op:= .move (.tmp 0),type:=93,pos:= "dump.go:100",after:= #[],guard:=none}
def opb_5:Oper:={dst:=some 48,op:= .nilCheck (.tmp 47),type:=0,pos:= "dump.go:100",after:= #[⟨4,.data⟩],guard:=none}
def opb_6:Oper:={dst:=some 49,op:= .fieldAddr 95 (.tmp 48) 1,type:=0,pos:= "dump.go:100",after:= #[⟨5,.data⟩],guard:=none}
def opb_7:Oper:={dst:=some 50,op:= .load 3 (.tmp 49),type:=3,pos:= "dump.go:100",after:= #[⟨6,.data⟩],guard:=none}
def opb_8:Oper:={dst:=some 51,op:= .move (.tmp 6),type:=3,pos:= "dump.go:100",after:= #[],guard:=none}
def opb_9:Oper:={dst:=some 52,op:= .slice 9 (.tmp 46) (some (.tmp 50)) (some (.tmp 51)) none,type:=9,pos:= "dump.go:100",after:= #[⟨3,.data⟩,⟨7,.data⟩,⟨8,.data⟩],guard:=none}
def opb_10:Oper:={dst:=some 53,op:= .call {callee:= .value (.func 11),args:= #[.tmp 52],argTypes:= #[9]},type:=32,pos:= "dump.go:100",after:= #[⟨9,.data⟩],guard:=none}
def opb_11:Oper:={dst:=some 42,op:= .move (.tmp 53),type:=32,pos:= "dump.go:100",after:= #[⟨10,.data⟩],guard:=none}
def opb_12:Oper:={dst:=some 54,op:= .extract (.tmp 42) 0,type:=27,pos:= "dump.go:100",after:= #[⟨11,.data⟩],guard:=none}
def opb_13:Oper:={dst:=some 55,op:= .extract (.tmp 42) 1,type:=31,pos:= "dump.go:100",after:= #[⟨11,.data⟩,⟨15,.gcOnly .lateStores⟩],guard:=none}
def opb_14:Oper:={dst:=some 8,op:= .alloc 31,type:=0,pos:= "dump.go:100",after:= #[],guard:=none}
def opb_15:Oper:={dst:=some 7,op:= .assign (.tmp 54),type:=27,pos:= "dump.go:100",after:= #[⟨12,.data⟩,⟨10,.chain⟩,⟨0,.phase⟩,⟨1,.phase⟩,⟨2,.phase⟩,⟨3,.phase⟩,⟨4,.phase⟩,⟨5,.phase⟩,⟨6,.phase⟩,⟨7,.phase⟩,⟨8,.phase⟩,⟨9,.phase⟩,⟨10,.phase⟩,⟨11,.phase⟩,⟨12,.phase⟩,⟨13,.textOnly .lateStores⟩,⟨14,.phase⟩],guard:=none}
def opb_16:Oper:={dst:=none,op:= .store 31 (.tmp 8) (.tmp 55),type:=0,pos:= "dump.go:100",after:= #[⟨14,.data⟩,⟨13,.data⟩,⟨15,.chain⟩,⟨0,.phase⟩,⟨1,.phase⟩,⟨2,.phase⟩,⟨3,.phase⟩,⟨4,.phase⟩,⟨5,.phase⟩,⟨6,.phase⟩,⟨7,.phase⟩,⟨8,.phase⟩,⟨9,.phase⟩,⟨10,.phase⟩,⟨11,.phase⟩,⟨12,.phase⟩,⟨13,.phase⟩,⟨14,.phase⟩,⟨15,.phase⟩],guard:=none}
def opsB:Array Oper:= #[opb_0,opb_1,opb_2,opb_3,opb_4,opb_5,opb_6,opb_7,opb_8,opb_9,opb_10,opb_11,opb_12,opb_13,opb_14,opb_15,opb_16]
theorem opsB_low:∀(i:Nat) o,opsB[i]? =some o→∀e ∈ o.after.toList,Region.binds .any e=true→e.on<i:=by
 have h:(List.range 17).all (fun i=>match opsB[i]? with
  |some o=>o.after.toList.all fun e=> !Region.binds .any e||decide (e.on<i)
  |none=>true)=true:=by kernel_rfl
 intro i o hi e he hb
 have hlt:i<17:=(Array.getElem?_eq_some_iff.1 hi).1
 have h1:=List.all_eq_true.1 h i (List.mem_range.2 hlt)
 rw[hi]at h1
 have h2:=List.all_eq_true.1 h1 e he
 rw[hb]at h2
 simpa using h2
def depC(i e:Nat):Bool:=match opsB[i]? with
 |some o=>o.after.toList.any fun x=>Nat.beq x.on e&&Region.binds .any x
 |none=>false
theorem depC_of{L:Array Bool}{i:Nat}{o:Oper}(ho:opsB[i]? =some o) (h:∀e ∈ o.after.toList,Region.binds .any e=true→L.getD e.on false=true) {e:Nat}(hd:depC i e=true):L.getD e false=true:=by
 unfold depC at hd
 rw[ho]at hd
 obtain⟨x,hx,hb⟩:=List.any_eq_true.1 hd
 simp only[Bool.and_eq_true]at hb
 rw[←Nat.eq_of_beq_eq_true hb.1]
 exact h x hx hb.2
theorem cloC_dep{L:Array Bool}(h:Clo opsB L) {i e:Nat}(hd:depC i e=true) (hi:L.getD i false=true):L.getD e false=true:=by
 cases ho:opsB[i]? with
 |none=>unfold depC at hd;rw[ho]at hd;cases hd
 |some o=>exact depC_of ho (h i o ho hi) hd
set_option maxRecDepth 100000 in
set_option maxHeartbeats 16000000 in
theorem Tryz.bytes_region{Q:Exit→Act→World→Prop}(T1 T2 T3 T4 T5 T9 T10 T11 T12 T13 T14 T15 T16 T17 T18 T19 T20 T21 T22 T23 T24 T25 T26 T27 T28 T29 T30 T31 T32 T33 T34 T35 T36 T37 T38 T39 T40 T41 T56 T57 T58 T59 T60 T61 T62 T63:Value) (z7 z8 z42 z43 z44 z45 z46 z47 z48 z49 z50 z51 z52 z53 z54 z55:Value) (B n a:Nat) (sB:ByteArray) (x rl:List UInt8) (rc ro:Int) (G:Gh) (W0:World)
 (hI:ImmOk G W0) (hX:∀W,Below W0.heap.size W0 W→W.cell? ⟨B,0,none⟩=some (.string sB)∧W.cell? ⟨B,1,none⟩=some (.int .i64 (a:Int))) (hext:sB.extract a n=⟨x.toArray⟩) (han:a≤n) (hn:n≤sB.size)
 (hcall:∀W,Below W0.heap.size W0 W→Calls Tryz.prog 11 #[.string ⟨x.toArray⟩] W fun e w' =>∃v G',e= .returned (.tuple #[v,.agg #[.int .i64 rc,.int .i64 ro]])∧Grow G G' W w'∧Rep G' (bytesD rl) v)
 (hQ:∀s7 s8 s42 s43 s44 s45 s46 s47 s48 s49 s50 s51 s52 s53 s54 s55 W',(∃G' E,s8= .pointer (some ⟨E,0,none⟩)∧Below W0.heap.size W0 W'∧W0.heap.size≤E∧W'.heap[E]? =some (.cells #[.int .i64 rc,.int .i64 ro] 31 (0,0))∧Rep G' (bytesD rl) s7∧G.Le G'∧ImmOk G' W'∧(∀b o,b<W0.heap.size→G'.imm b o=G.imm b o)∧∀b,b<W0.heap.size→G'.mimm b=G.mimm b)→Q .normal {tmps:= #[.pointer (some ⟨B,0,none⟩),T1,T2,T3,T4,T5,.int .i64 (n:Int),s7,s8,T9,T10,T11,T12,T13,T14,T15,T16,T17,T18,T19,T20,T21,T22,T23,T24,T25,T26,T27,T28,T29,T30,T31,T32,T33,T34,T35,T36,T37,T38,T39,T40,T41,s42,s43,s44,s45,s46,s47,s48,s49,s50,s51,s52,s53,s54,s55,T56,T57,T58,T59,T60,T61,T62,T63],defers:=[]} W'):
 (Code.region 4 opsB true).wp Tryz.prog Q {tmps:= #[.pointer (some ⟨B,0,none⟩),T1,T2,T3,T4,T5,.int .i64 (n:Int),z7,z8,T9,T10,T11,T12,T13,T14,T15,T16,T17,T18,T19,T20,T21,T22,T23,T24,T25,T26,T27,T28,T29,T30,T31,T32,T33,T34,T35,T36,T37,T38,T39,T40,T41,z42,z43,z44,z45,z46,z47,z48,z49,z50,z51,z52,z53,z54,z55,T56,T57,T58,T59,T60,T61,T62,T63],defers:=[]} W0:=by
 have mixed:Tryz.prog.follows .mixedOrders=true:=by kernel_rfl
 refine wp_region_inv mixed opsB_low (fun L a' w=>∃(s7 s8 s42 s43 s44 s45 s46 s47 s48 s49 s50 s51 s52 s53 s54 s55 v1:Value) (G1:Gh),a' ={tmps:= #[.pointer (some ⟨B,0,none⟩),T1,T2,T3,T4,T5,.int .i64 (n:Int),s7,s8,T9,T10,T11,T12,T13,T14,T15,T16,T17,T18,T19,T20,T21,T22,T23,T24,T25,T26,T27,T28,T29,T30,T31,T32,T33,T34,T35,T36,T37,T38,T39,T40,T41,s42,s43,s44,s45,s46,s47,s48,s49,s50,s51,s52,s53,s54,s55,T56,T57,T58,T59,T60,T61,T62,T63],defers:=[]}∧(L.getD 0 false=true→s43= .pointer (some ⟨B,0,none⟩))∧(L.getD 1 false=true→s44= .pointer (some ⟨B,0,none⟩))∧(L.getD 2 false=true→s45= .pointer (some ⟨B,0,none⟩))∧(L.getD 3 false=true→s46= .string sB)∧(L.getD 4 false=true→s47= .pointer (some ⟨B,0,none⟩))∧(L.getD 5 false=true→s48= .pointer (some ⟨B,0,none⟩))∧(L.getD 6 false=true→s49= .pointer (some ⟨B,1,none⟩))∧(L.getD 7 false=true→s50= .int .i64 (a:Int))∧(L.getD 8 false=true→s51= .int .i64 (n:Int))∧(L.getD 9 false=true→s52= .string ⟨x.toArray⟩)∧(L.getD 10 false=true→s53= .tuple #[v1,.agg #[.int .i64 rc,.int .i64 ro]])∧(L.getD 11 false=true→s42= .tuple #[v1,.agg #[.int .i64 rc,.int .i64 ro]])∧(L.getD 12 false=true→s54=v1)∧(L.getD 13 false=true→s55= .agg #[.int .i64 rc,.int .i64 ro])∧(L.getD 15 false=true→s7=v1)∧BW rl rc ro G W0 L w s8 v1 G1) ?start ?step ?fin
 case start=>
  have off:∀j,(Array.replicate opsB.size false).getD j false=false:=fun j=>by
   rw[Array.getD_eq_getD_getElem?]
   rcases Nat.lt_or_ge j opsB.size with h|h
   ·simp[h]
   ·simp[h]
  have no:∀{p:Prop}(j),(Array.replicate opsB.size false).getD j false=true→p:=fun j h=>by rw[off]at h;cases h
  exact⟨z7,z8,z42,z43,z44,z45,z46,z47,z48,z49,z50,z51,z52,z53,z54,z55,undef,G,rfl,no _,no _,no _,no _,no _,no _,no _,no _,no _,no _,no _,no _,no _,no _,no _,⟨(Below.refl _ W0).drew,imm_below hI (Below.refl _ W0).drew,Gh.Le.refl G,fun _ _ _=>rfl,fun _ _=>rfl,fun _=>rfl,no _,no _,no _⟩⟩
 case fin=>
  rintro L a' w hall hs ⟨s7,s8,s42,s43,s44,s45,s46,s47,s48,s49,s50,s51,s52,s53,s54,s55,v1,G1,rfl,v0,v1,v2,v3,v4,v5,v6,v7,v8,v9,v10,v11,v12,v13,v15,hW⟩
  have all' :∀i<17,L.getD i false=true:=fun i hi=>by
   have h:=hall i hi
   rw[Array.getD_eq_getD_getElem?,Array.getElem?_eq_getElem (by rw[hs];exact hi)]at h⊢
   exact h
  obtain⟨E,h1,h2,_,_⟩:=hW.box (all' 14 (by decide))
  obtain⟨E',h3,h4⟩:=hW.fin (all' 16 (by decide))
  obtain rfl:E' =E:=by rw[h1]at h3;cases h3;rfl
  obtain rfl:=v15 (all' 15 (by decide))
  exact hQ _ _ _ _ _ _ _ _ _ _ _ _ _ _ _ _ w ⟨G1,E',h1,hW.low,h2,h4,hW.rep (all' 10 (by decide)),hW.le,hW.im,hW.new,hW.mnew⟩
 case step=>
  intro L i o a' w hs ho hLi hdep hclo hInv
  obtain⟨s7,s8,s42,s43,s44,s45,s46,s47,s48,s49,s50,s51,s52,s53,s54,s55,v1,G1,rfl,v0,v1,v2,v3,v4,v5,v6,v7,v8,v9,v10,v11,v12,v13,v15,hW⟩:=hInv
  have hi:i<17:=(Array.getElem?_eq_some_iff.1 ho).1
  have hLi' :L.getD i false=false:=by
   rw[Array.getD_eq_getD_getElem?,Array.getElem?_eq_getElem (by rw[hs];exact hi)]at hLi⊢
   exact hLi
  have h16:L.getD 16 false=false:=by
   cases hc:L.getD 16 false with
   |false=>rfl
   |true=>
    rcases Nat.lt_or_ge i 16 with h|h
    ·have hall:∀j<16,depC 16 j=true:=by decide+kernel
     rw[cloC_dep hclo (hall i h) hc]at hLi';cases hLi'
    ·obtain rfl:i=16:=by omega
     rw[hc]at hLi';cases hLi'
  have hlow:=hW.low
  have hcase:i=0∨i=1∨i=2∨i=3∨i=4∨i=5∨i=6∨i=7∨i=8∨i=9∨i=10∨i=11∨i=12∨i=13∨i=14∨i=15∨i=16:=by omega
  rcases hcase with rfl|rfl|rfl|rfl|rfl|rfl|rfl|rfl|rfl|rfl|rfl|rfl|rfl|rfl|rfl|rfl|rfl

  ·obtain rfl:opb_0=o:=Option.some.inj ho
   refine wpOp_step (o:=opb_0) rfl (fun K hK=> ?_)
   unfold opb_0
   go_simp
   refine hK _ _ ?_
   exact⟨_,_,_,_,_,_,_,_,_,_,_,_,_,_,_,_,_,_,rfl,fun _=>rfl,kv v1,kv v2,kv v3,kv v4,kv v5,kv v6,kv v7,kv v8,kv v9,kv v10,kv v11,kv v12,kv v13,kv v15,hW.same (by decide) (by decide) (by decide)⟩
  ·obtain rfl:opb_1=o:=Option.some.inj ho
   obtain rfl:=v0 (depC_of (i:=1) rfl hdep (e:=0) rfl)
   refine wpOp_step (o:=opb_1) rfl (fun K hK=> ?_)
   unfold opb_1
   go_simp
   refine hK _ _ ?_
   exact⟨_,_,_,_,_,_,_,_,_,_,_,_,_,_,_,_,_,_,rfl,kv v0,fun _=>rfl,kv v2,kv v3,kv v4,kv v5,kv v6,kv v7,kv v8,kv v9,kv v10,kv v11,kv v12,kv v13,kv v15,hW.same (by decide) (by decide) (by decide)⟩
  ·obtain rfl:opb_2=o:=Option.some.inj ho
   obtain rfl:=v1 (depC_of (i:=2) rfl hdep (e:=1) rfl)
   refine wpOp_step (o:=opb_2) rfl (fun K hK=> ?_)
   unfold opb_2
   go_simp
   refine hK _ _ ?_
   exact⟨_,_,_,_,_,_,_,_,_,_,_,_,_,_,_,_,_,_,rfl,kv v0,kv v1,fun _=>rfl,kv v3,kv v4,kv v5,kv v6,kv v7,kv v8,kv v9,kv v10,kv v11,kv v12,kv v13,kv v15,hW.same (by decide) (by decide) (by decide)⟩
  ·obtain rfl:opb_3=o:=Option.some.inj ho
   obtain rfl:=v2 (depC_of (i:=3) rfl hdep (e:=2) rfl)
   obtain⟨c0,c1⟩:=hX w hlow
   refine wpOp_step (o:=opb_3) rfl (fun K hK=> ?_)
   unfold opb_3
   go_simp
   refine hK _ _ ?_
   exact⟨_,_,_,_,_,_,_,_,_,_,_,_,_,_,_,_,_,_,rfl,kv v0,kv v1,kv v2,fun _=>rfl,kv v4,kv v5,kv v6,kv v7,kv v8,kv v9,kv v10,kv v11,kv v12,kv v13,kv v15,hW.same (by decide) (by decide) (by decide)⟩
  ·obtain rfl:opb_4=o:=Option.some.inj ho
   refine wpOp_step (o:=opb_4) rfl (fun K hK=> ?_)
   unfold opb_4
   go_simp
   refine hK _ _ ?_
   exact⟨_,_,_,_,_,_,_,_,_,_,_,_,_,_,_,_,_,_,rfl,kv v0,kv v1,kv v2,kv v3,fun _=>rfl,kv v5,kv v6,kv v7,kv v8,kv v9,kv v10,kv v11,kv v12,kv v13,kv v15,hW.same (by decide) (by decide) (by decide)⟩
  ·obtain rfl:opb_5=o:=Option.some.inj ho
   obtain rfl:=v4 (depC_of (i:=5) rfl hdep (e:=4) rfl)
   refine wpOp_step (o:=opb_5) rfl (fun K hK=> ?_)
   unfold opb_5
   go_simp
   refine hK _ _ ?_
   exact⟨_,_,_,_,_,_,_,_,_,_,_,_,_,_,_,_,_,_,rfl,kv v0,kv v1,kv v2,kv v3,kv v4,fun _=>rfl,kv v6,kv v7,kv v8,kv v9,kv v10,kv v11,kv v12,kv v13,kv v15,hW.same (by decide) (by decide) (by decide)⟩
  ·obtain rfl:opb_6=o:=Option.some.inj ho
   obtain rfl:=v5 (depC_of (i:=6) rfl hdep (e:=5) rfl)
   refine wpOp_step (o:=opb_6) rfl (fun K hK=> ?_)
   unfold opb_6
   go_simp
   refine hK _ _ ?_
   exact⟨_,_,_,_,_,_,_,_,_,_,_,_,_,_,_,_,_,_,rfl,kv v0,kv v1,kv v2,kv v3,kv v4,kv v5,fun _=>rfl,kv v7,kv v8,kv v9,kv v10,kv v11,kv v12,kv v13,kv v15,hW.same (by decide) (by decide) (by decide)⟩
  ·obtain rfl:opb_7=o:=Option.some.inj ho
   obtain rfl:=v6 (depC_of (i:=7) rfl hdep (e:=6) rfl)
   obtain⟨c0,c1⟩:=hX w hlow
   refine wpOp_step (o:=opb_7) rfl (fun K hK=> ?_)
   unfold opb_7
   go_simp
   refine hK _ _ ?_
   exact⟨_,_,_,_,_,_,_,_,_,_,_,_,_,_,_,_,_,_,rfl,kv v0,kv v1,kv v2,kv v3,kv v4,kv v5,kv v6,fun _=>rfl,kv v8,kv v9,kv v10,kv v11,kv v12,kv v13,kv v15,hW.same (by decide) (by decide) (by decide)⟩
  ·obtain rfl:opb_8=o:=Option.some.inj ho
   refine wpOp_step (o:=opb_8) rfl (fun K hK=> ?_)
   unfold opb_8
   go_simp
   refine hK _ _ ?_
   exact⟨_,_,_,_,_,_,_,_,_,_,_,_,_,_,_,_,_,_,rfl,kv v0,kv v1,kv v2,kv v3,kv v4,kv v5,kv v6,kv v7,fun _=>rfl,kv v9,kv v10,kv v11,kv v12,kv v13,kv v15,hW.same (by decide) (by decide) (by decide)⟩
  ·obtain rfl:opb_9=o:=Option.some.inj ho
   obtain rfl:=v3 (depC_of (i:=9) rfl hdep (e:=3) rfl)
   obtain rfl:=v7 (depC_of (i:=9) rfl hdep (e:=7) rfl)
   obtain rfl:=v8 (depC_of (i:=9) rfl hdep (e:=8) rfl)
   have q1:(0:Int)≤(a:Int):=by omega
   have q2:(a:Int)≤(n:Int):=by omega
   have q5:(n:Int)≤(sB.size:Int):=by omega
   refine wpOp_step (o:=opb_9) rfl (fun K hK=> ?_)
   unfold opb_9
   go_simp
   refine hK _ _ ?_
   exact⟨_,_,_,_,_,_,_,_,_,_,_,_,_,_,_,_,_,_,rfl,kv v0,kv v1,kv v2,kv v3,kv v4,kv v5,kv v6,kv v7,kv v8,fun _=>rfl,kv v10,kv v11,kv v12,kv v13,kv v15,hW.same (by decide) (by decide) (by decide)⟩
  ·obtain rfl:opb_10=o:=Option.some.inj ho
   obtain rfl:=v9 (depC_of (i:=10) rfl hdep (e:=9) rfl)
   have n11:L.getD 11 false=false:=by
    cases hc:L.getD 11 false with
    |false=>rfl
    |true=>rw[cloC_dep hclo (e:=10) rfl hc]at hLi';cases hLi'
   have n12:L.getD 12 false=false:=by
    cases hc:L.getD 12 false with
    |false=>rfl
    |true=>rw[cloC_dep hclo (e:=11) rfl hc]at n11;cases n11
   have n13:L.getD 13 false=false:=by
    cases hc:L.getD 13 false with
    |false=>rfl
    |true=>rw[cloC_dep hclo (e:=11) rfl hc]at n11;cases n11
   have n15:L.getD 15 false=false:=by
    cases hc:L.getD 15 false with
    |false=>rfl
    |true=>rw[cloC_dep hclo (e:=12) rfl hc]at n12;cases n12
   refine wpOp_step (o:=opb_10) rfl (fun K hK=> ?_)
   unfold opb_10
   go_simp
   refine(hcall w hlow).mono ?_
   rintro e W' ⟨v,G',rfl,hg,hr⟩
   refine hK _ _ ?_
   exact⟨_,_,_,_,_,_,_,_,_,_,_,_,_,_,_,_,v,G',rfl,kv v0,kv v1,kv v2,kv v3,kv v4,kv v5,kv v6,kv v7,kv v8,kv v9,fun _=>rfl,fun h=>absurd ((getD_set h).resolve_left (by decide)) (by rw[n11];decide),fun h=>absurd ((getD_set h).resolve_left (by decide)) (by rw[n12];decide),fun h=>absurd ((getD_set h).resolve_left (by decide)) (by rw[n13];decide),fun h=>absurd ((getD_set h).resolve_left (by decide)) (by rw[n15];decide),hW.call hLi' h16 hg hr hs⟩
  ·obtain rfl:opb_11=o:=Option.some.inj ho
   obtain rfl:=v10 (depC_of (i:=11) rfl hdep (e:=10) rfl)
   refine wpOp_step (o:=opb_11) rfl (fun K hK=> ?_)
   unfold opb_11
   go_simp
   refine hK _ _ ?_
   exact⟨_,_,_,_,_,_,_,_,_,_,_,_,_,_,_,_,_,_,rfl,kv v0,kv v1,kv v2,kv v3,kv v4,kv v5,kv v6,kv v7,kv v8,kv v9,kv v10,fun _=>rfl,kv v12,kv v13,kv v15,hW.same (by decide) (by decide) (by decide)⟩
  ·obtain rfl:opb_12=o:=Option.some.inj ho
   obtain rfl:=v11 (depC_of (i:=12) rfl hdep (e:=11) rfl)
   refine wpOp_step (o:=opb_12) rfl (fun K hK=> ?_)
   unfold opb_12
   go_simp
   refine hK _ _ ?_
   exact⟨_,_,_,_,_,_,_,_,_,_,_,_,_,_,_,_,_,_,rfl,kv v0,kv v1,kv v2,kv v3,kv v4,kv v5,kv v6,kv v7,kv v8,kv v9,kv v10,kv v11,fun _=>rfl,kv v13,kv v15,hW.same (by decide) (by decide) (by decide)⟩
  ·obtain rfl:opb_13=o:=Option.some.inj ho
   obtain rfl:=v11 (depC_of (i:=13) rfl hdep (e:=11) rfl)
   refine wpOp_step (o:=opb_13) rfl (fun K hK=> ?_)
   unfold opb_13
   go_simp
   refine hK _ _ ?_
   exact⟨_,_,_,_,_,_,_,_,_,_,_,_,_,_,_,_,_,_,rfl,kv v0,kv v1,kv v2,kv v3,kv v4,kv v5,kv v6,kv v7,kv v8,kv v9,kv v10,kv v11,kv v12,fun _=>rfl,kv v15,hW.same (by decide) (by decide) (by decide)⟩
  ·obtain rfl:opb_14=o:=Option.some.inj ho
   refine wpOp_step (o:=opb_14) rfl (fun K hK=> ?_)
   unfold opb_14
   go_simp
   refine hK _ _ ?_
   exact⟨_,_,_,_,_,_,_,_,_,_,_,_,_,_,_,_,_,_,rfl,kv v0,kv v1,kv v2,kv v3,kv v4,kv v5,kv v6,kv v7,kv v8,kv v9,kv v10,kv v11,kv v12,kv v13,kv v15,hW.alloc ((Below.refl _ w).alloc (Nat.le_refl _) _) (World.alloc_heap_new w _) h16⟩
  ·obtain rfl:opb_15=o:=Option.some.inj ho
   obtain rfl:=v12 (depC_of (i:=15) rfl hdep (e:=12) rfl)
   refine wpOp_step (o:=opb_15) rfl (fun K hK=> ?_)
   unfold opb_15
   go_simp
   refine hK _ _ ?_
   exact⟨_,_,_,_,_,_,_,_,_,_,_,_,_,_,_,_,_,_,rfl,kv v0,kv v1,kv v2,kv v3,kv v4,kv v5,kv v6,kv v7,kv v8,kv v9,kv v10,kv v11,kv v12,kv v13,fun _=>rfl,hW.same (by decide) (by decide) (by decide)⟩
  ·obtain rfl:opb_16=o:=Option.some.inj ho
   obtain rfl:=v13 (depC_of (i:=16) rfl hdep (e:=13) rfl)
   obtain⟨E,rfl,hE,⟨c0,c1,hc⟩,him⟩:=hW.box (depC_of (i:=16) rfl hdep (e:=14) rfl)
   have e0:w.cell? ⟨E,0,none⟩=some c0:=by simp[World.cell?,hc]
   have f0:w.frozen? ⟨E,0,none⟩=false:=by simp[World.frozen?,hc]
   have k1:(w.setCell ⟨E,0,none⟩ (.int .i64 rc)).heap[E]? =some (.cells #[.int .i64 rc,c1] 31 (0,0)):=by
    simp only[World.setCell,Array.getElem?_modify]
    rw[if_pos trivial,hc]
    rfl
   have e1:(w.setCell ⟨E,0,none⟩ (.int .i64 rc)).cell? ⟨E,1,none⟩=some c1:=by simp[World.cell?,k1]
   have f1:(w.setCell ⟨E,0,none⟩ (.int .i64 rc)).frozen? ⟨E,1,none⟩=false:=by simp[World.frozen?,k1]
   refine wpOp_step (o:=opb_16) rfl (fun K hK=> ?_)
   unfold opb_16
   go_simp
   refine hK _ _ ?_
   exact⟨_,_,_,_,_,_,_,_,_,_,_,_,_,_,_,_,_,_,rfl,kv v0,kv v1,kv v2,kv v3,kv v4,kv v5,kv v6,kv v7,kv v8,kv v9,kv v10,kv v11,kv v12,kv v13,kv v15,hW.store rfl hE hc him (depC_of (i:=16) rfl hdep (e:=14) rfl) hs⟩
end Go.Proofs
set_option linter.unusedVariables false
namespace Go.Fw
open Go.RowKit
theorem hexRun_get:∀{l:Bs}{k:Nat},k<hexRun l→∃x,l[k]? =some x∧isHex x=true
 |[],k,h=>by simp[hexRun]at h
 |y::l,k,h=>by
  simp only[hexRun]at h
  cases hy:isHex y with
  |false=>rw[hy]at h;simp at h
  |true=>
   rw[hy]at h
   simp only[cond_true]at h
   cases k with
   |zero=>exact⟨y,rfl,hy⟩
   |succ k=>simpa using hexRun_get (l:=l) (k:=k) (by omega)
theorem hexRun_more:∀{l:Bs}{k:Nat}{x:UInt8},k≤hexRun l→l[k]? =some x→isHex x=true→k+1≤hexRun l
 |[],k,x,h,h2,_=>by simp at h2
 |y::l,k,x,h,h2,hx=>by
  simp only[hexRun]at h⊢
  cases k with
  |zero=>
   simp at h2;subst h2
   rw[hx];simp
  |succ k=>
   cases hy:isHex y with
   |false=>rw[hy]at h;simp at h
   |true=>
    rw[hy]at h
    simp only[cond_true]at h⊢
    have:=hexRun_more (l:=l) (k:=k) (x:=x) (by omega) (by simpa using h2) hx
    omega
theorem hexRun_stop:∀{l:Bs}{k:Nat}{x:UInt8},k≤hexRun l→l[k]? =some x→isHex x=false→hexRun l=k:=fun {l k x} h h2 hx=>by
 rcases Nat.lt_or_ge k (hexRun l) with h3|h3
 ·obtain⟨y,h4,h5⟩:=hexRun_get h3
  rw[h2]at h4;cases h4;rw[hx]at h5;cases h5
 ·omega
theorem imm_rdr{G:Gh}{w:World}{B a:Nat}{s:List UInt8}(h:ImmOk G w) (hB:Rdr w B s a) (hGB:∀o,G.imm B o=none) (a' :Nat):ImmOk G (w.setCell ⟨B,1,none⟩ (.int .i64 (a' :Int))):=by
 have k2:∀k,k≠B→(w.setCell ⟨B,1,none⟩ (.int .i64 (a' :Int))).heap[k]? =w.heap[k]? :=fun k hk=>Below.heap_setCell w ⟨B,1,none⟩ _ k hk
 refine⟨fun b o v hb=> ?_,fun b es hb=> ?_,fun b n hb=> ?_⟩
 ·by_cases e:b=B
  ·subst e;rw[hGB o]at hb;cases hb
  ·have:=h.imm b o v hb
   simp only[World.cell?,k2 b e]at this⊢
   exact this
 ·by_cases e:b=B
  ·subst e
   have:=(h.mimm b es hb).1
   rw[show w.heap[b]? =_ from hB]at this;cases this
  ·exact⟨(k2 b e).trans (h.mimm b es hb).1,(h.mimm b es hb).2⟩
 ·obtain⟨vs,et,f,h1,h2⟩:=h.siz b n hb
  by_cases e:b=B
  ·subst e
   rw[show w.heap[b]? =_ from hB]at h1
   cases h1
   exact⟨_,_,_,(RStep.set (a' :=a') hB).rdr,h2⟩
  ·exact⟨vs,et,f,(k2 b e).trans h1,h2⟩
end Go.Fw
namespace Go.Proofs
open Go.RowKit Go.Shelf Go.Fw
attribute [local go_sem] Oper.semAt_some
set_option maxRecDepth 100000 in
set_option maxHeartbeats 2000000 in
theorem Tryz.bytes_ok{G:Gh}(B a most:Nat) (s:List UInt8) (w:World) (hI:ImmOk G w) (hG:GlobOk Tryz.prog G w) (hGB:∀o,G.imm B o=none) (hB:Rdr w B s a) (hs:s.length<1000000) (ha:a≤s.length) (hm:most≤1000000):
 Calls Tryz.prog 79 #[.pointer (some ⟨B,0,none⟩),.int .i64 (most:Int)] w fun e w' =>∃v G',e= .returned (.tuple #[v,.bool (rdB s a most).1.2])∧RStep B s w w' (rdB s a most).2∧G.Le G'∧ImmOk G' w'∧(∀b o,b<w.heap.size→G'.imm b o=G.imm b o)∧(∀b,b<w.heap.size→G'.mimm b=G.mimm b)∧Rep G' (bytesD (rdB s a most).1.1) v:=by
 have c0:w.cell? ⟨B,0,none⟩=some (.string ⟨s.toArray⟩):=by simp[World.cell?,show w.heap[B]? =_ from hB]
 have c1:w.cell? ⟨B,1,none⟩=some (.int .i64 (a:Int)):=by simp[World.cell?,show w.heap[B]? =_ from hB]
 have f1:w.frozen? ⟨B,1,none⟩=false:=by simp[World.frozen?,show w.heap[B]? =_ from hB]
 go_enter Tryz.func79,Tryz.ntmps79
 go_upto_block 0 with fail
 go_cut [6] from 13 to 41 (fun s6 wx=>∃n:Nat,s6= .int .i64 (n:Int)∧n=a+min most (hexRun (s.drop a))∧Below w.heap.size w wx)
 case first=>
  go_wp2_with fail
  go_loopw [6] (fun ev wr=>∃n:Nat,ev= .int .i64 (n:Int)∧a≤n∧n≤s.length∧n-a≤most∧n-a≤hexRun (s.drop a)∧Below w.heap.size w wr) (fun ev _=>s.length-(RowKit.intOf ev).toNat)
  case atStart=>exact⟨a,rfl,Nat.le_refl _,ha,by omega,by omega,Below.refl _ _⟩
  case round=>
   obtain⟨n,rfl,h1,h2,h3,h4,hbr⟩:=hrel
   have hBr:wr.heap[B]? =_:=(hbr.block B (Array.getElem?_eq_some_iff.1 hB).1).trans hB
   have d0:wr.cell? ⟨B,0,none⟩=some (.string ⟨s.toArray⟩):=by simp[World.cell?,hBr]
   have d1:wr.cell? ⟨B,1,none⟩=some (.int .i64 (a:Int)):=by simp[World.cell?,hBr]
   by_cases hlt' :n<s.length
   ·have hlt:decide ((n:Int)<((⟨s.toArray⟩:ByteArray).size:Int))=true:=by
     rw[decide_eq_true_eq];show(n:Int)<(s.toArray.size:Int);rw[List.size_toArray];omega
    by_cases hmo:n-a<most
    ·have hmo' :decide ((n:Int)-(a:Int)<(most:Int))=true:=by rw[decide_eq_true_eq];omega
     have hget:Hid ((s.drop a)[n-a]? =some s[n]):=by
      show _=_
      rw[List.getElem?_drop,show a+(n-a)=n from by omega];exact List.getElem?_eq_getElem hlt'
     have hch:Hid (((⟨s.toArray⟩:ByteArray)[n]'(by show n<s.toArray.size;simpa using hlt'))=s[n]):=by show s.toArray[n]'_=_;simp
     go_wp2_with fail
     rw[hch.out]
     refine(Tryz.index_calls (imm_below hI hbr) (glob_below hG hbr) s[n]).mono ?_
     rintro e W1 ⟨rfl,hb1⟩
     have hbr1:=hbr.trans (hb1.mono hbr.size)
     cases hx:isHex s[n] with
     |true=>
      have hx1:decide (hv s[n]≥0)=true:=hx
      go_wp2_with fail
      go_roundw
      case rel=>exact⟨n+1,by go_num,by omega,by omega,by omega,by have:=hexRun_more h4 hget.out hx;omega,hbr1⟩
      case measure=>simp[RowKit.intOf];omega
     |false=>
      have hx1:decide (hv s[n]≥0)=false:=hx
      go_wp2_with fail
      go_meet
      case rel=>exact⟨n,rfl,by have:=hexRun_stop h4 hget.out hx;omega,hbr1⟩
    ·have hmo' :decide ((n:Int)-(a:Int)<(most:Int))=false:=by rw[decide_eq_false_iff_not];omega
     go_wp2_with fail
     go_meet
     case rel=>exact⟨n,rfl,by omega,hbr⟩
   ·have hlt:decide ((n:Int)<((⟨s.toArray⟩:ByteArray).size:Int))=false:=by
     rw[decide_eq_false_iff_not];show ¬(n:Int)<(s.toArray.size:Int);rw[List.size_toArray];omega
    go_wp2_with fail
    go_meet
    case rel=>
     have:=hexRun_le (s.drop a)
     rw[List.length_drop]at this
     exact⟨n,rfl,by omega,hbr⟩
 case rest=>
  obtain⟨n,rfl,hn,hbr⟩:=hcut
  have hBr:wc.heap[B]? =_:=(hbr.block B (Array.getElem?_eq_some_iff.1 hB).1).trans hB
  have d0:wc.cell? ⟨B,0,none⟩=some (.string ⟨s.toArray⟩):=by simp[World.cell?,hBr]
  have d1:wc.cell? ⟨B,1,none⟩=some (.int .i64 (a:Int)):=by simp[World.cell?,hBr]
  have g1:wc.frozen? ⟨B,1,none⟩=false:=by simp[World.frozen?,hBr]
  go_wp2_with fail
  have hn0:a≤n:=by omega
  have hn1:n≤s.length:=by have:=hexRun_le (s.drop a);rw[List.length_drop]at this;omega
  have q1:(0:Int)≤(a:Int):=by omega
  have q2:(a:Int)≤(n:Int):=by omega
  have q3:(n:Int)≤(s.length:Int):=by omega
  have q4:n≤(⟨s.toArray⟩:ByteArray).size:=by show n≤s.toArray.size;simpa using hn1
  have q5:(n:Int)≤((⟨s.toArray⟩:ByteArray).size:Int):=by omega
  have HN:Hid (n=a+min most (hexRun (s.drop a))):=hn
  clear hn
  obtain⟨x,hx⟩:∃x:Bs,(s.drop a).take (n-a)=x:=⟨_,rfl⟩
  have hxl:x.length<1000000:=by rw[←hx,List.length_take,List.length_drop];clear q4 q5;omega
  have hxs:(⟨s.toArray⟩:ByteArray).extract a n=⟨x.toArray⟩:=by
   apply ByteArray.ext
   apply Array.toList_inj.1
   rw[ByteArray.data_extract,Array.toList_extract,←hx]
  obtain⟨r,hr⟩:∃r,res1 (pr [] 0 x)=r:=⟨_,rfl⟩
  obtain⟨rl,rc,ro⟩:=r
  have hcall:∀W,Below wc.heap.size wc W→Calls Tryz.prog 11 #[.string ⟨x.toArray⟩] W fun e w' =>∃v G',e= .returned (.tuple #[v,.agg #[.int .i64 rc,.int .i64 ro]])∧Grow G G' W w'∧Rep G' (bytesD rl) v:=fun W hW=>by
   have h2:=hbr.trans (hW.mono hbr.size)
   have:=Tryz.parse_calls (imm_below hI h2) (glob_below hG h2) x hxl
   rw[hr]at this
   exact this
  have hX:∀W,Below wc.heap.size wc W→W.cell? ⟨B,0,none⟩=some (.string ⟨s.toArray⟩)∧W.cell? ⟨B,1,none⟩=some (.int .i64 (a:Int)):=fun W hW=>by
   have hb:=hbr.trans (hW.mono hbr.size)
   have hBW:W.heap[B]? =_:=(hb.block B (Array.getElem?_eq_some_iff.1 hB).1).trans hB
   exact⟨by simp[World.cell?,hBW],by simp[World.cell?,hBW]⟩
  go_upto_region 4 with fail
  refine Tryz.bytes_region (B:=B) (n:=n) (a:=a) (sB:=⟨s.toArray⟩) (x:=x) (rl:=rl) (rc:=rc) (ro:=ro) (G:=G) _ _ _ _ _ _ _ _ _ _ _ _ _ _ _ _ _ _ _ _ _ _ _ _ _ _ _ _ _ _ _ _ _ _ _ _ _ _ _ _ _ _ _ _ _ _ _ _ _ _ _ _ _ _ _ _ _ _ _ _ _ _ _ (hI:=imm_below hI hbr) (hX:=hX) (hext:=hxs) (han:=hn0) (hn:=q4) (hcall:=hcall) (hQ:= ?_)
  intro s7 s8 s42 s43 s44 s45 s46 s47 s48 s49 s50 s51 s52 s53 s54 s55 W' hW'
  obtain⟨G',E,rfl,hb1,hE,hEc,hrep,hle,him,hnew,hmnew⟩:=hW'
  have hb2:=hbr.trans (hb1.mono hbr.size)
  have hBW:W'.heap[B]? =_:=(hb2.block B (Array.getElem?_eq_some_iff.1 hB).1).trans hB
  have d0:W'.cell? ⟨B,0,none⟩=some (.string ⟨s.toArray⟩):=by simp[World.cell?,hBW]
  have d1:W'.cell? ⟨B,1,none⟩=some (.int .i64 (a:Int)):=by simp[World.cell?,hBW]
  have g1:W'.frozen? ⟨B,1,none⟩=false:=by simp[World.frozen?,hBW]
  have hEB:E≠B:=fun e=>by
   have:=(Array.getElem?_eq_some_iff.1 hB).1
   have:=hbr.size
   omega
  have k0:(W'.setCell ⟨B,1,none⟩ (.int .i64 (n:Int))).cell? ⟨E,0,none⟩=some (.int .i64 rc):=by
   simp[World.cell?,Below.heap_setCell W' ⟨B,1,none⟩ (.int .i64 (n:Int)) E hEB,hEc]
  go_upto_region 6 with fail
  go_quiet (fail)
  go_wp2_with fail
  have HN:=HN.out
  have e2:(rdB s a most).2=n:=by unfold rdB;exact HN.symm
  have e1:(rdB s a most).1=(rl,rc==0):=by
   have h1:min most (hexRun (s.drop a))=n-a:=by omega
   unfold rdB
   simp only[h1,hx]
   have hr2:=hr
   unfold res1 at hr2
   cases hp:pr [] 0 x with
   |inl i=>rw[hp]at hr2;simp only[Prod.mk.injEq]at hr2;obtain⟨rfl,rfl,rfl⟩:=hr2;rfl
   |inr l=>rw[hp]at hr2;simp only[Prod.mk.injEq]at hr2;obtain⟨rfl,rfl,rfl⟩:=hr2;rfl
  go_ret2
  refine⟨s7,G',?_,?_,hle,?_,fun b o hb=>hnew b o (Nat.lt_of_lt_of_le hb hbr.size),fun b hb=>hmnew b (Nat.lt_of_lt_of_le hb hbr.size),?_⟩
  ·rw[e1];rfl
  ·rw[e2]
   have r1:RStep B s w W' a:=⟨hb2.size,fun k hk _=>hb2.block k hk,hBW,hb2.os,hb2.tape,hb2.output⟩
   exact(r1.trans (RStep.set (a' :=n) r1.rdr)).trans (RStep.drew (RStep.set (a' :=n) r1.rdr).rdr nq)
  ·have r1:Rdr W' B s a:=hBW
   refine imm_below (imm_rdr him r1 (fun o=>(hnew B o (Nat.lt_of_lt_of_le (Array.getElem?_eq_some_iff.1 hB).1 hbr.size)).trans (hGB o)) n) ⟨rfl,rfl,rfl,?_,fun k _=> ?_⟩<;>simp
  ·rw[e1];exact hrep
end Go.Proofs
namespace Go.Fw
open Go.RowKit
theorem rstep_below{B a:Nat}{s:List UInt8}{w w' :World}(h:Below w.heap.size w w') (hB:Rdr w B s a):RStep B s w w' a:=
 ⟨h.size,fun k hk _=>h.block k hk,(h.block B (Array.getElem?_eq_some_iff.1 hB).1).trans hB,h.os,h.tape,h.output⟩
theorem glob_rstep{P:Program}{G:Gh}{w w' :World}{B a a' :Nat}{s:List UInt8}(h:GlobOk P G w) (hB:Rdr w B s a) (hr:RStep B s w w' a'):GlobOk P G w' :=by
 refine⟨fun g cs hg=>⟨Nat.lt_of_lt_of_le (h.1 g cs hg).1 hr.size,(h.1 g cs hg).2⟩,⟨fun g hg=> ?_⟩⟩
 obtain⟨t,f,h1⟩:=h.2.pow g hg
 have hlt:=(Array.getElem?_eq_some_iff.1 h1).1
 by_cases e:g=B
 ·subst e
  rw[show w.heap[g]? =_ from hB]at h1
  have h2:=congrArg (fun o:Option Obj=>match o with|some (.cells vs _ _)=>vs.size|_=>0) h1
  simp[Lib.pow10Tab]at h2
 ·exact⟨t,f,(hr.same g hlt e).trans h1⟩
theorem glob_le{P:Program}{G G' :Gh}{w:World}(h:GlobOk P G w) (hl:G.Le G'):GlobOk P G' w:=⟨fun g cs hg=>⟨(h.1 g cs hg).1,Rep.mono hl _ _ (h.1 g cs hg).2⟩,h.2⟩
def set5(w:World) (E:Nat) (c0 c1 c2 c3 c4:Value):World:=((((w.setCell ⟨E,0,none⟩ c0).setCell ⟨E,1,none⟩ c1).setCell ⟨E,2,none⟩ c2).setCell ⟨E,3,none⟩ c3).setCell ⟨E,4,none⟩ c4
theorem set5_ne(w:World) (E:Nat) (c0 c1 c2 c3 c4:Value) (k:Nat) (hk:k≠E):(set5 w E c0 c1 c2 c3 c4).heap[k]? =w.heap[k]? :=by
 unfold set5
 rw[Below.heap_setCell _ ⟨E,4,none⟩ _ k hk,Below.heap_setCell _ ⟨E,3,none⟩ _ k hk,Below.heap_setCell _ ⟨E,2,none⟩ _ k hk,Below.heap_setCell _ ⟨E,1,none⟩ _ k hk,Below.heap_setCell _ ⟨E,0,none⟩ _ k hk]
theorem set1_at{w:World}{E:Nat}{vs:Array Value}{t:TypeId}(h:w.heap[E]? =some (.cells vs t (0,0))) (i:Nat) (c:Value):(w.setCell ⟨E,i,none⟩ c).heap[E]? =some (.cells (vs.setIfInBounds i c) t (0,0)):=by
 simp only[World.setCell,Array.getElem?_modify]
 rw[if_pos trivial,h]
 rfl
theorem set5_at{w:World}{E:Nat}{x0 x1 x2 x3 x4:Value}{t:TypeId}(h:w.heap[E]? =some (.cells #[x0,x1,x2,x3,x4] t (0,0))) (c0 c1 c2 c3 c4:Value):(set5 w E c0 c1 c2 c3 c4).heap[E]? =some (.cells #[c0,c1,c2,c3,c4] t (0,0)):=
 set1_at (set1_at (set1_at (set1_at (set1_at h 0 c0) 1 c1) 2 c2) 3 c3) 4 c4
theorem set5_size(w:World) (E:Nat) (c0 c1 c2 c3 c4:Value):(set5 w E c0 c1 c2 c3 c4).heap.size=w.heap.size:=by simp[set5]
def Rest(w w' :World):Prop:=w'.os=w.os∧w'.tape=w.tape∧w'.output=w.output
theorem Rest.set(w:World) (p:Addr) (v:Value):Rest w (w.setCell p v):=⟨rfl,rfl,rfl⟩
theorem Rest.trans{a b c:World}(h:Rest a b) (k:Rest b c):Rest a c:=⟨k.1.trans h.1,k.2.1.trans h.2.1,k.2.2.trans h.2.2⟩
theorem set5_rest(w:World) (E:Nat) (c0 c1 c2 c3 c4:Value):Rest w (set5 w E c0 c1 c2 c3 c4):=by
 unfold set5
 exact(((((Rest.set w _ c0).trans (Rest.set _ _ c1)).trans (Rest.set _ _ c2)).trans (Rest.set _ _ c3)).trans (Rest.set _ _ c4))
theorem imm_one{G:Gh}{w w' :World}{E:Nat}{vs vs' :Array Value}{t t' :TypeId}{f f' :Nat×Nat}(h:ImmOk G w) (hE:∀o,G.imm E o=none) (h1:w.heap[E]? =some (.cells vs t f)) (h2:w'.heap[E]? =some (.cells vs' t' f')) (hs:vs'.size=vs.size) (hne:∀k,k≠E→w'.heap[k]? =w.heap[k]?):ImmOk G w' :=by
 refine⟨fun b o v hb=> ?_,fun b es hb=> ?_,fun b n hb=> ?_⟩
 ·by_cases e:b=E
  ·subst e;rw[hE o]at hb;cases hb
  ·have:=h.imm b o v hb
   simp only[World.cell?,hne b e]at this⊢
   exact this
 ·by_cases e:b=E
  ·subst e
   have:=(h.mimm b es hb).1
   rw[h1]at this;cases this
  ·exact⟨(hne b e).trans (h.mimm b es hb).1,(h.mimm b es hb).2⟩
 ·obtain⟨vs1,et,f1,h3,h4⟩:=h.siz b n hb
  by_cases e:b=E
  ·subst e
   rw[h1]at h3
   cases h3
   exact⟨_,_,_,h2,hs.trans h4⟩
  ·exact⟨vs1,et,f1,(hne b e).trans h3,h4⟩
theorem RStep.own{B a:Nat}{s:List UInt8}{w w1 w' :World}{E:Nat}(h:RStep B s w w1 a) (hE:w.heap.size≤E) (hB:B<w.heap.size) (hs:w'.heap.size=w1.heap.size) (hne:∀k,k≠E→w'.heap[k]? =w1.heap[k]?) (hk:Rest w1 w'):RStep B s w w' a:=
 ⟨by rw[hs];exact h.size,fun k hk hn=>(hne k (by omega)).trans (h.same k hk hn),(hne B (by omega)).trans h.rdr,hk.1.trans h.rest.1,hk.2.1.trans h.rest.2.1,hk.2.2.trans h.rest.2.2⟩
end Go.Fw
namespace Go.Proofs
open Go.RowKit Go.Shelf Go.Fw
attribute [local go_sem] Oper.semAt_some
def NodePost(G:Gh) (B:Nat) (s:List UInt8) (w:World) (r:(Fw.Node×Bool)×Nat) (e:Ending) (w' :World):Prop:=
 ∃v G',e= .returned (.tuple #[v,.bool r.1.2])∧RStep B s w w' r.2∧G.Le G'∧ImmOk G' w'∧(∀b o,b<w.heap.size→G'.imm b o=G.imm b o)∧(∀b,b<w.heap.size→G'.mimm b=G.mimm b)∧Rep G' (.agg (nodeCells r.1.1)) v
theorem node_end{G G1:Gh}{B E:Nat}{s:List UInt8}{w W1 W' :World}{r:(Fw.Node×Bool)×Nat}{x0 x1 x2 x3 x4 c0 c1 c2 c3 c4 v:Value}{nd:Fw.Node}{ok:Bool}{a1:Nat}(hE:w.heap.size≤E) (hB:B<w.heap.size) (hr:RStep B s w W1 a1) (him:ImmOk G1 W1) (hE1:W1.heap[E]? =some (.cells #[x0,x1,x2,x3,x4] 47 (0,0))) (hG1:∀o,G1.imm E o=none) (hle:G.Le G1) (hn:∀b o,b<w.heap.size→G1.imm b o=G.imm b o) (hm:∀b,b<w.heap.size→G1.mimm b=G.mimm b)
 (hrep:Reps G1 (nodeCells nd) [c0,c1,c2,c3,c4]) (HR:r=((nd,ok),a1)) (hW:W' =set5 W1 E c0 c1 c2 c3 c4) (hv:v= .agg #[c0,c1,c2,c3,c4]):NodePost G B s w r (.returned (.tuple #[v,.bool ok])) W' :=by
 subst HR hW hv
 exact⟨_,G1,rfl,hr.own hE hB (set5_size _ _ _ _ _ _ _) (fun k hk=>set5_ne _ _ _ _ _ _ _ k hk) (set5_rest _ _ _ _ _ _ _),hle,imm_one him hG1 hE1 (set5_at hE1 _ _ _ _ _) rfl (fun k hk=>set5_ne _ _ _ _ _ _ _ k hk),hn,hm,by simp only[Rep];exact⟨_,rfl,hrep⟩⟩
theorem Tryz.node_ret{Q:Ending→World→Prop}{a:Act}{W' :World}{E:Nat}{ok:Bool}{c0 c1 c2 c3 c4:Value}(h4:a.tmps.getD 4 undef= .pointer (some ⟨E,0,none⟩)) (h5:a.tmps.getD 5 undef= .bool ok) (hd:a.defers=[]) (hE:W'.heap[E]? =some (.cells #[c0,c1,c2,c3,c4] 47 (0,0)))
 (h:Q (.returned (.tuple #[.agg #[c0,c1,c2,c3,c4],.bool ok])) W'):bodyPost Tryz.prog Tryz.f42 Q .ret a W' :=by
 have x0:W'.cell? ⟨E,0,none⟩=some c0:=by simp[World.cell?,hE]
 have x1:W'.cell? ⟨E,1,none⟩=some c1:=by simp[World.cell?,hE]
 have x2:W'.cell? ⟨E,2,none⟩=some c2:=by simp[World.cell?,hE]
 have x3:W'.cell? ⟨E,3,none⟩=some c3:=by simp[World.cell?,hE]
 have x4:W'.cell? ⟨E,4,none⟩=some c4:=by simp[World.cell?,hE]
 rw[Array.getD_eq_getD_getElem?]at h4 h5
 refine bodyPost_ret (v:= .tuple #[.agg #[c0,c1,c2,c3,c4],.bool ok]) ?_ hd ?_
 ·simp[results,Tryz.results42,go_sem,h4,h5,x0,x1,x2,x3,x4]
 ·exact h
set_option maxRecDepth 100000 in
set_option maxHeartbeats 2000000 in
theorem Tryz.node_zero{G:Gh}(B a:Nat) (s:List UInt8) (w:World) (hI:ImmOk G w) (hG:GlobOk Tryz.prog G w) (hGB:∀o,G.imm B o=none) (hB:Rdr w B s a) (hs:s.length<1000000) (ha:a≤s.length):
 Calls Tryz.prog 42 #[.pointer (some ⟨B,0,none⟩),.int .i64 ((0:Nat):Int)] w (NodePost G B s w (rdN s 0 a)):=by
 go_enter Tryz.func42,Tryz.ntmps42
 go_wp2_with fail
 have hb0:Below w.heap.size w (w.alloc (Obj.cells #[Value.int IntKind.i64 0,Value.int IntKind.i64 0,Value.bool false,Value.slice none 0 0,Value.slice none 0 0] 47)):=(Below.refl _ w).alloc (Nat.le_refl _) _
 have hB0:=(rstep_below hb0 hB).rdr
 refine(Tryz.bytes_ok B a 2 s _ (imm_below hI hb0) (glob_below hG hb0) hGB hB0 hs ha (by decide)).mono ?_
 rintro e W1 ⟨v,G1,rfl,hr1,hle1,him1,hn1,hm1,hrep1⟩
 have hE1:W1.heap[w.heap.size]? =some (Obj.cells #[Value.int IntKind.i64 0,Value.int IntKind.i64 0,Value.bool false,Value.slice none 0 0,Value.slice none 0 0] 47):=by
  have hlt:=(Array.getElem?_eq_some_iff.1 hB).1
  exact(hr1.same w.heap.size (by simp) (by omega)).trans (World.alloc_heap_new w _)
 have x0:W1.cell? ⟨w.heap.size,0,none⟩=some (.int .i64 0):=by simp[World.cell?,hE1]
 have x1:W1.cell? ⟨w.heap.size,1,none⟩=some (.int .i64 0):=by simp[World.cell?,hE1]
 have x2:W1.cell? ⟨w.heap.size,2,none⟩=some (.bool false):=by simp[World.cell?,hE1]
 have x3:W1.cell? ⟨w.heap.size,3,none⟩=some (.slice none 0 0):=by simp[World.cell?,hE1]
 have x4:W1.cell? ⟨w.heap.size,4,none⟩=some (.slice none 0 0):=by simp[World.cell?,hE1]
 have y0:W1.frozen? ⟨w.heap.size,0,none⟩=false:=by simp[World.frozen?,hE1]
 have y1:W1.frozen? ⟨w.heap.size,1,none⟩=false:=by simp[World.frozen?,hE1]
 have y2:W1.frozen? ⟨w.heap.size,2,none⟩=false:=by simp[World.frozen?,hE1]
 have y3:W1.frozen? ⟨w.heap.size,3,none⟩=false:=by simp[World.frozen?,hE1]
 have y4:W1.frozen? ⟨w.heap.size,4,none⟩=false:=by simp[World.frozen?,hE1]
 obtain⟨⟨⟨m,ok⟩,a1⟩,hr⟩:∃r,rdB s a 2=r:=⟨_,rfl⟩
 rw[hr]at hr1 hrep1
 rw[hr]
 simp only[bytesD,Rep]at hrep1
 obtain⟨av,cap,rfl,hc1,hc2,-,hcells⟩:=hrep1
 dsimp only at hr1 hc1⊢
 have hid:Hid (rdB s a 2=((m,ok),a1)):=hr
 clear hr
 have hBl:=(Array.getElem?_eq_some_iff.1 hB).1
 have hn0:Hid (∀b o,b<w.heap.size→G1.imm b o=G.imm b o):=fun b o hb=>hn1 b o (by simp;omega)
 have hm0:Hid (∀b,b<w.heap.size→G1.mimm b=G.mimm b):=fun b hb=>hm1 b (by simp;omega)
 have hE0:Hid (∀o,G1.imm w.heap.size o=none):=fun o=>(hn1 w.heap.size o (by simp)).trans (hI.out (Nat.le_refl _))
 have hr0:Hid (RStep B s w W1 a1):=(rstep_below hb0 hB).trans hr1
 clear hn1 hm1 hr1
 have nil:Reps G1 (nodeCells nd0') [.int .i64 0,.int .i64 0,.bool false,.slice none 0 0,.slice none 0 0]:=by
  simp only[nd0',nodeCells,nodesFlat,bytesD,Reps,Rep]
  exact⟨_,_,rfl,rfl,_,_,rfl,rfl,_,_,rfl,rfl,_,_,rfl,⟨none,0,rfl,Nat.le_refl _,by decide,by simp,.inr rfl⟩,_,_,rfl,⟨none,0,rfl,Nat.le_refl _,by decide,by simp,.inr trivial⟩,rfl⟩
 have HR:Hid (rdN s 0 a=((nd0',false),a1)):=by
  show rdN s 0 a=_
  unfold rdN
  rw[hid.out]
 cases ok with
 |false=>
  go_wp2_with fail
  refine Tryz.node_ret rfl rfl rfl (set5_at hE1 _ _ _ _ _) ?_
  exact node_end (E:=w.heap.size) (Nat.le_refl _) hBl hr0.out him1 hE1 hE0.out hle1 hn0.out hm0.out nil HR.out rfl rfl
 |true=>
  by_cases hm:m.length=1
  ·have hm' :((m.length:Int)==1)=true:=by simp[hm]
   go_wp2_with fail
   refine Tryz.node_ret rfl rfl rfl (set5_at hE1 _ _ _ _ _) ?_
   exact node_end (E:=w.heap.size) (Nat.le_refl _) hBl hr0.out him1 hE1 hE0.out hle1 hn0.out hm0.out nil HR.out rfl rfl
  ·have hm' :((m.length:Int)==1)=false:=by simp;omega
   go_wp2_with fail
   refine Tryz.node_ret rfl rfl rfl (set5_at hE1 _ _ _ _ _) ?_
   exact node_end (E:=w.heap.size) (Nat.le_refl _) hBl hr0.out him1 hE1 hE0.out hle1 hn0.out hm0.out nil HR.out rfl rfl
end Go.Proofs
namespace Go.Fw
open Go.RowKit
theorem rd_bits_all:((List.range 256).all fun n=>decide (bits BinOp.and IntKind.u8 (n:Int) 31=((n % 32:Nat):Int))&&((bits BinOp.and IntKind.u8 (n:Int) 32 !=0)==decide (n / 32 % 2=1))&&decide (wrap64 ((n:Int) / 64)=((n / 64:Nat):Int))&&decide (wrap64 ((n % 32:Nat):Int)=((n % 32:Nat):Int)))=true:=by kernel_rfl
theorem rd_bits(x:UInt8):bits BinOp.and IntKind.u8 (x.toNat:Int) 31=((x.toNat % 32:Nat):Int)∧(bits BinOp.and IntKind.u8 (x.toNat:Int) 32 !=0)=decide (x.toNat / 32 % 2=1)∧wrap64 ((x.toNat:Int) / 64)=((x.toNat / 64:Nat):Int)∧wrap64 ((x.toNat % 32:Nat):Int)=((x.toNat % 32:Nat):Int):=by
 have h:=List.all_eq_true.1 rd_bits_all x.toNat (List.mem_range.2 x.toNat_lt)
 simp only[Bool.and_eq_true,decide_eq_true_eq,beq_iff_eq]at h
 exact⟨h.1.1.1,h.1.1.2,h.1.2,h.2⟩
end Go.Fw
namespace Go.Proofs
open Go.RowKit Go.Shelf Go.Fw
attribute [local go_sem] Oper.semAt_some
set_option maxRecDepth 100000 in
set_option maxHeartbeats 2000000 in
theorem Tryz.rdid_ok(x:UInt8) (w:World):Calls Tryz.prog 80 #[.int .u8 (x.toNat:Int)] w fun e w' =>e= .returned (.tuple #[.int .i64 (rdI x).1.1,.bool (rdI x).1.2.1,.int .i64 (rdI x).1.2.2,.int .i64 (bif (rdI x).2 then 0 else 3)])∧w' =w:=by
 have hb:Hid (bits BinOp.and IntKind.u8 (x.toNat:Int) 31=((x.toNat % 32:Nat):Int)∧(bits BinOp.and IntKind.u8 (x.toNat:Int) 32 !=0)=decide (x.toNat / 32 % 2=1)∧wrap64 ((x.toNat:Int) / 64)=((x.toNat / 64:Nat):Int)∧wrap64 ((x.toNat % 32:Nat):Int)=((x.toNat % 32:Nat):Int)):=rd_bits x
 go_enter Tryz.func80,Tryz.ntmps80
 go_wp2_with fail
 ·rename_i h
  obtain⟨h1,h2,h3,h4⟩:=hb.out
  rw[h1]at h
  have h:x.toNat % 32=31:=by have:=eq_of_beq h;omega
  have e:rdI x=((0,false,0),false):=by unfold rdI;rw[if_pos h]
  refine bodyPost_ret (v:= .tuple #[.int .i64 0,.bool false,.int .i64 0,.int .i64 3]) (by simp[results,Tryz.results80,go_sem]) rfl ?_
  rw[e]
  exact⟨rfl,rfl⟩
 ·rename_i h
  obtain⟨h1,h2,h3,h4⟩:=hb.out
  rw[h1]at h
  have h:¬x.toNat % 32=31:=by
   intro e
   rw[e]at h
   exact absurd h (by decide)
  have e:rdI x=((((x.toNat / 64:Nat):Int),decide (x.toNat / 32 % 2=1),((x.toNat % 32:Nat):Int)),true):=by unfold rdI;rw[if_neg h]
  refine bodyPost_ret (v:= .tuple #[.int .i64 ((x.toNat / 64:Nat):Int),.bool (decide (x.toNat / 32 % 2=1)),.int .i64 ((x.toNat % 32:Nat):Int),.int .i64 0]) (by rw[h1,h2,h3,h4];simp[results,Tryz.results80,go_sem]) rfl ?_
  rw[e]
  exact⟨rfl,rfl⟩
end Go.Proofs
namespace Go.Fw
open Go.RowKit
def frzG(Gi:Gh) (w:World) (g:Nat):Gh:={Gi with imm:=fun b o=>if b=g then w.cell? ⟨g,o,none⟩ else Gi.imm b o}
theorem frzG_le{Gi:Gh}{w:World}{g:Nat}(h:∀o,Gi.imm g o=none):Gi.Le (frzG Gi w g):=by
 refine⟨fun b o v hb=> ?_,fun _ _ h=>h,fun _ _ _ h=>h,fun _ _ h=>h⟩
 by_cases e:b=g
 ·subst e;rw[h o]at hb;cases hb
 ·show(if b=g then _ else _)=_
  rw[if_neg e];exact hb
theorem frz_cells{Gi:Gh}{w:World}{g:Nat}(h:∀o,Gi.imm g o=none):∀(ds:List D) (xs:List Value) (o:Nat),Reps Gi ds xs→(∀j x,xs[j]? =some x→w.cell? ⟨g,o+j,none⟩=some x)→Cells (frzG Gi w g) g o ds
 |[],_,_,_,_=>by simp only[Cells]
 |d::ds,xs,o,hr,hc=>by
  simp only[Reps]at hr
  obtain⟨v,r,rfl,h1,h2⟩:=hr
  simp only[Cells]
  refine⟨⟨v,?_,Rep.mono (frzG_le h) _ _ h1⟩,frz_cells h ds r (o+1) h2 fun j x hj=> ?_⟩
  ·show(if g=g then _ else _)=_
   rw[if_pos rfl]
   exact hc 0 v rfl
  ·have:=hc (j+1) x (by simpa using hj)
   rwa[show o+(j+1)=o+1+j from by omega]at this
theorem frz_row{Gi:Gh}{w:World}{n₀ n sz:Nat}{t:TypeId}{kv:Value}{xs:List Value}{ds:List D}(hrow:w.ownsRow n₀ t sz kv n xs) (him:ImmOk Gi w) (hgi:∀g n cap,kv= .slice (some ⟨g,0,none⟩) n cap→∀o,Gi.imm g o=none) (hxs:Reps Gi ds xs):
 ∃G',Gi.Le G'∧ImmOk G' w∧(∀b o,b<n₀→G'.imm b o=Gi.imm b o)∧(∀b,G'.mimm b=Gi.mimm b)∧Rep G' (.list ds n false) kv:=by
 obtain⟨hlen,⟨rfl,rfl⟩|⟨g,cap,cur,rfl,hg,hh,h1,h2,h3,h4⟩⟩:=hrow
 ·rw[Nat.zero_mul]at hlen
  have:xs=[]:=List.eq_nil_of_length_eq_zero hlen
  subst this
  refine⟨Gi,Gh.Le.refl _,him,fun _ _ _=>rfl,fun _=>rfl,?_⟩
  cases ds with
  |nil=>
   simp only[Rep]
   exact⟨none,0,rfl,Nat.le_refl _,by decide,by simp,.inr trivial⟩
  |cons d ds=>simp only[Reps]at hxs;obtain⟨_,_,h,_⟩:=hxs;cases h
 ·have hn:=hgi g n cap rfl
  refine⟨frzG Gi w g,frzG_le hn,⟨fun b o v hb=> ?_,fun b es hb=>him.mimm b es hb,fun b n hb=>him.siz b n hb⟩,fun b o hb=> ?_,fun _=>rfl,?_⟩
  ·by_cases e:b=g
   ·subst e
    have hb:(if b=b then w.cell? ⟨b,o,none⟩ else _)=some v:=hb
    rwa[if_pos rfl]at hb
   ·have hb:(if b=g then w.cell? ⟨g,o,none⟩ else Gi.imm b o)=some v:=hb
    rw[if_neg e]at hb
    exact him.imm b o v hb
  ·show(if b=g then _ else _)=_
   rw[if_neg (by omega)]
  ·simp only[Rep]
   refine⟨_,cap,rfl,h1,Nat.le_trans h2 (by decide),by simp,.inl ⟨g,0,rfl,frz_cells hn ds xs 0 hxs fun j x hj=> ?_⟩⟩
   rw[←h4,List.getElem?_take]at hj
   split at hj
   ·have hj:cur[j]? =some x:=by simpa using hj
    simp[World.cell?,hh,hj]
   ·cases hj
end Go.Fw
namespace Go
section
variable {P:Program}(w:World)
theorem run_append_row(base:Nat) (t ty e:TypeId) (i:TypeInfo) (z:Value) (size bytes:Nat) (ht:P.underlying t=some (.slice e)) (hi:P.info? e=some i) (hz:i.zero=some z)
 (hsize:i.size=size) (hby:i.bytes=bytes) (hzs:z.cells.size=size) (hsz:0<size)
 (v:Value) (n:Nat) (xs:List Value) (hown:w.ownsRow base e size v n xs)
 (a:Addr) (m c:Nat) (news:List Value) (hl:news.length=m*size) (hnews:∀j u,news[j]? =some u→w.cell? (a.add j)=some u) (h1:∀u ∈ news,u.oneCell' =true)
 (h63:n+m≤maxLen) (hbytes:(n+m)*bytes≤140737488355328) (hbase:base≤w.heap.size):
 ∃v' w',(Builtin.append_ #[t,t] ty #[v,.slice (some a) m c]).run P w= .ok v' w'∧w'.ownsRow base e size v' (n+m) (xs++news)∧w.grownBy w' v.ownBlock∧
  (v'.ownBlock=v.ownBlock∨v'.ownBlock=some w.heap.size)∧
  (∀g,v.ownBlock=some g→∃cur cur' :Array Value,w.heap[g]? =some (.cells cur e (0,0))∧w'.heap[g]? =some (.cells cur' e (0,0))∧cur'.size=cur.size):=by
 obtain⟨v',w',hr,k1,k2,k3,k4⟩:=run_append_own_at (P:=P) w base t ty e i z size bytes ht hi hz hsize hby hzs hsz v n xs hown a m c news hl hnews h1 h63 hbytes hbase
 refine⟨v',w',hr,k1,k2,k4,fun g hg=> ?_⟩
 subst hsize
 subst hby
 have hsmall:n+m≤9223372036854775807:=by simp only[maxLen]at h63;omega
 rcases hown.2 with⟨rfl,rfl⟩|⟨g',cap,cur,rfl,hbg,hgh,hnc,hcm,hcs,htake⟩
 ·simp[Value.ownBlock]at hg
 ·obtain rfl:g' =g:=by simpa[Value.ownBlock] using hg
  by_cases hroom:n+m≤cap
  ·have hfit:n*i.size+news.length≤cur.size:=by rw[hl,hcs,←Nat.add_mul];exact Nat.mul_le_mul_right _ hroom
   have hr' :=run_append_room (P:=P) w t ty e i ht hi g' n cap cur hgh a m c news hl hnews h1 hroom hfit
   rw[hr]at hr'
   cases hr'
   refine⟨cur,_,hgh,setRow_heap w g' cur _ e _ hgh,?_⟩
   simp only[List.size_toArray,List.length_append,List.length_take,List.length_drop,Array.length_toList]
   omega
  ·have holds:∀j u,xs[j]? =some u→w.cell? ((⟨g',0,none⟩:Addr).add j)=some u:=hown.cells (g:=g') rfl
   have hr' :=run_append_grow (P:=P) w t ty e i z ht hi hz ⟨g',0,none⟩ n cap xs hown.1 holds a m c news hl hnews (by omega) (by omega) (growslice_fits (by omega) hbytes)
   rw[hr]at hr'
   cases hr'
   exact⟨cur,cur,hgh,Eq.trans (by first|exact heap_alloc_old w.drew _ g' (Array.getElem?_eq_some_iff.1 hgh).1|exact heap_alloc_old w.drew _ (Array.getElem?_eq_some_iff.1 hgh).1) hgh,rfl⟩
theorem wpList_append_row{ops:Array Oper}{rest:List Oper}{o:Oper}{a:Act}{Q:Exit→Act→World→Prop}(hgd:o.guard=none) (s x:Operand) (t:TypeId)
 (ho:o.op= .call {callee:= .builtin .append,args:= #[s,x],argTypes:= #[t,t]})
 (base:Nat) (e:TypeId) (i:TypeInfo) (z:Value) (size bytes:Nat) (ht:P.underlying t=some (.slice e)) (hi:P.info? e=some i) (hz:i.zero=some z)
 (hsize:i.size=size) (hby:i.bytes=bytes) (hzs:z.cells.size=size) (hsz:0<size)
 (v:Value) (n:Nat) (xs:List Value) (hs:a.eval s=v) (hown:w.ownsRow base e size v n xs)
 (ad:Addr) (m c:Nat) (news:List Value) (hx:a.eval x= .slice (some ad) m c) (hl:news.length=m*size) (hnews:∀j u,news[j]? =some u→w.cell? (ad.add j)=some u) (h1:∀u ∈ news,u.oneCell' =true)
 (h63:n+m≤maxLen) (hbytes:(n+m)*bytes≤140737488355328) (hbase:base≤w.heap.size)
 (h:∀v' w',w'.ownsRow base e size v' (n+m) (xs++news)→w.grownBy w' v.ownBlock→(v'.ownBlock=v.ownBlock∨v'.ownBlock=some w.heap.size)→
   (∀g,v.ownBlock=some g→∃cur cur' :Array Value,w.heap[g]? =some (.cells cur e (0,0))∧w'.heap[g]? =some (.cells cur' e (0,0))∧cur'.size=cur.size)→wpList P ops Q rest (a.put o.dst v') w'):
 wpList P ops Q (o::rest) a w:=by
 refine wpList_plain hgd fun K hK=> ?_
 obtain⟨v',w',hr,h2,h3,h4,h5⟩:=run_append_row (P:=P) w base t o.type e i z size bytes ht hi hz hsize hby hzs hsz v n xs hown ad m c news hl hnews h1 h63 hbytes hbase
 unfold Oper.wp execOp
 simp only[ho,resolve,invoke,builtin,Sem.run_bind,Sem.run_pure,Result.andThen_ok,List.map_toArray,List.map_cons,List.map_nil,hs,hx,hr]
 exact hK _ _ (h v' w' h2 h3 h4 h5)
end
end Go
namespace Go.Fw
open Go.RowKit
theorem reps_app{G:Gh}:∀{ds es:List D}{xs ys:List Value},Reps G ds xs→Reps G es ys→Reps G (ds++es) (xs++ys)
 |[],es,xs,ys,h1,h2=>by simp only[Reps]at h1;subst h1;exact h2
 |d::ds,es,xs,ys,h1,h2=>by
  simp only[Reps]at h1
  obtain⟨v,r,rfl,h3,h4⟩:=h1
  simp only[List.cons_append,Reps]
  exact⟨v,_,rfl,h3,reps_app h4 h2⟩
theorem nodesFlat_app:∀(ks:List Node) (n:Node),nodesFlat (ks++[n])=nodesFlat ks++nodeCells n
 |[],n=>by simp[nodesFlat]
 |k::ks,n=>by simp[nodesFlat,nodesFlat_app ks n]
theorem imm_grown{G:Gh}{w w' :World}{e:TypeId}{row:Option Nat}(h:ImmOk G w) (hg:w.grownBy w' row) (hn:∀g,row=some g→∀o,G.imm g o=none)
 (hz:∀g,row=some g→∃cur cur' :Array Value,w.heap[g]? =some (.cells cur e (0,0))∧w'.heap[g]? =some (.cells cur' e (0,0))∧cur'.size=cur.size):ImmOk G w' :=by
 refine⟨fun b o v hb=> ?_,fun b es hb=> ?_,fun b n hb=> ?_⟩
 ·have h1:=h.imm b o v hb
  have hne:some b≠row:=fun e=>by rw[hn b e.symm o]at hb;cases hb
  have h2:=hg.block b (lt_of_cell h1) hne
  simp only[World.cell?,h2]at h1⊢
  exact h1
 ·have h1:=h.mimm b es hb
  have hne:some b≠row:=fun e=>by
   obtain⟨cur,cur',h2,-⟩:=hz b e.symm
   have:=h1.1
   rw[h2]at this;cases this
  exact⟨(hg.block b (Array.getElem?_eq_some_iff.1 h1.1).1 hne).trans h1.1,h1.2⟩
 ·obtain⟨vs,et,f,h1,h2⟩:=h.siz b n hb
  by_cases hne:some b=row
  ·obtain⟨cur,cur',h3,h4,h5⟩:=hz b hne.symm
   rw[h3]at h1
   cases h1
   exact⟨_,_,_,h4,h5.trans h2⟩
  ·exact⟨vs,et,f,(hg.block b (Array.getElem?_eq_some_iff.1 h1).1 hne).trans h1,h2⟩
theorem node_round{G:Gh}{s:List UInt8}{B F E n a5:Nat}{w V3 w1:World}{c0 c1 c2 c3 kv kv2 v' :Value}{E0:Obj}{xs news:List Value}{ob:Obj}
 (hBl:B<w.heap.size) (hE:w.heap.size≤E) (hEF:E<F) (hr3:RStep B s w V3 a5) (hE3:V3.heap[E]? =some E0) (hF3:V3.heap[F]? =some (.cells #[c0,c1,c2,c3,kv2] 47 (0,0)))
 (hrow:V3.ownsRow (F+1) 47 5 kv n xs) (him:ImmOk G V3) (hgi:∀g n cap,kv= .slice (some ⟨g,0,none⟩) n cap→∀o,G.imm g o=none) (hFi:∀o,G.imm F o=none)
 (hown:w1.ownsRow (F+1) 47 5 v' (n+1) (xs++news)) (hg:(V3.alloc ob).grownBy w1 kv.ownBlock) (hat:v'.ownBlock=kv.ownBlock∨v'.ownBlock=some (V3.heap.size+1))
 (hz' :∀g,kv.ownBlock=some g→∃cur:Array Value,(V3.alloc ob).heap[g]? =some (.cells cur 47 (0,0))∧∃cur' :Array Value,w1.heap[g]? =some (.cells cur' 47 (0,0))∧cur'.size=cur.size):
 w1.heap[F]? =some (.cells #[c0,c1,c2,c3,kv2] 47 (0,0))∧
 RStep B s w (w1.setCell ⟨F,4,none⟩ v') a5∧(w1.setCell ⟨F,4,none⟩ v').heap[E]? =some E0∧(w1.setCell ⟨F,4,none⟩ v').heap[F]? =some (.cells #[c0,c1,c2,c3,v'] 47 (0,0))∧
  (w1.setCell ⟨F,4,none⟩ v').ownsRow (F+1) 47 5 v' (n+1) (xs++news)∧ImmOk G (w1.setCell ⟨F,4,none⟩ v')∧(∀g n cap,v' = .slice (some ⟨g,0,none⟩) n cap→∀o,G.imm g o=none):=by
 have hz:∀g,kv.ownBlock=some g→∃cur cur' :Array Value,(V3.alloc ob).heap[g]? =some (.cells cur 47 (0,0))∧w1.heap[g]? =some (.cells cur' 47 (0,0))∧cur'.size=cur.size:=fun g h=>by
  obtain⟨cur,h1,cur',h2,h3⟩:=hz' g h
  exact⟨cur,cur',h1,h2,h3⟩
 have hb:Below V3.heap.size V3 (V3.alloc ob):=(Below.refl _ V3).alloc (Nat.le_refl _) _
 have hlow:∀g,kv.ownBlock=some g→F<g:=fun g h=>by have:=(hrow.lt g h).1;omega
 have hkeep:∀k,k<V3.heap.size→k≤F→w1.heap[k]? =V3.heap[k]? :=fun k hk hkF=>
  (hg.block k (Nat.lt_of_lt_of_le hk hb.size) (fun e=>by have:=hlow k e.symm;omega)).trans (hb.block k hk)
 have hFl:=(Array.getElem?_eq_some_iff.1 hF3).1
 have hEl:=(Array.getElem?_eq_some_iff.1 hE3).1
 have hF1:w1.heap[F]? =some (.cells #[c0,c1,c2,c3,kv2] 47 (0,0)):=(hkeep F hFl (Nat.le_refl _)).trans hF3
 have hset:=fun k (hk:k≠F)=>Below.heap_setCell w1 ⟨F,4,none⟩ v' k hk
 have hs1:w.heap.size≤w1.heap.size:=Nat.le_trans hr3.size (Nat.le_trans hb.size hg.size)
 have hF2:(w1.setCell ⟨F,4,none⟩ v').heap[F]? =some (.cells #[c0,c1,c2,c3,v'] 47 (0,0)):=set1_at hF1 4 v'
 have him1:ImmOk G w1:=imm_grown (imm_below him hb) hg (fun g h=>by
  cases kv<;>simp only[Value.ownBlock]at h<;>try (cases h;done)
  rename_i A n' cap
  cases A with
  |none=>simp[Value.ownBlock]at h
  |some ad=>
   rcases hrow.2 with⟨h1,-⟩|⟨g',cap',cur,h1,-⟩
   ·cases h1
   ·cases h1
    cases h
    exact hgi _ _ _ rfl) hz
 refine⟨hF1,⟨by simpa using hs1,fun k hk hn=> ?_,?_,hg.os.trans hr3.rest.1,hg.tape.trans hr3.rest.2.1,hg.output.trans hr3.rest.2.2⟩,?_,hF2,?_,imm_one him1 hFi hF1 hF2 rfl hset,?_⟩
 ·rw[hset k (by omega),hkeep k (Nat.lt_of_lt_of_le hk hr3.size) (by omega)]
  exact hr3.same k hk hn
 ·have h1:=hr3.rdr
  show(w1.setCell ⟨F,4,none⟩ v').heap[B]? =_
  rw[hset B (by omega),hkeep B (Nat.lt_of_lt_of_le hBl hr3.size) (by omega)]
  exact h1
 ·rw[hset E (by omega),hkeep E hEl (by omega)]
  exact hE3
 ·refine⟨hown.1,hown.2.imp id ?_⟩
  rintro⟨g,cap,cur,e1,e2,e3,e4⟩
  exact⟨g,cap,cur,e1,e2,(hset g (by omega)).trans e3,e4⟩
 ·rintro g n' cap rfl o
  rcases hat with h|h
  ·rcases hrow.2 with⟨rfl,-⟩|⟨g',cap',cur,rfl,-⟩
   ·simp[Value.ownBlock]at h
   ·obtain rfl:g=g' :=by simpa[Value.ownBlock] using h
    exact hgi _ _ _ rfl o
  ·obtain rfl:g=V3.heap.size+1:=by simpa[Value.ownBlock] using h
   exact him.out (Nat.le_succ _)
end Go.Fw
namespace Go.Proofs
open Go.RowKit Go.Shelf Go.Fw
theorem Tryz.info47:(Tryz.prog.info? 47).map (fun i=>(i.zero,i.size,i.bytes))=some (some (.agg #[.int .i64 0,.int .i64 0,.bool false,.slice none 0 0,.slice none 0 0]),5,72):=by kernel_rfl
theorem Tryz.und45:Tryz.prog.underlying 45=some (.slice 47):=by kernel_rfl
end Go.Proofs
