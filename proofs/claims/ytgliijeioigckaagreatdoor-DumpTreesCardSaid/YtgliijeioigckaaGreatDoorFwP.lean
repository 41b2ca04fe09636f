/- A framework for proofs about Go programs in this model: part P. Everything is proved; no condition is added. -/
import Derived.Test.YtgliijeioigckaaGreatDoorFwO
import Derived.Test.YtgliijeioigckaaGreatDoorFwN
set_option linter.unusedVariables false
set_option linter.unusedSimpArgs false
namespace Go.Proofs
open Go.RowKit Go.Shelf Go.Fw
attribute [local go_sem] Oper.semAt_some
theorem bx5{w:World}{E:Nat}{t:TypeId}{c0 c1 c2 c3 c4:Value}(hE:w.heap[E]? =some (.cells #[c0,c1,c2,c3,c4] t (0,0))):
 (w.cell? ⟨E,0,none⟩=some c0∧w.cell? ⟨E,1,none⟩=some c1∧w.cell? ⟨E,2,none⟩=some c2∧w.cell? ⟨E,3,none⟩=some c3∧w.cell? ⟨E,4,none⟩=some c4)∧
 (w.frozen? ⟨E,0,none⟩=false∧w.frozen? ⟨E,1,none⟩=false∧w.frozen? ⟨E,2,none⟩=false∧w.frozen? ⟨E,3,none⟩=false∧w.frozen? ⟨E,4,none⟩=false):=by
 refine⟨⟨?_,?_,?_,?_,?_⟩,⟨?_,?_,?_,?_,?_⟩⟩<;>simp[World.cell?,World.frozen?,hE]
theorem nil_list(G:Gh) (ds:List D) (h:ds=[]):Rep G (.list ds 0 false) (.slice none 0 0):=by
 subst h
 simp only[Rep]
 exact⟨none,0,rfl,Nat.le_refl _,by decide,by simp,.inr trivial⟩
theorem mk_reps{G:Gh}{c num:Int}{kk:Bool}{b:List UInt8}{ks:List Fw.Node}{bv kv:Value}(hb:Rep G (bytesD b) bv) (hk:Rep G (.list (nodesFlat ks) ks.length false) kv):Reps G (nodeCells (.mk c num kk b ks)) [.int .i64 c,.int .i64 num,.bool kk,bv,kv]:=by
 simp only[nodeCells,Reps]
 exact⟨_,_,rfl,by simp only[Rep],_,_,rfl,by simp only[Rep],_,_,rfl,by simp only[Rep],_,_,rfl,hb,_,_,rfl,hk,rfl⟩
theorem imm_rstep{G:Gh}{w w' :World}{B a a' :Nat}{s:List UInt8}(h:ImmOk G w) (hB:Rdr w B s a) (hr:RStep B s w w' a') (hGB:∀o,G.imm B o=none):ImmOk G w' :=by
 refine⟨fun b o v hb=> ?_,fun b es hb=> ?_,fun b n hb=> ?_⟩
 ·have h1:=h.imm b o v hb
  have hlt:=lt_of_cell h1
  by_cases e:b=B
  ·subst e;rw[hGB o]at hb;cases hb
  ·simp only[World.cell?,hr.same b hlt e]at h1⊢
   exact h1
 ·have h1:=h.mimm b es hb
  have hlt:=(Array.getElem?_eq_some_iff.1 h1.1).1
  by_cases e:b=B
  ·subst e
   rw[MapAt,show w.heap[b]? =_ from hB]at h1
   cases h1.1
  ·exact⟨(hr.same b hlt e).trans h1.1,h1.2⟩
 ·obtain⟨vs,et,f,h1,h2⟩:=h.siz b n hb
  have hlt:=(Array.getElem?_eq_some_iff.1 h1).1
  by_cases e:b=B
  ·subst e
   rw[show w.heap[b]? =_ from hB]at h1
   cases h1
   exact⟨_,_,_,hr.rdr,h2⟩
  ·exact⟨vs,et,f,(hr.same b hlt e).trans h1,h2⟩
theorem row_rstep{w w' :World}{B a n₀ sz n:Nat}{t:TypeId}{s:List UInt8}{v:Value}{xs:List Value}(h:w.ownsRow n₀ t sz v n xs) (hr:RStep B s w w' a) (hB:B<n₀):w'.ownsRow n₀ t sz v n xs:=by
 refine⟨h.1,h.2.imp id ?_⟩
 rintro⟨g,cap,cur,e1,e2,e3,e4⟩
 exact⟨g,cap,cur,e1,e2,(hr.same g (Array.getElem?_eq_some_iff.1 e3).1 (by omega)).trans e3,e4⟩
theorem row_form{w:World}{n₀ sz n:Nat}{t:TypeId}{v:Value}{xs:List Value}(h:w.ownsRow n₀ t sz v n xs):∃A cp,v= .slice A n cp:=by
 rcases h.2 with⟨rfl,h0⟩|⟨g,cap,cur,rfl,_⟩
 ·exact⟨none,0,by rw[h0]⟩
 ·exact⟨_,_,rfl⟩
def NodeLaw(s:List UInt8) (B d:Nat):Prop:=∀(G:Gh) (a:Nat) (w:World),ImmOk G w→GlobOk Tryz.prog G w→(∀o,G.imm B o=none)→Rdr w B s a→a≤s.length→Calls Tryz.prog 42 #[.pointer (some ⟨B,0,none⟩),.int .i64 (d:Int)] w (NodePost G B s w (rdN s d a))
theorem Tryz.nil_reps(G1:Gh):Reps G1 (nodeCells nd0') [.int .i64 0,.int .i64 0,.bool false,.slice none 0 0,.slice none 0 0]:=by
 simp only[nd0',nodeCells,nodesFlat,bytesD,Reps,Rep]
 exact⟨_,_,rfl,rfl,_,_,rfl,rfl,_,_,rfl,rfl,_,_,rfl,⟨none,0,rfl,Nat.le_refl _,by decide,by simp,.inr rfl⟩,_,_,rfl,⟨none,0,rfl,Nat.le_refl _,by decide,by simp,.inr trivial⟩,rfl⟩
set_option maxRecDepth 100000 in
set_option maxHeartbeats 4000000 in
theorem Tryz.node_succ(s:List UInt8) (B d:Nat) (hs:s.length<1000000) (hd16:d<16) (IH:NodeLaw s B d):NodeLaw s B (d+1):=by
 intro G a w hI hG hGB hB ha
 have hd:(((d+1:Nat):Int)==0)=false:=by simp;omega
 go_enter Tryz.func42,Tryz.ntmps42
 go_wp2_with fail
 have hb0:Below w.heap.size w (w.alloc (Obj.cells #[Value.int IntKind.i64 0,Value.int IntKind.i64 0,Value.bool false,Value.slice none 0 0,Value.slice none 0 0] 47)):=(Below.refl _ w).alloc (Nat.le_refl _) _
 have hB0:=(rstep_below hb0 hB).rdr
 refine(Tryz.bytes_ok B a 2 s _ (imm_below hI hb0) (glob_below hG hb0) hGB hB0 hs ha (by decide)).mono ?_
 rintro e W1 ⟨v,G1,rfl,hr1,hle1,him1,hn1,hm1,hrep1⟩
 have hE1:W1.heap[w.heap.size]? =some (Obj.cells #[Value.int IntKind.i64 0,Value.int IntKind.i64 0,Value.bool false,Value.slice none 0 0,Value.slice none 0 0] 47):=by
  have hlt:=(Array.getElem?_eq_some_iff.1 hB).1
  exact(hr1.same w.heap.size (by simp) (by omega)).trans (World.alloc_heap_new w _)
 have x0:W1.cell? ⟨w.heap.size,0,none⟩=some (.int .i64 0):=by simp[World.cell?,hE1]
 have x1:W1.cell? ⟨w.heap.size,1,none⟩=some (.int .i64 0):=by simp[World.cell?,hE1]
 have x2:W1.cell? ⟨w.heap.size,2,none⟩=some (.bool false):=by simp[World.cell?,hE1]
 have x3:W1.cell? ⟨w.heap.size,3,none⟩=some (.slice none 0 0):=by simp[World.cell?,hE1]
 have x4:W1.cell? ⟨w.heap.size,4,none⟩=some (.slice none 0 0):=by simp[World.cell?,hE1]
 have y0:W1.frozen? ⟨w.heap.size,0,none⟩=false:=by simp[World.frozen?,hE1]
 have y1:W1.frozen? ⟨w.heap.size,1,none⟩=false:=by simp[World.frozen?,hE1]
 have y2:W1.frozen? ⟨w.heap.size,2,none⟩=false:=by simp[World.frozen?,hE1]
 have y3:W1.frozen? ⟨w.heap.size,3,none⟩=false:=by simp[World.frozen?,hE1]
 have y4:W1.frozen? ⟨w.heap.size,4,none⟩=false:=by simp[World.frozen?,hE1]
 obtain⟨⟨⟨m,ok⟩,a1⟩,hr⟩:∃r,rdB s a 2=r:=⟨_,rfl⟩
 rw[hr]at hr1 hrep1
 rw[hr]
 simp only[bytesD,Rep]at hrep1
 obtain⟨av,cap,rfl,hc1,hc2,-,hcells⟩:=hrep1
 dsimp only at hr1 hc1⊢
 have hid:Hid (rdB s a 2=((m,ok),a1)):=hr
 clear hr
 have hBl:=(Array.getElem?_eq_some_iff.1 hB).1
 have hn0:Hid (∀b o,b<w.heap.size→G1.imm b o=G.imm b o):=fun b o hb=>hn1 b o (by simp;omega)
 have hm0:Hid (∀b,b<w.heap.size→G1.mimm b=G.mimm b):=fun b hb=>hm1 b (by simp;omega)
 have hE0:Hid (∀o,G1.imm w.heap.size o=none):=fun o=>(hn1 w.heap.size o (by simp)).trans (hI.out (Nat.le_refl _))
 have hr0:Hid (RStep B s w W1 a1):=(rstep_below hb0 hB).trans hr1
 clear hn1 hm1 hr1
 cases ok with
 |false=>
  have HR:Hid (rdN s (d+1) a=((nd0',false),a1)):=by
   show rdN s (d+1) a=_
   unfold rdN
   rw[hid.out]
   cases m with
   |nil=>rfl
   |cons x m=>cases m<;>rfl
  go_wp2_with fail
  refine Tryz.node_ret rfl rfl rfl (set5_at hE1 _ _ _ _ _) ?_
  exact node_end (E:=w.heap.size) (Nat.le_refl _) hBl hr0.out him1 hE1 hE0.out hle1 hn0.out hm0.out (Tryz.nil_reps G1) HR.out rfl rfl
 |true=>
  by_cases hm:m.length=1
  ·obtain⟨x,rfl⟩:∃x,m=[x]:=by
    match m,hm with
    |[x],_=>exact⟨x,rfl⟩
   have hx:∃b o,av=some ⟨b,o,none⟩∧W1.cell? ⟨b,o,none⟩=some (.int .u8 (x.toNat:Int)):=by
    rcases hcells with⟨b,o,h1,h2⟩|h
    ·have h2:Cells G1 b o [D.int .u8 (x.toNat:Int)]:=h2
     simp only[Cells,Rep]at h2
     obtain⟨⟨v,h3,rfl⟩,_⟩:=h2
     exact⟨b,o,h1,him1.imm b o _ h3⟩
    ·cases h
   obtain⟨b,o,rfl,hxc⟩:=hx
   rw[show [x].length=1 from rfl]at*
   go_wp2_with fail
   refine(Tryz.rdid_ok x W1).mono ?_
   rintro e W1' ⟨rfl,hw1⟩
   rw[hw1]
   clear hw1
   obtain⟨⟨⟨c,kk,num⟩,okI⟩,hri⟩:∃r,rdI x=r:=⟨_,rfl⟩
   rw[hri]
   have hri' :Hid (rdI x=((c,kk,num),okI)):=hri
   clear hri
   dsimp only
   go_upto_region 6 with fail
   have hb5:Below W1.heap.size W1 (W1.alloc (Obj.cells #[Value.int IntKind.i64 c,Value.int IntKind.i64 num,Value.bool kk,Value.slice none 0 0,Value.slice none 0 0] 47)):=(Below.refl _ W1).alloc (Nat.le_refl _) _
   have hF5:=World.alloc_heap_new W1 (Obj.cells #[Value.int IntKind.i64 c,Value.int IntKind.i64 num,Value.bool kk,Value.slice none 0 0,Value.slice none 0 0] 47)
   obtain⟨W5,hW5⟩:∃W',W1.alloc (Obj.cells #[Value.int IntKind.i64 c,Value.int IntKind.i64 num,Value.bool kk,Value.slice none 0 0,Value.slice none 0 0] 47)=W' :=⟨_,rfl⟩
   rw[hW5]at hb5 hF5⊢
   clear hW5
   obtain⟨F,hF⟩:∃F,W1.heap.size=F:=⟨_,rfl⟩
   have hEF:w.heap.size<F:=by rw[←hF];exact(Array.getElem?_eq_some_iff.1 hE1).1
   have hF0:Hid (∀o,G1.imm F o=none):=fun o=>him1.out (by omega)
   have him5:=imm_below him1 hb5
   have hr5:Hid (RStep B s w W5 a1):=hr0.out.trans (rstep_below hb5 hr0.out.rdr)
   have hE5:W5.heap[w.heap.size]? =_:=(hb5.block _ (by omega)).trans hE1
   rw[hF]at hF5⊢
   clear hcells hxc hE1 x0 x1 x2 x3 x4 y0 y1 y2 y3 y4 hb5
   obtain⟨⟨x0,x1,x2,x3,x4⟩,⟨y0,y1,y2,y3,y4⟩⟩:=bx5 hE5
   obtain⟨⟨z0,z1,z2,z3,z4⟩,-⟩:=bx5 hF5
   have hG1B:Hid (∀o,G1.imm B o=none):=fun o=>(hn0.out B o hBl).trans (hGB o)
   have hal:a1≤s.length:=by have:=(rdB_le (s:=s) (most:=2) ha).2;rw[hid.out]at this;exact this
   have hEs:w.heap.size<W5.heap.size:=(Array.getElem?_eq_some_iff.1 hE5).1
   have hFs:F<W5.heap.size:=(Array.getElem?_eq_some_iff.1 hF5).1
   cases okI with
   |false=>
    dsimp only[cond]
    have HR:Hid (rdN s (d+1) a=((.mk c num kk [] [],false),a1)):=by
     show rdN s (d+1) a=_
     unfold rdN
     rw[hid.out]
     dsimp only
     rw[hri'.out]
     rfl
    go_wp2_with fail
    refine Tryz.node_ret rfl rfl rfl (set5_at hE5 _ _ _ _ _) ?_
    exact node_end (E:=w.heap.size) (Nat.le_refl _) hBl hr5.out him5 hE5 hE0.out hle1 hn0.out hm0.out (mk_reps (nil_list _ _ rfl) (nil_list _ _ rfl)) HR.out rfl rfl
   |true=>
    dsimp only[cond]
    cases kk with
    |false=>
     go_wp2_with fail
     refine(Tryz.skip_ok B a1 s 58 W5 hr5.out.rdr (Nat.le_of_lt hs) hal).mono ?_
     rintro e W6 ⟨bb,a2,rfl,hr6,hsk⟩
     have hE6:W6.heap[w.heap.size]? =_:=(hr6.same _ hEs (by omega)).trans hE5
     have hF6:W6.heap[F]? =_:=(hr6.same _ hFs (by omega)).trans hF5
     have him6:ImmOk G1 W6:=imm_rstep him5 hr5.out.rdr hr6 hG1B.out
     have hr06:Hid (RStep B s w W6 a2):=hr5.out.trans hr6
     have hg6:GlobOk Tryz.prog G1 W6:=glob_le (glob_rstep hG hB hr06.out) hle1
     clear x0 x1 x2 x3 x4 y0 y1 y2 y3 y4 z0 z1 z2 z3 z4
     obtain⟨⟨x0,x1,x2,x3,x4⟩,⟨y0,y1,y2,y3,y4⟩⟩:=bx5 hE6
     obtain⟨⟨z0,z1,z2,z3,z4⟩,⟨-,-,-,t3,-⟩⟩:=bx5 hF6
     rcases hsk with⟨rfl,hsk,rfl⟩|⟨rfl,hsk,rfl⟩
     ·have hal2:a1+1≤s.length:=(List.getElem?_eq_some_iff.1 hsk).1
      have u0:W6.cell? ⟨B,0,none⟩=some (.string ⟨s.toArray⟩):=by simp[World.cell?,show W6.heap[B]? =_ from hr6.rdr]
      go_wp2_with fail
      refine(Tryz.bytes_ok B (a1+1) s.length s W6 him6 hg6 hG1B.out hr6.rdr hs hal2 (by omega)).mono ?_
      rintro e W7 ⟨v2,G2,rfl,hr7,hle2,him7,hn2,hm2,hrep2⟩
      obtain⟨⟨⟨m2,ok2⟩,a3⟩,hq⟩:∃r,rdB s (a1+1) s.length=r:=⟨_,rfl⟩
      rw[hq]at hr7 hrep2
      rw[hq]
      have hq' :Hid (rdB s (a1+1) s.length=((m2,ok2),a3)):=hq
      clear hq
      dsimp only at hrep2⊢
      have hv2:=hrep2
      simp only[bytesD,Rep]at hv2
      obtain⟨av2,cap2,rfl,-,-,-,-⟩:=hv2
      have hE6s:w.heap.size<W6.heap.size:=(Array.getElem?_eq_some_iff.1 hE6).1
      have hF6s:F<W6.heap.size:=(Array.getElem?_eq_some_iff.1 hF6).1
      have hE7:W7.heap[w.heap.size]? =_:=(hr7.same _ hE6s (by omega)).trans hE6
      have hF7:W7.heap[F]? =_:=(hr7.same _ hF6s (by omega)).trans hF6
      have hE8:(W7.setCell ⟨F,3,none⟩ (.slice av2 m2.length cap2)).heap[w.heap.size]? =_:=(Below.heap_setCell W7 ⟨F,3,none⟩ (.slice av2 m2.length cap2) _ (by show _≠F;omega)).trans hE7
      have hr8:Hid (RStep B s w (W7.setCell ⟨F,3,none⟩ (.slice av2 m2.length cap2)) a3):=(hr06.out.trans hr7).own (E:=F) (by omega) hBl (by simp) (fun k hk=>Below.heap_setCell W7 ⟨F,3,none⟩ (.slice av2 m2.length cap2) k hk) (Rest.set _ _ _)
      have hF20:∀o,G2.imm F o=none:=fun o=>(hn2 F o hF6s).trans (hF0.out o)
      have him8:ImmOk G2 (W7.setCell ⟨F,3,none⟩ (.slice av2 m2.length cap2)):=imm_one him7 hF20 hF7 (set1_at hF7 3 (.slice av2 m2.length cap2)) rfl (fun k hk=>Below.heap_setCell W7 ⟨F,3,none⟩ (.slice av2 m2.length cap2) k hk)
      have hE20:Hid (∀o,G2.imm w.heap.size o=none):=fun o=>(hn2 _ o hE6s).trans (hE0.out o)
      have hn8:Hid (∀b o,b<w.heap.size→G2.imm b o=G.imm b o):=fun b o hb=>(hn2 b o (by omega)).trans (hn0.out b o hb)
      have hm8:Hid (∀b,b<w.heap.size→G2.mimm b=G.mimm b):=fun b hb=>(hm2 b (by omega)).trans (hm0.out b hb)
      clear x0 x1 x2 x3 x4 y0 y1 y2 y3 y4 z0 z1 z2 z3 z4 t3 hn2 hm2 hF20
      obtain⟨⟨x0,x1,x2,x3,x4⟩,⟨y0,y1,y2,y3,y4⟩⟩:=bx5 hE8
      obtain⟨⟨-,-,-,w3,-⟩,⟨-,-,-,t3,-⟩⟩:=bx5 hF7
      obtain⟨⟨z0,z1,z2,z3,z4⟩,-⟩:=bx5 (show(W7.setCell ⟨F,3,none⟩ (.slice av2 m2.length cap2)).heap[F]? =some (.cells #[.int .i64 c,.int .i64 num,.bool false,(.slice av2 m2.length cap2),.slice none 0 0] 47 (0,0)) from set1_at hF7 3 (.slice av2 m2.length cap2))
      have HR:Hid (rdN s (d+1) a=((.mk c num false m2 [],ok2),a3)):=by
       show rdN s (d+1) a=_
       unfold rdN
       rw[hid.out]
       dsimp only
       rw[hri'.out]
       simp only[Bool.true_eq_false,if_false,if_true]
       rw[if_pos hsk,hq'.out]
      go_wp2_with fail
      refine Tryz.node_ret rfl rfl rfl (set5_at hE8 _ _ _ _ _) ?_
      exact node_end (E:=w.heap.size) (Nat.le_refl _) hBl hr8.out him8 hE8 hE20.out (hle1.trans hle2) hn8.out hm8.out (mk_reps hrep2 (nil_list _ _ rfl)) HR.out rfl rfl
     ·have HR:Hid (rdN s (d+1) a=((.mk c num false [] [],false),a2)):=by
       show rdN s (d+1) a=_
       unfold rdN
       rw[hid.out]
       dsimp only
       rw[hri'.out]
       simp[hsk]
      go_wp2_with fail
      refine Tryz.node_ret rfl rfl rfl (set5_at hE6 _ _ _ _ _) ?_
      exact node_end (E:=w.heap.size) (Nat.le_refl _) hBl hr06.out him6 hE6 hE0.out hle1 hn0.out hm0.out (mk_reps (nil_list _ _ rfl) (nil_list _ _ rfl)) HR.out rfl rfl
    |true=>
     go_wp2_with fail
     refine(Tryz.skip_ok B a1 s 40 W5 hr5.out.rdr (Nat.le_of_lt hs) hal).mono ?_
     rintro e W6 ⟨bb,a2,rfl,hr6,hsk⟩
     have hE6:W6.heap[w.heap.size]? =_:=(hr6.same _ hEs (by omega)).trans hE5
     have hF6:W6.heap[F]? =_:=(hr6.same _ hFs (by omega)).trans hF5
     have him6:ImmOk G1 W6:=imm_rstep him5 hr5.out.rdr hr6 hG1B.out
     have hr06:Hid (RStep B s w W6 a2):=hr5.out.trans hr6
     have hg6:GlobOk Tryz.prog G1 W6:=glob_le (glob_rstep hG hB hr06.out) hle1
     clear x0 x1 x2 x3 x4 y0 y1 y2 y3 y4 z0 z1 z2 z3 z4
     rcases hsk with⟨rfl,hsk,rfl⟩|⟨rfl,hsk,rfl⟩
     ·have hal2:a1+1≤s.length:=(List.getElem?_eq_some_iff.1 hsk).1
      have HR:Hid (rdN s (d+1) a=rdK s (rdN s d) (fun ks=> .mk c num true [] ks) (s.length+1) [] (a1+1)):=by
       show rdN s (d+1) a=_
       conv=>lhs;unfold rdN
       rw[hid.out]
       dsimp only
       rw[hri'.out]
       simp[hsk]
      go_wp2_with fail
      go_loopg [13] (s.length-(a1+1)) (fun k _ wr=>∃(Gi:Gh) (f:Nat) (ks:List Fw.Node) (aa:Nat) (kv:Value) (xs:List Value),k=s.length-aa∧aa≤s.length∧s.length<f+aa∧ks.length≤aa∧
       Hid (rdN s (d+1) a=rdK s (rdN s d) (fun ks=> .mk c num true [] ks) f ks aa)∧RStep B s w wr aa∧wr.heap[w.heap.size]? =some (.cells #[.int .i64 0,.int .i64 0,.bool false,.slice none 0 0,.slice none 0 0] 47 (0,0))∧
       wr.heap[F]? =some (.cells #[.int .i64 c,.int .i64 num,.bool true,.slice none 0 0,kv] 47 (0,0))∧wr.ownsRow (F+1) 47 5 kv ks.length xs∧Reps Gi (nodesFlat ks) xs∧ImmOk Gi wr∧G.Le Gi∧(∀b o,b<w.heap.size→Gi.imm b o=G.imm b o)∧(∀b,b<w.heap.size→Gi.mimm b=G.mimm b)∧
       (∀o,Gi.imm w.heap.size o=none)∧(∀o,Gi.imm F o=none)∧(∀g n cap,kv= .slice (some ⟨g,0,none⟩) n cap→∀o,Gi.imm g o=none))
      case atStart=>
       exact⟨G1,s.length+1,[],a1+1,.slice none 0 0,[],rfl,hal2,by omega,Nat.zero_le _,HR,hr06.out,hE6,hF6,World.ownsRow_nil _ _ _ _,rfl,him6,hle1,hn0.out,hm0.out,hE0.out,hF0.out,fun g n cap h=>by cases h⟩
      case round=>
       obtain⟨Gi,f,ks,aa,kv,xs,hgk,hla,hf,hkl,hHR,hrs,hEw,hFw,hrow,hxs,himw,hlew,hnw,hmw,hEi,hFi,hgi⟩:=hrel
       have hBi:Hid (∀o,Gi.imm B o=none):=fun o=>(hnw B o hBl).trans (hGB o)
       have hF' :Hid (w.heap.size<F∧F<wr.heap.size):=⟨hEF,(Array.getElem?_eq_some_iff.1 hFw).1⟩
       obtain⟨A,cp,rfl⟩:=row_form hrow
       obtain⟨f,rfl⟩:∃f',f=f' +1:=⟨f-1,by omega⟩
       go_wp2_with fail
       refine(Tryz.skip_ok B aa s 41 wr hrs.rdr (Nat.le_of_lt hs) hla).mono ?_
       rintro e V1 ⟨bb,a3,rfl,hv1,hsk2⟩
       have hE1:V1.heap[w.heap.size]? =_:=(hv1.same _ (Array.getElem?_eq_some_iff.1 hEw).1 (by omega)).trans hEw
       have hF1:V1.heap[F]? =_:=(hv1.same _ (Array.getElem?_eq_some_iff.1 hFw).1 (by omega)).trans hFw
       have him1' :ImmOk Gi V1:=imm_rstep himw hrs.rdr hv1 hBi.out
       have hrv:Hid (RStep B s w V1 a3):=hrs.trans hv1
       obtain⟨⟨x0,x1,x2,x3,x4⟩,⟨y0,y1,y2,y3,y4⟩⟩:=bx5 hE1
       obtain⟨⟨z0,z1,z2,z3,z4⟩,-⟩:=bx5 hF1
       rcases hsk2 with⟨rfl,hsk2,rfl⟩|⟨rfl,hsk2,rfl⟩
       ·have hHR2:Hid (rdN s (d+1) a=((.mk c num true [] ks,true),aa+1)):=by
         show rdN s (d+1) a=_
         rw[hHR.out,rdK,if_pos hsk2]
        have hrow1:=row_rstep hrow hv1 (show B<F+1 by omega)
        obtain⟨G3,hle3,him3,hn3,hm3,hrep3⟩:=frz_row hrow1 him1' hgi hxs
        have hn4:Hid (∀b o,b<w.heap.size→G3.imm b o=G.imm b o):=fun b o hb=>(hn3 b o (by omega)).trans (hnw b o hb)
        have hm4:Hid (∀b,b<w.heap.size→G3.mimm b=G.mimm b):=fun b hb=>(hm3 b).trans (hmw b hb)
        have hE4:Hid (∀o,G3.imm w.heap.size o=none):=fun o=>(hn3 _ o (by omega)).trans (hEi o)
        clear hn3 hm3 hnw hmw hEi hFi hgi
        go_wp2_with fail
        refine Tryz.node_ret rfl rfl rfl (set5_at hE1 _ _ _ _ _) ?_
        exact node_end (E:=w.heap.size) (Nat.le_refl _) hBl hrv.out him3 hE1 hE4.out (hlew.trans hle3) hn4.out hm4.out (mk_reps (nil_list _ _ rfl) hrep3) hHR2.out rfl rfl
       ·have hrow1:=row_rstep hrow hv1 (show B<F+1 by omega)
        have hgv:GlobOk Tryz.prog Gi V1:=glob_le (glob_rstep hG hB hrv.out) hlew
        have hEF1:Hid (w.heap.size<V1.heap.size∧F<V1.heap.size):=⟨(Array.getElem?_eq_some_iff.1 hE1).1,(Array.getElem?_eq_some_iff.1 hF1).1⟩
        by_cases hk:ks=[]
        ·subst hk
         go_wp2_with fail
         have hEFc:Hid (w.heap.size<V1.heap.size∧F<V1.heap.size):=⟨(Array.getElem?_eq_some_iff.1 hE1).1,(Array.getElem?_eq_some_iff.1 hF1).1⟩
         refine(IH Gi (a3) V1 him1' hgv hBi.out hrv.out.rdr hla).mono ?_
         rintro e V2 ⟨v,G3,rfl,hv2,hle3,him3,hn3,hm3,hrep3⟩
         obtain⟨⟨⟨nd,ok2⟩,a5⟩,hq⟩:∃r,rdN s d (a3)=r:=⟨_,rfl⟩
         rw[hq]at hv2 hrep3
         rw[hq]
         have hq' :Hid (rdN s d (a3)=((nd,ok2),a5)):=hq
         clear hq
         dsimp only at hv2 hrep3⊢
         have hE2:V2.heap[w.heap.size]? =_:=(hv2.same _ hEFc.out.1 (by omega)).trans hE1
         have hF2:V2.heap[F]? =_:=(hv2.same _ hEFc.out.2 (by omega)).trans hF1
         obtain⟨nc,nm,nk,nb,nks⟩:=nd
         have hrep4:=hrep3
         simp only[Rep,nodeCells,Reps]at hrep4
         obtain⟨⟨arr⟩,rfl,q1,_,e1,rfl,q2,_,rfl,rfl,q3,_,rfl,rfl,q4,_,rfl,hq4,q5,_,rfl,hq5,rfl⟩:=hrep4
         dsimp only at e1
         subst e1
         simp only[bytesD,Rep]at hq4 hq5
         obtain⟨A4,C4,rfl,-⟩:=hq4
         obtain⟨A5,C5,rfl,-⟩:=hq5
         have him4' :Hid (ImmOk G3 V2):=him3
         clear x0 x1 x2 x3 x4 y0 y1 y2 y3 y4 z0 z1 z2 z3 z4
         go_upto_region 19 with fail
         have hrv3:Hid (RStep B s w V2 a5):=hrv.out.trans hv2
         have hb3:Below V2.heap.size V2 (V2.alloc (Obj.cells #[Value.int IntKind.i64 nc,Value.int IntKind.i64 nm,Value.bool nk,Value.slice A4 nb.length C4,Value.slice A5 nks.length C5] 47)):=(Below.refl _ V2).alloc (Nat.le_refl _) _
         have hN3:=World.alloc_heap_new V2 (Obj.cells #[Value.int IntKind.i64 nc,Value.int IntKind.i64 nm,Value.bool nk,Value.slice A4 nb.length C4,Value.slice A5 nks.length C5] 47)
         obtain⟨V3,hV3⟩:∃W',V2.alloc (Obj.cells #[Value.int IntKind.i64 nc,Value.int IntKind.i64 nm,Value.bool nk,Value.slice A4 nb.length C4,Value.slice A5 nks.length C5] 47)=W' :=⟨_,rfl⟩
         rw[hV3]at hb3 hN3⊢
         clear hV3
         have hE3:V3.heap[w.heap.size]? =_:=(hb3.block _ (Array.getElem?_eq_some_iff.1 hE2).1).trans hE2
         have hF3:V3.heap[F]? =_:=(hb3.block _ (Array.getElem?_eq_some_iff.1 hF2).1).trans hF2
         obtain⟨N3,hN⟩:∃N3,V2.heap.size=N3:=⟨_,rfl⟩
         have hsN:Hid (F<N3∧V1.heap.size≤N3):=⟨by rw[←hN];exact(Array.getElem?_eq_some_iff.1 hF2).1,by rw[←hN];exact hv2.size⟩
         have him5' :Hid (ImmOk G3 V3):=imm_below him3 hb3
         have hr3:Hid (RStep B s w V3 a5):=hrv3.out.trans (rstep_below hb3 hrv3.out.rdr)
         have hrow3:Hid (V3.ownsRow (F+1) 47 5 (.slice A 0 cp) 0 xs):=row_rstep (row_rstep hrow1 hv2 (show B<F+1 by omega)) (rstep_below hb3 hrv3.out.rdr) (show B<F+1 by omega)
         have hxs3:Hid (Reps G3 (nodesFlat []) xs):=Reps.mono hle3 _ _ hxs
         have hnd3:Hid (Reps G3 (nodeCells (.mk nc nm nk nb nks)) [Value.int IntKind.i64 nc,Value.int IntKind.i64 nm,Value.bool nk,Value.slice A4 nb.length C4,Value.slice A5 nks.length C5]):=by
          simp only[Rep]at hrep3
          obtain⟨_,h1,h2⟩:=hrep3
          cases h1
          exact h2
         have hgi3:Hid (∀g n cap,(Value.slice A 0 cp)= .slice (some ⟨g,0,none⟩) n cap→∀o,G3.imm g o=none):=fun g n cap h o=>by
          have hl:g<V1.heap.size:=by
           obtain⟨-,⟨h1,-⟩|⟨g',cap',cur,h1,-,h2,-⟩⟩:=hrow1
           ·have h3:=h1.symm.trans h;cases h3
           ·have h3:=h1.symm.trans h;cases h3
            exact(Array.getElem?_eq_some_iff.1 h2).1
          rw[hn3 g o hl]
          exact hgi g n cap h o
         have hEi3:Hid (∀o,G3.imm w.heap.size o=none):=fun o=>(hn3 _ o hEFc.out.1).trans (hEi o)
         have hFi3:Hid (∀o,G3.imm F o=none):=fun o=>(hn3 _ o hEFc.out.2).trans (hFi o)
         have hn5:Hid (∀b o,b<w.heap.size→G3.imm b o=G.imm b o):=fun b o hb=>(hn3 b o (Nat.lt_trans hb hEFc.out.1)).trans (hnw b o hb)
         have hm5:Hid (∀b,b<w.heap.size→G3.mimm b=G.mimm b):=fun b hb=>(hm3 b (Nat.lt_trans hb hEFc.out.1)).trans (hmw b hb)
         have hle5:Hid (G.Le G3):=hlew.trans hle3
         have hstep:Hid (rdN s (d+1) a=if ok2 then rdK s (rdN s d) (fun ks=> .mk c num true [] ks) f ([]++[.mk nc nm nk nb nks]) a5 else((.mk c num true [] [],false),a5)):=by
          show rdN s (d+1) a=_
          rw[hHR.out,rdK,if_neg hsk2,if_neg (by simp),if_pos rfl,hq'.out]
         rw[hN]at hN3⊢
         have hE3' :Hid _:=hE3
         have hF3' :Hid _:=hF3
         have hN3' :Hid _:=hN3
         clear hE3 hF3 hN3 hE2 hF2 him4' hE5 hEs hFs hF5 hE6 hF6 him6 hg6 hsk hr6
         have hxs9:Hid (Reps Gi (nodesFlat []) xs):=hxs
         clear hxs hrep3 hn3 hm3 hnw hmw hEi hFi hgi hrow him3
         cases ok2 with
         |false=>
          obtain⟨G4,hle4,him4,hn4,hm4,hrep4⟩:=frz_row hrow3.out him5'.out hgi3.out hxs3.out
          have hn6:Hid (∀b o,b<w.heap.size→G4.imm b o=G.imm b o):=fun b o hb=>(hn4 b o (by omega)).trans (hn5.out b o hb)
          have hm6:Hid (∀b,b<w.heap.size→G4.mimm b=G.mimm b):=fun b hb=>(hm4 b).trans (hm5.out b hb)
          have hE4:Hid (∀o,G4.imm w.heap.size o=none):=fun o=>(hn4 _ o (by omega)).trans (hEi3.out o)
          clear hn4 hm4
          obtain⟨⟨x0,x1,x2,x3,x4⟩,⟨y0,y1,y2,y3,y4⟩⟩:=bx5 hE3'.out
          obtain⟨⟨z0,z1,z2,z3,z4⟩,-⟩:=bx5 hF3'.out
          go_wp2_with fail
          refine Tryz.node_ret rfl rfl rfl (set5_at hE3'.out _ _ _ _ _) ?_
          exact node_end (E:=w.heap.size) (Nat.le_refl _) hBl hr3.out him4 hE3'.out hE4.out (hle5.out.trans hle4) hn6.out hm6.out (mk_reps (nil_list _ _ rfl) hrep4) hstep.out rfl rfl
         |true=>
          have hlt:Hid ((a3)<a5∧a5≤s.length):=⟨rdN_lt hq'.out hla,by have:=rdN_le s d (a3) hla;rw[hq'.out]at this;exact this⟩
          obtain⟨i0,hi,hz0,hz1,hz2⟩:=info_parts Tryz.info47
          obtain⟨⟨-,-,-,-,z4⟩,⟨-,-,-,-,t4⟩⟩:=bx5 hF3'.out
          obtain⟨⟨n0,n1,n2,n3,n4⟩,-⟩:=bx5 hN3'.out
          go_wp2_with (at_builtin;refine wpList_append_row _ rfl (.tmp 95) (.tmp 97) 45 rfl (F+1) 47 i0 (.agg #[.int .i64 0,.int .i64 0,.bool false,.slice none 0 0,.slice none 0 0]) 5 72 Tryz.und45 hi hz0 hz1 hz2 rfl (by decide) (.slice A 0 cp) 0 xs rfl (hrow3.out.alloc _) ⟨V3.heap.size,0,none⟩ 1 1 [.int .i64 nc,.int .i64 nm,.bool nk,.slice A4 nb.length C4,.slice A5 nks.length C5] rfl rfl ?c1 ?c2 ?c3 ?c4 ?c5 ?_)
          case c2=>exact⟨rfl,rfl,rfl,rfl,rfl⟩
          case c3=>
           have h1:=hla
           have h2:=hkl
           unfold maxLen
           omega
          case c5=>
           have h1:=hsN.out
           have h2:=(Array.getElem?_eq_some_iff.1 hF3'.out).1
           omega
          ·intro v' w1 hown' hgrow hat hz'
           obtain⟨A',cp',rfl⟩:=row_form hown'
           have R:=node_round (E:=w.heap.size) hBl (Nat.le_refl _) hEF hr3.out hE3'.out hF3'.out hrow3.out him5'.out hgi3.out hFi3.out hown' hgrow hat hz'
           have RF:=R.1
           have R2:Hid _:=R.2
           clear R hown' hgrow hat hz' z4 t4 n0 n1 n2 n3 n4
           obtain⟨⟨-,-,-,-,z4⟩,⟨-,-,-,-,t4⟩⟩:=bx5 RF
           go_wp2_with fail
           go_roundg (s.length-a5)
           case rel=>
            have hlen:([]++[Fw.Node.mk nc nm nk nb nks]).length=0+1:=by simp
            obtain⟨r1,r2,r3,r4,r5,r6⟩:=R2.out
            have h1:=hla
            have h2:=hkl
            have h3:=hlt.out
            have h9:rdN s (d+1) a=rdK s (rdN s d) (fun ks=> .mk c num true [] ks) f ([]++[.mk nc nm nk nb nks]) a5:=hstep.out.trans (if_pos (by trivial))
            exact⟨G3,f,[]++[Fw.Node.mk nc nm nk nb nks],a5,_,_,rfl,h3.2,by omega,by rw[hlen];omega,h9,r1,r2,r3,by rw[hlen];exact r4,by rw[nodesFlat_app];exact reps_app hxs3.out hnd3.out,r5,hle5.out,hn5.out,hm5.out,hEi3.out,hFi3.out,r6⟩
           case measure=>
            have h3:=hlt.out
            omega
        ·have hk2:decide ((ks.length:Int)>0)=true:=by
          rw[decide_eq_true_eq]
          have:=List.length_pos_iff.2 hk
          omega
         have hk3:0<ks.length:=List.length_pos_iff.2 hk
         go_wp2_with fail
         refine(Tryz.skip_ok B a3 s 32 V1 hrv.out.rdr (Nat.le_of_lt hs) hla).mono ?_
         rintro e U2 ⟨bb,a4,rfl,hu2,hsk3⟩
         have hEu:U2.heap[w.heap.size]? =_:=(hu2.same _ hEF1.out.1 (by omega)).trans hE1
         have hFu:U2.heap[F]? =_:=(hu2.same _ hEF1.out.2 (by omega)).trans hF1
         have him2' :ImmOk Gi U2:=imm_rstep him1' hrv.out.rdr hu2 hBi.out
         have hrv2:Hid (RStep B s w U2 a4):=hrv.out.trans hu2
         have hrow2:=row_rstep hrow1 hu2 (show B<F+1 by omega)
         have hgv2:GlobOk Tryz.prog Gi U2:=glob_le (glob_rstep hG hB hrv2.out) hlew
         clear x0 x1 x2 x3 x4 y0 y1 y2 y3 y4 z0 z1 z2 z3 z4
         obtain⟨⟨x0,x1,x2,x3,x4⟩,⟨y0,y1,y2,y3,y4⟩⟩:=bx5 hEu
         obtain⟨⟨z0,z1,z2,z3,z4⟩,-⟩:=bx5 hFu
         rcases hsk3 with⟨rfl,hsk3,rfl⟩|⟨rfl,hsk3,rfl⟩
         ·have hal4:a3+1≤s.length:=(List.getElem?_eq_some_iff.1 hsk3).1
          go_wp2_with fail
          have hEFc:Hid (w.heap.size<U2.heap.size∧F<U2.heap.size):=⟨(Array.getElem?_eq_some_iff.1 hEu).1,(Array.getElem?_eq_some_iff.1 hFu).1⟩
          refine(IH Gi (a3+1) U2 him2' hgv2 hBi.out hrv2.out.rdr hal4).mono ?_
          rintro e V2 ⟨v,G3,rfl,hv2,hle3,him3,hn3,hm3,hrep3⟩
          obtain⟨⟨⟨nd,ok2⟩,a5⟩,hq⟩:∃r,rdN s d (a3+1)=r:=⟨_,rfl⟩
          rw[hq]at hv2 hrep3
          rw[hq]
          have hq' :Hid (rdN s d (a3+1)=((nd,ok2),a5)):=hq
          clear hq
          dsimp only at hv2 hrep3⊢
          have hE2:V2.heap[w.heap.size]? =_:=(hv2.same _ hEFc.out.1 (by omega)).trans hEu
          have hF2:V2.heap[F]? =_:=(hv2.same _ hEFc.out.2 (by omega)).trans hFu
          obtain⟨nc,nm,nk,nb,nks⟩:=nd
          have hrep4:=hrep3
          simp only[Rep,nodeCells,Reps]at hrep4
          obtain⟨⟨arr⟩,rfl,q1,_,e1,rfl,q2,_,rfl,rfl,q3,_,rfl,rfl,q4,_,rfl,hq4,q5,_,rfl,hq5,rfl⟩:=hrep4
          dsimp only at e1
          subst e1
          simp only[bytesD,Rep]at hq4 hq5
          obtain⟨A4,C4,rfl,-⟩:=hq4
          obtain⟨A5,C5,rfl,-⟩:=hq5
          have him4' :Hid (ImmOk G3 V2):=him3
          clear x0 x1 x2 x3 x4 y0 y1 y2 y3 y4 z0 z1 z2 z3 z4
          go_upto_region 19 with fail
          have hrv3:Hid (RStep B s w V2 a5):=hrv2.out.trans hv2
          have hb3:Below V2.heap.size V2 (V2.alloc (Obj.cells #[Value.int IntKind.i64 nc,Value.int IntKind.i64 nm,Value.bool nk,Value.slice A4 nb.length C4,Value.slice A5 nks.length C5] 47)):=(Below.refl _ V2).alloc (Nat.le_refl _) _
          have hN3:=World.alloc_heap_new V2 (Obj.cells #[Value.int IntKind.i64 nc,Value.int IntKind.i64 nm,Value.bool nk,Value.slice A4 nb.length C4,Value.slice A5 nks.length C5] 47)
          obtain⟨V3,hV3⟩:∃W',V2.alloc (Obj.cells #[Value.int IntKind.i64 nc,Value.int IntKind.i64 nm,Value.bool nk,Value.slice A4 nb.length C4,Value.slice A5 nks.length C5] 47)=W' :=⟨_,rfl⟩
          rw[hV3]at hb3 hN3⊢
          clear hV3
          have hE3:V3.heap[w.heap.size]? =_:=(hb3.block _ (Array.getElem?_eq_some_iff.1 hE2).1).trans hE2
          have hF3:V3.heap[F]? =_:=(hb3.block _ (Array.getElem?_eq_some_iff.1 hF2).1).trans hF2
          obtain⟨N3,hN⟩:∃N3,V2.heap.size=N3:=⟨_,rfl⟩
          have hsN:Hid (F<N3∧U2.heap.size≤N3):=⟨by rw[←hN];exact(Array.getElem?_eq_some_iff.1 hF2).1,by rw[←hN];exact hv2.size⟩
          have him5' :Hid (ImmOk G3 V3):=imm_below him3 hb3
          have hr3:Hid (RStep B s w V3 a5):=hrv3.out.trans (rstep_below hb3 hrv3.out.rdr)
          have hrow3:Hid (V3.ownsRow (F+1) 47 5 (.slice A ks.length cp) ks.length xs):=row_rstep (row_rstep hrow2 hv2 (show B<F+1 by omega)) (rstep_below hb3 hrv3.out.rdr) (show B<F+1 by omega)
          have hxs3:Hid (Reps G3 (nodesFlat ks) xs):=Reps.mono hle3 _ _ hxs
          have hnd3:Hid (Reps G3 (nodeCells (.mk nc nm nk nb nks)) [Value.int IntKind.i64 nc,Value.int IntKind.i64 nm,Value.bool nk,Value.slice A4 nb.length C4,Value.slice A5 nks.length C5]):=by
           simp only[Rep]at hrep3
           obtain⟨_,h1,h2⟩:=hrep3
           cases h1
           exact h2
          have hgi3:Hid (∀g n cap,(Value.slice A ks.length cp)= .slice (some ⟨g,0,none⟩) n cap→∀o,G3.imm g o=none):=fun g n cap h o=>by
           have hl:g<U2.heap.size:=by
            obtain⟨-,⟨h1,-⟩|⟨g',cap',cur,h1,-,h2,-⟩⟩:=hrow2
            ·have h3:=h1.symm.trans h;cases h3
            ·have h3:=h1.symm.trans h;cases h3
             exact(Array.getElem?_eq_some_iff.1 h2).1
           rw[hn3 g o hl]
           exact hgi g n cap h o
          have hEi3:Hid (∀o,G3.imm w.heap.size o=none):=fun o=>(hn3 _ o hEFc.out.1).trans (hEi o)
          have hFi3:Hid (∀o,G3.imm F o=none):=fun o=>(hn3 _ o hEFc.out.2).trans (hFi o)
          have hn5:Hid (∀b o,b<w.heap.size→G3.imm b o=G.imm b o):=fun b o hb=>(hn3 b o (Nat.lt_trans hb hEFc.out.1)).trans (hnw b o hb)
          have hm5:Hid (∀b,b<w.heap.size→G3.mimm b=G.mimm b):=fun b hb=>(hm3 b (Nat.lt_trans hb hEFc.out.1)).trans (hmw b hb)
          have hle5:Hid (G.Le G3):=hlew.trans hle3
          have hstep:Hid (rdN s (d+1) a=if ok2 then rdK s (rdN s d) (fun ks=> .mk c num true [] ks) f (ks++[.mk nc nm nk nb nks]) a5 else((.mk c num true [] ks,false),a5)):=by
           show rdN s (d+1) a=_
           rw[hHR.out,rdK,if_neg hsk2,if_neg (fun h=>h.2 hsk3),if_neg hk,hq'.out]
          rw[hN]at hN3⊢
          have hE3' :Hid _:=hE3
          have hF3' :Hid _:=hF3
          have hN3' :Hid _:=hN3
          clear hE3 hF3 hN3 hE2 hF2 him4' hE5 hEs hFs hF5 hE6 hF6 him6 hg6 hsk hr6
          have hxs9:Hid (Reps Gi (nodesFlat ks) xs):=hxs
          clear hxs hrep3 hn3 hm3 hnw hmw hEi hFi hgi hrow him3
          cases ok2 with
          |false=>
           obtain⟨G4,hle4,him4,hn4,hm4,hrep4⟩:=frz_row hrow3.out him5'.out hgi3.out hxs3.out
           have hn6:Hid (∀b o,b<w.heap.size→G4.imm b o=G.imm b o):=fun b o hb=>(hn4 b o (by omega)).trans (hn5.out b o hb)
           have hm6:Hid (∀b,b<w.heap.size→G4.mimm b=G.mimm b):=fun b hb=>(hm4 b).trans (hm5.out b hb)
           have hE4:Hid (∀o,G4.imm w.heap.size o=none):=fun o=>(hn4 _ o (by omega)).trans (hEi3.out o)
           clear hn4 hm4
           obtain⟨⟨x0,x1,x2,x3,x4⟩,⟨y0,y1,y2,y3,y4⟩⟩:=bx5 hE3'.out
           obtain⟨⟨z0,z1,z2,z3,z4⟩,-⟩:=bx5 hF3'.out
           go_wp2_with fail
           refine Tryz.node_ret rfl rfl rfl (set5_at hE3'.out _ _ _ _ _) ?_
           exact node_end (E:=w.heap.size) (Nat.le_refl _) hBl hr3.out him4 hE3'.out hE4.out (hle5.out.trans hle4) hn6.out hm6.out (mk_reps (nil_list _ _ rfl) hrep4) hstep.out rfl rfl
          |true=>
           have hlt:Hid ((a3+1)<a5∧a5≤s.length):=⟨rdN_lt hq'.out hal4,by have:=rdN_le s d (a3+1) hal4;rw[hq'.out]at this;exact this⟩
           obtain⟨i0,hi,hz0,hz1,hz2⟩:=info_parts Tryz.info47
           obtain⟨⟨-,-,-,-,z4⟩,⟨-,-,-,-,t4⟩⟩:=bx5 hF3'.out
           obtain⟨⟨n0,n1,n2,n3,n4⟩,-⟩:=bx5 hN3'.out
           go_wp2_with (at_builtin;refine wpList_append_row _ rfl (.tmp 95) (.tmp 97) 45 rfl (F+1) 47 i0 (.agg #[.int .i64 0,.int .i64 0,.bool false,.slice none 0 0,.slice none 0 0]) 5 72 Tryz.und45 hi hz0 hz1 hz2 rfl (by decide) (.slice A ks.length cp) ks.length xs rfl (hrow3.out.alloc _) ⟨V3.heap.size,0,none⟩ 1 1 [.int .i64 nc,.int .i64 nm,.bool nk,.slice A4 nb.length C4,.slice A5 nks.length C5] rfl rfl ?d1 ?d2 ?d3 ?d4 ?d5 ?_)
           case d2=>exact⟨rfl,rfl,rfl,rfl,rfl⟩
           case d3=>
            have h1:=hla
            have h2:=hkl
            unfold maxLen
            omega
           case d4=>
            have h1:=hla
            have h2:=hkl
            omega
           case d5=>
            have h1:=hsN.out
            have h2:=(Array.getElem?_eq_some_iff.1 hF3'.out).1
            omega
           ·intro v' w1 hown' hgrow hat hz'
            obtain⟨A',cp',rfl⟩:=row_form hown'
            have R:=node_round (E:=w.heap.size) hBl (Nat.le_refl _) hEF hr3.out hE3'.out hF3'.out hrow3.out him5'.out hgi3.out hFi3.out hown' hgrow hat hz'
            have RF:=R.1
            have R2:Hid _:=R.2
            clear R hown' hgrow hat hz' z4 t4 n0 n1 n2 n3 n4
            obtain⟨⟨-,-,-,-,z4⟩,⟨-,-,-,-,t4⟩⟩:=bx5 RF
            go_wp2_with fail
            go_roundg (s.length-a5)
            case rel=>
             have hlen:(ks++[Fw.Node.mk nc nm nk nb nks]).length=ks.length+1:=by simp
             obtain⟨r1,r2,r3,r4,r5,r6⟩:=R2.out
             have h1:=hla
             have h2:=hkl
             have h3:=hlt.out
             have h9:rdN s (d+1) a=rdK s (rdN s d) (fun ks=> .mk c num true [] ks) f (ks++[.mk nc nm nk nb nks]) a5:=hstep.out.trans (if_pos (by trivial))
             exact⟨G3,f,ks++[Fw.Node.mk nc nm nk nb nks],a5,_,_,rfl,h3.2,by omega,by rw[hlen];omega,h9,r1,r2,r3,by rw[hlen];exact r4,by rw[nodesFlat_app];exact reps_app hxs3.out hnd3.out,r5,hle5.out,hn5.out,hm5.out,hEi3.out,hFi3.out,r6⟩
            case measure=>
             have h3:=hlt.out
             omega
         ·have hHR2:Hid (rdN s (d+1) a=((.mk c num true [] ks,false),a4)):=by
           show rdN s (d+1) a=_
           rw[hHR.out,rdK,if_neg hsk2,if_pos ⟨hk,hsk3⟩]
          obtain⟨G3,hle3,him3,hn3,hm3,hrep3⟩:=frz_row hrow2 him2' hgi hxs
          have hn4:Hid (∀b o,b<w.heap.size→G3.imm b o=G.imm b o):=fun b o hb=>(hn3 b o (by omega)).trans (hnw b o hb)
          have hm4:Hid (∀b,b<w.heap.size→G3.mimm b=G.mimm b):=fun b hb=>(hm3 b).trans (hmw b hb)
          have hE4:Hid (∀o,G3.imm w.heap.size o=none):=fun o=>(hn3 _ o (by omega)).trans (hEi o)
          clear hn3 hm3 hnw hmw hEi hFi hgi
          go_wp2_with fail
          refine Tryz.node_ret rfl rfl rfl (set5_at hEu _ _ _ _ _) ?_
          exact node_end (E:=w.heap.size) (Nat.le_refl _) hBl hrv2.out him3 hEu hE4.out (hlew.trans hle3) hn4.out hm4.out (mk_reps (nil_list _ _ rfl) hrep3) hHR2.out rfl rfl
     ·have HR:Hid (rdN s (d+1) a=((.mk c num true [] [],false),a2)):=by
       show rdN s (d+1) a=_
       unfold rdN
       rw[hid.out]
       dsimp only
       rw[hri'.out]
       simp[hsk]
      obtain⟨⟨x0,x1,x2,x3,x4⟩,⟨y0,y1,y2,y3,y4⟩⟩:=bx5 hE6
      obtain⟨⟨z0,z1,z2,z3,z4⟩,-⟩:=bx5 hF6
      go_wp2_with fail
      refine Tryz.node_ret rfl rfl rfl (set5_at hE6 _ _ _ _ _) ?_
      exact node_end (E:=w.heap.size) (Nat.le_refl _) hBl hr06.out him6 hE6 hE0.out hle1 hn0.out hm0.out (mk_reps (nil_list _ _ rfl) (nil_list _ _ rfl)) HR.out rfl rfl
  ·have hm' :((m.length:Int)==1)=false:=by simp;omega
   have HR:Hid (rdN s (d+1) a=((nd0',false),a1)):=by
    show rdN s (d+1) a=_
    unfold rdN
    rw[hid.out]
    match m,hm with
    |[],_=>rfl
    |_::_::_,_=>rfl
   go_wp2_with fail
   refine Tryz.node_ret rfl rfl rfl (set5_at hE1 _ _ _ _ _) ?_
   exact node_end (E:=w.heap.size) (Nat.le_refl _) hBl hr0.out him1 hE1 hE0.out hle1 hn0.out hm0.out (Tryz.nil_reps G1) HR.out rfl rfl
end Go.Proofs
namespace Go.Fw
open Go.RowKit
theorem bytes_imm{G G' :Gh}(h:∀b o v,G.imm b o=some v→G'.imm b o=some v) {l:Bs}{n:Nat}{f:Bool}{v:Value}(hr:Rep G (.list (flatE byteE l) n f) v):Rep G' (.list (flatE byteE l) n f) v:=by
 have key:∀(l:Bs) (b o:Nat),Cells G b o (flatE byteE l)→Cells G' b o (flatE byteE l):=by
  intro l
  induction l with
  |nil=>intro b o _;trivial
  |cons x l ih=>
   intro b o hc
   have hc:Cells G b o (.int .u8 (x.toNat:Int)::flatE byteE l):=hc
   show Cells G' b o (.int .u8 (x.toNat:Int)::flatE byteE l)
   simp only[Cells,Rep]at hc⊢
   obtain⟨⟨v,h1,rfl⟩,h2⟩:=hc
   exact⟨⟨_,h _ _ _ h1,rfl⟩,ih b (o+1) h2⟩
 simp only[Rep]at hr⊢
 obtain⟨a,cap,rfl,h1,h2,h3,h4⟩:=hr
 refine⟨a,cap,rfl,h1,h2,h3,h4.imp ?_ id⟩
 rintro⟨b,o,rfl,hc⟩
 exact⟨b,o,rfl,key l b o hc⟩
end Go.Fw
namespace Go.Proofs
open Go.RowKit Go.Shelf Go.Fw
attribute [local go_sem] Oper.semAt_some
def ptD(r:(Fw.Node×Bool)×Nat) (n:Nat) (e:Bs) (f:Bool) (c:Int):D:=bif (!r.1.2)||(Nat.blt r.2 n)||(c !=0) then .tuple [.list [] 0 false,.agg [.int .i64 11,.int .i64 (r.2:Int)]] else .tuple [.list (flatE byteE e) e.length f,.agg [.int .i64 0,.int .i64 0]]
def PTPost(G:Gh) (w:World) (d:D) (e:Ending) (w' :World):Prop:=∃v G',e= .returned v∧Grow G G' w w'∧Rep G' d v
theorem Tryz.pt_ret{Q:Ending→World→Prop}{a:Act}{W' :World}{E:Nat}{v c0 c1:Value}(h2:a.tmps.getD 2 undef=v) (h3:a.tmps.getD 3 undef= .pointer (some ⟨E,0,none⟩)) (hd:a.defers=[]) (hE:W'.heap[E]? =some (.cells #[c0,c1] 31 (0,0)))
 (h:Q (.returned (.tuple #[v,.agg #[c0,c1]])) W'):bodyPost Tryz.prog Tryz.f20 Q .ret a W' :=by
 have x0:W'.cell? ⟨E,0,none⟩=some c0:=by simp[World.cell?,hE]
 have x1:W'.cell? ⟨E,1,none⟩=some c1:=by simp[World.cell?,hE]
 rw[Array.getD_eq_getD_getElem?]at h2 h3
 refine bodyPost_ret (v:= .tuple #[v,.agg #[c0,c1]]) ?_ hd ?_
 ·simp[results,Tryz.results20,go_sem,h2,h3,x0,x1]
 ·exact h
theorem Tryz.pt_end{G G1 G3:Gh}{w W0 W2 W3 W' :World}{s:List UInt8}{a1:Nat}{c0 c1 v:Value}{l:Bs}{n:Nat}{f:Bool}{k0 k1:Int}{d:D}{e:Ending}(hI:ImmOk G w) (hb0:Below w.heap.size w W0) (hsz:W0.heap.size=w.heap.size+2) (hE0:W0.heap[w.heap.size]? =some (.cells #[.int .i64 0,.int .i64 0] 31 (0,0)))
 (hR2:RStep (w.heap.size+1) s W0 W2 a1) (hle1:G.Le G1) (hn1:∀b o,b<W0.heap.size→G1.imm b o=G.imm b o) (hm1:∀b,b<W0.heap.size→G1.mimm b=G.mimm b) (hg3:Grow G1 G3 W2 W3)
 (hs:W'.heap.size=W3.heap.size) (hne:∀k,k≠w.heap.size→W'.heap[k]? =W3.heap[k]?) (hE:W'.heap[w.heap.size]? =some (.cells #[c0,c1] 31 (0,0))) (hk:Go.Fw.Rest W3 W') (hc0:c0= .int .i64 k0) (hc1:c1= .int .i64 k1) (hv:Rep G3 (.list (flatE byteE l) n f) v)
 (hd:d= .tuple [.list (flatE byteE l) n f,.agg [.int .i64 k0,.int .i64 k1]]) (he:e= .returned (.tuple #[v,.agg #[c0,c1]])):PTPost G w d e W' :=by
 subst hd he hc0 hc1
 have hs2:=hR2.size
 have hE3:W3.heap[w.heap.size]? =some (.cells #[.int .i64 0,.int .i64 0] 31 (0,0)):=(hg3.below.block _ (by omega)).trans ((hR2.same _ (by omega) (by omega)).trans hE0)
 have hEn:∀o,G3.imm w.heap.size o=none:=fun o=>(hg3.imm_new _ o (by omega)).trans ((hn1 _ o (by omega)).trans (hI.out (Nat.le_refl _)))
 have him:ImmOk G3 W' :=imm_one ⟨hg3.imm,hg3.mimm,hg3.siz⟩ hEn hE3 hE rfl hne
 refine⟨_,{G3 with blk:=G.blk},rfl,⟨⟨fun b o v h=>hg3.le.imm _ _ _ (hle1.imm _ _ _ h),fun b es h=>hg3.le.mimm _ _ (hle1.mimm _ _ h),fun _ _ _ h=>h,fun b n h=>hg3.le.siz _ _ (hle1.siz _ _ h)⟩,⟨?_,?_,?_,?_,fun k hk=> ?_⟩,rfl,him.imm,him.mimm,him.siz,fun b o hb=> ?_,fun b hb=> ?_⟩,?_⟩
 ·exact hk.1.trans (hg3.below.os.trans (hR2.rest.1.trans hb0.os))
 ·exact hk.2.1.trans (hg3.below.tape.trans (hR2.rest.2.1.trans hb0.tape))
 ·exact hk.2.2.trans (hg3.below.output.trans (hR2.rest.2.2.trans hb0.output))
 ·have:=hg3.below.size
  have:=hb0.size
  omega
 ·exact(hne k (by omega)).trans ((hg3.below.block k (by omega)).trans ((hR2.same k (by omega) (by omega)).trans (hb0.block k hk)))
 ·exact(hg3.imm_new b o (by omega)).trans (hn1 b o (by omega))
 ·exact(hg3.mimm_new b (by omega)).trans (hm1 b (by omega))
 ·simp only[Rep,Reps]
  refine⟨_,rfl,_,_,rfl,?_,_,_,rfl,⟨_,rfl,_,_,rfl,rfl,_,_,rfl,rfl,rfl⟩,rfl⟩
  have:=bytes_imm (G:=G3) (G' :={G3 with blk:=G.blk}) (fun b o v h=>h) hv
  simpa only[Rep] using this
theorem Tryz.node_ok(s:List UInt8) (B:Nat) (hs:s.length<1000000):∀d,d≤16→NodeLaw s B d
 |0,_=>fun _ a w hI hG hGB hB ha=>Tryz.node_zero B a s w hI hG hGB hB hs ha
 |d+1,h=>Tryz.node_succ s B d hs (by omega) (Tryz.node_ok s B hs d (by omega))
set_option maxRecDepth 100000 in
set_option maxHeartbeats 4000000 in
theorem Tryz.ptree_ok{s e:List UInt8}{f:Bool}{c:Int}(hs:s.length<1000000) (hp:PureOK Tryz.prog 37 [.agg (nodeCells (rdN s 16 0).1.1)] (.tuple [.list (flatE byteE e) e.length f,.int .i64 c])):
 PureOK Tryz.prog 20 [.str s] (ptD (rdN s 16 0) s.length e f c):=by
 intro G w vals hI hG hv
 simp only[Reps,Rep]at hv
 obtain⟨v,_,rfl,rfl,rfl⟩:=hv
 obtain⟨dd,hdd⟩:∃dd,ptD (rdN s 16 0) s.length e f c=dd:=⟨_,rfl⟩
 rw[hdd]
 have hdd' :Hid (dd=ptD (rdN s 16 0) s.length e f c):=hdd.symm
 clear hdd
 show Calls Tryz.prog 20 _ w (PTPost G w dd)
 go_enter Tryz.func20,Tryz.ntmps20
 go_wp2_with fail
 have hb0:Below w.heap.size w ((w.alloc (Obj.cells #[Value.int IntKind.i64 0,Value.int IntKind.i64 0] 31)).alloc (Obj.cells #[Value.string {data:=s.toArray},Value.int IntKind.i64 0] 95)):=((Below.refl _ w).alloc (Nat.le_refl _) _).alloc (by simp) _
 have hB0:Rdr ((w.alloc (Obj.cells #[Value.int IntKind.i64 0,Value.int IntKind.i64 0] 31)).alloc (Obj.cells #[Value.string {data:=s.toArray},Value.int IntKind.i64 0] 95)) (w.heap.size+1) s 0:=by
  have:=World.alloc_heap_new (w.alloc (Obj.cells #[Value.int IntKind.i64 0,Value.int IntKind.i64 0] 31)) (Obj.cells #[Value.string {data:=s.toArray},Value.int IntKind.i64 0] 95)
  simpa[Rdr] using this
 have hE0:((w.alloc (Obj.cells #[Value.int IntKind.i64 0,Value.int IntKind.i64 0] 31)).alloc (Obj.cells #[Value.string {data:=s.toArray},Value.int IntKind.i64 0] 95)).heap[w.heap.size]? =some (Obj.cells #[Value.int IntKind.i64 0,Value.int IntKind.i64 0] 31):=by
  first|rw[heap_alloc_old _ _ _ (by simp)]|rw[heap_alloc_old _ _ (by simp)]
  exact World.alloc_heap_new w _
 refine((Tryz.node_ok s (w.heap.size+1) hs 16 (Nat.le_refl _)) G 0 _ (imm_below hI hb0) (glob_below hG hb0) (fun o=>hI.out (by omega)) hB0 (Nat.zero_le _)).mono ?_
 obtain⟨W0,hW0⟩:∃W0,((w.alloc (Obj.cells #[Value.int IntKind.i64 0,Value.int IntKind.i64 0] 31)).alloc (Obj.cells #[Value.string {data:=s.toArray},Value.int IntKind.i64 0] 95))=W0:=⟨_,rfl⟩
 have hsz:W0.heap.size=w.heap.size+2:=by rw[←hW0];simp
 rw[hW0]at hb0 hB0 hE0⊢
 clear hW0
 rintro r0 W1 ⟨v,G1,rfl,hr1,hle1,him1,hn1,hm1,hrep1⟩
 obtain⟨⟨⟨nd,ok⟩,a1⟩,hq⟩:∃r,rdN s 16 0=r:=⟨_,rfl⟩
 rw[hq]at hr1 hrep1 hp
 rw[hq]
 have hq' :Hid (rdN s 16 0=((nd,ok),a1)):=hq
 clear hq
 dsimp only at hr1 hrep1 hp⊢
 obtain⟨nc,nm,nk,nb,nks⟩:=nd
 have hrep4:=hrep1
 simp only[Rep,nodeCells,Reps]at hrep4
 obtain⟨⟨arr⟩,rfl,q1,_,e1,rfl,q2,_,rfl,rfl,q3,_,rfl,rfl,q4,_,rfl,hq4,q5,_,rfl,hq5,rfl⟩:=hrep4
 dsimp only at e1
 subst e1
 simp only[bytesD,Rep]at hq4 hq5
 obtain⟨A4,C4,rfl,-⟩:=hq4
 obtain⟨A5,C5,rfl,-⟩:=hq5
 have hG1:GlobOk Tryz.prog G1 W1:=glob_le (glob_rstep (glob_below hG hb0) hB0 hr1) hle1
 have him1' :Hid (ImmOk G1 W1):=him1
 go_upto_region 3 with fail
 have hb3:Below W1.heap.size W1 (W1.alloc (Obj.cells #[Value.int IntKind.i64 nc,Value.int IntKind.i64 nm,Value.bool nk,Value.slice A4 nb.length C4,Value.slice A5 nks.length C5] 47)):=(Below.refl _ W1).alloc (Nat.le_refl _) _
 have hN3:=World.alloc_heap_new W1 (Obj.cells #[Value.int IntKind.i64 nc,Value.int IntKind.i64 nm,Value.bool nk,Value.slice A4 nb.length C4,Value.slice A5 nks.length C5] 47)
 obtain⟨W2,hW2⟩:∃W',W1.alloc (Obj.cells #[Value.int IntKind.i64 nc,Value.int IntKind.i64 nm,Value.bool nk,Value.slice A4 nb.length C4,Value.slice A5 nks.length C5] 47)=W' :=⟨_,rfl⟩
 rw[hW2]at hb3 hN3⊢
 clear hW2
 have hI2:ImmOk G1 W2:=imm_below him1 hb3
 have hG2:GlobOk Tryz.prog G1 W2:=glob_below hG1 hb3
 have hR2:Hid (RStep (w.heap.size+1) s W0 W2 a1):=hr1.trans (rstep_below hb3 hr1.rdr)
 have hp' :Hid (PureOK Tryz.prog 37 [.agg (nodeCells (.mk nc nm nk nb nks))] (.tuple [.list (flatE byteE e) e.length f,.int .i64 c])):=hp
 have hI2' :Hid (ImmOk G1 W2):=hI2
 have hG2' :Hid (GlobOk Tryz.prog G1 W2):=hG2
 have hrep2:Hid (Rep G1 (.agg (nodeCells (.mk nc nm nk nb nks))) (.agg #[Value.int IntKind.i64 nc,Value.int IntKind.i64 nm,Value.bool nk,Value.slice A4 nb.length C4,Value.slice A5 nks.length C5])):=hrep1
 obtain⟨⟨n0,n1,n2,n3,n4⟩,-⟩:=bx5 hN3
 clear hrep1 hI2 hG2 hG1 him1 hr1 hp
 go_wp2_with fail
 refine(hp'.out G1 W2 [.agg #[Value.int IntKind.i64 nc,Value.int IntKind.i64 nm,Value.bool nk,Value.slice A4 nb.length C4,Value.slice A5 nks.length C5]] hI2'.out hG2'.out (by simp only[Reps];exact⟨_,_,rfl,hrep2.out,rfl⟩)).mono ?_
 rintro r1 W3 ⟨v3,G3,rfl,hg3,hrep3⟩
 have hrep3' :Hid (Rep G3 (.tuple [.list (flatE byteE e) e.length f,.int .i64 c]) v3):=hrep3
 simp only[Rep,Reps]at hrep3
 obtain⟨⟨arr3⟩,rfl,p1,_,e1,hl3,p2,_,rfl,rfl,rfl⟩:=hrep3
 dsimp only at e1
 subst e1
 obtain⟨A6,C6,rfl,-⟩:=hl3
 have hB3:W3.heap[w.heap.size+1]? =some (.cells #[.string ⟨s.toArray⟩,.int .i64 (a1:Int)] 95 (0,0)):=(hg3.below.block _ (Array.getElem?_eq_some_iff.1 hR2.out.rdr).1).trans hR2.out.rdr
 have hE3:W3.heap[w.heap.size]? =some (.cells #[.int .i64 0,.int .i64 0] 31 (0,0)):=(hg3.below.block _ (by have:=hR2.out.size;omega)).trans ((hR2.out.same _ (by omega) (by omega)).trans hE0)
 have b1:W3.cell? ⟨w.heap.size+1,1,none⟩=some (.int .i64 (a1:Int)):=by simp[World.cell?,hB3]
 have x0:W3.cell? ⟨w.heap.size,0,none⟩=some (.int .i64 0):=by simp[World.cell?,hE3]
 have x1:W3.cell? ⟨w.heap.size,1,none⟩=some (.int .i64 0):=by simp[World.cell?,hE3]
 have y0:W3.frozen? ⟨w.heap.size,0,none⟩=false:=by simp[World.frozen?,hE3]
 have y1:W3.frozen? ⟨w.heap.size,1,none⟩=false:=by simp[World.frozen?,hE3]
 have hE0' :Hid (W0.heap[w.heap.size]? =some (.cells #[.int .i64 0,.int .i64 0] 31 (0,0))):=hE0
 clear n0 n1 n2 n3 n4 hN3 hB0 hE0
 cases ok with
 |false=>
  go_wp2_with fail
  go_region
  go_wp2_with fail
  refine Tryz.pt_ret (v:= .slice none 0 0) rfl rfl rfl (set1_at (set1_at hE3 0 (.int .i64 11)) 1 (.int .i64 (a1:Int))) ?_
  refine Tryz.pt_end (l:=[]) (n:=0) (f:=false) (k0:=11) (k1:=(a1:Int)) hI hb0 hsz hE0'.out hR2.out hle1 hn1 hm1 hg3 (by simp) (fun k hk=> ?_) (set1_at (set1_at hE3 0 (.int .i64 11)) 1 (.int .i64 (a1:Int))) ⟨rfl,rfl,rfl⟩ rfl rfl ?_ ?_ rfl
  ·exact(Below.heap_setCell _ ⟨w.heap.size,1,none⟩ _ k hk).trans (Below.heap_setCell _ ⟨w.heap.size,0,none⟩ _ k hk)
  ·simp only[Rep]
   exact⟨none,0,rfl,Nat.le_refl _,by decide,by simp,.inr rfl⟩
  ·rw[hdd'.out,hq'.out];rfl
 |true=>
  by_cases h1:a1<s.length
  ·have h1' :decide ((a1:Int)<((⟨s.toArray⟩:ByteArray).size:Int))=true:=by
    rw[decide_eq_true_eq];show(a1:Int)<(s.toArray.size:Int);rw[List.size_toArray];omega
   go_wp2_with fail
   go_region
   go_wp2_with fail
   refine Tryz.pt_ret (v:= .slice none 0 0) rfl rfl rfl (set1_at (set1_at hE3 0 (.int .i64 11)) 1 (.int .i64 (a1:Int))) ?_
   refine Tryz.pt_end (l:=[]) (n:=0) (f:=false) (k0:=11) (k1:=(a1:Int)) hI hb0 hsz hE0'.out hR2.out hle1 hn1 hm1 hg3 (by simp) (fun k hk=> ?_) (set1_at (set1_at hE3 0 (.int .i64 11)) 1 (.int .i64 (a1:Int))) ⟨rfl,rfl,rfl⟩ rfl rfl ?_ ?_ rfl
   ·exact(Below.heap_setCell _ ⟨w.heap.size,1,none⟩ _ k hk).trans (Below.heap_setCell _ ⟨w.heap.size,0,none⟩ _ k hk)
   ·simp only[Rep]
    exact⟨none,0,rfl,Nat.le_refl _,by decide,by simp,.inr rfl⟩
   ·rw[hdd'.out,hq'.out];unfold ptD;rw[show Nat.blt a1 s.length=true from by simp[Nat.blt_eq,h1]];rfl
  ·have h1' :decide ((a1:Int)<((⟨s.toArray⟩:ByteArray).size:Int))=false:=by
    rw[decide_eq_false_iff_not];show ¬(a1:Int)<(s.toArray.size:Int);rw[List.size_toArray];omega
   by_cases h2:c=0
   ·subst h2
    go_wp2_with fail
    refine Tryz.pt_ret (v:= .slice A6 e.length C6) rfl rfl rfl (set1_at (set1_at hE3 0 (.int .i64 0)) 1 (.int .i64 0)) ?_
    refine Tryz.pt_end (l:=e) (n:=e.length) (f:=f) (k0:=0) (k1:=0) hI hb0 hsz hE0'.out hR2.out hle1 hn1 hm1 hg3 (by simp) (fun k hk=> ?_) (set1_at (set1_at hE3 0 (.int .i64 0)) 1 (.int .i64 0)) ⟨rfl,rfl,rfl⟩ rfl rfl ?_ ?_ rfl
    ·exact(Below.heap_setCell _ ⟨w.heap.size,1,none⟩ _ k hk).trans (Below.heap_setCell _ ⟨w.heap.size,0,none⟩ _ k hk)
    ·have h3:=hrep3'.out
     simp only[Rep,Reps]at h3⊢
     obtain⟨_,k1,_,_,k2,k3,_⟩:=h3
     cases k1
     cases k2
     exact k3
    ·rw[hdd'.out,hq'.out];unfold ptD;rw[show Nat.blt a1 s.length=false from by rw[←Bool.not_eq_true,Nat.blt_eq];exact h1];rfl
   ·have h2' :(c !=0)=true:=by simpa using h2
    go_wp2_with fail
    go_region
    go_wp2_with fail
    refine Tryz.pt_ret (v:= .slice none 0 0) rfl rfl rfl (set1_at (set1_at hE3 0 (.int .i64 11)) 1 (.int .i64 (a1:Int))) ?_
    refine Tryz.pt_end (l:=[]) (n:=0) (f:=false) (k0:=11) (k1:=(a1:Int)) hI hb0 hsz hE0'.out hR2.out hle1 hn1 hm1 hg3 (by simp) (fun k hk=> ?_) (set1_at (set1_at hE3 0 (.int .i64 11)) 1 (.int .i64 (a1:Int))) ⟨rfl,rfl,rfl⟩ rfl rfl ?_ ?_ rfl
    ·exact(Below.heap_setCell _ ⟨w.heap.size,1,none⟩ _ k hk).trans (Below.heap_setCell _ ⟨w.heap.size,0,none⟩ _ k hk)
    ·simp only[Rep]
     exact⟨none,0,rfl,Nat.le_refl _,by decide,by simp,.inr rfl⟩
    ·rw[hdd'.out,hq'.out];unfold ptD;rw[h2'];simp[flatE];rfl
end Go.Proofs
namespace Go.Fw
open Go
def F_PT(N:Nat) (s:Bs):Option (Bs×(Int×Int)):=
 bif Nat.blt s.length 1000000 then(
 (F_tree_Encode N (rdN s 16 0).1.1).bind fun q=>
 bif (!(rdN s 16 0).1.2)||(Nat.blt (rdN s 16 0).2 s.length)||(q.2 !=0) then(
 some ([],(11,((rdN s 16 0).2:Int))))
 else
 some (q.1,(0,0)))
 else
 none
end Go.Fw
namespace Go.Fw
noncomputable def k_PT(N:Nat):Ctr:=⟨[.hole .str],.tup [.hole (.sl .byte),.hole (.pair (.int .i64) (.int .i64))],fun(x:Bs)=>F_PT N x⟩
end Go.Fw
namespace Go.Proofs.Tryz
open Go Go.Fw Go.RowKit
theorem enc_ok(N:Nat) {n:Fw.Node}{b:Bs}{c:Int}(h:F_tree_Encode N n=some (b,c)):PureOK prog 37 [.agg (nodeCells n)] (.tuple [.list (flatE byteE b) b.length false,.int .i64 c]):=by
 obtain⟨_,_,_,hh⟩:=c_tree_Encode N
 obtain⟨v,h1,_,h3⟩:=hh n (b,c) h
 have e:v= .tup [.sl .byte b false,.int .i64 c]:=by
  have h1:some ((SV.tup [.sl .byte b false,.int .i64 c],([]:List DV)))=some (v,[]):=h1
  cases h1;rfl
 subst e
 obtain⟨nc,nm,nk,nb,nks⟩:=n
 refine h3 [.agg [.int .i64 nc,.int .i64 nm,.bool nk,.sl .byte nb false,.sl .node nks false]] rfl _ ?_
 simp only[VRs,VR]
 refine⟨_,_,rfl,⟨_,rfl,?_⟩,rfl⟩
 refine⟨_,_,rfl,rfl,_,_,rfl,rfl,_,_,rfl,rfl,_,_,rfl,⟨false,rfl,id⟩,_,_,rfl,⟨false,rfl,id⟩,rfl⟩
theorem c_PT(N:Nat):CtrOk prog 20 (k_PT N):=by
 refine⟨(fok_of (f:=20) (fn:=f20) (by kernel_rfl)).2,rfl,rfl,fun(x:Bs) (y:Bs×(Int×Int)) hy=> ?_⟩
 have hy:F_PT N x=some y:=hy
 unfold F_PT at hy
 rcases cond_inv hy with⟨hc,hy⟩|⟨_,hy⟩<;>try (cases hy;done)
 obtain⟨⟨b,c⟩,hq,hy⟩:=bind_inv hy
 have hp:=ptree_ok (by simpa[Nat.blt_eq] using hc) (enc_ok N hq)
 obtain⟨l,k,o⟩:=y
 refine⟨.tup [.sl .byte l false,.agg [.int .i64 k,.int .i64 o]],rfl,fun S σ=> ?_,fun vs hvs ds hds=> ?_⟩
 ·simp only[SV.can,SV.cans,VR,VRs]
  exact⟨_,rfl,_,_,rfl,⟨false,rfl,id⟩,_,_,rfl,⟨_,rfl,_,_,rfl,rfl,_,_,rfl,rfl,rfl⟩,rfl⟩
 ·have:vs=[.str x]:=by
   have h2:some ([SV.str x],([]:List DV))=some (vs,[]):=hvs
   cases h2
   rfl
  subst this
  simp only[VRs,VR]at hds
  obtain⟨e,es,rfl,rfl,rfl⟩:=hds
  unfold ptD at hp
  dsimp only at hy
  rcases cond_inv hy with⟨hd,hy⟩|⟨hd,hy⟩
  ·rw[hd]at hp
   cases hy
   exact hp
  ·rw[hd]at hp
   cases hy
   exact hp
end Go.Proofs.Tryz
namespace Go.Fw
open Go
noncomputable section
def F_cref02_ReadIdentifier(a1:Int):Option (Int×Bool×Int×Int):=
 bif (Int.tmod (IntKind.wrap .i64 a1) 32==31) then(
 some (0,false,0,3))
 else
 some (wquo .i64 (IntKind.wrap .i64 a1) 64,(Int.tmod (wquo .i64 (IntKind.wrap .i64 a1) 32) 2==1),Int.tmod (IntKind.wrap .i64 a1) 32,0)
def F_cref02_Identifier(a1:Int) (a2:Bool) (a3:Int):Option (Int×Int):=
 bif decide (a1<0) then(
 some (0,9))
 else
 bif decide (a1>3) then(
 some (0,9))
 else
 bif decide (a3<0) then(
 some (0,9))
 else
 bif decide (a3>30) then(
 some (0,9))
 else
 ((
 bif a2 then(
 some (wadd .i64 (wadd .i64 (wmul .i64 a1 64) a3) 32))
 else
 some (wadd .i64 (wmul .i64 a1 64) a3):Option (Int))).bind fun i1=>
 some (IntKind.wrap .u8 i1,0)
def F_cref12_Hex_l0(N n:Nat):(Bs×Bs×Int)→Option Bs:=Nat.rec (fun _=>none) (fun _ L (l1,s2,i3)=>
 bif decide (i3<(l1.length:Int)) then(
 (ix l1 i3).bind fun b4=>
 (ix l1 i3).bind fun b5=>
 (slc ([48,49,50,51,52,53,54,55,56,57,97,98,99,100,101,102]:Bs) (wquo .u8 (b4.toNat:Int) 16) (wadd .u8 (wquo .u8 (b5.toNat:Int) 16) 1)).bind fun s6=>
 (cat s2 s6).bind fun s7=>
 (ix l1 i3).bind fun b8=>
 (ix l1 i3).bind fun b9=>
 (slc ([48,49,50,51,52,53,54,55,56,57,97,98,99,100,101,102]:Bs) (Int.tmod (b8.toNat:Int) 16) (wadd .u8 (Int.tmod (b9.toNat:Int) 16) 1)).bind fun s10=>
 (cat s7 s10).bind fun s11=>
 L (l1,s11,wadd .i64 i3 1))
 else
 some s2) n
def F_cref12_Hex(N:Nat) (a1:Bs):Option Bs:=
 (F_cref12_Hex_l0 N N (a1,[],0)).bind fun s12=>
 some s12
def F_cref29_Text_l0(N:Nat) (R:Fw.Node→Option Bs) (n:Nat):(Bs×Int×Int×Int×Bool×Bs×List Fw.Node)→Option Bs:=Nat.rec (fun _=>none) (fun _ L (s9,i10,i11,i12,c13,l14,l15)=>
 bif decide (i10<(l15.length:Int)) then(
 ((
 bif decide (i10>0) then(
 (cat s9 ([32]:Bs)).bind fun s16=>
 some (s16,i10,i11,i12,c13,l14,l15))
 else
 some (s9,i10,i11,i12,c13,l14,l15):Option (Bs×Int×Int×Int×Bool×Bs×List Fw.Node))).bind fun(s17,i18,i19,i20,c21,l22,l23)=>
 (ix l23 i18).bind fun e24=>
 (R (Fw.Node.mk e24.cls e24.num e24.cons e24.body e24.kids)).bind fun s25=>
 (cat s17 s25).bind fun s26=>
 L (s26,wadd .i64 i18 1,i19,i20,c21,l22,l23))
 else
 some s9) n
def F_cref29_Text(N n:Nat):Fw.Node→Option Bs:=Nat.rec (fun _=>none) (fun _ R a1=>
 (F_cref02_Identifier a1.cls a1.cons a1.num).bind fun(i1,i2)=>
 (toB i1).bind fun b3=>
 (F_cref12_Hex N [b3]).bind fun s4=>
 bif (!a1.cons) then(
 (cat s4 ([58]:Bs)).bind fun s5=>
 (F_cref12_Hex N a1.body).bind fun s6=>
 (cat s5 s6).bind fun s7=>
 some s7)
 else
 (cat s4 ([40]:Bs)).bind fun s8=>
 (F_cref29_Text_l0 N R N (s8,0,a1.cls,a1.num,a1.cons,a1.body,a1.kids)).bind fun s27=>
 (cat s27 ([41]:Bs)).bind fun s28=>
 some s28) n
def F_cref01_Minimal_o(N n:Nat):Int→Option Bs:=Nat.rec (fun _=>none) (fun _ R a1=>
 bif decide (a1<256) then(
 (toB (IntKind.wrap .u8 a1)).bind fun b1=>
 some [b1])
 else
 (R (wquo .u64 a1 256)).bind fun l2=>
 (toB (IntKind.wrap .u8 (Int.tmod a1 256))).bind fun b3=>
 (app 1 l2 [b3]).bind fun l4=>
 some l4) n
def F_cref01_Minimal(N:Nat) (a1:Int):Option Bs:=
 bif decide (a1<256) then(
 (toB (IntKind.wrap .u8 a1)).bind fun b1=>
 some [b1])
 else
 (F_cref01_Minimal_o N N (wquo .u64 a1 256)).bind fun l2=>
 (toB (IntKind.wrap .u8 (Int.tmod a1 256))).bind fun b3=>
 (app 1 l2 [b3]).bind fun l4=>
 some l4
def F_cref02_Length(N:Nat) (a1:Int):Option (Bs×Int):=
 bif decide (a1<0) then(
 some ([],9))
 else
 bif decide (a1>2147483647) then(
 some ([],9))
 else
 (F_cref01_Minimal N (IntKind.wrap .u64 a1)).bind fun l1=>
 bif decide (a1<128) then(
 some (l1,0))
 else
 (toB (IntKind.wrap .u8 (wadd .i64 128 (l1.length:Int)))).bind fun b2=>
 (app 1 [b2] l1).bind fun l3=>
 some (l3,0)
def F_cref02_Put(N:Nat) (a1:Int) (a2:Bs):Option Bs:=
 (F_cref02_Length N (a2.length:Int)).bind fun(l1,i2)=>
 (toB a1).bind fun b3=>
 (app 1 [b3] l1).bind fun l4=>
 (app 1 l4 a2).bind fun l5=>
 some l5
def F_cref03_Bytes_l0(N:Nat) (R:Fw.Node→Option Bs) (n:Nat):(Int×Int×Int×Int×Bool×Bs×List Fw.Node×Bs)→Option (Int×Bs):=Nat.rec (fun _=>none) (fun _ L (i4,i5,i6,i7,c8,l9,l10,l11)=>
 bif decide (i5<(l10.length:Int)) then(
 (ix l10 i5).bind fun e12=>
 (R (Fw.Node.mk e12.cls e12.num e12.cons e12.body e12.kids)).bind fun l13=>
 (app 1 l11 l13).bind fun l14=>
 L (i4,wadd .i64 i5 1,i6,i7,c8,l9,l10,l14))
 else
 some (i4,l11)) n
def F_cref03_Bytes(N n:Nat):Fw.Node→Option Bs:=Nat.rec (fun _=>none) (fun _ R a1=>
 (F_cref02_Identifier a1.cls a1.cons a1.num).bind fun(i1,i2)=>
 (app 1 [] a1.body).bind fun l3=>
 (F_cref03_Bytes_l0 N R N (i1,0,a1.cls,a1.num,a1.cons,a1.body,a1.kids,l3)).bind fun(i15,l16)=>
 (F_cref02_Put N i15 l16).bind fun l17=>
 some l17) n
def F_tree_read_1(a1:Int) (a2:Int):Option (Fw.Spot×(Int×Int)):=
 some (Fw.Spot.mk 0 0 (Fw.Node.mk 0 0 false [] []) [],a1,a2)
def F_tlv_ReadIdentifier(a1:Int):Option (Int×Bool×Int×Int):=
 bif (bits .and .u8 a1 31==31) then(
 some (0,false,0,3))
 else
 some (IntKind.wrap .i64 (wshr .u8 a1 6),(bits .and .u8 a1 32 !=0),IntKind.wrap .i64 (bits .and .u8 a1 31),0)
def F_tlv_ReadLength_1(a1:Int) (a2:Int):Option (Int×Int×(Int×Int)):=
 some (0,0,a1,a2)
def F_tlv_ReadLength_l0(N n:Nat):(Bs×Int×Int×Int×Int×Int)→Option (Bs×Int×Int×Int×Int):=Nat.rec (fun _=>none) (fun _ L (l16,i17,i18,i19,i20,i21)=>
 bif decide (i19>i17) then(
 some (l16,i17,i18,i20,i21))
 else
 (ix l16 i19).bind fun b22=>
 L (l16,i17,bits .or .i64 (wshl .i64 i18 8) (IntKind.wrap .i64 (b22.toNat:Int)),wadd .i64 i19 1,i20,i21)) n
def F_tlv_ReadLength(N:Nat) (a1:Bs):Option (Int×Int×(Int×Int)):=
 bif ((a1.length:Int)==0) then(
 (F_tlv_ReadLength_1 1 0).bind fun(i1,i2,v3)=>
 some (i1,i2,v3))
 else
 (ix a1 0).bind fun b4=>
 bif decide ((b4.toNat:Int)<128) then(
 (ix a1 0).bind fun b5=>
 some (IntKind.wrap .i64 (b5.toNat:Int),1,0,0))
 else
 (ix a1 0).bind fun b6=>
 bif (wsub .i64 (IntKind.wrap .i64 (b6.toNat:Int)) 128==0) then(
 (F_tlv_ReadLength_1 4 0).bind fun(i7,i8,v9)=>
 some (i7,i8,v9))
 else
 bif decide (wsub .i64 (IntKind.wrap .i64 (b6.toNat:Int)) 128>4) then(
 (F_tlv_ReadLength_1 4 0).bind fun(i10,i11,v12)=>
 some (i10,i11,v12))
 else
 bif decide ((a1.length:Int)≤wsub .i64 (IntKind.wrap .i64 (b6.toNat:Int)) 128) then(
 (F_tlv_ReadLength_1 1 (a1.length:Int)).bind fun(i13,i14,v15)=>
 some (i13,i14,v15))
 else
 (F_tlv_ReadLength_l0 N N (a1,wsub .i64 (IntKind.wrap .i64 (b6.toNat:Int)) 128,0,1,0,0)).bind fun(l23,i24,i25,i26,i27)=>
 (ix l23 1).bind fun b28=>
 bif ((b28.toNat:Int)==0) then(
 (F_tlv_ReadLength_1 4 0).bind fun(i29,i30,v31)=>
 some (i29,i30,v31))
 else
 bif decide (i25<128) then(
 (F_tlv_ReadLength_1 4 0).bind fun(i32,i33,v34)=>
 some (i32,i33,v34))
 else
 bif decide (i25>2147483647) then(
 (F_tlv_ReadLength_1 4 0).bind fun(i35,i36,v37)=>
 some (i35,i36,v37))
 else
 some (i25,wadd .i64 1 i24,0,0)
def F_tlv_ReadHeader(N:Nat) (a1:Bs):Option ((Int×Int×Bool×Int×Int)×(Int×Int)):=
 bif ((a1.length:Int)==0) then(
 some ((0,0,false,0,0),1,0))
 else
 (ix a1 0).bind fun b1=>
 (F_tlv_ReadIdentifier (b1.toNat:Int)).bind fun(i2,c3,i4,i5)=>
 bif (i5 !=0) then(
 some ((0,0,false,0,0),i5,0))
 else
 (slc a1 1 (a1.length:Int)).bind fun s6=>
 (F_tlv_ReadLength N s6).bind fun(i7,i8,v9)=>
 bif (v9.1 !=0) then(
 some ((0,0,false,0,0),v9.1,wadd .i64 v9.2 1))
 else
 some ((i2,i4,c3,i7,wadd .i64 1 i8),0,0)
def F_tree_read_l0(N:Nat) (R:Bs→Int→Int→Int→Option (Fw.Spot×(Int×Int))) (n:Nat):(Bs×Int×Int×Int×Int×Int×Int×Bool×List Fw.Spot×Int×Int×List Fw.Node×List Fw.Spot×Int×Int×Int×Int×Bool)→Option ((Int×Int×Int×Int×Bool×Int×Int)⊕(Int×Int×Int×Int×Bool×List Fw.Spot×Int×Int×List Fw.Node×List Fw.Spot×Int×Int×Int×Int×Bool)):=Nat.rec (fun _=>none) (fun _ L (l12,i13,i14,i15,i16,i17,i18,c19,l20,i21,i22,l23,l24,i25,i26,i27,i28,c29)=>
 bif decide (i14<i26) then(
 (R l12 i14 i26 (wsub .i64 i13 1)).bind fun(v30,v31)=>
 bif (v31.1 !=0) then(
 some (Sum.inl (0,0,0,0,false,v31)))
 else
 (app 112 l24 [Fw.Spot.mk v30.at' v30.stop (Fw.Node.mk v30.nd.cls v30.nd.num v30.nd.cons v30.nd.body v30.nd.kids) v30.kids]).bind fun l32=>
 (app 72 l23 [Fw.Node.mk v30.nd.cls v30.nd.num v30.nd.cons v30.nd.body v30.nd.kids]).bind fun l33=>
 L (l12,i13,v30.stop,i15,i16,i17,i18,c19,l20,i21,i22,l33,l32,i25,i26,i27,i28,c29))
 else
 some (Sum.inr (i15,i16,i17,i18,c19,l20,i21,i22,l23,l24,i25,i26,i27,i28,c29))) n
def F_tree_read(N n:Nat):Bs→Int→Int→Int→Option (Fw.Spot×(Int×Int)):=Nat.rec (fun _ _ _ _=>none) (fun _ R a1 a2 a3 a4=>
 bif (a4==0) then(
 (F_tree_read_1 5 a2).bind fun(v1,v2)=>
 some (Fw.Spot.mk v1.at' v1.stop (Fw.Node.mk v1.nd.cls v1.nd.num v1.nd.cons v1.nd.body v1.nd.kids) v1.kids,v2))
 else
 bif (decide (a3≤a3)&&decide (a3≤a1.length)) then(
 (slc a1 a2 a3).bind fun s3=>
 (F_tlv_ReadHeader N s3).bind fun(v4,v5)=>
 bif (v5.1 !=0) then(
 (F_tree_read_1 v5.1 (wadd .i64 a2 v5.2)).bind fun(v6,v7)=>
 some (Fw.Spot.mk v6.at' v6.stop (Fw.Node.mk v6.nd.cls v6.nd.num v6.nd.cons v6.nd.body v6.nd.kids) v6.kids,v7))
 else
 bif decide (wsub .i64 a3 (wadd .i64 a2 v4.2.2.2.2)<v4.2.2.2.1) then(
 (F_tree_read_1 1 a3).bind fun(v8,v9)=>
 some (Fw.Spot.mk v8.at' v8.stop (Fw.Node.mk v8.nd.cls v8.nd.num v8.nd.cons v8.nd.body v8.nd.kids) v8.kids,v9))
 else
 bif (!v4.2.2.1) then(
 (slc a1 (wadd .i64 a2 v4.2.2.2.2) (wadd .i64 (wadd .i64 a2 v4.2.2.2.2) v4.2.2.2.1)).bind fun s10=>
 (F_Clone s10).bind fun l11=>
 some (Fw.Spot.mk a2 (wadd .i64 (wadd .i64 a2 v4.2.2.2.2) v4.2.2.2.1) (Fw.Node.mk v4.1 v4.2.1 v4.2.2.1 l11 []) [],0,0))
 else
 (F_tree_read_l0 N R N (a1,a4,wadd .i64 a2 v4.2.2.2.2,0,0,0,0,false,[],0,0,[],[],a2,wadd .i64 (wadd .i64 a2 v4.2.2.2.2) v4.2.2.2.1,v4.1,v4.2.1,v4.2.2.1)).bind fun y34=>(match y34 with
 |Sum.inl (i35,i36,i37,i38,c39,i40,i41)=>some (Fw.Spot.mk i35 i36 (Fw.Node.mk i37 i38 c39 [] []) [],i40,i41)
 |Sum.inr ((i42,i43,i44,i45,c46,l47,i48,i49,l50,l51,i52,i53,i54,i55,c56))=>some (Fw.Spot.mk i52 i53 (Fw.Node.mk i54 i55 c56 [] l50) l51,0,0)))
 else
 none) n
def F_tree_whole(N:Nat) (a1:Bs):Option (Fw.Spot×(Int×Int)):=
 (F_tree_read N N a1 0 (a1.length:Int) 16).bind fun(v1,v2)=>
 bif (v2.1==0) then(
 bif decide (v1.stop<(a1.length:Int)) then(
 some (Fw.Spot.mk 0 0 (Fw.Node.mk 0 0 false [] []) [],2,v1.stop))
 else
 some (Fw.Spot.mk v1.at' v1.stop (Fw.Node.mk v1.nd.cls v1.nd.num v1.nd.cons v1.nd.body v1.nd.kids) v1.kids,v2))
 else
 some (Fw.Spot.mk v1.at' v1.stop (Fw.Node.mk v1.nd.cls v1.nd.num v1.nd.cons v1.nd.body v1.nd.kids) v1.kids,v2)
def F_tree_Parse(N:Nat) (a1:Bs):Option (Fw.Node×(Int×Int)):=
 (F_tree_whole N a1).bind fun(v1,v2)=>
 some (Fw.Node.mk v1.nd.cls v1.nd.num v1.nd.cons v1.nd.body v1.nd.kids,v2)
def F_dump_identifier(a1:Fw.Node):Option Int:=
 (F_tlv_Identifier a1.cls a1.cons a1.num).bind fun(i1,i2)=>
 some i1
def F_dump_text_l0(N:Nat) (R:Fw.Node→Option Bs) (n:Nat):(Bs×List Fw.Node×Int×Int×List Bs)→Option (Bs×List Bs):=Nat.rec (fun _=>none) (fun _ L (s7,l8,i9,i10,l11)=>
 bif decide (i10<i9) then(
 (ix l8 i10).bind fun e12=>
 (R (Fw.Node.mk e12.cls e12.num e12.cons e12.body e12.kids)).bind fun s13=>
 (app 16 l11 [s13]).bind fun l14=>
 L (s7,l8,i9,wadd .i64 i10 1,l14))
 else
 some (s7,l11)) n
def F_dump_text(N n:Nat):Fw.Node→Option Bs:=Nat.rec (fun _=>none) (fun _ R a1=>
 (F_dump_identifier (Fw.Node.mk a1.cls a1.num a1.cons a1.body a1.kids)).bind fun i1=>
 (toB i1).bind fun b2=>
 (F_Hex [b2]).bind fun s3=>
 bif (!a1.cons) then(
 (cat s3 ([58]:Bs)).bind fun s4=>
 (F_Hex a1.body).bind fun s5=>
 (cat s4 s5).bind fun s6=>
 some s6)
 else
 (F_dump_text_l0 N R N (s3,a1.kids,(a1.kids.length:Int),0,[])).bind fun(s15,l16)=>
 (cat s15 ([40]:Bs)).bind fun s17=>
 (F_Join l16 ([32]:Bs)).bind fun s18=>
 (cat s17 s18).bind fun s19=>
 (cat s19 ([41]:Bs)).bind fun s20=>
 some s20) n
def F_dump_Tree(N:Nat) (a1:Bs):Option (Bs×(Int×Int)):=
 (F_tree_Parse N a1).bind fun(v1,v2)=>
 bif (v2.1 !=0) then(
 some ([],v2))
 else
 (F_dump_text N N (Fw.Node.mk v1.cls v1.num v1.cons v1.body v1.kids)).bind fun s3=>
 some (s3,v2)
end
end Go.Fw
namespace Go.Proofs.Tryz
open Go Go.Fw
set_option maxHeartbeats 1000000
noncomputable def hHc:Tr TC:=(.node (.node (.node .nil 27 .byte .nil) 41 .str .nil) 45 .node (.node .nil 122 .spot .nil))
noncomputable def hOc:Tr OH:=(.node (.node (.node (.node (.node .nil 786436 (.val .byte) .nil) 983044 (.cells [(4,.node)]) (.node .nil 1507332 (.cells [(4,.node)]) .nil)) 2162690 (.cells [(4,.node)]) (.node (.node .nil 2162692 (.cells [(7,.spot)]) .nil) 2228228 (.val .str) .nil)) 2228230 (.cells [(4,.node)]) (.node (.node (.node .nil 2883588 (.cells [(4,.node)]) .nil) 2883597 (.cells [(4,.node)]) .nil) 2883599 (.cells [(4,.node)]) (.node (.node .nil 2883631 (.agg [(4,.node)]) .nil) 3014673 (.build .byte) .nil))) 4063234 (.cells [(7,.spot)]) (.node (.node (.node (.node .nil 4063236 (.cells [(7,.spot)]) .nil) 5636110 (.build .byte) .nil) 8585224 (.cells [(7,.spot)]) (.node (.node .nil 8585230 (.cells [(7,.spot),(6,.node)]) .nil) 8585231 (.cells [(7,.spot)]) .nil)) 8585289 (.agg [(6,.node),(7,.spot)]) (.node (.node (.node .nil 9568277 (.build .byte) .nil) 13631492 (.cells [(7,.spot)]) .nil) 14548999 (.build .byte) (.node (.node .nil 14549002 .res .nil) 14549006 (.build .byte) .nil))))
noncomputable def k_cref02_ReadIdentifier:Ctr:=⟨[.hole (.int .u8)],.tup [.hole (.int .i64),.hole .bool,.hole (.int .i64),.hole (.int .i64)],fun(x:Int)=>F_cref02_ReadIdentifier x⟩
noncomputable def x_cref02_ReadIdentifier(L:List LoopC):Cx:=⟨prog,T,hHc,hOc,[],[],[],L,.nil⟩
theorem c_cref02_ReadIdentifier:CtrOk prog 83 (k_cref02_ReadIdentifier):=fun_ok (cx:=x_cref02_ReadIdentifier []) tok mixed trivial trivial trivial trivial 83 _ (by kernel_rfl) (by kernel_rfl) (by intro x;kernel_rfl)
noncomputable def j_cref02_Identifier:Tr Exits:=(.node .nil 4294971392 [(.normal,⟨[(8,.hole (.int .i64))],[]⟩)] .nil)
noncomputable def k_cref02_Identifier:Ctr:=⟨[.hole (.int .i64),.hole .bool,.hole (.int .i64)],.tup [.hole (.int .u8),.hole (.int .i64)],fun(x:Int×Bool×Int)=>F_cref02_Identifier x.1 x.2.1 x.2.2⟩
noncomputable def x_cref02_Identifier(L:List LoopC):Cx:=⟨prog,T,hHc,hOc,[],[],[],L,j_cref02_Identifier⟩
theorem c_cref02_Identifier:CtrOk prog 64 (k_cref02_Identifier):=fun_ok (cx:=x_cref02_Identifier []) tok mixed trivial trivial trivial trivial 64 _ (by kernel_rfl) (by kernel_rfl) (by intro x;kernel_rfl)
noncomputable def k_cref12_Hex(N:Nat):Ctr:=⟨[.hole (.sl .byte)],.hole .str,fun(x:Bs)=>F_cref12_Hex N x⟩
noncomputable def x_cref12_Hex(N:Nat) (L:List LoopC):Cx:=⟨prog,T,hHc,hOc,[],[],[],L,.nil⟩
noncomputable def h_cref12_Hex_l0:Pat:=⟨[(0,.hole (.sl .byte)),(3,.hole .str),(4,.hole (.int .i64))],[]⟩
noncomputable def q_cref12_Hex_l0:Exits:=[(.exit 0,⟨[(3,.hole .str)],[]⟩)]
noncomputable def e_cref12_Hex_l0(N n:Nat):LoopC:=⟨65,3,0,h_cref12_Hex_l0,q_cref12_Hex_l0,fun x=>F_cref12_Hex_l0 N n x⟩
theorem l_cref12_Hex_l0(N:Nat):∀n,LOk prog (e_cref12_Hex_l0 N n):=loopc_ok (cx:=x_cref12_Hex N []) tok mixed trivial trivial trivial trivial 65 3 0 h_cref12_Hex_l0 q_cref12_Hex_l0 (fun n x=>F_cref12_Hex_l0 N n x) (by kernel_rfl) (by kernel_rfl) (fun _=>rfl) (by intro n x;kernel_rfl)
theorem c_cref12_Hex(N:Nat):CtrOk prog 65 (k_cref12_Hex N):=fun_ok (cx:=x_cref12_Hex N [e_cref12_Hex_l0 N N]) tok mixed trivial trivial trivial ⟨l_cref12_Hex_l0 N N,trivial⟩ 65 _ (by kernel_rfl) (by kernel_rfl) (by intro x;kernel_rfl)
noncomputable def j_cref29_Text:Tr Exits:=(.node .nil 2348819457 [(.normal,⟨[(1,.ptr 0 0),(5,.hole .str),(6,.hole (.int .i64))],[.cells [.hole (.int .i64),.hole (.int .i64),.hole .bool,.hole (.sl .byte),.hole (.sl .node)] false]⟩)] .nil)
noncomputable def k_cref29_Text(N m:Nat):Ctr:=⟨[.hole .node],.hole .str,fun(x:Fw.Node)=>F_cref29_Text N m x⟩
noncomputable def x_cref29_Text(N m:Nat) (L:List LoopC):Cx:=⟨prog,T,hHc,hOc,[(64,k_cref02_Identifier),(65,k_cref12_Hex N),(35,k_cref29_Text N m)],[],[],L,j_cref29_Text⟩
noncomputable def h_cref29_Text_l0:Pat:=⟨[(1,.ptr 0 0),(5,.hole .str),(6,.hole (.int .i64))],[.cells [.hole (.int .i64),.hole (.int .i64),.hole .bool,.hole (.sl .byte),.hole (.sl .node)] false]⟩
noncomputable def q_cref29_Text_l0:Exits:=[(.exit 0,⟨[(5,.hole .str)],[.junk]⟩)]
noncomputable def e_cref29_Text_l0(N m n:Nat):LoopC:=⟨35,7,0,h_cref29_Text_l0,q_cref29_Text_l0,fun x=>F_cref29_Text_l0 N (F_cref29_Text N m) n x⟩
theorem l_cref29_Text_l0(N m:Nat) (hR:CtrOk prog 35 (k_cref29_Text N m)):∀n,LOk prog (e_cref29_Text_l0 N m n):=loopc_ok (cx:=x_cref29_Text N m []) tok mixed ⟨c_cref02_Identifier,c_cref12_Hex N,hR,trivial⟩ trivial trivial trivial 35 7 0 h_cref29_Text_l0 q_cref29_Text_l0 (fun n x=>F_cref29_Text_l0 N (F_cref29_Text N m) n x) (by kernel_rfl) (by kernel_rfl) (fun _=>rfl) (by intro n x;kernel_rfl)
theorem c_cref29_Text(N:Nat):∀m,CtrOk prog 35 (k_cref29_Text N m):=fun m=>Nat.rec (motive:=fun m=>CtrOk prog 35 (k_cref29_Text N m)) (ctr0 35 _ (by kernel_rfl) (by kernel_rfl) (by intro x;kernel_rfl)) (fun m hR=>fun_ok (cx:=x_cref29_Text N m [e_cref29_Text_l0 N m N]) tok mixed ⟨c_cref02_Identifier,c_cref12_Hex N,hR,trivial⟩ trivial trivial ⟨l_cref29_Text_l0 N m hR N,trivial⟩ 35 (k_cref29_Text N (m+1)) (by kernel_rfl) (by kernel_rfl) (by intro x;kernel_rfl)) m
noncomputable def k_cref01_Minimal_o(N m:Nat):CtrO:=⟨[.hole (.int .u64)],.byte,fun(x:Int)=>F_cref01_Minimal_o N m x⟩
noncomputable def x_cref01_Minimal_o(N m:Nat) (L:List LoopC):Cx:=⟨prog,T,hHc,hOc,[],[(222,k_cref01_Minimal_o N m)],[],L,.nil⟩
theorem c_cref01_Minimal_o(N:Nat):∀m,CtrOOk prog 222 (k_cref01_Minimal_o N m):=fun m=>Nat.rec (motive:=fun m=>CtrOOk prog 222 (k_cref01_Minimal_o N m)) (ctrO0 222 _ (by kernel_rfl) (by kernel_rfl) (by intro x;kernel_rfl)) (fun m hR=>funO_ok (cx:=x_cref01_Minimal_o N m []) tok mixed trivial ⟨hR,trivial⟩ trivial trivial 222 (k_cref01_Minimal_o N (m+1)) (by kernel_rfl) (by kernel_rfl) (by intro x;kernel_rfl)) m
noncomputable def k_cref01_Minimal(N:Nat):Ctr:=⟨[.hole (.int .u64)],.hole (.sl .byte),fun(x:Int)=>F_cref01_Minimal N x⟩
noncomputable def x_cref01_Minimal(N:Nat) (L:List LoopC):Cx:=⟨prog,T,hHc,hOc,[],[(222,k_cref01_Minimal_o N N)],[],L,.nil⟩
theorem c_cref01_Minimal(N:Nat):CtrOk prog 222 (k_cref01_Minimal N):=fun_ok (cx:=x_cref01_Minimal N []) tok mixed trivial ⟨c_cref01_Minimal_o N N,trivial⟩ trivial trivial 222 _ (by kernel_rfl) (by kernel_rfl) (by intro x;kernel_rfl)
noncomputable def k_cref02_Length(N:Nat):Ctr:=⟨[.hole (.int .i64)],.tup [.hole (.sl .byte),.hole (.int .i64)],fun(x:Int)=>F_cref02_Length N x⟩
noncomputable def x_cref02_Length(N:Nat) (L:List LoopC):Cx:=⟨prog,T,hHc,hOc,[(222,k_cref01_Minimal N)],[],[],L,.nil⟩
theorem c_cref02_Length(N:Nat):CtrOk prog 146 (k_cref02_Length N):=fun_ok (cx:=x_cref02_Length N []) tok mixed ⟨c_cref01_Minimal N,trivial⟩ trivial trivial trivial 146 _ (by kernel_rfl) (by kernel_rfl) (by intro x;kernel_rfl)
noncomputable def k_cref02_Put(N:Nat):Ctr:=⟨[.hole (.int .u8),.hole (.sl .byte)],.hole (.sl .byte),fun(x:Int×Bs)=>F_cref02_Put N x.1 x.2⟩
noncomputable def x_cref02_Put(N:Nat) (L:List LoopC):Cx:=⟨prog,T,hHc,hOc,[(146,k_cref02_Length N)],[],[],L,.nil⟩
theorem c_cref02_Put(N:Nat):CtrOk prog 86 (k_cref02_Put N):=fun_ok (cx:=x_cref02_Put N []) tok mixed ⟨c_cref02_Length N,trivial⟩ trivial trivial trivial 86 _ (by kernel_rfl) (by kernel_rfl) (by intro x;kernel_rfl)
noncomputable def k_cref03_Bytes(N m:Nat):Ctr:=⟨[.hole .node],.hole (.sl .byte),fun(x:Fw.Node)=>F_cref03_Bytes N m x⟩
noncomputable def x_cref03_Bytes(N m:Nat) (L:List LoopC):Cx:=⟨prog,T,hHc,hOc,[(64,k_cref02_Identifier),(86,k_cref02_Put N),(46,k_cref03_Bytes N m)],[],[],L,.nil⟩
noncomputable def h_cref03_Bytes_l0:Pat:=⟨[(1,.ptr 0 0),(3,.hole (.int .u8)),(5,.own 1),(6,.hole (.int .i64))],[.cells [.hole (.int .i64),.hole (.int .i64),.hole .bool,.hole (.sl .byte),.hole (.sl .node)] false,.arr .byte false false]⟩
noncomputable def q_cref03_Bytes_l0:Exits:=[(.exit 0,⟨[(3,.hole (.int .u8)),(5,.own 1)],[.junk,.arr .byte false false]⟩)]
noncomputable def e_cref03_Bytes_l0(N m n:Nat):LoopC:=⟨46,4,0,h_cref03_Bytes_l0,q_cref03_Bytes_l0,fun x=>F_cref03_Bytes_l0 N (F_cref03_Bytes N m) n x⟩
theorem l_cref03_Bytes_l0(N m:Nat) (hR:CtrOk prog 46 (k_cref03_Bytes N m)):∀n,LOk prog (e_cref03_Bytes_l0 N m n):=loopc_ok (cx:=x_cref03_Bytes N m []) tok mixed ⟨c_cref02_Identifier,c_cref02_Put N,hR,trivial⟩ trivial trivial trivial 46 4 0 h_cref03_Bytes_l0 q_cref03_Bytes_l0 (fun n x=>F_cref03_Bytes_l0 N (F_cref03_Bytes N m) n x) (by kernel_rfl) (by kernel_rfl) (fun _=>rfl) (by intro n x;kernel_rfl)
theorem c_cref03_Bytes(N:Nat):∀m,CtrOk prog 46 (k_cref03_Bytes N m):=fun m=>Nat.rec (motive:=fun m=>CtrOk prog 46 (k_cref03_Bytes N m)) (ctr0 46 _ (by kernel_rfl) (by kernel_rfl) (by intro x;kernel_rfl)) (fun m hR=>fun_ok (cx:=x_cref03_Bytes N m [e_cref03_Bytes_l0 N m N]) tok mixed ⟨c_cref02_Identifier,c_cref02_Put N,hR,trivial⟩ trivial trivial ⟨l_cref03_Bytes_l0 N m hR N,trivial⟩ 46 (k_cref03_Bytes N (m+1)) (by kernel_rfl) (by kernel_rfl) (by intro x;kernel_rfl)) m
noncomputable def k_tree_read_1:Ctr:=⟨[.hole (.int .i64),.hole (.int .i64)],.tup [.hole .spot,.hole (.pair (.int .i64) (.int .i64))],fun(x:Int×Int)=>F_tree_read_1 x.1 x.2⟩
noncomputable def x_tree_read_1(L:List LoopC):Cx:=⟨prog,T,hHc,hOc,[],[],[],L,.nil⟩
theorem c_tree_read_1:CtrOk prog 208 (k_tree_read_1):=fun_ok (cx:=x_tree_read_1 []) tok mixed trivial trivial trivial trivial 208 _ (by kernel_rfl) (by kernel_rfl) (by intro x;kernel_rfl)
noncomputable def k_tlv_ReadIdentifier:Ctr:=⟨[.hole (.int .u8)],.tup [.hole (.int .i64),.hole .bool,.hole (.int .i64),.hole (.int .i64)],fun(x:Int)=>F_tlv_ReadIdentifier x⟩
noncomputable def x_tlv_ReadIdentifier(L:List LoopC):Cx:=⟨prog,T,hHc,hOc,[],[],[],L,.nil⟩
theorem c_tlv_ReadIdentifier:CtrOk prog 80 (k_tlv_ReadIdentifier):=fun_ok (cx:=x_tlv_ReadIdentifier []) tok mixed trivial trivial trivial trivial 80 _ (by kernel_rfl) (by kernel_rfl) (by intro x;kernel_rfl)
noncomputable def k_tlv_ReadLength_1:Ctr:=⟨[.hole (.int .i64),.hole (.int .i64)],.tup [.hole (.int .i64),.hole (.int .i64),.hole (.pair (.int .i64) (.int .i64))],fun(x:Int×Int)=>F_tlv_ReadLength_1 x.1 x.2⟩
noncomputable def x_tlv_ReadLength_1(L:List LoopC):Cx:=⟨prog,T,hHc,hOc,[],[],[],L,.nil⟩
theorem c_tlv_ReadLength_1:CtrOk prog 425 (k_tlv_ReadLength_1):=fun_ok (cx:=x_tlv_ReadLength_1 []) tok mixed trivial trivial trivial trivial 425 _ (by kernel_rfl) (by kernel_rfl) (by intro x;kernel_rfl)
noncomputable def k_tlv_ReadLength(N:Nat):Ctr:=⟨[.hole (.sl .byte)],.tup [.hole (.int .i64),.hole (.int .i64),.hole (.pair (.int .i64) (.int .i64))],fun(x:Bs)=>F_tlv_ReadLength N x⟩
noncomputable def x_tlv_ReadLength(N:Nat) (L:List LoopC):Cx:=⟨prog,T,hHc,hOc,[(425,k_tlv_ReadLength_1)],[],[],L,.nil⟩
noncomputable def h_tlv_ReadLength_l0:Pat:=⟨[(0,.hole (.sl .byte)),(4,.ptr 0 0),(5,.func (.func 425) [] []),(6,.hole (.int .i64)),(7,.hole (.int .i64)),(8,.hole (.int .i64))],[.cells [.hole (.int .i64),.hole (.int .i64)] false]⟩
noncomputable def q_tlv_ReadLength_l0:Exits:=[(.exit 0,⟨[(0,.hole (.sl .byte)),(4,.ptr 0 0),(5,.func (.func 425) [] []),(6,.hole (.int .i64)),(7,.hole (.int .i64))],[.cells [.hole (.int .i64),.hole (.int .i64)] false]⟩)]
noncomputable def e_tlv_ReadLength_l0(N n:Nat):LoopC:=⟨312,14,0,h_tlv_ReadLength_l0,q_tlv_ReadLength_l0,fun x=>F_tlv_ReadLength_l0 N n x⟩
theorem l_tlv_ReadLength_l0(N:Nat):∀n,LOk prog (e_tlv_ReadLength_l0 N n):=loopc_ok (cx:=x_tlv_ReadLength N []) tok mixed ⟨c_tlv_ReadLength_1,trivial⟩ trivial trivial trivial 312 14 0 h_tlv_ReadLength_l0 q_tlv_ReadLength_l0 (fun n x=>F_tlv_ReadLength_l0 N n x) (by kernel_rfl) (by kernel_rfl) (fun _=>rfl) (by intro n x;kernel_rfl)
theorem c_tlv_ReadLength(N:Nat):CtrOk prog 312 (k_tlv_ReadLength N):=fun_ok (cx:=x_tlv_ReadLength N [e_tlv_ReadLength_l0 N N]) tok mixed ⟨c_tlv_ReadLength_1,trivial⟩ trivial trivial ⟨l_tlv_ReadLength_l0 N N,trivial⟩ 312 _ (by kernel_rfl) (by kernel_rfl) (by intro x;kernel_rfl)
noncomputable def k_tlv_ReadHeader(N:Nat):Ctr:=⟨[.hole (.sl .byte)],.tup [.hole (.pair (.int .i64) (.pair (.int .i64) (.pair .bool (.pair (.int .i64) (.int .i64))))),.hole (.pair (.int .i64) (.int .i64))],fun(x:Bs)=>F_tlv_ReadHeader N x⟩
noncomputable def x_tlv_ReadHeader(N:Nat) (L:List LoopC):Cx:=⟨prog,T,hHc,hOc,[(80,k_tlv_ReadIdentifier),(312,k_tlv_ReadLength N)],[],[],L,.nil⟩
theorem c_tlv_ReadHeader(N:Nat):CtrOk prog 209 (k_tlv_ReadHeader N):=fun_ok (cx:=x_tlv_ReadHeader N []) tok mixed ⟨c_tlv_ReadIdentifier,c_tlv_ReadLength N,trivial⟩ trivial trivial trivial 209 _ (by kernel_rfl) (by kernel_rfl) (by intro x;kernel_rfl)
noncomputable def k_tree_read(N m:Nat):Ctr:=⟨[.hole (.sl .byte),.hole (.int .i64),.hole (.int .i64),.hole (.int .i64)],.tup [.hole .spot,.hole (.pair (.int .i64) (.int .i64))],fun(x:Bs×Int×Int×Int)=>F_tree_read N m x.1 x.2.1 x.2.2.1 x.2.2.2⟩
noncomputable def x_tree_read(N m:Nat) (L:List LoopC):Cx:=⟨prog,T,hHc,hOc,[(208,k_tree_read_1),(209,k_tlv_ReadHeader N),(133,k_Clone),(131,k_tree_read N m)],[],[],L,.nil⟩
noncomputable def h_tree_read_l0:Pat:=⟨[(0,.hole (.sl .byte)),(3,.hole (.int .i64)),(8,.ptr 0 0),(9,.ptr 2 0),(13,.hole (.int .i64)),(14,.ptr 7 0)],[.cells [.hole (.int .i64),.hole (.int .i64),.hole (.int .i64),.hole (.int .i64),.hole .bool,.nils,.nils,.own 1] false,.arr .spot false false,.cells [.hole (.int .i64),.hole (.int .i64)] false,.junk,.junk,.arr .node false false,.arr .spot false false,.cells [.hole (.int .i64),.hole (.int .i64),.hole (.int .i64),.hole (.int .i64),.hole .bool,.nils,.own 5,.own 6] false,.junk,.junk]⟩
noncomputable def q_tree_read_l0:Exits:=[(.ret,⟨[(8,.ptr 0 0),(9,.ptr 2 0)],[.cells [.hole (.int .i64),.hole (.int .i64),.hole (.int .i64),.hole (.int .i64),.hole .bool,.nils,.nils,.nils] false,.junk,.cells [.hole (.int .i64),.hole (.int .i64)] false,.junk,.junk,.junk,.junk,.junk,.junk,.junk]⟩),(.exit 0,⟨[(8,.ptr 0 0),(9,.ptr 2 0),(14,.ptr 7 0)],[.cells [.hole (.int .i64),.hole (.int .i64),.hole (.int .i64),.hole (.int .i64),.hole .bool,.nils,.nils,.own 1] false,.arr .spot false false,.cells [.hole (.int .i64),.hole (.int .i64)] false,.junk,.junk,.arr .node false false,.arr .spot false false,.cells [.hole (.int .i64),.hole (.int .i64),.hole (.int .i64),.hole (.int .i64),.hole .bool,.nils,.own 5,.own 6] false,.junk,.junk]⟩)]
noncomputable def e_tree_read_l0(N m n:Nat):LoopC:=⟨131,14,0,h_tree_read_l0,q_tree_read_l0,fun x=>F_tree_read_l0 N (F_tree_read N m) n x⟩
theorem l_tree_read_l0(N m:Nat) (hR:CtrOk prog 131 (k_tree_read N m)):∀n,LOk prog (e_tree_read_l0 N m n):=loopc_ok (cx:=x_tree_read N m []) tok mixed ⟨c_tree_read_1,c_tlv_ReadHeader N,c_Clone,hR,trivial⟩ trivial trivial trivial 131 14 0 h_tree_read_l0 q_tree_read_l0 (fun n x=>F_tree_read_l0 N (F_tree_read N m) n x) (by kernel_rfl) (by kernel_rfl) (fun _=>rfl) (by intro n x;kernel_rfl)
theorem c_tree_read(N:Nat):∀m,CtrOk prog 131 (k_tree_read N m):=fun m=>Nat.rec (motive:=fun m=>CtrOk prog 131 (k_tree_read N m)) (ctr0 131 _ (by kernel_rfl) (by kernel_rfl) (by intro x;kernel_rfl)) (fun m hR=>fun_ok (cx:=x_tree_read N m [e_tree_read_l0 N m N]) tok mixed ⟨c_tree_read_1,c_tlv_ReadHeader N,c_Clone,hR,trivial⟩ trivial trivial ⟨l_tree_read_l0 N m hR N,trivial⟩ 131 (k_tree_read N (m+1)) (by kernel_rfl) (by kernel_rfl) (by intro x;kernel_rfl)) m
noncomputable def k_tree_whole(N:Nat):Ctr:=⟨[.hole (.sl .byte)],.tup [.hole .spot,.hole (.pair (.int .i64) (.int .i64))],fun(x:Bs)=>F_tree_whole N x⟩
noncomputable def x_tree_whole(N:Nat) (L:List LoopC):Cx:=⟨prog,T,hHc,hOc,[(131,k_tree_read N N)],[],[],L,.nil⟩
theorem c_tree_whole(N:Nat):CtrOk prog 62 (k_tree_whole N):=fun_ok (cx:=x_tree_whole N []) tok mixed ⟨c_tree_read N N,trivial⟩ trivial trivial trivial 62 _ (by kernel_rfl) (by kernel_rfl) (by intro x;kernel_rfl)
noncomputable def k_tree_Parse(N:Nat):Ctr:=⟨[.hole (.sl .byte)],.tup [.hole .node,.hole (.pair (.int .i64) (.int .i64))],fun(x:Bs)=>F_tree_Parse N x⟩
noncomputable def x_tree_Parse(N:Nat) (L:List LoopC):Cx:=⟨prog,T,hHc,hOc,[(62,k_tree_whole N)],[],[],L,.nil⟩
theorem c_tree_Parse(N:Nat):CtrOk prog 33 (k_tree_Parse N):=fun_ok (cx:=x_tree_Parse N []) tok mixed ⟨c_tree_whole N,trivial⟩ trivial trivial trivial 33 _ (by kernel_rfl) (by kernel_rfl) (by intro x;kernel_rfl)
noncomputable def k_dump_identifier:Ctr:=⟨[.hole .node],.hole (.int .u8),fun(x:Fw.Node)=>F_dump_identifier x⟩
noncomputable def x_dump_identifier(L:List LoopC):Cx:=⟨prog,T,hHc,hOc,[(74,k_tlv_Identifier)],[],[],L,.nil⟩
theorem c_dump_identifier:CtrOk prog 39 (k_dump_identifier):=fun_ok (cx:=x_dump_identifier []) tok mixed ⟨c_tlv_Identifier,trivial⟩ trivial trivial trivial 39 _ (by kernel_rfl) (by kernel_rfl) (by intro x;kernel_rfl)
noncomputable def k_dump_text(N m:Nat):Ctr:=⟨[.hole .node],.hole .str,fun(x:Fw.Node)=>F_dump_text N m x⟩
noncomputable def x_dump_text(N m:Nat) (L:List LoopC):Cx:=⟨prog,T,hHc,hOc,[(39,k_dump_identifier),(10,k_Hex),(63,k_Join),(34,k_dump_text N m)],[],[],L,.nil⟩
noncomputable def h_dump_text_l0:Pat:=⟨[(3,.hole .str),(4,.own 1),(21,.hole (.sl .node)),(22,.hole (.int .i64)),(23,.hole (.int .i64))],[.junk,.arr .str false false]⟩
noncomputable def q_dump_text_l0:Exits:=[(.exit 0,⟨[(3,.hole .str),(4,.own 1)],[.junk,.arr .str false false]⟩)]
noncomputable def e_dump_text_l0(N m n:Nat):LoopC:=⟨34,6,0,h_dump_text_l0,q_dump_text_l0,fun x=>F_dump_text_l0 N (F_dump_text N m) n x⟩
theorem l_dump_text_l0(N m:Nat) (hR:CtrOk prog 34 (k_dump_text N m)):∀n,LOk prog (e_dump_text_l0 N m n):=loopc_ok (cx:=x_dump_text N m []) tok mixed ⟨c_dump_identifier,c_Hex,c_Join,hR,trivial⟩ trivial trivial trivial 34 6 0 h_dump_text_l0 q_dump_text_l0 (fun n x=>F_dump_text_l0 N (F_dump_text N m) n x) (by kernel_rfl) (by kernel_rfl) (fun _=>rfl) (by intro n x;kernel_rfl)
theorem c_dump_text(N:Nat):∀m,CtrOk prog 34 (k_dump_text N m):=fun m=>Nat.rec (motive:=fun m=>CtrOk prog 34 (k_dump_text N m)) (ctr0 34 _ (by kernel_rfl) (by kernel_rfl) (by intro x;kernel_rfl)) (fun m hR=>fun_ok (cx:=x_dump_text N m [e_dump_text_l0 N m N]) tok mixed ⟨c_dump_identifier,c_Hex,c_Join,hR,trivial⟩ trivial trivial ⟨l_dump_text_l0 N m hR N,trivial⟩ 34 (k_dump_text N (m+1)) (by kernel_rfl) (by kernel_rfl) (by intro x;kernel_rfl)) m
noncomputable def k_dump_Tree(N:Nat):Ctr:=⟨[.hole (.sl .byte)],.tup [.hole .str,.hole (.pair (.int .i64) (.int .i64))],fun(x:Bs)=>F_dump_Tree N x⟩
noncomputable def x_dump_Tree(N:Nat) (L:List LoopC):Cx:=⟨prog,T,hHc,hOc,[(33,k_tree_Parse N),(34,k_dump_text N N)],[],[],L,.nil⟩
theorem c_dump_Tree(N:Nat):CtrOk prog 15 (k_dump_Tree N):=fun_ok (cx:=x_dump_Tree N []) tok mixed ⟨c_tree_Parse N,c_dump_text N N,trivial⟩ trivial trivial trivial 15 _ (by kernel_rfl) (by kernel_rfl) (by intro x;kernel_rfl)
end Go.Proofs.Tryz
