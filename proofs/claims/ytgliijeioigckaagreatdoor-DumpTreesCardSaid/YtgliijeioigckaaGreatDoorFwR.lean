/- A framework for proofs about Go programs in this model: part R. Everything is proved; no condition is added. -/
import Derived.Test.YtgliijeioigckaaGreatDoorFwP
import Derived.Test.YtgliijeioigckaaGreatDoorFwL
import Derived.Test.YtgliijeioigckaaGreatDoorFwQ
import Derived.Test.YtgliijeioigckaaGreatDoorFwO
set_option linter.unusedVariables false
set_option linter.unusedSimpArgs false
namespace Go.Fw
open Go
def E0:Go.Proofs.NodeFn:=⟨encN,fun n=>idO n.cls n.cons n.num⟩
def F_Lines(N:Nat) (b:Bs):Option (List Bs×(Int×Int)):=
 bif Nat.blt b.length 10000&&(Nat.blt 1000000 N&&Nat.blt N 4611686018427387904) then(
 (F_tree_Parse N b).bind fun q=>
 bif (q.2.1 !=0) then some ([],q.2) else some ((preN 0 q.1).map E0.line,(0,0)))
 else none
end Go.Fw
namespace Go.Proofs
open Go.RowKit Go.Shelf Go.Fw
attribute [local go_sem] Oper.semAt_some
set_option maxRecDepth 100000 in
set_option maxHeartbeats 4000000 in
theorem Tryz.lines_err(b:List UInt8) (f:Bool) (nd:Fw.Node) (e o:Int) (he:(e !=0)=true)
 (hp:PureOK Tryz.prog 33 [.list (flatE byteE b) b.length f] (.tuple [.agg (nodeCells nd),.agg [.int .i64 e,.int .i64 o]])):
 PureOK Tryz.prog 17 [.list (flatE byteE b) b.length f] (.tuple [.list [] 0 false,.agg [.int .i64 e,.int .i64 o]]):=by
 intro G w vals hI hG hv
 have hv0:=hv
 simp only[Reps]at hv
 obtain⟨v,_,rfl,r1,rfl⟩:=hv
 refine(callsIn_wide (n:=3)).1 ?_
 refine callsIn_of_wp_marks Tryz.func17 rfl trivial ?_ rfl
 simp only[Tryz.ntmps17,List.size_toArray,List.length_cons,List.length_nil,Nat.reduceAdd,Nat.reduceSub,Array.replicate_succ,Array.replicate_zero,List.push_toArray,List.append_toArray,List.nil_append,List.cons_append]
 have hb0:Below w.heap.size w (w.alloc (.cells #[.int .i64 0,.int .i64 0] 31)):=(Below.refl _ w).alloc (Nat.le_refl _) _
 have hcall:=hp G _ [v] (imm_below hI hb0) (glob_below hG hb0) hv0
 gi_wp2
 refine⟨trivial,(callsIn_wide.2 hcall).mono ?_⟩
 clear hcall
 rintro r w1 ⟨v1,G1,rfl,hg1,hr1⟩
 obtain⟨⟨d0,nd',ab,cb,ak,ck⟩,hxd,hxn,hxI,rfl⟩:=tup_nx hr1 0
 dsimp only at hxd hxn
 subst hxd hxn
 simp only[NX.vals]
 have hE1:w1.heap[w.heap.size]? =some (.cells #[.int .i64 0,.int .i64 0] 31 (0,0)):=(hg1.below.block _ (by simp)).trans (World.alloc_heap_new w _)
 have hb1:Below w.heap.size w w1:=hb0.trans (hg1.below.mono hb0.size)
 have x0:w1.cell? ⟨w.heap.size,0,none⟩=some (.int .i64 0):=by simp[World.cell?,hE1]
 have x1:w1.cell? ⟨w.heap.size,1,none⟩=some (.int .i64 0):=by simp[World.cell?,hE1]
 have y0:w1.frozen? ⟨w.heap.size,0,none⟩=false:=by simp[World.frozen?,hE1]
 have y1:w1.frozen? ⟨w.heap.size,1,none⟩=false:=by simp[World.frozen?,hE1]
 clear hr1 hv0 x0 x1 y0 y1
 gi_wp2
 obtain⟨ob,hob⟩:∃ob,Obj.cells #[Value.int .i64 nd'.cls,.int .i64 nd'.num,.bool nd'.cons,.slice ab nd'.body.length cb,.slice ak nd'.kids.length ck] 47=ob:=⟨_,rfl⟩
 rw[hob]
 clear hob
 obtain⟨W2,hW2⟩:∃W2,(w1.alloc ob).alloc (Obj.cells #[Value.int .i64 e,.int .i64 o] 31)=W2:=⟨_,rfl⟩
 have hb2:Below w1.heap.size w1 W2:=by rw[←hW2];exact((Below.refl _ w1).alloc (Nat.le_refl _) _).alloc (by simp) _
 have hE2:W2.heap[w.heap.size]? =some (.cells #[.int .i64 0,.int .i64 0] 31 (0,0)):=(hb2.block _ (Array.getElem?_eq_some_iff.1 hE1).1).trans hE1
 have hN2:W2.heap[w1.heap.size+1]? =some (.cells #[.int .i64 e,.int .i64 o] 31 (0,0)):=by
  rw[←hW2]
  have:=World.alloc_heap_new (w1.alloc ob) (Obj.cells #[Value.int .i64 e,.int .i64 o] 31)
  simpa using this
 have hs2:W2.heap.size=w1.heap.size+2:=by rw[←hW2];simp
 rw[hW2]
 clear hW2
 have x0:W2.cell? ⟨w.heap.size,0,none⟩=some (.int .i64 0):=by simp[World.cell?,hE2]
 have x1:W2.cell? ⟨w.heap.size,1,none⟩=some (.int .i64 0):=by simp[World.cell?,hE2]
 have y0:W2.frozen? ⟨w.heap.size,0,none⟩=false:=by simp[World.frozen?,hE2]
 have y1:W2.frozen? ⟨w.heap.size,1,none⟩=false:=by simp[World.frozen?,hE2]
 have z0:W2.cell? ⟨w1.heap.size+1,0,none⟩=some (.int .i64 e):=by simp[World.cell?,hN2]
 have z1:W2.cell? ⟨w1.heap.size+1,1,none⟩=some (.int .i64 o):=by simp[World.cell?,hN2]
 gi_region
 gi_wp2
 have hEf:((W2.setCell ⟨w.heap.size,0,none⟩ (.int .i64 e)).setCell ⟨w.heap.size,1,none⟩ (.int .i64 o)).drew.heap[w.heap.size]? =some (.cells #[.int .i64 e,.int .i64 o] 31 (0,0)):=set1_at (set1_at hE2 0 (.int .i64 e)) 1 (.int .i64 o)
 have hbf:Below w.heap.size w ((W2.setCell ⟨w.heap.size,0,none⟩ (.int .i64 e)).setCell ⟨w.heap.size,1,none⟩ (.int .i64 o)).drew:=(((hb1.trans (hb2.mono hb1.size)).setCell (p:=⟨w.heap.size,0,none⟩) (Nat.le_refl _) _).setCell (p:=⟨w.heap.size,1,none⟩) (Nat.le_refl _) _).drew
 generalize ((W2.setCell ⟨w.heap.size,0,none⟩ (.int .i64 e)).setCell ⟨w.heap.size,1,none⟩ (.int .i64 o)).drew=X at hEf hbf⊢
 refine⟨.tuple #[.slice none 0 0,.agg #[.int .i64 e,.int .i64 o]],?_,⟨_,G,rfl,grow_below hI hbf,?_⟩⟩
 ·have e0:X.cell? ⟨w.heap.size,0,none⟩=some (.int .i64 e):=by simp[World.cell?,hEf]
  have e1:X.cell? ⟨w.heap.size,1,none⟩=some (.int .i64 o):=by simp[World.cell?,hEf]
  have hr:Tryz.f17.results= #[.tmp 2,.cell 3 31]:=rfl
  unfold results
  rw[hr]
  simp[go_sem,e0,e1]
 ·simp only[Rep,Reps]
  exact⟨_,rfl,_,_,rfl,⟨none,0,rfl,Nat.le_refl _,by decide,by simp,.inr trivial⟩,_,_,rfl,⟨_,rfl,_,_,rfl,rfl,_,_,rfl,rfl,rfl⟩,rfl⟩
end Go.Proofs
namespace Go.Fw
open Go
noncomputable section
def F_cref01_Uint_l0(N n:Nat):Bs→Option Bs:=Nat.rec (fun _=>none) (fun _ L l1=>
 bif decide ((l1.length:Int)>0) then(
 (ix l1 0).bind fun b2=>
 bif ((b2.toNat:Int)==0) then(
 (slc l1 1 (l1.length:Int)).bind fun s3=>
 L s3)
 else
 some l1)
 else
 some l1) n
def F_cref01_Uint_l1(N n:Nat):(Bs×Int×Int)→Option Int:=Nat.rec (fun _=>none) (fun _ L (l5,i6,i7)=>
 bif decide (i7<(l5.length:Int)) then(
 (ix l5 i7).bind fun b8=>
 L (l5,wadd .u64 (wmul .u64 i6 256) (IntKind.wrap .u64 (b8.toNat:Int)),wadd .i64 i7 1))
 else
 some i6) n
def F_cref01_Uint(N:Nat) (a1:Bs):Option (Int×Bool):=
 (F_cref01_Uint_l0 N N a1).bind fun l4=>
 bif decide ((l4.length:Int)>8) then(
 some (0,false))
 else
 (F_cref01_Uint_l1 N N (l4,0,0)).bind fun i9=>
 some (i9,true)
def F_cref01_Compare_l0(N n:Nat):(Bs×Bs×Int)→Option ((Int)⊕(Bs×Bs)):=Nat.rec (fun _=>none) (fun _ L (l1,l2,i3)=>
 bif decide (i3<(l1.length:Int)) then(
 bif decide (i3<(l2.length:Int)) then(
 (ix l1 i3).bind fun b4=>
 (ix l2 i3).bind fun b5=>
 bif decide ((b4.toNat:Int)<(b5.toNat:Int)) then(
 some (Sum.inl (-1)))
 else
 (ix l1 i3).bind fun b6=>
 (ix l2 i3).bind fun b7=>
 bif decide ((b6.toNat:Int)>(b7.toNat:Int)) then(
 some (Sum.inl 1))
 else
 L (l1,l2,wadd .i64 i3 1))
 else
 some (Sum.inr (l1,l2)))
 else
 some (Sum.inr (l1,l2))) n
def F_cref01_Compare(N:Nat) (a1:Bs) (a2:Bs):Option Int:=
 (F_cref01_Compare_l0 N N (a1,a2,0)).bind fun y8=>(match y8 with
 |Sum.inl i9=>some i9
 |Sum.inr ((l10,l11))=>bif decide ((l10.length:Int)<(l11.length:Int)) then(
 some (-1))
 else
 bif decide ((l10.length:Int)>(l11.length:Int)) then(
 some 1)
 else
 some 0)
def F_cref02_ReadLength(N:Nat) (a1:Bs):Option (Int×Int×(Int×Int)):=
 bif ((a1.length:Int)==0) then(
 some (0,0,1,0))
 else
 (ix a1 0).bind fun b1=>
 bif decide ((b1.toNat:Int)<128) then(
 (ix a1 0).bind fun b2=>
 some (IntKind.wrap .i64 (b2.toNat:Int),1,0,0))
 else
 (ix a1 0).bind fun b3=>
 bif (wsub .i64 (IntKind.wrap .i64 (b3.toNat:Int)) 128==0) then(
 some (0,0,4,0))
 else
 bif decide (wsub .i64 (IntKind.wrap .i64 (b3.toNat:Int)) 128≥5) then(
 some (0,0,4,0))
 else
 bif decide ((a1.length:Int)<wadd .i64 1 (wsub .i64 (IntKind.wrap .i64 (b3.toNat:Int)) 128)) then(
 some (0,0,1,(a1.length:Int)))
 else
 (slc a1 1 (wadd .i64 1 (wsub .i64 (IntKind.wrap .i64 (b3.toNat:Int)) 128))).bind fun s4=>
 (F_cref01_Uint N s4).bind fun(i5,c6)=>
 bif decide (i5>2147483647) then(
 some (0,0,4,0))
 else
 (F_cref02_Length N (IntKind.wrap .i64 i5)).bind fun(l7,i8)=>
 (slc a1 0 (wadd .i64 1 (wsub .i64 (IntKind.wrap .i64 (b3.toNat:Int)) 128))).bind fun s9=>
 (F_cref01_Compare N l7 s9).bind fun i10=>
 bif (i10 !=0) then(
 some (0,0,4,0))
 else
 some (IntKind.wrap .i64 i5,wadd .i64 1 (wsub .i64 (IntKind.wrap .i64 (b3.toNat:Int)) 128),0,0)
def F_cref02_ReadHeader(N:Nat) (a1:Bs):Option ((Int×Int×Bool×Int×Int)×(Int×Int)):=
 bif ((a1.length:Int)==0) then(
 some ((0,0,false,0,0),1,0))
 else
 (ix a1 0).bind fun b1=>
 (F_cref02_ReadIdentifier (b1.toNat:Int)).bind fun(i2,c3,i4,i5)=>
 bif (i5 !=0) then(
 some ((0,0,false,0,0),i5,0))
 else
 (slc a1 1 (a1.length:Int)).bind fun s6=>
 (F_cref02_ReadLength N s6).bind fun(i7,i8,v9)=>
 bif (v9.1 !=0) then(
 some ((0,0,false,0,0),v9.1,wadd .i64 v9.2 1))
 else
 some ((i2,i4,c3,i7,wadd .i64 1 i8),0,0)
def F_cref02_Next(N:Nat) (a1:Bs):Option ((Int×Int×Bool×Int×Int)×Bs×Bs×(Int×Int)):=
 (F_cref02_ReadHeader N a1).bind fun(v1,v2)=>
 bif (v2.1 !=0) then(
 some ((0,0,false,0,0),[],[],v2))
 else
 bif decide (wsub .i64 (a1.length:Int) v1.2.2.2.2<v1.2.2.2.1) then(
 some ((0,0,false,0,0),[],[],1,(a1.length:Int)))
 else
 (slc a1 v1.2.2.2.2 (wadd .i64 v1.2.2.2.2 v1.2.2.2.1)).bind fun s3=>
 (slc a1 (wadd .i64 v1.2.2.2.2 v1.2.2.2.1) (a1.length:Int)).bind fun s4=>
 some (v1,s3,s4,0,0)
def F_cref03_Read_l0(N:Nat) (R:Bs→Int→Option (Fw.Node×Int×(Int×Int))) (n:Nat):(Int×Bs×Int×List Fw.Node×Int×Int×Bool×Int×Int×List Fw.Node×Int×Int×Bool)→Option ((Int×Int)⊕(List Fw.Node×Int×Int×Bool×Int×Int×List Fw.Node×Int×Int×Bool)):=Nat.rec (fun _=>none) (fun _ L (i6,l7,i8,l9,i10,i11,c12,i13,i14,l15,i16,i17,c18)=>
 bif decide (i8<(l7.length:Int)) then(
 (slc l7 i8 (l7.length:Int)).bind fun s19=>
 (R s19 (wsub .i64 i6 1)).bind fun(v20,i21,v22)=>
 bif (v22.1 !=0) then(
 some (Sum.inl (v22.1,wadd .i64 (wadd .i64 i14 i8) v22.2)))
 else
 (app 72 l15 [Fw.Node.mk v20.cls v20.num v20.cons v20.body v20.kids]).bind fun l23=>
 L (i6,l7,wadd .i64 i8 i21,l9,i10,i11,c12,i13,i14,l23,i16,i17,c18))
 else
 some (Sum.inr (l9,i10,i11,c12,i13,i14,l15,i16,i17,c18))) n
def F_cref03_Read(N n:Nat):Bs→Int→Option (Fw.Node×Int×(Int×Int)):=Nat.rec (fun _ _=>none) (fun _ R a1 a2=>
 bif (a2==0) then(
 some (Fw.Node.mk 0 0 false [] [],0,5,0))
 else
 (F_cref02_Next N a1).bind fun(v1,l2,l3,v4)=>
 bif (v4.1 !=0) then(
 some (Fw.Node.mk 0 0 false [] [],0,v4))
 else
 bif (!v1.2.2.1) then(
 (app 1 [] l2).bind fun l5=>
 some (Fw.Node.mk v1.1 v1.2.1 v1.2.2.1 l5 [],wadd .i64 v1.2.2.2.2 v1.2.2.2.1,0,0))
 else
 (F_cref03_Read_l0 N R N (a2,l2,0,[],v1.1,v1.2.1,v1.2.2.1,v1.2.2.2.1,v1.2.2.2.2,[],v1.1,v1.2.1,v1.2.2.1)).bind fun y24=>(match y24 with
 |Sum.inl (i25,i26)=>some (Fw.Node.mk 0 0 false [] [],0,i25,i26)
 |Sum.inr ((l27,i28,i29,c30,i31,i32,l33,i34,i35,c36))=>some (Fw.Node.mk i34 i35 c36 [] l33,wadd .i64 i32 i31,0,0))) n
def F_cref03_Within(N:Nat) (a1:Bs) (a2:Int):Option (Fw.Node×(Int×Int)):=
 (F_cref03_Read N N a1 a2).bind fun(v1,i2,v3)=>
 bif (v3.1==0) then(
 bif decide (i2<(a1.length:Int)) then(
 some (Fw.Node.mk 0 0 false [] [],2,i2))
 else
 some (Fw.Node.mk v1.cls v1.num v1.cons v1.body v1.kids,v3))
 else
 some (Fw.Node.mk v1.cls v1.num v1.cons v1.body v1.kids,v3)
def F_cref03_Parse(N:Nat) (a1:Bs):Option (Fw.Node×(Int×Int)):=
 (F_cref03_Within N a1 16).bind fun(v1,v2)=>
 some (Fw.Node.mk v1.cls v1.num v1.cons v1.body v1.kids,v2)
def F_cref29_Tree(N:Nat) (a1:Bs):Option (Bs×(Int×Int)):=
 (F_cref03_Parse N a1).bind fun(v1,v2)=>
 bif (v2.1 !=0) then(
 some ([],v2))
 else
 (F_cref29_Text N N (Fw.Node.mk v1.cls v1.num v1.cons v1.body v1.kids)).bind fun s3=>
 some (s3,0,0)
def F_cref04_FromInt_o(N n:Nat):Int→Option Bs:=Nat.rec (fun _=>none) (fun _ R a1=>
 bif decide (a1≥(-128)) then(
 bif decide (a1<128) then(
 (toB (IntKind.wrap .u8 a1)).bind fun b1=>
 some [b1])
 else
 (R (wshr .i64 a1 8)).bind fun l2=>
 (toB (IntKind.wrap .u8 a1)).bind fun b3=>
 (app 1 l2 [b3]).bind fun l4=>
 some l4)
 else
 (R (wshr .i64 a1 8)).bind fun l5=>
 (toB (IntKind.wrap .u8 a1)).bind fun b6=>
 (app 1 l5 [b6]).bind fun l7=>
 some l7) n
def F_cref04_FromInt(N:Nat) (a1:Int):Option Bs:=
 bif decide (a1≥(-128)) then(
 bif decide (a1<128) then(
 (toB (IntKind.wrap .u8 a1)).bind fun b1=>
 some [b1])
 else
 (F_cref04_FromInt_o N N (wshr .i64 a1 8)).bind fun l2=>
 (toB (IntKind.wrap .u8 a1)).bind fun b3=>
 (app 1 l2 [b3]).bind fun l4=>
 some l4)
 else
 (F_cref04_FromInt_o N N (wshr .i64 a1 8)).bind fun l5=>
 (toB (IntKind.wrap .u8 a1)).bind fun b6=>
 (app 1 l5 [b6]).bind fun l7=>
 some l7
def F_cref04_bit(a1:Bs) (a2:Int):Option Int:=
 (ix a1 (wquo .i64 a2 8)).bind fun b1=>
 bif decide (0≤wsub .i64 7 (Int.tmod a2 8)) then(
 some (Int.tmod (IntKind.wrap .i64 (wshr .u8 (b1.toNat:Int) (wsub .i64 7 (Int.tmod a2 8)))) 2))
 else
 none
def F_cref04_Valid_l0(N n:Nat):(Bs×Int×Int)→Option Int:=Nat.rec (fun _=>none) (fun _ L (l1,i2,i3)=>
 bif decide (i3<9) then(
 (F_cref04_bit l1 i3).bind fun i4=>
 L (l1,wadd .i64 i2 i4,wadd .i64 i3 1))
 else
 some i2) n
def F_cref04_Valid(N:Nat) (a1:Bs):Option Bool:=
 bif ((a1.length:Int)==0) then(
 some false)
 else
 bif ((a1.length:Int)==1) then(
 some true)
 else
 (F_cref04_Valid_l0 N N (a1,0,0)).bind fun i5=>
 bif (i5 !=0) then(
 some (i5 !=9))
 else
 some false
def F_cref04_Sign_l0(N n:Nat):(Bs×Int)→Option ((Unit)⊕(Unit)):=Nat.rec (fun _=>none) (fun _ L (l3,i4)=>
 bif decide (i4<(l3.length:Int)) then(
 (ix l3 i4).bind fun b5=>
 bif ((b5.toNat:Int) !=0) then(
 some (Sum.inl ()))
 else
 L (l3,wadd .i64 i4 1))
 else
 some (Sum.inr ())) n
def F_cref04_Sign(N:Nat) (a1:Bs):Option Int:=
 (F_cref04_Valid N a1).bind fun c1=>
 bif (!c1) then(
 some 0)
 else
 (F_cref04_bit a1 0).bind fun i2=>
 bif (i2==1) then(
 some (-1))
 else
 (F_cref04_Sign_l0 N N (a1,0)).bind fun y6=>(match y6 with
 |Sum.inl _=>some 1
 |Sum.inr _=>some 0)
def F_cref04_Decimal_l0(N n:Nat):(Int×Bs)→Option Bs:=Nat.rec (fun _=>none) (fun _ L (i4,l5)=>
 bif decide (i4<(l5.length:Int)) then(
 bif inb i4 l5.length then(
 (ix l5 i4).bind fun b6=>
 bif inb i4 l5.length then(
 bif inb i4 l5.length then(
 (toB (wsub .u8 255 (b6.toNat:Int))).bind fun b7=>
 L (wadd .i64 i4 1,l5.set (Int.toNat i4) b7))
 else
 none)
 else
 none)
 else
 none)
 else
 some l5) n
def F_cref04_Decimal_l1(N n:Nat):(Bs×Int×Int×Bs)→Option (Bs×Int×Bs):=Nat.rec (fun _=>none) (fun _ L (s8,i9,i10,l11)=>
 bif decide (i10<(l11.length:Int)) then(
 bif inb i10 l11.length then(
 (ix l11 i10).bind fun b12=>
 bif inb i10 l11.length then(
 bif inb i10 l11.length then(
 (toB (IntKind.wrap .u8 (wquo .i64 (wadd .i64 (wmul .i64 i9 256) (IntKind.wrap .i64 (b12.toNat:Int))) 10))).bind fun b13=>
 L (s8,Int.tmod (wadd .i64 (wmul .i64 i9 256) (IntKind.wrap .i64 (b12.toNat:Int))) 10,wadd .i64 i10 1,l11.set (Int.toNat i10) b13))
 else
 none)
 else
 none)
 else
 none)
 else
 some (s8,i9,l11)) n
def F_cref04_Decimal_l2(N n:Nat):(Bs×Bs)→Option (Bs×Bs):=Nat.rec (fun _=>none) (fun _ L (l22,l23)=>
 bif decide ((l22.length:Int)>1) then(
 (F_cref04_Valid N l22).bind fun c24=>
 bif (!c24) then(
 (slc l22 1 (l22.length:Int)).bind fun s25=>
 L (s25,l23))
 else
 some (l22,l23))
 else
 some (l22,l23)) n
def F_cref04_Decimal_l3(N n:Nat):(Bs×Bs)→Option Bs:=Nat.rec (fun _=>none) (fun _ L (s6,l7)=>
 bif (s6==[]) then(
 (F_cref04_Decimal_l1 N N (s6,0,0,l7)).bind fun(s8,i9,l10)=>
 (slc ([48,49,50,51,52,53,54,55,56,57]:Bs) i9 (wadd .i64 i9 1)).bind fun s11=>
 (cat s11 s8).bind fun s12=>
 L (s12,l10))
 else
 (app 1 ([0]:Bs) l7).bind fun l13=>
 bif decide ((l13.length:Int)>1) then(
 (F_cref04_Valid N l13).bind fun c14=>
 bif (!c14) then(
 (slc l13 1 (l13.length:Int)).bind fun s15=>
 (F_cref04_Decimal_l2 N N (s15,l7)).bind fun(l16,l17)=>
 (F_cref04_Sign N l16).bind fun i18=>
 bif (i18 !=0) then(
 (F_cref04_Decimal_l1 N N (s6,0,0,l17)).bind fun(s19,i20,l21)=>
 (slc ([48,49,50,51,52,53,54,55,56,57]:Bs) i20 (wadd .i64 i20 1)).bind fun s22=>
 (cat s22 s19).bind fun s23=>
 L (s23,l21))
 else
 some s6)
 else
 (F_cref04_Sign N l13).bind fun i24=>
 bif (i24 !=0) then(
 (F_cref04_Decimal_l1 N N (s6,0,0,l7)).bind fun(s25,i26,l27)=>
 (slc ([48,49,50,51,52,53,54,55,56,57]:Bs) i26 (wadd .i64 i26 1)).bind fun s28=>
 (cat s28 s25).bind fun s29=>
 L (s29,l27))
 else
 some s6)
 else
 (F_cref04_Sign N l13).bind fun i30=>
 bif (i30 !=0) then(
 (F_cref04_Decimal_l1 N N (s6,0,0,l7)).bind fun(s31,i32,l33)=>
 (slc ([48,49,50,51,52,53,54,55,56,57]:Bs) i32 (wadd .i64 i32 1)).bind fun s34=>
 (cat s34 s31).bind fun s35=>
 L (s35,l33))
 else
 some s6) n
def F_cref04_Decimal(N:Nat) (a1:Bs):Option Bs:=
 (F_cref04_Valid N a1).bind fun c1=>
 bif (!c1) then(
 some [])
 else
 (app 1 [] a1).bind fun l2=>
 (F_cref04_Sign N a1).bind fun i3=>
 ((
 bif decide (i3<0) then(
 (F_cref04_Decimal_l0 N N (0,l2)).bind fun l4=>
 none)
 else
 some l2:Option (Bs))).bind fun l5=>
 (F_cref04_Decimal_l3 N N ([],l5)).bind fun s36=>
 (cat [] s36).bind fun s37=>
 some s37
def F_cref29_lines_l0(N:Nat) (R:Fw.Node→Int→Option (List Bs)) (n:Nat):(Int×Bs×Int×Int×Int×Bool×Bs×List Fw.Node)→Option (Int×Bs×Int×Int×Bool×Bs×List Fw.Node):=Nat.rec (fun _=>none) (fun _ L (i1,s2,i3,i4,i5,c6,l7,l8)=>
 bif decide (i3<i1) then(
 (cat s2 ([32,32]:Bs)).bind fun s9=>
 L (i1,s9,wadd .i64 i3 1,i4,i5,c6,l7,l8))
 else
 some (i1,s2,i4,i5,c6,l7,l8)) n
def F_cref29_lines_l1(N:Nat) (R:Fw.Node→Int→Option (List Bs)) (n:Nat):(Int×Int×Int×Int×Bool×Bs×List Fw.Node×List Bs)→Option (List Bs):=Nat.rec (fun _=>none) (fun _ L (i27,i28,i29,i30,c31,l32,l33,l34)=>
 bif decide (i28<(l33.length:Int)) then(
 (ix l33 i28).bind fun e35=>
 (R (Fw.Node.mk e35.cls e35.num e35.cons e35.body e35.kids) (wadd .i64 i27 1)).bind fun l36=>
 (app 16 l34 l36).bind fun l37=>
 L (i27,wadd .i64 i28 1,i29,i30,c31,l32,l33,l37))
 else
 some l34) n
def F_cref29_lines(N n:Nat):Fw.Node→Int→Option (List Bs):=Nat.rec (fun _ _=>none) (fun _ R a1 a2=>
 (F_cref29_lines_l0 N R N (a2,[],0,a1.cls,a1.num,a1.cons,a1.body,a1.kids)).bind fun(i10,s11,i12,i13,c14,l15,l16)=>
 (F_cref03_Bytes N N (Fw.Node.mk i12 i13 c14 l15 l16)).bind fun l17=>
 (F_cref02_ReadHeader N l17).bind fun(v18,v19)=>
 (slc l17 0 1).bind fun s20=>
 (F_cref12_Hex N s20).bind fun s21=>
 (cat s11 s21).bind fun s22=>
 (cat s22 ([32]:Bs)).bind fun s23=>
 (F_cref04_FromInt N v18.2.2.2.1).bind fun l24=>
 (F_cref04_Decimal N l24).bind fun s25=>
 (cat s23 s25).bind fun s26=>
 (F_cref29_lines_l1 N R N (i10,0,i12,i13,c14,l15,l16,[s26])).bind fun l38=>
 some l38) n
def F_cref29_Lines(N:Nat) (a1:Bs):Option (List Bs×(Int×Int)):=
 (F_cref03_Parse N a1).bind fun(v1,v2)=>
 bif (v2.1 !=0) then(
 some ([],v2))
 else
 (F_cref29_lines N N (Fw.Node.mk v1.cls v1.num v1.cons v1.body v1.kids) 0).bind fun l3=>
 some (l3,0,0)
def F_cbase_Strings_l0(N n:Nat):(List Bs×List Bs×Int)→Option ((Unit)⊕(List Bs×List Bs)):=Nat.rec (fun _=>none) (fun _ L (l1,l2,i3)=>
 bif decide (i3<(l1.length:Int)) then(
 bif decide (i3<(l2.length:Int)) then(
 (ix l1 i3).bind fun e4=>
 (ix l2 i3).bind fun e5=>
 bif (!(e4==e5)) then(
 some (Sum.inl ()))
 else
 L (l1,l2,wadd .i64 i3 1))
 else
 some (Sum.inr (l1,l2)))
 else
 some (Sum.inr (l1,l2))) n
def F_cbase_Strings(N:Nat) (a1:List Bs) (a2:List Bs):Option Bool:=
 (F_cbase_Strings_l0 N N (a1,a2,0)).bind fun y6=>(match y6 with
 |Sum.inl _=>some false
 |Sum.inr ((l7,l8))=>some ((l7.length:Int)==(l8.length:Int)))
def F_cref03_Count_l0(N:Nat) (R:Fw.Node→Option Int) (n:Nat):(Int×Int×Int×Int×Bool×Bs×List Fw.Node)→Option Int:=Nat.rec (fun _=>none) (fun _ L (i1,i2,i3,i4,c5,l6,l7)=>
 bif decide (i2<(l7.length:Int)) then(
 (ix l7 i2).bind fun e8=>
 (R (Fw.Node.mk e8.cls e8.num e8.cons e8.body e8.kids)).bind fun i9=>
 L (wadd .i64 i1 i9,wadd .i64 i2 1,i3,i4,c5,l6,l7))
 else
 some i1) n
def F_cref03_Count(N n:Nat):Fw.Node→Option Int:=Nat.rec (fun _=>none) (fun _ R a1=>
 (F_cref03_Count_l0 N R N (1,0,a1.cls,a1.num,a1.cons,a1.body,a1.kids)).bind fun i10=>
 some i10) n
def F_claw29_DumpTrees(N:Nat) (a1:Bs):Option Bool:=
 (F_awakeD).bind fun c1=>
 bif (!c1) then(
 (F_awakeD).bind fun c2=>
 some c2)
 else
 bif decide ((a1.length:Int)>1500) then(
 (F_awakeD).bind fun c3=>
 some c3)
 else
 (F_dump_Tree N a1).bind fun(s4,v5)=>
 (F_cref29_Tree N a1).bind fun(s6,v7)=>
 (F_Lines N a1).bind fun(l8,v9)=>
 (F_cref29_Lines N a1).bind fun(l10,v11)=>
 bif (!(s4==s6)) then(
 bif (s4==s6) then(
 bif ((v5.1==v7.1)&&(v5.2==v7.2)) then(
 bif ((v9.1==v11.1)&&(v9.2==v11.2)) then(
 (F_cbase_Strings N l8 l10).bind fun c12=>
 some c12)
 else
 some false)
 else
 some false)
 else
 some false)
 else
 bif (!((v5.1==v7.1)&&(v5.2==v7.2))) then(
 bif (s4==s6) then(
 bif ((v5.1==v7.1)&&(v5.2==v7.2)) then(
 bif ((v9.1==v11.1)&&(v9.2==v11.2)) then(
 (F_cbase_Strings N l8 l10).bind fun c13=>
 some c13)
 else
 some false)
 else
 some false)
 else
 some false)
 else
 bif (!((v9.1==v11.1)&&(v9.2==v11.2))) then(
 bif (s4==s6) then(
 bif ((v5.1==v7.1)&&(v5.2==v7.2)) then(
 bif ((v9.1==v11.1)&&(v9.2==v11.2)) then(
 (F_cbase_Strings N l8 l10).bind fun c14=>
 some c14)
 else
 some false)
 else
 some false)
 else
 some false)
 else
 (F_cbase_Strings N l8 l10).bind fun c15=>
 bif (!c15) then(
 bif (s4==s6) then(
 bif ((v5.1==v7.1)&&(v5.2==v7.2)) then(
 bif ((v9.1==v11.1)&&(v9.2==v11.2)) then(
 (F_cbase_Strings N l8 l10).bind fun c16=>
 some c16)
 else
 some false)
 else
 some false)
 else
 some false)
 else
 bif (v5.1 !=0) then(
 bif (s4==s6) then(
 bif ((v5.1==v7.1)&&(v5.2==v7.2)) then(
 bif ((v9.1==v11.1)&&(v9.2==v11.2)) then(
 (F_cbase_Strings N l8 l10).bind fun c17=>
 some c17)
 else
 some false)
 else
 some false)
 else
 some false)
 else
 (F_PT N s4).bind fun(l18,v19)=>
 (F_cref03_Parse N a1).bind fun(v20,v21)=>
 bif ((v19.1==0)&&(v19.2==0)) then(
 (F_cbase_Bytes l18 a1).bind fun c22=>
 bif c22 then(
 (F_cref03_Count N N (Fw.Node.mk v20.cls v20.num v20.cons v20.body v20.kids)).bind fun i23=>
 some ((l8.length:Int)==i23))
 else
 some false)
 else
 some false
end
end Go.Fw
namespace Go.Fw
open Go
theorem s_cref01_Uint_l0(N n:Nat) (l1:Bs):F_cref01_Uint_l0 N (n+1) l1=(
 bif decide ((l1.length:Int)>0) then(
 (ix l1 0).bind fun b2=>
 bif ((b2.toNat:Int)==0) then(
 (slc l1 1 (l1.length:Int)).bind fun s3=>
 F_cref01_Uint_l0 N n s3)
 else
 some l1)
 else
 some l1):=rfl
theorem s_cref01_Uint_l1(N n:Nat) (l5:Bs) (i6:Int) (i7:Int):F_cref01_Uint_l1 N (n+1) (l5,i6,i7)=(
 bif decide (i7<(l5.length:Int)) then(
 (ix l5 i7).bind fun b8=>
 F_cref01_Uint_l1 N n (l5,wadd .u64 (wmul .u64 i6 256) (IntKind.wrap .u64 (b8.toNat:Int)),wadd .i64 i7 1))
 else
 some i6):=rfl
theorem s_cref01_Compare_l0(N n:Nat) (l1:Bs) (l2:Bs) (i3:Int):F_cref01_Compare_l0 N (n+1) (l1,l2,i3)=(
 bif decide (i3<(l1.length:Int)) then(
 bif decide (i3<(l2.length:Int)) then(
 (ix l1 i3).bind fun b4=>
 (ix l2 i3).bind fun b5=>
 bif decide ((b4.toNat:Int)<(b5.toNat:Int)) then(
 some (Sum.inl (-1)))
 else
 (ix l1 i3).bind fun b6=>
 (ix l2 i3).bind fun b7=>
 bif decide ((b6.toNat:Int)>(b7.toNat:Int)) then(
 some (Sum.inl 1))
 else
 F_cref01_Compare_l0 N n (l1,l2,wadd .i64 i3 1))
 else
 some (Sum.inr (l1,l2)))
 else
 some (Sum.inr (l1,l2))):=rfl
theorem s_cref03_Read_l0(N n:Nat) (R:Bs→Int→Option (Fw.Node×Int×(Int×Int))) (i6:Int) (l7:Bs) (i8:Int) (l9:List Fw.Node) (i10:Int) (i11:Int) (c12:Bool) (i13:Int) (i14:Int) (l15:List Fw.Node) (i16:Int) (i17:Int) (c18:Bool):F_cref03_Read_l0 N R (n+1) (i6,l7,i8,l9,i10,i11,c12,i13,i14,l15,i16,i17,c18)=(
 bif decide (i8<(l7.length:Int)) then(
 (slc l7 i8 (l7.length:Int)).bind fun s19=>
 (R s19 (wsub .i64 i6 1)).bind fun(v20,i21,v22)=>
 bif (v22.1 !=0) then(
 some (Sum.inl (v22.1,wadd .i64 (wadd .i64 i14 i8) v22.2)))
 else
 (app 72 l15 [Fw.Node.mk v20.cls v20.num v20.cons v20.body v20.kids]).bind fun l23=>
 F_cref03_Read_l0 N R n (i6,l7,wadd .i64 i8 i21,l9,i10,i11,c12,i13,i14,l23,i16,i17,c18))
 else
 some (Sum.inr (l9,i10,i11,c12,i13,i14,l15,i16,i17,c18))):=rfl
theorem s_cref03_Read(N n:Nat) (a1:Bs) (a2:Int):F_cref03_Read N (n+1) a1 a2=(
 bif (a2==0) then(
 some (Fw.Node.mk 0 0 false [] [],0,5,0))
 else
 (F_cref02_Next N a1).bind fun(v1,l2,l3,v4)=>
 bif (v4.1 !=0) then(
 some (Fw.Node.mk 0 0 false [] [],0,v4))
 else
 bif (!v1.2.2.1) then(
 (app 1 [] l2).bind fun l5=>
 some (Fw.Node.mk v1.1 v1.2.1 v1.2.2.1 l5 [],wadd .i64 v1.2.2.2.2 v1.2.2.2.1,0,0))
 else
 (F_cref03_Read_l0 N (F_cref03_Read N n) N (a2,l2,0,[],v1.1,v1.2.1,v1.2.2.1,v1.2.2.2.1,v1.2.2.2.2,[],v1.1,v1.2.1,v1.2.2.1)).bind fun y24=>(match y24 with
 |Sum.inl (i25,i26)=>some (Fw.Node.mk 0 0 false [] [],0,i25,i26)
 |Sum.inr ((l27,i28,i29,c30,i31,i32,l33,i34,i35,c36))=>some (Fw.Node.mk i34 i35 c36 [] l33,wadd .i64 i32 i31,0,0))):=rfl
theorem s_cref04_FromInt_o(N n:Nat) (a1:Int):F_cref04_FromInt_o N (n+1) a1=(
 bif decide (a1≥(-128)) then(
 bif decide (a1<128) then(
 (toB (IntKind.wrap .u8 a1)).bind fun b1=>
 some [b1])
 else
 ((F_cref04_FromInt_o N n) (wshr .i64 a1 8)).bind fun l2=>
 (toB (IntKind.wrap .u8 a1)).bind fun b3=>
 (app 1 l2 [b3]).bind fun l4=>
 some l4)
 else
 ((F_cref04_FromInt_o N n) (wshr .i64 a1 8)).bind fun l5=>
 (toB (IntKind.wrap .u8 a1)).bind fun b6=>
 (app 1 l5 [b6]).bind fun l7=>
 some l7):=rfl
theorem s_cref04_Valid_l0(N n:Nat) (l1:Bs) (i2:Int) (i3:Int):F_cref04_Valid_l0 N (n+1) (l1,i2,i3)=(
 bif decide (i3<9) then(
 (F_cref04_bit l1 i3).bind fun i4=>
 F_cref04_Valid_l0 N n (l1,wadd .i64 i2 i4,wadd .i64 i3 1))
 else
 some i2):=rfl
theorem s_cref04_Sign_l0(N n:Nat) (l3:Bs) (i4:Int):F_cref04_Sign_l0 N (n+1) (l3,i4)=(
 bif decide (i4<(l3.length:Int)) then(
 (ix l3 i4).bind fun b5=>
 bif ((b5.toNat:Int) !=0) then(
 some (Sum.inl ()))
 else
 F_cref04_Sign_l0 N n (l3,wadd .i64 i4 1))
 else
 some (Sum.inr ())):=rfl
theorem s_cref04_Decimal_l1(N n:Nat) (s8:Bs) (i9:Int) (i10:Int) (l11:Bs):F_cref04_Decimal_l1 N (n+1) (s8,i9,i10,l11)=(
 bif decide (i10<(l11.length:Int)) then(
 bif inb i10 l11.length then(
 (ix l11 i10).bind fun b12=>
 bif inb i10 l11.length then(
 bif inb i10 l11.length then(
 (toB (IntKind.wrap .u8 (wquo .i64 (wadd .i64 (wmul .i64 i9 256) (IntKind.wrap .i64 (b12.toNat:Int))) 10))).bind fun b13=>
 F_cref04_Decimal_l1 N n (s8,Int.tmod (wadd .i64 (wmul .i64 i9 256) (IntKind.wrap .i64 (b12.toNat:Int))) 10,wadd .i64 i10 1,l11.set (Int.toNat i10) b13))
 else
 none)
 else
 none)
 else
 none)
 else
 some (s8,i9,l11)):=rfl
theorem s_cref04_Decimal_l2(N n:Nat) (l22:Bs) (l23:Bs):F_cref04_Decimal_l2 N (n+1) (l22,l23)=(
 bif decide ((l22.length:Int)>1) then(
 (F_cref04_Valid N l22).bind fun c24=>
 bif (!c24) then(
 (slc l22 1 (l22.length:Int)).bind fun s25=>
 F_cref04_Decimal_l2 N n (s25,l23))
 else
 some (l22,l23))
 else
 some (l22,l23)):=rfl
theorem s_cref04_Decimal_l3(N n:Nat) (s6:Bs) (l7:Bs):F_cref04_Decimal_l3 N (n+1) (s6,l7)=(
 bif (s6==[]) then(
 (F_cref04_Decimal_l1 N N (s6,0,0,l7)).bind fun(s8,i9,l10)=>
 (slc ([48,49,50,51,52,53,54,55,56,57]:Bs) i9 (wadd .i64 i9 1)).bind fun s11=>
 (cat s11 s8).bind fun s12=>
 F_cref04_Decimal_l3 N n (s12,l10))
 else
 (app 1 ([0]:Bs) l7).bind fun l13=>
 bif decide ((l13.length:Int)>1) then(
 (F_cref04_Valid N l13).bind fun c14=>
 bif (!c14) then(
 (slc l13 1 (l13.length:Int)).bind fun s15=>
 (F_cref04_Decimal_l2 N N (s15,l7)).bind fun(l16,l17)=>
 (F_cref04_Sign N l16).bind fun i18=>
 bif (i18 !=0) then(
 (F_cref04_Decimal_l1 N N (s6,0,0,l17)).bind fun(s19,i20,l21)=>
 (slc ([48,49,50,51,52,53,54,55,56,57]:Bs) i20 (wadd .i64 i20 1)).bind fun s22=>
 (cat s22 s19).bind fun s23=>
 F_cref04_Decimal_l3 N n (s23,l21))
 else
 some s6)
 else
 (F_cref04_Sign N l13).bind fun i24=>
 bif (i24 !=0) then(
 (F_cref04_Decimal_l1 N N (s6,0,0,l7)).bind fun(s25,i26,l27)=>
 (slc ([48,49,50,51,52,53,54,55,56,57]:Bs) i26 (wadd .i64 i26 1)).bind fun s28=>
 (cat s28 s25).bind fun s29=>
 F_cref04_Decimal_l3 N n (s29,l27))
 else
 some s6)
 else
 (F_cref04_Sign N l13).bind fun i30=>
 bif (i30 !=0) then(
 (F_cref04_Decimal_l1 N N (s6,0,0,l7)).bind fun(s31,i32,l33)=>
 (slc ([48,49,50,51,52,53,54,55,56,57]:Bs) i32 (wadd .i64 i32 1)).bind fun s34=>
 (cat s34 s31).bind fun s35=>
 F_cref04_Decimal_l3 N n (s35,l33))
 else
 some s6):=rfl
theorem s_cref29_lines_l0(N n:Nat) (R:Fw.Node→Int→Option (List Bs)) (i1:Int) (s2:Bs) (i3:Int) (i4:Int) (i5:Int) (c6:Bool) (l7:Bs) (l8:List Fw.Node):F_cref29_lines_l0 N R (n+1) (i1,s2,i3,i4,i5,c6,l7,l8)=(
 bif decide (i3<i1) then(
 (cat s2 ([32,32]:Bs)).bind fun s9=>
 F_cref29_lines_l0 N R n (i1,s9,wadd .i64 i3 1,i4,i5,c6,l7,l8))
 else
 some (i1,s2,i4,i5,c6,l7,l8)):=rfl
theorem s_cref29_lines_l1(N n:Nat) (R:Fw.Node→Int→Option (List Bs)) (i27:Int) (i28:Int) (i29:Int) (i30:Int) (c31:Bool) (l32:Bs) (l33:List Fw.Node) (l34:List Bs):F_cref29_lines_l1 N R (n+1) (i27,i28,i29,i30,c31,l32,l33,l34)=(
 bif decide (i28<(l33.length:Int)) then(
 (ix l33 i28).bind fun e35=>
 (R (Fw.Node.mk e35.cls e35.num e35.cons e35.body e35.kids) (wadd .i64 i27 1)).bind fun l36=>
 (app 16 l34 l36).bind fun l37=>
 F_cref29_lines_l1 N R n (i27,wadd .i64 i28 1,i29,i30,c31,l32,l33,l37))
 else
 some l34):=rfl
theorem m_cref29_lines(N n:Nat) (xc xm:Int) (xk:Bool) (xb:Bs) (xs:List Fw.Node) (a2:Int):F_cref29_lines N (n+1) (Fw.Node.mk xc xm xk xb xs) a2=(
 (F_cref29_lines_l0 N (F_cref29_lines N n) N (a2,[],0,xc,xm,xk,xb,xs)).bind fun(i10,s11,i12,i13,c14,l15,l16)=>
 (F_cref03_Bytes N N (Fw.Node.mk i12 i13 c14 l15 l16)).bind fun l17=>
 (F_cref02_ReadHeader N l17).bind fun(v18,v19)=>
 (slc l17 0 1).bind fun s20=>
 (F_cref12_Hex N s20).bind fun s21=>
 (cat s11 s21).bind fun s22=>
 (cat s22 ([32]:Bs)).bind fun s23=>
 (F_cref04_FromInt N v18.2.2.2.1).bind fun l24=>
 (F_cref04_Decimal N l24).bind fun s25=>
 (cat s23 s25).bind fun s26=>
 (F_cref29_lines_l1 N (F_cref29_lines N n) N (i10,0,i12,i13,c14,l15,l16,[s26])).bind fun l38=>
 some l38):=rfl
theorem s_cbase_Strings_l0(N n:Nat) (l1:List Bs) (l2:List Bs) (i3:Int):F_cbase_Strings_l0 N (n+1) (l1,l2,i3)=(
 bif decide (i3<(l1.length:Int)) then(
 bif decide (i3<(l2.length:Int)) then(
 (ix l1 i3).bind fun e4=>
 (ix l2 i3).bind fun e5=>
 bif (!(e4==e5)) then(
 some (Sum.inl ()))
 else
 F_cbase_Strings_l0 N n (l1,l2,wadd .i64 i3 1))
 else
 some (Sum.inr (l1,l2)))
 else
 some (Sum.inr (l1,l2))):=rfl
theorem s_cref03_Count_l0(N n:Nat) (R:Fw.Node→Option Int) (i1:Int) (i2:Int) (i3:Int) (i4:Int) (c5:Bool) (l6:Bs) (l7:List Fw.Node):F_cref03_Count_l0 N R (n+1) (i1,i2,i3,i4,c5,l6,l7)=(
 bif decide (i2<(l7.length:Int)) then(
 (ix l7 i2).bind fun e8=>
 (R (Fw.Node.mk e8.cls e8.num e8.cons e8.body e8.kids)).bind fun i9=>
 F_cref03_Count_l0 N R n (wadd .i64 i1 i9,wadd .i64 i2 1,i3,i4,c5,l6,l7))
 else
 some i1):=rfl
theorem m_cref03_Count(N n:Nat) (xc xm:Int) (xk:Bool) (xb:Bs) (xs:List Fw.Node):F_cref03_Count N (n+1) (Fw.Node.mk xc xm xk xb xs)=(
 (F_cref03_Count_l0 N (F_cref03_Count N n) N (1,0,xc,xm,xk,xb,xs)).bind fun i10=>
 some i10):=rfl
end Go.Fw
namespace Go.Fw
open Go
theorem slc_mid{α:Type}(p s q:List α):slc (p++s++q) (p.length:Int) ((p.length+s.length:Nat):Int)=some s:=by
 unfold slc
 rw[if_pos ⟨by omega,by omega,by simp only[List.length_append];omega⟩,Int.toNat_natCast,Int.toNat_natCast,List.append_assoc,List.take_append,List.take_of_length_le (by omega),List.drop_append,List.drop_of_length_le (Nat.le_refl _)]
 simp
theorem ruint_l0(N:Nat):∀(n:Nat) (l:Bs),l.length<n→∃l',F_cref01_Uint_l0 N n l=some l'∧l'.length≤l.length∧beN l' =beN l
 |n+1,[],_=>by
  rw[s_cref01_Uint_l0,show decide ((([]:Bs).length:Int)>0)=false from rfl,cond_false]
  exact⟨[],rfl,Nat.le_refl _,rfl⟩
 |n+1,x::l,h=>by
  simp only[List.length_cons]at h
  rw[s_cref01_Uint_l0,pos_len,cond_true,ix_0,Option.bind_some]
  by_cases hx:x.toNat=0
  ·rw[show((x.toNat:Int)==0)=true from by rw[hx];rfl,cond_true,slc_one,Option.bind_some]
   obtain⟨l',h1,h2,h3⟩:=ruint_l0 N n l (by omega)
   refine⟨l',h1,by simp only[List.length_cons];omega,?_⟩
   rw[h3]
   unfold beN
   rw[List.foldl_cons,hx]
  ·rw[show((x.toNat:Int)==0)=false from beq_eq_false_iff_ne.2 (by omega),cond_false]
   exact⟨_,rfl,Nat.le_refl _,rfl⟩
theorem u64_step{v b:Nat}(h:256*v+b<18446744073709551616) (hb:b<256):wadd .u64 (wmul .u64 (v:Int) 256) (IntKind.wrap .u64 (b:Int))=((256*v+b:Nat):Int):=by
 show IntKind.u64.wrap (IntKind.u64.wrap ((v:Int)*256)+IntKind.u64.wrap (b:Int))=_
 rw[Go.IntWalk.u64_in (b:Int) (by omega),Go.IntWalk.u64_in ((v:Int)*256) (by omega),Go.IntWalk.u64_in _ (by omega)]
 omega
theorem ruint_l1(N:Nat) (l:Bs) (hl:l.length≤4):∀(k n i v:Nat),l.length-i=k→i≤l.length→k<n→v<256 ^ i→F_cref01_Uint_l1 N n (l,(v:Int),(i:Int))=some (((l.drop i).foldl (fun n x=>256*n+x.toNat) v:Nat):Int)
 |0,n+1,i,v,hk,hi,_,_=>by
  rw[s_cref01_Uint_l1,ge_i (by omega),List.drop_eq_nil_of_le (by omega)];rfl
 |k+1,n+1,i,v,hk,hi,hn,hv=>by
  have hlt:i<l.length:=by omega
  have hx:=l[i].toNat_lt
  have hp:(256:Nat) ^ i≤256 ^ 3:=Nat.pow_le_pow_right (by decide) (by omega)
  have e3:(256:Nat) ^ 3=16777216:=by decide
  rw[drop_cons hlt,s_cref01_Uint_l1,lt_i hlt,cond_true,ix_at hlt,Option.bind_some,u64_step (by omega) (by omega),inc_i (by omega),ruint_l1 N l hl k n (i+1) _ (by omega) (by omega) (by omega) (by rw[Nat.pow_succ];omega)]
  rfl
theorem ruint_ok{N:Nat}(hN:1000000<N) {l:Bs}(hl:l.length≤4):F_cref01_Uint N l=some ((beN l:Int),true):=by
 obtain⟨l',h1,h2,h3⟩:=ruint_l0 N N l (by omega)
 unfold F_cref01_Uint
 rw[h1,Option.bind_some,decide_eq_false (by omega),cond_false,show(0:Int)=((0:Nat):Int) from rfl,ruint_l1 N l' (by omega) l'.length N 0 0 (by omega) (by omega) (by omega) (by simp),Option.bind_some,List.drop_zero]
 rw[←h3]
 rfl
theorem rcmp_loop(N:Nat) (a b:Bs) (ha:a.length<1000000):∀(k n i:Nat),a.length-i=k→i≤a.length→k<n→i≤b.length→a.take i=b.take i→∃y,F_cref01_Compare_l0 N n (a,b,(i:Int))=some y∧((y= .inr (a,b)∧((∃r,b=a++r)∨∃r,a=b++r))∨((y= .inl 1∨y= .inl (-1))∧a≠b))
 |0,n+1,i,hk,hi,_,hb,he=>by
  rw[s_cref01_Compare_l0,ge_i (by omega),cond_false]
  refine⟨_,rfl,.inl ⟨rfl,.inl ⟨b.drop i,?_⟩⟩⟩
  rw[List.take_of_length_le (by omega)]at he
  rw[he,List.take_append_drop]
 |k+1,n+1,i,hk,hi,hn,hb,he=>by
  have hlt:i<a.length:=by omega
  rw[s_cref01_Compare_l0,lt_i hlt,cond_true]
  by_cases hbl:i<b.length
  ·rw[lt_i hbl,cond_true]
   simp only[ix_at hlt,ix_at hbl,Option.bind_some]
   rcases Nat.lt_trichotomy a[i].toNat b[i].toNat with h|h|h
   ·rw[decide_eq_true (by omega),cond_true]
    refine⟨_,rfl,.inr ⟨.inr rfl,fun e=> ?_⟩⟩
    subst e
    omega
   ·rw[decide_eq_false (by omega),cond_false,decide_eq_false (by omega),cond_false,inc_i (by omega)]
    refine rcmp_loop N a b ha k n (i+1) (by omega) (by omega) (by omega) hbl ?_
    rw[List.take_add_one,List.take_add_one,he,List.getElem?_eq_getElem hlt,List.getElem?_eq_getElem hbl,UInt8.toNat_inj.1 h]
   ·rw[decide_eq_false (by omega),cond_false,decide_eq_true (by omega),cond_true]
    refine⟨_,rfl,.inr ⟨.inl rfl,fun e=> ?_⟩⟩
    subst e
    omega
  ·rw[ge_i (by omega),cond_false]
   refine⟨_,rfl,.inl ⟨rfl,.inr ⟨a.drop i,?_⟩⟩⟩
   rw[List.take_of_length_le (by omega:b.length≤i)]at he
   rw[←he,List.take_append_drop]
theorem rcmp_ok{N:Nat}(hN:1000000<N) {a b:Bs}(ha:a.length<1000000):∃c:Int,F_cref01_Compare N a b=some c∧(c=0↔a=b):=by
 obtain⟨y,h1,h2⟩:=rcmp_loop N a b ha a.length N 0 (by omega) (by omega) (by omega) (by omega) rfl
 unfold F_cref01_Compare
 rw[show(0:Int)=((0:Nat):Int) from rfl,h1]
 simp only[Option.bind_some]
 rcases h2 with⟨rfl,h2⟩|⟨rfl|rfl,h2⟩
 ·dsimp only
  by_cases h3:a.length<b.length
  ·rw[decide_eq_true (by omega),cond_true]
   exact⟨_,rfl,by constructor<;>intro h<;>first|(cases h;done)|(rw[h]at h3;omega)⟩
  ·rw[decide_eq_false (by omega),cond_false]
   by_cases h4:a.length>b.length
   ·rw[decide_eq_true (by omega),cond_true]
    exact⟨_,rfl,by constructor<;>intro h<;>first|(cases h;done)|(rw[h]at h4;omega)⟩
   ·rw[decide_eq_false (by omega),cond_false]
    refine⟨_,rfl,fun _=> ?_,fun _=>rfl⟩
    rcases h2 with⟨r,rfl⟩|⟨r,rfl⟩
    ·simp only[List.length_append]at h3 h4
     rw[List.eq_nil_of_length_eq_zero (show r.length=0 by omega),List.append_nil]
    ·simp only[List.length_append]at h3 h4
     rw[List.eq_nil_of_length_eq_zero (show r.length=0 by omega),List.append_nil]
 ·exact⟨_,rfl,fun h=>(by cases h),fun h=>absurd h h2⟩
 ·exact⟨_,rfl,fun h=>(by cases h),fun h=>absurd h h2⟩
def RL(N:Nat) (a:Bs):Prop:=∃L k e o:Int,F_tlv_ReadLength N a=some (L,k,e,o)∧F_cref02_ReadLength N a=some (L,k,e,o)∧(e≠0→0≤o∧o≤(a.length:Int))∧(e=0→o=0)
theorem ewM{m:Bs}{c:Nat}(hm:m.length=c) (ew:wadd .i64 1 (c:Int)=((1+c:Nat):Int)):wadd .i64 1 ((m.length:Nat):Int)=((1+m.length:Nat):Int):=by rw[hm];exact ew
theorem rl_ok{N:Nat}(hN:1000000<N) {a:Bs}(ha:a.length<1000000):RL N a:=by
 unfold RL F_tlv_ReadLength F_cref02_ReadLength
 match a,ha with
 |[],_=>exact⟨0,0,1,0,rfl,rfl,fun _=>⟨by decide,by decide⟩,fun h=>(by cases h)⟩
 |b::r,ha=>
  have hb:=b.toNat_lt
  simp only[List.length_cons]at ha
  rw[show(((b::r:Bs).length:Int)==0)=false from beq_eq_false_iff_ne.2 (by simp;omega),cond_false,cond_false,ix_0]
  simp only[Option.bind_some]
  by_cases h1:b.toNat<128
  ·rw[decide_eq_true (by omega),cond_true,cond_true]
   exact⟨_,_,_,_,rfl,rfl,fun h=>absurd rfl h,fun _=>rfl⟩
  rw[decide_eq_false (by omega),cond_false,cond_false,byte_w]
  obtain⟨c,hc⟩:∃c:Nat,b.toNat=128+c:=⟨b.toNat-128,by omega⟩
  have hsub:wsub .i64 (b.toNat:Int) 128=(c:Int):=by
   show IntKind.i64.wrap _=_
   rw[hc,Go.IntWalk.i64_in _ (by omega)]
   omega
  rw[hsub]
  by_cases hc0:c=0
  ·subst hc0
   exact⟨_,_,_,_,rfl,rfl,fun _=>⟨by decide,by simp;omega⟩,fun h=>(by cases h)⟩
  rw[show((c:Int)==0)=false from beq_eq_false_iff_ne.2 (by omega),cond_false,cond_false]
  by_cases hc4:c>4
  ·rw[decide_eq_true (show(c:Int)>4 by omega),cond_true,decide_eq_true (show(c:Int)≥5 by omega),cond_true]
   exact⟨_,_,_,_,rfl,rfl,fun _=>⟨by decide,by simp;omega⟩,fun h=>(by cases h)⟩
  rw[decide_eq_false (show ¬(c:Int)>4 by omega),cond_false,decide_eq_false (show ¬(c:Int)≥5 by omega),cond_false]
  have ew:wadd .i64 1 (c:Int)=((1+c:Nat):Int):=by
   rw[wad_in (by omega)];omega
  rw[ew]
  by_cases hl:r.length<c
  ·rw[decide_eq_true (show((b::r:Bs).length:Int)≤(c:Int) by simp;omega),cond_true,decide_eq_true (show((b::r:Bs).length:Int)<((1+c:Nat):Int) by simp;omega),cond_true]
   exact⟨_,_,_,_,rfl,rfl,fun _=>⟨by simp;omega,Int.le_refl _⟩,fun h=>(by cases h)⟩
  rw[decide_eq_false (show ¬((b::r:Bs).length:Int)≤(c:Int) by simp;omega),cond_false,decide_eq_false (show ¬((b::r:Bs).length:Int)<((1+c:Nat):Int) by simp;omega),cond_false]
  obtain⟨m,rest,rfl,hm⟩:∃m rest,r=m++rest∧m.length=c:=⟨r.take c,r.drop c,(List.take_append_drop _ _).symm,by rw[List.length_take];omega⟩
  obtain⟨x,m',hx⟩:∃x m',m=x::m' :=by
   match m,hm with
   |x::m',_=>exact⟨x,m',rfl⟩
   |[],hm=>simp at hm;omega
  have hv:beN m<256 ^ c:=by rw[←hm];exact beN_lt _ _ rfl
  have hv4:(256:Nat) ^ c≤256 ^ 4:=Nat.pow_le_pow_right (by decide) (by omega)
  have e4:(256:Nat) ^ 4=4294967296:=by decide
  have hloop:=rlen_loop N b m rest (by omega) m.length N 0 0 (by omega) (by omega) (by omega) (by simp)
  rw[List.drop_zero,show m.foldl (fun n x=>256*n+x.toNat) 0=beN m from rfl]at hloop
  rw[←hm,show F_tlv_ReadLength_l0 N N (b::(m++rest),((m.length:Nat):Int),0,1,0,0)=_ from hloop]
  simp only[Option.bind_some]
  have hix1:ix (b::(m++rest)) 1=some x:=by rw[hx];rfl
  have hs1:slc (b::(m++rest)) 1 ((1+m.length:Nat):Int)=some m:=by
   have:=slc_mid [b] m rest
   simpa using this
  have hs0:slc (b::(m++rest)) 0 ((1+m.length:Nat):Int)=some (b::m):=by
   have:=slc_mid [] (b::m) rest
   simpa[Nat.add_comm] using this
  rw[hix1,hs1,hs0,Option.bind_some,Option.bind_some,ruint_ok hN (by omega)]
  simp only[Option.bind_some]
  by_cases hmax:beN m>2147483647
  ·rw[decide_eq_true (show(beN m:Int)>2147483647 by omega),cond_true]
   refine⟨0,0,4,0,?_,rfl,fun _=>⟨by decide,by simp;omega⟩,fun h=>(by cases h)⟩
   cases ((x.toNat:Int)==0)<;>cases decide ((beN m:Int)<128)<;>rfl
  rw[decide_eq_false (show ¬(beN m:Int)>2147483647 by omega),cond_false]
  rw[show IntKind.wrap .i64 (beN m:Int)=(beN m:Int) from Go.IntWalk.i64_in _ (by omega),rlength_ok hN (by omega)]
  simp only[Option.bind_some]
  obtain⟨cm,h5,h6⟩:=rcmp_ok hN (a:=lenB (beN m)) (b:=b::m) (by have:=lenB_len (beN m) (by omega);omega)
  rw[h5]
  simp only[Option.bind_some]
  by_cases hx0:x.toNat=0
  ·rw[show((x.toNat:Int)==0)=true from by rw[hx0];rfl,cond_true]
   have hne:cm≠0:=fun h=>by
    have h7:=h6.1 h
    unfold lenB at h7
    split at h7
    ·rw[min_small _ (by omega)]at h7
     have:=(List.cons.inj h7).2
     rw[hx]at this;cases this
    ·have h8:=(List.cons.inj h7).2
     obtain⟨x',r',h9,h10⟩:=min_head (beN m) (by omega) (by omega)
     rw[h9,hx]at h8
     exact h10 (by rw[(List.cons.inj h8).1];exact hx0)
   rw[show(cm !=0)=true from by simpa using hne]
   exact⟨_,_,_,_,rfl,rfl,fun _=>⟨by decide,by simp;omega⟩,fun h=>(by cases h)⟩
  rw[show((x.toNat:Int)==0)=false from beq_eq_false_iff_ne.2 (by omega),cond_false]
  by_cases h128:beN m<128
  ·rw[decide_eq_true (show(beN m:Int)<128 by omega),cond_true]
   have hne:cm≠0:=fun h=>by
    have h7:=h6.1 h
    rw[lenB,if_pos h128,min_small _ (by omega)]at h7
    have:=(List.cons.inj h7).2
    rw[hx]at this;cases this
   rw[show(cm !=0)=true from by simpa using hne]
   exact⟨_,_,_,_,rfl,rfl,fun _=>⟨by decide,by simp;omega⟩,fun h=>(by cases h)⟩
  ·rw[decide_eq_false (show ¬(beN m:Int)<128 by omega),cond_false]
   have hmb:=min_be m (by omega) x m' hx (.inl hx0)
   have he:cm=0:=h6.2 (by
    rw[lenB,if_neg h128,hmb]
    congr 1
    rw[hm,←hc,UInt8.ofNat_toNat])
   rw[show(cm !=0)=false from by rw[he];rfl,ewM hm ew]
   exact⟨_,_,_,_,rfl,rfl,fun h=>absurd rfl h,fun _=>rfl⟩
end Go.Fw
namespace Go.Fw
open Go
def ridB(x:Nat):Bool:=match F_tlv_ReadIdentifier ((UInt8.ofNat x).toNat:Int),F_cref02_ReadIdentifier ((UInt8.ofNat x).toNat:Int) with
 |some a,some b=>decide (a=b∧(a.2.2.2=0∨a.2.2.2=3))
 |_,_=>false
theorem rid_all:((List.range 256).all ridB)=true:=by decide+kernel
theorem rid_eq(x:UInt8):∃c k m e,F_tlv_ReadIdentifier (x.toNat:Int)=some (c,k,m,e)∧F_cref02_ReadIdentifier (x.toNat:Int)=some (c,k,m,e):=by
 have h:=List.all_eq_true.1 rid_all x.toNat (List.mem_range.2 x.toNat_lt)
 unfold ridB at h
 rw[UInt8.ofNat_toNat]at h
 split at h
 ·rename_i a b h1 h2
  obtain⟨rfl,_⟩:=of_decide_eq_true h
  exact⟨a.1,a.2.1,a.2.2.1,a.2.2.2,h1,h2⟩
 ·cases h
theorem hdr_eq{N:Nat}(hN:1000000<N) {a:Bs}(ha:a.length<1000000):∃c m L sz e o:Int,∃k,F_tlv_ReadHeader N a=some ((c,m,k,L,sz),e,o)∧F_cref02_ReadHeader N a=some ((c,m,k,L,sz),e,o)∧0≤o∧o≤(a.length:Int):=by
 unfold F_tlv_ReadHeader F_cref02_ReadHeader
 match a,ha with
 |[],_=>exact⟨0,0,0,0,1,0,false,rfl,rfl,by decide,by decide⟩
 |b::r,ha=>
  simp only[List.length_cons]at ha
  obtain⟨c,k,m,e,h1,h2⟩:=rid_eq b
  obtain⟨L,z,e2,o,h3,h4,h5,h6⟩:=rl_ok hN (a:=r) (by omega)
  rw[show(((b::r:Bs).length:Int)==0)=false from beq_eq_false_iff_ne.2 (by simp;omega),cond_false,cond_false,ix_0]
  simp only[Option.bind_some]
  rw[h1,h2]
  simp only[Option.bind_some]
  cases he:(e !=0) with
  |true=>exact⟨_,_,_,_,_,_,_,rfl,rfl,Int.le_refl _,by simp;omega⟩
  |false=>
   rw[cond_false,cond_false,slc_one]
   simp only[Option.bind_some]
   rw[h3,h4]
   simp only[Option.bind_some]
   cases he2:(e2 !=0) with
   |true=>
    have h7:=h5 (by simpa using he2)
    have e3:wadd .i64 o 1=o+1:=wad_in (by omega)
    rw[cond_true,e3]
    exact⟨_,_,_,_,_,_,_,rfl,rfl,by omega,by simp;omega⟩
   |false=>
    exact⟨_,_,_,_,_,_,_,rfl,rfl,Int.le_refl _,by simp;omega⟩
def RD(d:Nat) (s:Bs) (i:Nat) (x:Option (Spot×(Int×Int))) (y:Option (Node×Int×(Int×Int))):Prop:=
 (∃(n:Node) (z:Nat) (sp:Spot),x=some (sp,0,0)∧sp.nd=n∧sp.stop=((i+z:Nat):Int)∧y=some (n,(z:Int),0,0)∧okN d n∧encN n=s.take z∧z≤s.length∧0<z)∨
 (∃(sp:Spot) (n:Node) (z e:Int) (o:Nat),e≠0∧x=some (sp,e,((i+o:Nat):Int))∧y=some (n,z,e,(o:Int))∧o≤s.length)
def RK(d:Nat) (p:Bs) (ns:List Node) (p0 stop:Nat) (hz:Int) (c m:Int) (k:Bool) (i0:Int) (x:Option ((Int×Int×Int×Int×Bool×Int×Int)⊕(Int×Int×Int×Int×Bool×List Spot×Int×Int×List Node×List Spot×Int×Int×Int×Int×Bool))) (y:Option ((Int×Int)⊕(List Node×Int×Int×Bool×Int×Int×List Node×Int×Int×Bool))) (L:Int):Prop:=
 (∃ks ss,x=some (.inr (0,0,0,0,false,[],0,0,ns++ks,ss,i0,(stop:Int),c,m,k))∧y=some (.inr ([],c,m,k,L,hz,ns++ks,c,m,k))∧okL d ks∧encL ks=p)∨
 (∃(e:Int) (o:Nat),e≠0∧x=some (.inl (0,0,0,0,false,e,((p0+o:Nat):Int)))∧y=some (.inl (e,hz+(o:Int)))∧p0+o≤stop)
theorem rk_ok(N:Nat) (R:Bs→Int→Int→Int→Option (Spot×(Int×Int))) (R' :Bs→Int→Option (Node×Int×(Int×Int))) (a:Bs) (ha:a.length<1000000) (d p0 stop:Nat) (hd:d<1000) (h0:p0≤stop) (hst:stop≤a.length) (hz:Nat) (hhz:hz<1000000)
 (hR:∀i,p0≤i→i<stop→RD d ((a.drop i).take (stop-i)) i (R a (i:Int) (stop:Int) (d:Int)) (R' ((a.drop i).take (stop-i)) (d:Int))) (c m:Int) (k:Bool) (i0 L:Int):
 ∀(j n pos:Nat) (ns:List Node) (ss:List Spot),stop-pos=j→j<n→p0≤pos→pos≤stop→ns.length+(stop-pos)<1000000→ss.length+(stop-pos)<1000000→
  RK d ((a.drop pos).take (stop-pos)) ns p0 stop (hz:Int) c m k i0 (F_tree_read_l0 N R n (a,((d+1:Nat):Int),(pos:Int),0,0,0,0,false,[],0,0,ns,ss,i0,(stop:Int),c,m,k))
   (F_cref03_Read_l0 N R' n (((d+1:Nat):Int),(a.drop p0).take (stop-p0),((pos-p0:Nat):Int),[],c,m,k,L,(hz:Int),ns,c,m,k)) L:=by
 intro j
 induction j using Nat.strongRecOn with
 |_ j ih=>
  intro n pos ns ss hj hn hp hps hns hss
  obtain⟨n,rfl⟩:∃n',n=n' +1:=⟨n-1,by omega⟩
  have hcl:((a.drop p0).take (stop-p0)).length=stop-p0:=by rw[List.length_take,List.length_drop];omega
  rw[s_tree_read_l0,s_cref03_Read_l0,hcl]
  by_cases hlt:pos<stop
  ·rw[lt_i hlt,cond_true,lt_i (show pos-p0<stop-p0 by omega),cond_true,dec_i (by omega)]
   have hs:slc ((a.drop p0).take (stop-p0)) ((pos-p0:Nat):Int) ((stop-p0:Nat):Int)=some ((a.drop pos).take (stop-pos)):=by
    rw[slc_dt (by omega) (by omega),List.drop_take,List.drop_drop,List.take_take,show p0+(pos-p0)=pos from by omega,show min (stop-p0-(pos-p0)) (stop-p0-(pos-p0))=stop-pos from by omega]
   rw[hs,Option.bind_some]
   rcases hR pos hp hlt with⟨nd,z,sp,e1,e2,e3,e4,e5,e6,e7,e8⟩|⟨sp,nd,z,e,o,e1,e2,e3,e4⟩
   ·rw[e1,e4]
    simp only[Option.bind_some,bne_self_eq_false,cond_false]
    rw[List.length_take,List.length_drop]at e7
    rw[app_ok (by simp only[List.length_cons,List.length_nil];omega) (by simp only[List.length_cons,List.length_nil];omega),Option.bind_some,app_ok (by simp only[List.length_cons,List.length_nil];omega) (by simp only[List.length_cons,List.length_nil];omega),Option.bind_some,app_ok (by simp only[List.length_cons,List.length_nil];omega) (by simp only[List.length_cons,List.length_nil];omega),Option.bind_some,e3,node_eta,node_eta,e2]
    have ew:wadd .i64 ((pos-p0:Nat):Int) (z:Int)=((pos+z-p0:Nat):Int):=by rw[wad_in (by omega)];omega
    rw[ew]
    have:=ih (stop-(pos+z)) (by omega) n (pos+z) (ns++[nd]) (ss++[Spot.mk sp.at' ((pos+z:Nat):Int) nd sp.kids]) rfl (by omega) (by omega) (by omega) (by simp only[List.length_append,List.length_cons,List.length_nil];omega) (by simp only[List.length_append,List.length_cons,List.length_nil];omega)
    rcases this with⟨ks,ss',f1,f2,f3,f4⟩|⟨e,o,f1,f2,f3,f4⟩
    ·refine .inl ⟨nd::ks,ss',by rw[f1];simp,by rw[f2];simp,⟨e5,f3⟩,?_⟩
     rw[encL,e6,f4,List.take_take,show min z (stop-pos)=z from by omega]
     have:a.drop pos=(a.drop pos).take z++a.drop (pos+z):=by rw[←List.drop_drop,List.take_append_drop]
     conv=>rhs;rw[this,List.take_append]
     rw[List.length_take,List.length_drop,show min z (a.length-pos)=z from by omega,List.take_take,show min (stop-pos) z=z from by omega,show stop-pos-z=stop-(pos+z) from by omega]
    ·exact .inr ⟨e,o,f1,f2,f3,f4⟩
   ·rw[e2,e3]
    simp only[Option.bind_some]
    rw[show(e !=0)=true from by simpa using e1,cond_true,cond_true]
    rw[List.length_take,List.length_drop]at e4
    have ew:wadd .i64 (wadd .i64 (hz:Int) ((pos-p0:Nat):Int)) (o:Int)=(hz:Int)+((pos-p0+o:Nat):Int):=by
     rw[wad_in (a:=(hz:Int)) (by omega),wad_in (by omega)];omega
    rw[ew]
    exact .inr ⟨e,pos-p0+o,e1,by rw[show p0+(pos-p0+o)=pos+o from by omega],rfl,by omega⟩
  ·rw[ge_i (by omega),ge_i (show stop-p0≤pos-p0 by omega)]
   refine .inl ⟨[],ss,by rw[List.append_nil];rfl,by rw[List.append_nil];rfl,trivial,?_⟩
   rw[show stop-pos=0 from by omega,List.take_zero];rfl
end Go.Fw
namespace Go.Fw
open Go
theorem next_eq{N:Nat}(hN:1000000<N) {s:Bs}(hs:s.length<1000000):
 (∃(c m:Nat) (k:Bool) (L:Nat) (rest:Bs),c<4∧m<31∧L≤2147483647∧s=idB c k m::(lenB L++rest)∧L≤rest.length∧F_tlv_ReadHeader N s=some (((c:Int),(m:Int),k,(L:Int),((1+(lenB L).length:Nat):Int)),0,0)∧
   F_cref02_Next N s=some (((c:Int),(m:Int),k,(L:Int),((1+(lenB L).length:Nat):Int)),rest.take L,rest.drop L,0,0))∨
 (∃(v:Int×Int×Bool×Int×Int) (e:Int) (o:Nat),e≠0∧o≤s.length∧F_tlv_ReadHeader N s=some (v,e,(o:Int))∧∃v' l l',F_cref02_Next N s=some (v',l,l',e,(o:Int)))∨
 (∃(c m L sz:Int) (k:Bool),F_tlv_ReadHeader N s=some ((c,m,k,L,sz),0,0)∧0≤sz∧sz≤(s.length:Int)∧0≤L∧(s.length:Int)-sz<L∧∃v' l l',F_cref02_Next N s=some (v',l,l',1,(s.length:Int))):=by
 obtain⟨c,m,L,sz,e,o,k,h1,h2,h3,h4⟩:=hdr_eq hN hs
 unfold F_cref02_Next
 rw[h2]
 simp only[Option.bind_some]
 by_cases he:e=0
 ·subst he
  obtain⟨c',m',n,rest,g1,g2,g3,g4,g5,g6,g7,g8⟩:=header_inv N (by omega) s (by omega) c m L sz o k h1
  have ho:o=0:=by
   have:=header_val N (by omega) k g1 g2 g3 rest
   rw[←g4,h1]at this
   injection this with this
   exact(Prod.mk.inj (Prod.mk.inj this).2).2
  subst ho
  rw[bne_self_eq_false,cond_false]
  have hlb:=lenB_len n (by omega)
  have hsl:s.length=1+(lenB n).length+rest.length:=by rw[g4];simp;omega
  rw[g5,g6,g7,g8]at h1⊢
  have e1:wsub .i64 (s.length:Int) ((1+(lenB n).length:Nat):Int)=(rest.length:Int):=by
   rw[wsb_in (by omega)];omega
  rw[e1]
  by_cases hl:rest.length<n
  ·rw[decide_eq_true (by omega),cond_true]
   exact .inr (.inr ⟨_,_,_,_,_,h1,by omega,by omega,by omega,by omega,_,_,_,rfl⟩)
  ·rw[decide_eq_false (by omega),cond_false]
   have e2:wadd .i64 ((1+(lenB n).length:Nat):Int) (n:Int)=((1+(lenB n).length+n:Nat):Int):=by
    rw[wad_in (by omega)];omega
   have hd:s.drop (1+(lenB n).length)=rest:=by
    rw[g4,show(1+(lenB n).length)=(idB c' k m' ::lenB n).length from by simp;omega,show idB c' k m' ::(lenB n++rest)=(idB c' k m' ::lenB n)++rest from rfl,List.drop_left]
   rw[e2,slc_dt (by omega) (by omega),Option.bind_some,hd,slc_suf (by omega),Option.bind_some,←List.drop_drop,hd,show 1+(lenB n).length+n-(1+(lenB n).length)=n from by omega]
   exact .inl ⟨c',m',k,n,rest,g1,g2,g3,g4,by omega,h1,rfl⟩
 ·obtain⟨o',rfl⟩:=Int.eq_ofNat_of_zero_le h3
  rw[show(e !=0)=true from by simpa using he,cond_true]
  exact .inr (.inl ⟨_,e,o',he,by omega,h1,_,_,_,rfl⟩)
theorem rd_ok(N:Nat) (hN:1000000<N) (a:Bs) (ha:a.length<100000):∀(d f:Nat),d<1000→d≤f→∀(i j:Nat),i≤j→j≤a.length→
 RD d ((a.drop i).take (j-i)) i (F_tree_read N (f+1) a (i:Int) (j:Int) (d:Int)) (F_cref03_Read N (f+1) ((a.drop i).take (j-i)) (d:Int))
 |0,f,_,_,i,j,hij,hj=>by
  rw[s_tree_read,s_cref03_Read]
  exact .inr ⟨_,_,0,5,0,by decide,rfl,rfl,Nat.zero_le _⟩
 |d+1,f,hd,hf,i,j,hij,hj=>by
  obtain⟨f,rfl⟩:∃f',f=f' +1:=⟨f-1,by omega⟩
  have e0:(((d+1:Nat):Int)==0)=false:=beq_eq_false_iff_ne.2 (by omega)
  have hsl:((a.drop i).take (j-i)).length=j-i:=by rw[List.length_take,List.length_drop];omega
  obtain⟨s,hs⟩:∃s,(a.drop i).take (j-i)=s:=⟨_,rfl⟩
  rw[s_tree_read,s_cref03_Read,e0]
  simp only[cond_false]
  rw[decide_eq_true (Int.le_refl _),decide_eq_true (show(j:Int)≤((a.length:Nat):Int) by omega)]
  simp only[Bool.and_self,cond_true]
  rw[slc_dt hij hj,Option.bind_some,hs]
  rw[hs]at hsl
  rcases next_eq hN (s:=s) (by omega) with⟨c,m,k,L,rest,g1,g2,g3,g4,g5,g6,g7⟩|⟨v,e,o,g1,g2,g3,v',l,l',g4⟩|⟨c,m,L,sz,k,g1,g2,g3,g4,g5,v',l,l',g6⟩
  ·rw[g6,g7]
   simp only[Option.bind_some,bne_self_eq_false,cond_false]
   have hlb:=lenB_len L (by omega)
   have hl2:s.length=1+(lenB L).length+rest.length:=by rw[g4];simp;omega
   have e2:wadd .i64 (i:Int) ((1+(lenB L).length:Nat):Int)=((i+(1+(lenB L).length):Nat):Int):=by
    rw[wad_in (by omega)];omega
   have e1:wsub .i64 (j:Int) ((i+(1+(lenB L).length):Nat):Int)=((j-(i+(1+(lenB L).length)):Nat):Int):=by
    rw[wsb_in (by omega)];omega
   have e3:wadd .i64 ((i+(1+(lenB L).length):Nat):Int) (L:Int)=((i+(1+(lenB L).length+L):Nat):Int):=by
    rw[wad_in (by omega)];omega
   have e5:wadd .i64 ((1+(lenB L).length:Nat):Int) (L:Int)=((1+(lenB L).length+L:Nat):Int):=by
    rw[wad_in (by omega)];omega
   rw[e2,e1,decide_eq_false (by omega)]
   simp only[cond_false]
   rw[e3,e5]
   have hcont:(a.drop (i+(1+(lenB L).length))).take L=rest.take L:=by
    have h1:(a.drop i).take (j-i)=(idB c k m::lenB L)++rest:=by rw[hs,g4];rfl
    have h2:=cut_r h1
    rw[show(idB c k m::lenB L).length=1+(lenB L).length from by simp;omega]at h2
    rw[←h2,List.take_take,Nat.min_eq_left (by omega)]
   have hpre:s.take (1+(lenB L).length+L)=idB c k m::(lenB L++rest.take L):=by
    rw[g4,show idB c k m::(lenB L++rest)=(idB c k m::lenB L)++rest from rfl,List.take_append,List.take_of_length_le (by simp;omega)]
    simp only[List.length_cons,List.cons_append]
    rw[show 1+(lenB L).length+L-((lenB L).length+1)=L from by omega]
   have htl:(rest.take L).length=L:=by rw[List.length_take];omega
   cases k with
   |false=>
    simp only[Bool.not_false,cond_true]
    rw[slc_dt (by omega) (by omega),Option.bind_some,show i+(1+(lenB L).length+L)-(i+(1+(lenB L).length))=L from by omega,hcont]
    simp only[F_Clone]
    rw[app_ok (by simp;omega) (by simp;omega),Option.bind_some,List.nil_append,Option.bind_some]
    refine .inl ⟨.mk c m false (rest.take L) [],1+(lenB L).length+L,_,rfl,rfl,rfl,rfl,⟨by omega,by omega,(by simp),fun _=>rfl,trivial⟩,?_,by omega,by omega⟩
    rw[hpre,encN,encL,List.append_nil,tlv,htl]
    rfl
   |true=>
    simp only[Bool.not_true,cond_false]
    have hk:=rk_ok N (F_tree_read N (f+1)) (F_cref03_Read N (f+1)) a (by omega) d (i+(1+(lenB L).length)) (i+(1+(lenB L).length+L)) (by omega) (by omega) (by omega) (1+(lenB L).length) (by omega)
     (fun i' h1 h2=>rd_ok N hN a ha d f (by omega) (by omega) i' (i+(1+(lenB L).length+L)) (by omega) (by omega)) c m true i L
     (i+(1+(lenB L).length+L)-(i+(1+(lenB L).length))) N (i+(1+(lenB L).length)) [] [] rfl (by omega) (by omega) (by omega) (by simp;omega) (by simp;omega)
    rw[show i+(1+(lenB L).length+L)-(i+(1+(lenB L).length))=L from by omega,hcont,Nat.sub_self]at hk
    rcases hk with⟨ks,ss,f1,f2,f3,f4⟩|⟨e,o,f1,f2,f3,f4⟩
    ·rw[f1,show F_cref03_Read_l0 N (F_cref03_Read N (f+1)) N (((d+1:Nat):Int),rest.take L,0,[],(c:Int),(m:Int),true,(L:Int),((1+(lenB L).length:Nat):Int),[],(c:Int),(m:Int),true)=_ from f2]
     simp only[Option.bind_some]
     rw[e5]
     refine .inl ⟨.mk c m true [] ks,1+(lenB L).length+L,_,rfl,rfl,rfl,rfl,⟨by omega,by omega,fun _=>rfl,(by simp),f3⟩,?_,by omega,by omega⟩
     rw[hpre,encN,f4,List.nil_append,tlv,htl]
     rfl
    ·rw[f2,show F_cref03_Read_l0 N (F_cref03_Read N (f+1)) N (((d+1:Nat):Int),rest.take L,0,[],(c:Int),(m:Int),true,(L:Int),((1+(lenB L).length:Nat):Int),[],(c:Int),(m:Int),true)=_ from f3]
     exact .inr ⟨_,_,0,e,1+(lenB L).length+o,f1,by rw[show i+(1+(lenB L).length+o)=i+(1+(lenB L).length)+o from by omega];rfl,by rw[show((1+(lenB L).length+o:Nat):Int)=((1+(lenB L).length:Nat):Int)+(o:Int) from by omega];rfl,by omega⟩
  ·rw[g3,g4]
   simp only[Option.bind_some]
   rw[show(e !=0)=true from by simpa using g1]
   simp only[cond_true]
   have e2:wadd .i64 (i:Int) (o:Int)=((i+o:Nat):Int):=by rw[wad_in (by omega)];omega
   rw[e2]
   exact .inr ⟨_,_,0,e,o,g1,rfl,rfl,g2⟩
  ·rw[g1,g6]
   simp only[Option.bind_some,bne_self_eq_false,cond_false]
   rw[show((1:Int) !=0)=true from rfl]
   simp only[cond_true]
   have e2:wadd .i64 (i:Int) sz=(i:Int)+sz:=wad_in (by omega)
   have e1:wsub .i64 (j:Int) ((i:Int)+sz)=(j:Int)-((i:Int)+sz):=wsb_in (by omega)
   rw[e2,e1,decide_eq_true (by omega)]
   simp only[cond_true]
   exact .inr ⟨_,_,0,1,s.length,by decide,by rw[show i+s.length=j from by omega];rfl,rfl,Nat.le_refl _⟩
theorem parse_eq{N:Nat}(hN:1000000<N) {b:Bs}(hb:b.length<10000):
 (∃n,okN 16 n∧encN n=b∧F_tree_Parse N b=some (n,0,0)∧F_cref03_Parse N b=some (n,0,0))∨
 (∃(n n' :Node) (e:Int) (o:Nat),e≠0∧F_tree_Parse N b=some (n,e,(o:Int))∧F_cref03_Parse N b=some (n',e,(o:Int))):=by
 obtain⟨f,rfl⟩:∃f,N=f+1:=⟨N-1,by omega⟩
 have h:=rd_ok (f+1) hN b (by omega) 16 f (by omega) (by omega) 0 b.length (by omega) (by omega)
 rw[List.drop_zero,Nat.sub_zero,List.take_length]at h
 unfold F_tree_Parse F_tree_whole F_cref03_Parse F_cref03_Within
 rcases h with⟨n,z,sp,e1,e2,e3,e4,e5,e6,e7,e8⟩|⟨sp,n,z,e,o,e1,e2,e3,e4⟩
 ·rw[show F_tree_read (f+1) (f+1) b 0 ((b.length:Nat):Int) 16=_ from e1,show F_cref03_Read (f+1) (f+1) b 16=_ from e4]
  simp only[Option.bind_some]
  rw[show((0:Int)==0)=true from rfl]
  simp only[cond_true]
  rw[e3,Nat.zero_add]
  by_cases hz:z<b.length
  ·rw[decide_eq_true (by omega)]
   simp only[cond_true,Option.bind_some]
   exact .inr ⟨_,_,2,z,by decide,rfl,rfl⟩
  ·rw[decide_eq_false (by omega)]
   simp only[cond_false,Option.bind_some]
   refine .inl ⟨n,e5,by rw[e6,List.take_of_length_le (by omega)],?_,?_⟩
   ·show some (Node.mk sp.nd.cls sp.nd.num sp.nd.cons sp.nd.body sp.nd.kids,_)=_
    rw[node_eta,e2]
   ·rw[node_eta,node_eta]
 ·rw[show F_tree_read (f+1) (f+1) b 0 ((b.length:Nat):Int) 16=_ from e2,show F_cref03_Read (f+1) (f+1) b 16=_ from e3]
  simp only[Option.bind_some]
  rw[show(e==0)=false from by simpa using e1]
  simp only[cond_false,Option.bind_some]
  exact .inr ⟨_,_,e,0+o,e1,rfl,by rw[Nat.zero_add]⟩
end Go.Fw
namespace Go.Fw
open Go
theorem tx_enc(d:Nat) (IH:∀n,okN d n→(txN n).length+2≤3*(encN n).length):∀ks,okL d ks→(txR ks).length≤3*(encL ks).length
 |[],_=>by simp[txR,encL]
 |n::r,h=>by
  have h:okN d n∧okL d r:=h
  simp only[txR,encL,List.length_append,List.length_cons,List.length_nil]
  have h1:=IH n h.1
  have h2:=tx_enc d IH r h.2
  omega
theorem lenB_pos(n:Nat):1≤(lenB n).length:=by
 unfold lenB
 split
 ·exact(min_len n).1
 ·simp
theorem txN_enc:∀(d:Nat) (n:Node),okN d n→(txN n).length+2≤3*(encN n).length
 |0,n,h=>by cases n;exact False.elim h
 |d+1,.mk c m k b ks,hok=>by
  obtain⟨hc,hm,hb,hks,hL⟩:=hok
  have hp:=lenB_pos (b++encL ks).length
  rw[txN_len,encN,tlv_len]
  generalize (lenB (b++encL ks).length).length=P at hp⊢
  rw[List.length_append]
  cases k with
  |false=>
   rw[hks rfl]
   simp only[encL,List.length_nil,Bool.false_eq_true,if_false]
   omega
  |true=>
   rw[hb rfl]
   have h1:=tx_enc d (txN_enc d) ks hL
   have h2:(txL ks).length≤(txR ks).length:=by
    cases ks with
    |nil=>simp[txL]
    |cons x r=>simp[txL,txR]
   simp only[if_true,List.length_nil]
   omega
theorem strings_loop(N:Nat) (l:List Bs) (hl:l.length<1000000):∀(k n i:Nat),l.length-i=k→i≤l.length→k<n→F_cbase_Strings_l0 N n (l,l,(i:Int))=some (Sum.inr (l,l))
 |0,n+1,i,hk,hi,_=>by
  rw[s_cbase_Strings_l0,ge_i (by omega)];rfl
 |k+1,n+1,i,hk,hi,hn=>by
  have hlt:i<l.length:=by omega
  rw[s_cbase_Strings_l0,lt_i hlt,cond_true,cond_true,ix_at hlt]
  simp only[Option.bind_some,beq_self_eq_true,Bool.not_true,cond_false]
  rw[inc_i (by omega)]
  exact strings_loop N l hl k n (i+1) (by omega) (by omega) (by omega)
theorem strings_ok{N:Nat}(hN:1000000<N) {l:List Bs}(hl:l.length<1000000):F_cbase_Strings N l l=some true:=by
 unfold F_cbase_Strings
 rw[show(0:Int)=((0:Nat):Int) from rfl,strings_loop N l hl l.length N 0 (by omega) (by omega) (by omega)]
 simp
theorem preL_len(d:Int):∀ks:List Node,(preL d ks).length=(ks.map fun k=>(preN d k).length).sum
 |[]=>rfl
 |n::ks=>by rw[preL,List.length_append,preL_len d ks];rfl
theorem preN_len:∀(j:Nat) (d e:Int) (n:Node),okN j n→(preN d n).length=(preN e n).length
 |0,_,_,n,h=>by cases n;exact False.elim h
 |j+1,d,e,.mk c m k b ks,h=>by
  have hL:=h.2.2.2.2
  have key:∀ks,okL j ks→(preL (d+1) ks).length=(preL (e+1) ks).length:=fun ks=>by
   induction ks with
   |nil=>intro _;rfl
   |cons x r ih=>
    intro h
    have h:okN j x∧okL j r:=h
    rw[preL,preL,List.length_append,List.length_append,ih h.2,preN_len j (d+1) (e+1) x h.1]
  rw[preN,preN,List.length_cons,List.length_cons,key ks hL]
theorem count_loop(N:Nat) (R:Node→Option Int) (l:List Node) (hl:l.length<1000000) (hR:∀x ∈ l,R x=some ((preN 1 x).length:Int)) (x3 x4:Int) (c5:Bool) (l6:Bs):
 ∀(k n i a:Nat),l.length-i=k→i≤l.length→k<n→a+(preL 1 (l.drop i)).length<1000000000→F_cref03_Count_l0 N R n ((a:Int),(i:Int),x3,x4,c5,l6,l)=some ((a+(preL 1 (l.drop i)).length:Nat):Int)
 |0,n+1,i,a,hk,hi,_,_=>by
  rw[s_cref03_Count_l0,ge_i (by omega),List.drop_eq_nil_of_le (by omega)];rfl
 |k+1,n+1,i,a,hk,hi,hn,ha=>by
  have hlt:i<l.length:=by omega
  rw[drop_cons hlt,preL,List.length_append]at ha⊢
  rw[s_cref03_Count_l0,lt_i hlt,cond_true,ix_at hlt,Option.bind_some,node_eta,hR _ (List.getElem_mem hlt),Option.bind_some,inc_i (by omega)]
  have e:wadd .i64 (a:Int) ((preN 1 l[i]).length:Int)=((a+(preN 1 l[i]).length:Nat):Int):=by rw[wad_in (by omega)];omega
  rw[e,count_loop N R l hl hR x3 x4 c5 l6 k n (i+1) _ (by omega) (by omega) (by omega) (by omega)]
  congr 2
  omega
theorem preL_tx(j:Nat) (IH:∀n d,okN j n→(preN d n).length≤(txN n).length) (d:Int):∀ks,okL j ks→(preL d ks).length≤(txR ks).length
 |[],_=>by simp[preL]
 |n::r,h=>by
  have h:okN j n∧okL j r:=h
  simp only[preL,txR,List.length_append,List.length_cons,List.length_nil]
  have h1:=IH n d h.1
  have h2:=preL_tx j IH d r h.2
  omega
theorem preN_tx:∀(j:Nat) (n:Node) (d:Int),okN j n→(preN d n).length≤(txN n).length
 |0,n,_,h=>by cases n;exact False.elim h
 |j+1,.mk c m k b ks,d,h=>by
  have h1:=preL_tx j (preN_tx j) (d+1) ks h.2.2.2.2
  have h2:=txR_le ks
  rw[preN,List.length_cons,txN_len]
  cases k with
  |false=>rw[h.2.2.2.1 rfl];simp[preL];omega
  |true=>simp only[if_true];omega
theorem count_ok(N:Nat) (hN:1000000<N):∀(d f:Nat) (n:Node),d≤f→okN d n→(txN n).length<1000000→F_cref03_Count N f n=some ((preN 1 n).length:Int)
 |0,_,n,_,h,_=>by cases n;exact False.elim h
 |d+1,f+1,.mk c m k b ks,hf,hok,hl=>by
  have K:=kd_of hok hl
  have hp:=preN_tx (d+1) _ 1 hok
  have hp2:=preN_len (d+1) 0 1 _ hok
  rw[preN,preN,List.length_cons,List.length_cons]at hp2
  rw[preN,List.length_cons]at hp
  have hloop:=count_loop N (F_cref03_Count N f) ks K.len (fun x hx=>count_ok N hN d f x (by omega) (K.kid x hx).1 (K.kid x hx).2) c m k b ks.length N 0 1 (by omega) (by omega) (by have:=K.len;omega) (by
   rw[List.drop_zero]
   have:(preL (0+1) ks).length=(preL 1 ks).length:=rfl
   omega)
  rw[m_cref03_Count,show(1:Int)=((1:Nat):Int) from rfl,show(0:Int)=((0:Nat):Int) from rfl,hloop,Option.bind_some,List.drop_zero,preN,List.length_cons]
  have:(preL (0+1) ks).length=(preL 1 ks).length:=rfl
  congr 2
  show 1+(preL ((1:Nat):Int) ks).length=(preL (((1:Nat):Int)+1) ks).length+1
  have e1:((1:Nat):Int)=1:=rfl
  rw[e1]
  omega
end Go.Fw
namespace Go.Fw
noncomputable def k_Lines(N:Nat):Ctr:=⟨[.hole (.sl .byte)],.tup [.hole (.sl .str),.hole (.pair (.int .i64) (.int .i64))],fun(x:Bs)=>F_Lines N x⟩
theorem okL_up(j:Nat) (IH:∀n,okN j n→okN (j+1) n):∀ks,okL j ks→okL (j+1) ks
 |[],_=>trivial
 |x::r,h=>⟨IH x h.1,okL_up j IH r h.2⟩
theorem okN_up:∀(j:Nat) (n:Node),okN j n→okN (j+1) n
 |0,n,h=>by cases n;exact False.elim h
 |j+1,.mk c m k b ks,h=>⟨h.1,h.2.1,h.2.2.1,h.2.2.2.1,okL_up j (okN_up j) ks h.2.2.2.2⟩
theorem okN_le{j:Nat}{n:Node}(h:okN j n):∀i,okN (j+i) n
 |0=>h
 |i+1=>okN_up _ _ (okN_le h i)
end Go.Fw
namespace Go.Proofs.Tryz
open Go Go.Fw Go.RowKit
def Q0(d:Int) (x:Fw.Node):Prop:=∃j:Nat,okN j x∧0≤d∧d+(j:Int)≤16∧(txN x).length<1000000
theorem sum_eq:∀(l:List Fw.Node),(l.map fun k=>(encN k).length).sum=(encL l).length
 |[]=>rfl
 |x::l=>by
  have:=sum_eq l
  simp only[List.map_cons,List.sum_cons,encL,List.length_append]
  omega
theorem idb_pure{n:Fw.Node}(hc:0≤n.cls∧n.cls≤3) (hm:0≤n.num∧n.num≤30):PureOK prog 39 [.agg (nodeCells n)] (.int .u8 ((E0.idb n).toNat:Int)):=by
 obtain⟨nc,nm,nk,nb,nks⟩:=n
 obtain⟨_,_,_,hh⟩:=c_dump_identifier
 obtain⟨v,h1,_,h3⟩:=hh (.mk nc nm nk nb nks) ((idO nc nk nm).toNat:Int) (by
  show F_dump_identifier _=_
  rw[F_dump_identifier]
  simp only[Node.cls,Node.num,Node.cons]at hc hm⊢
  rw[ident_ok nk hc hm]
  rfl)
 have e:v= .int .u8 ((idO nc nk nm).toNat:Int):=by
  have h1:some ((SV.int .u8 ((idO nc nk nm).toNat:Int),([]:List DV)))=some (v,[]):=h1
  cases h1;rfl
 subst e
 refine h3 [.agg [.int .i64 nc,.int .i64 nm,.bool nk,.sl .byte nb false,.sl .node nks false]] rfl _ ?_
 simp only[VRs,VR]
 refine⟨_,_,rfl,⟨_,rfl,?_⟩,rfl⟩
 refine⟨_,_,rfl,rfl,_,_,rfl,rfl,_,_,rfl,rfl,_,_,rfl,⟨false,rfl,id⟩,_,_,rfl,⟨false,rfl,id⟩,rfl⟩
theorem good0:NodeFn.Good E0 Q0 where
 kids:=fun d x ⟨j,h1,h2,h3,h4⟩ k hk=>by
  obtain⟨nc,nm,nk,nb,nks⟩:=x
  match j,h1 with
  |j+1,h1=>
   have K:=kd_of h1 h4
   exact⟨j,(K.kid k hk).1,by omega,by omega,(K.kid k hk).2⟩
 dep:=fun d x ⟨j,h1,h2,h3,h4⟩=>⟨h2,by omega⟩
 enc:=fun d x ⟨j,h1,h2,h3,h4⟩ k hk=>by
  obtain⟨nc,nm,nk,nb,nks⟩:=x
  match j,h1 with
  |j+1,h1=>
   have K:=kd_of h1 h4
   have h5:okN 16 k:=by
    have:=okN_le (K.kid k hk).1 (16-j)
    rwa[show j+(16-j)=16 from by omega]at this
   exact⟨false,0,enc_ok 1000001 (Encode_ok (by decide) (by decide) h5 (K.kid k hk).2)⟩
 idb:=fun d x ⟨j,h1,h2,h3,h4⟩=>by
  obtain⟨nc,nm,nk,nb,nks⟩:=x
  match j,h1 with
  |j+1,h1=>exact idb_pure h1.1 h1.2.1
 size:=fun d x ⟨j,h1,h2,h3,h4⟩=>by
  obtain⟨nc,nm,nk,nb,nks⟩:=x
  match j,h1 with
  |j+1,h1=>
   have K:=kd_of h1 h4
   have hb:=K.body
   rw[List.length_append]at hb
   have:=sum_eq nks
   show nb.length+(nks.map fun k=>(encN k).length).sum≤1000000000000
   omega
theorem parse_pure(N:Nat) {b:Bs}{n:Fw.Node}{e o:Int}(f:Bool) (h:F_tree_Parse N b=some (n,e,o)):PureOK prog 33 [.list (flatE byteE b) b.length f] (.tuple [.agg (nodeCells n),.agg [.int .i64 e,.int .i64 o]]):=by
 obtain⟨nc,nm,nk,nb,nks⟩:=n
 obtain⟨_,_,_,hh⟩:=c_tree_Parse N
 obtain⟨v,h1,_,h3⟩:=hh b (.mk nc nm nk nb nks,e,o) h
 have e:v= .tup [.agg [.int .i64 nc,.int .i64 nm,.bool nk,.sl .byte nb false,.sl .node nks false],.agg [.int .i64 e,.int .i64 o]]:=by
  have h1:some ((SV.tup [.agg [.int .i64 nc,.int .i64 nm,.bool nk,.sl .byte nb false,.sl .node nks false],.agg [.int .i64 e,.int .i64 o]],([]:List DV)))=some (v,[]):=h1
  cases h1;rfl
 subst e
 exact h3 [.sl .byte b false] rfl _ (by simp only[VRs,VR];exact⟨_,_,rfl,⟨f,rfl,fun h=>(by cases h)⟩,rfl⟩)
theorem c_Lines(N:Nat):CtrOk prog 17 (k_Lines N):=by
 refine⟨(fok_of (f:=17) (fn:=f17) (by kernel_rfl)).2,rfl,rfl,fun(x:Bs) (y:List Bs×(Int×Int)) hy=> ?_⟩
 have hy:F_Lines N x=some y:=hy
 unfold F_Lines at hy
 rcases cond_inv hy with⟨hc,hy⟩|⟨_,hy⟩<;>try (cases hy;done)
 simp only[Bool.and_eq_true,Nat.blt_eq]at hc
 obtain⟨l,k,o⟩:=y
 refine⟨.tup [.sl .str l false,.agg [.int .i64 k,.int .i64 o]],rfl,fun S σ=> ?_,fun vs hvs ds hds=> ?_⟩
 ·simp only[SV.can,SV.cans,VR,VRs]
  exact⟨_,rfl,_,_,rfl,⟨false,rfl,id⟩,_,_,rfl,⟨_,rfl,_,_,rfl,rfl,_,_,rfl,rfl,rfl⟩,rfl⟩
 ·have:vs=[.sl .byte x false]:=by
   have h2:some ([SV.sl .byte x false],([]:List DV))=some (vs,[]):=hvs
   cases h2
   rfl
  subst this
  simp only[VRs,VR]at hds
  obtain⟨e,es,rfl,⟨f',rfl,hf'⟩,rfl⟩:=hds
  obtain⟨⟨n,e,o'⟩,hp,hy⟩:=bind_inv hy
  have hpp:=parse_pure N f' hp
  cases he:(e !=0) with
  |true=>
   have hy:(bif (e !=0) then some (([]:List Bs),(e,o')) else some ((preN 0 n).map E0.line,(0,0)))=some (l,k,o):=hy
   rw[he]at hy
   cases hy
   exact Tryz.lines_err x f' n _ _ he hpp
  |false=>
   have hy:(bif (e !=0) then some (([]:List Bs),(e,o')) else some ((preN 0 n).map E0.line,(0,0)))=some (l,k,o):=hy
   rw[he]at hy
   cases hy
   have he0:e=0:=by simpa using he
   subst he0
   rcases parse_eq (N:=N) hc.2.1 (b:=x) (by omega) with⟨n',h1,h2,h3,_⟩|⟨n',_,e,o,h1,h2,_⟩
   ·rw[hp]at h3
    cases h3
    have htx:=txN_enc 16 n h1
    have hpt:=preN_tx 16 n 0 h1
    rw[h2]at htx
    have:=Tryz.lines_ok E0 Q0 good0 x f' n ⟨16,h1,by decide,by decide,by omega⟩ (by omega) hpp
    have hl:((preN 0 n).map E0.line).length=(preN 0 n).length:=List.length_map _
    rw[←hl]at this
    exact this
   ·rw[hp]at h2
    cases h2
    exact absurd rfl h1
end Go.Proofs.Tryz
