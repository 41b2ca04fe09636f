/- A framework for proofs about Go programs in this model: part K. Everything is proved; no condition is added. -/
import Derived.Lib.Repeat
import Derived.Shelf.Strings.BuilderK
import Derived.Lib.Walk
import Derived.WalkKit
import Derived.BigCall
import Derived.BigGuard
import Derived.Test.YtgliijeioigckaaGreatDoorFwI
import Derived.Test.YtgliijeioigckaaGreatDoorFwJ
import Derived.Test.YtgliijeioigckaaGreatDoorFwC
set_option linter.unusedVariables false
set_option linter.unusedSimpArgs false
namespace Go.Fw
open Go.RowKit
def digF:Nat→Nat→List UInt8
 |0,_=>[]
 |f+1,n=>bif Nat.blt n 10 then [UInt8.ofNat (48+n)] else digF f (n / 10)++[UInt8.ofNat (48+n % 10)]
theorem digF_eq:∀(f n:Nat),n<10 ^ f→0<f→digF f n=Lib.decDigits n
 |0,_,_,h=>by omega
 |f+1,n,h,_=>by
  unfold digF
  rw[Lib.decDigits]
  by_cases hn:n<10
  ·rw[dif_pos hn,show Nat.blt n 10=true from Nat.ble_eq_true_of_le hn]
   rfl
  ·rw[dif_neg hn,show Nat.blt n 10=false from Bool.eq_false_iff.2 fun e=>hn (Nat.le_of_ble_eq_true e)]
   rw[Nat.pow_succ]at h
   have hf:0<f:=by
    cases f with
    |zero=>simp at h;omega
    |succ f=>omega
   rw[digF_eq f (n / 10) (Nat.div_lt_of_lt_mul (by omega)) hf]
   rfl
def F_Itoa(u:Int):Option (List UInt8):=match u with
 | .ofNat n=>bif Nat.blt n 9223372036854775808 then some (digF 20 n) else none
 | .negSucc _=>none
def k_Itoa:Ctr:=⟨[.hole (.int .i64)],.hole .str,fun(x:Int)=>F_Itoa x⟩
theorem itoa_ctr{P:Program}{f:FuncId}{g:Nat}(hf:FnOk P f) (hg:P.globalNamed "internal/strconv.uint64pow10" =some g)
 (h:∀(n:Int) (_: -9223372036854775808≤n) (_:n≤9223372036854775807) (w:World) (_:Lib.TabIs P w "internal/strconv.uint64pow10" .u64 Lib.pow10Tab),
   Calls P f #[.int .i64 n] w fun e w' =>e= .returned (.string ⟨(Lib.itoa n).toArray⟩)∧∃k os,w' =Sort.grow (w.drewN k) os):CtrOk P f k_Itoa:=by
 refine⟨hf,rfl,rfl,?_⟩
 intro x y hy
 have hy:F_Itoa x=some y:=hy
 cases x with
 |negSucc n=>cases hy
 |ofNat n=>
  unfold F_Itoa at hy
  cases hc:Nat.blt n 9223372036854775808 with
  |false=>simp[hc]at hy
  |true=>
   dsimp only at hy
   rw[hc]at hy
   cases hy
   have hn:n<9223372036854775808:=by
    have:=Nat.le_of_ble_eq_true hc
    omega
   refine⟨.str (digF 20 n),rfl,fun _ _=>by simp only[SV.can,VR],?_⟩
   intro vs hvs ds hds
   cases hvs
   simp only[VRs]at hds
   obtain⟨d1,_,rfl,h1,rfl⟩:=hds
   intro G w vals hI hG hv
   try simp only[VR]at h1
   subst h1
   simp only[Reps]at hv
   obtain⟨v1,_,rfl,r1,rfl⟩:=hv
   simp only[Rep]at r1
   subst r1
   refine(h (n:Int) (by omega) (by omega) w (tab_pow hg hG.2)).mono ?_
   rintro e w' ⟨rfl,k,os,rfl⟩
   refine⟨_,G,rfl,grow_below hI (Lib.below_grow _ _ (Nat.le_refl _) _ _),?_⟩
   simp only[SV.can,Rep]
   rw[Lib.itoa_nonneg,digF_eq 20 n (by have:(10:Nat) ^ 20=100000000000000000000:=by decide
                                       omega) (by decide)]
def F_Rep(s:List UInt8) (c:Int):Option (List UInt8):=match c with
 | .ofNat n=>bif Nat.ble n 9223372036854775807&&Nat.ble (s.length*n) 140737488355328 then some (Lib.repeatL s n) else none
 | .negSucc _=>none
def k_Rep:Ctr:=⟨[.hole .str,.hole (.int .i64)],.hole .str,fun(x:List UInt8×Int)=>F_Rep x.1 x.2⟩
theorem rep_ctr{P:Program}{f:FuncId}(hf:FnOk P f)
 (h:∀(s:ByteArray) (c:Nat) (w:World),c≤9223372036854775807→s.size*c≤140737488355328→
   Calls P f #[.string s,.int .i64 c] w fun e w' =>e= .returned (.string ⟨(Lib.repeatL s.data.toList c).toArray⟩)∧Below w.heap.size w w'):CtrOk P f k_Rep:=by
 refine⟨hf,rfl,rfl,?_⟩
 rintro⟨s,c⟩ y hy
 have hy:F_Rep s c=some y:=hy
 cases c with
 |negSucc n=>cases hy
 |ofNat n=>
  unfold F_Rep at hy
  cases hc:(Nat.ble n 9223372036854775807&&Nat.ble (s.length*n) 140737488355328) with
  |false=>simp[hc]at hy
  |true=>
   dsimp only at hy
   rw[hc]at hy
   cases hy
   simp only[Bool.and_eq_true]at hc
   refine⟨.str (Lib.repeatL s n),rfl,fun _ _=>by simp only[SV.can,VR],?_⟩
   intro vs hvs ds hds
   cases hvs
   simp only[VRs]at hds
   obtain⟨d1,_,rfl,h1,d2,_,rfl,h2,rfl⟩:=hds
   intro G w vals hI hG hv
   try simp only[svOf,VR]at h1 h2
   subst h1 h2
   simp only[Reps]at hv
   obtain⟨v1,_,rfl,r1,v2,_,rfl,r2,rfl⟩:=hv
   simp only[Rep]at r1 r2
   subst r1 r2
   refine(h ⟨s.toArray⟩ n w (Nat.le_of_ble_eq_true hc.1) (Nat.le_of_ble_eq_true hc.2)).mono ?_
   rintro e w' ⟨rfl,hb⟩
   refine⟨_,G,rfl,grow_below hI hb,?_⟩
   simp only[SV.can,Rep]
def hexD:List UInt8:=[48,49,50,51,52,53,54,55,56,57,97,98,99,100,101,102]
def hexAt(k:Nat):UInt8:=hexD[k]?.getD 0
def hexL(b:List UInt8):List UInt8:=b.flatMap fun x=>[hexAt (x.toNat / 16),hexAt (x.toNat % 16)]
def F_Hex(b:List UInt8):Option (List UInt8):=bif Nat.ble b.length 70368744177664 then some (hexL b) else none
def k_Hex:Ctr:=⟨[.hole (.sl .byte)],.hole .str,fun(x:List UInt8)=>F_Hex x⟩
theorem cells_bytes{G:Gh}{w:World}(hI:ImmOk G w) {b:Nat}:∀{xs:List UInt8}{o:Nat},Cells G b o (flatE byteE xs)→∀(j:Nat) x,xs[j]? =some x→w.cell? ⟨b,o+j,none⟩=some (.int .u8 (x.toNat:Int))
 |[],_,_,j,x,hj=>by simp at hj
 |y::ys,o,h,j,x,hj=>by
  rw[show flatE byteE (y::ys)= .int .u8 (y.toNat:Int)::flatE byteE ys from byteE.fcons y ys]at h
  simp only[Cells]at h
  obtain⟨⟨v,h1,h2⟩,h3⟩:=h
  cases j with
  |zero=>
   simp at hj
   subst hj
   simp only[Rep]at h2
   rw[Nat.add_zero,hI.imm _ _ _ h1,h2]
  |succ j=>
   have:=cells_bytes hI h3 j x (by simpa using hj)
   rw[show o+(j+1)=o+1+j from by omega];exact this
theorem hex_ctr{P:Program}{f:FuncId}(hf:FnOk P f)
 (h:∀(a:Option Addr) (bk o cap:Nat) (bs:List UInt8) (w:World),(0<bs.length→a=some ⟨bk,o,none⟩)→(∀(j:Nat) x,bs[j]? =some x→w.cell? ⟨bk,o+j,none⟩=some (.int .u8 (x.toNat:Int)))→
   (0<bs.length→bk<w.heap.size)→bs.length≤70368744177664→
   Calls P f #[.slice a bs.length cap] w fun e w' =>e= .returned (.string ⟨(hexL bs).toArray⟩)∧Below w.heap.size w w'):CtrOk P f k_Hex:=by
 refine⟨hf,rfl,rfl,?_⟩
 intro x y hy
 have hy:F_Hex x=some y:=hy
 unfold F_Hex at hy
 cases hc:Nat.ble x.length 70368744177664 with
 |false=>rw[hc]at hy;cases hy
 |true=>
  rw[hc]at hy
  cases hy
  refine⟨.str (hexL x),rfl,fun _ _=>by simp only[SV.can,VR],?_⟩
  intro vs hvs ds hds
  cases hvs
  simp only[VRs]at hds
  obtain⟨d1,_,rfl,⟨f1,rfl,_⟩,rfl⟩:=hds
  intro G w vals hI hG hv
  simp only[Reps]at hv
  obtain⟨v1,_,rfl,r1,rfl⟩:=hv
  simp only[Rep]at r1
  obtain⟨a,cap,rfl,k1,k2,k3,k4⟩:=r1
  have fin:∀e w',(e=Ending.returned (.string ⟨(hexL x).toArray⟩)∧Below w.heap.size w w')→∃v G',e=Ending.returned v∧Grow G G' w w'∧Rep G' (.str (hexL x)) v:=by
   rintro e w' ⟨rfl,hb⟩
   refine⟨_,G,rfl,grow_below hI hb,?_⟩
   simp only[Rep]
  cases x with
  |nil=>exact(h a 0 0 cap [] w (by simp) (by simp) (by simp) (by simp)).mono fin
  |cons x xs=>
   rcases k4 with⟨b,o,rfl,k5⟩|k5
   ·have hcell:=cells_bytes hI (xs:=x::xs) k5
    exact(h _ b o cap (x::xs) w (fun _=>rfl) hcell (fun _=>lt_of_cell (hcell 0 x rfl)) (Nat.le_of_ble_eq_true hc)).mono fin
   ·rw[show TC.flat .byte (x::xs)= .int .u8 (x.toNat:Int)::flatE byteE xs from byteE.fcons x xs]at k5
    cases k5
def F_awakeD:Option Bool:=some true
def k_awakeD:Ctr:=⟨[],.hole .bool,fun(_:Unit)=>F_awakeD⟩
end Go.Fw
namespace Go.Proofs
open Go.Shelf Go.RowKit Go.Sort Go.Lib
def Tryz.lays167_ren:Go.Shelf.Ren:=⟨fun|167=>29|240=>60|276=>129|n=>n,fun|0=>0|4=>4|5=>5|9=>9|20=>20|37=>27|70=>74|72=>76|75=>78|164=>194|80=>81|n=>n,fun|n=>n⟩
theorem Tryz.lays167:Go.Proofs.Lays.n167 Tryz.prog Tryz.lays167_ren:={
 mixed:=by kernel_rfl
 f167:=Tryz.func29.trans (congrArg some (by kernel_rfl))
 f240:=Tryz.func60.trans (congrArg some (by kernel_rfl))
 f276:=Tryz.func129.trans (congrArg some (by kernel_rfl))
 t0:=Tryz.underlying0
 a0:=Tryz.isAgg0
 z0:=Tryz.sizeOf0
 v0:=Tryz.zeroValue0
 t4:=Tryz.underlying4
 a4:=Tryz.isAgg4
 z4:=Tryz.sizeOf4
 v4:=Tryz.zeroValue4
 t5:=Tryz.underlying5
 a5:=Tryz.isAgg5
 z5:=Tryz.sizeOf5
 v5:=Tryz.zeroValue5
 t9:=Tryz.underlying9
 a9:=Tryz.isAgg9
 z9:=Tryz.sizeOf9
 v9:=Tryz.zeroValue9
 t20:=Tryz.underlying20
 a20:=Tryz.isAgg20
 z20:=Tryz.sizeOf20
 v20:=Tryz.zeroValue20
 t37:=Tryz.underlying27
 a37:=Tryz.isAgg27
 z37:=Tryz.sizeOf27
 v37:=Tryz.zeroValue27
 t70:=Tryz.underlying74
 a70:=Tryz.isAgg74
 z70:=Tryz.sizeOf74
 v70:=Tryz.zeroValue74
 t72:=Tryz.underlying76
 a72:=Tryz.isAgg76
 z72:=Tryz.sizeOf76
 v72:=Tryz.zeroValue76
 t75:=Tryz.underlying78
 a75:=Tryz.isAgg78
 z75:=Tryz.sizeOf78
 v75:=Tryz.zeroValue78
 t164:=Tryz.underlying194
 a164:=Tryz.isAgg194
 z164:=Tryz.sizeOf194
 v164:=Tryz.zeroValue194}
theorem Tryz.Builder_Extra_167:Builder.Extra Tryz.prog Tryz.lays167_ren:={
 sizeBuilder:=by kernel_rfl
 liesBuilder:=by kernel_rfl
 t5:=Tryz.underlying5
 a5:=Tryz.isAgg5
 z5:=Tryz.sizeOf5
 v5:=Tryz.zeroValue5
 infoByte:=by kernel_rfl
 cellsByte:=by kernel_rfl
 sizeByte:=by kernel_rfl
 neB5:=by decide}
theorem Tryz.Builder_WriteByte_k(B b:Nat) (bs:List Value) (c:Int) (w:World) (h:Lib.IsBuilderF 76 5 B b bs w) (hlen:bs.length+1≤140737488355328) (hBw:B≤w.heap.size):
 Calls Tryz.prog 29 #[.pointer (some ⟨b,0,none⟩),.int .u8 c] w fun e w' =>e= .returned .nilIface∧(Lib.BuilderAtF 76 5 B b (.pointer (some ⟨b,0,none⟩)) (bs++[.int .u8 c]) w'∧Below B w w'∧Lib.OthersKept 5 (some b) w w'):=Any.Builder_WriteByte_k Tryz.lays167 Tryz.Builder_Extra_167 B b bs c w h hlen hBw
end Go.Proofs
namespace Go.Proofs
open Go.Shelf Go.RowKit Go.Sort Go.Lib
def litD:ByteArray:=⟨#[48,49,50,51,52,53,54,55,56,57,97,98,99,100,101,102]⟩
theorem litD_fin:∀k:Fin 16,(litD[k.val]'k.isLt)=Fw.hexAt k.val:=by decide
theorem litD_at(k:Nat) (h:k<litD.size):litD[k]=Fw.hexAt k:=litD_fin ⟨k,h⟩
theorem hexL_snoc(l:List UInt8) (x:UInt8):Fw.hexL (l++[x])=Fw.hexL l++[Fw.hexAt (x.toNat / 16),Fw.hexAt (x.toNat % 16)]:=by simp[Fw.hexL]
theorem hexL_len:∀(l:List UInt8),(Fw.hexL l).length=2*l.length
 |[]=>rfl
 |x::l=>by
  have:=hexL_len l
  unfold Fw.hexL at this⊢
  rw[List.flatMap_cons,List.length_append,List.length_cons,this,List.length_cons]
  simp
  omega
set_option maxHeartbeats 6400000 in
set_option maxRecDepth 100000 in
theorem Tryz.dump_Hex(a:Option Addr) (bk o cap:Nat) (bs:List UInt8) (w:World) (ha:0<bs.length→a=some ⟨bk,o,none⟩) (hcells:∀(j:Nat) x,bs[j]? =some x→w.cell? ⟨bk,o+j,none⟩=some (.int .u8 (x.toNat:Int)))
 (hbk:0<bs.length→bk<w.heap.size) (hl:bs.length≤70368744177664):
  Calls Tryz.prog 10 #[.slice a bs.length cap] w fun e w' =>e= .returned (.string ⟨(Fw.hexL bs).toArray⟩)∧Below w.heap.size w w' :=by
 have t3:=Tryz.underlying3;have a3:=Tryz.isAgg3;have z3:=Tryz.sizeOf3;have v3:=Tryz.zeroValue3
 have t9:=Tryz.underlying9;have a9:=Tryz.isAgg9;have z9:=Tryz.sizeOf9;have v9:=Tryz.zeroValue9
 have t5:=Tryz.underlying5;have a5:=Tryz.isAgg5;have z5:=Tryz.sizeOf5;have v5:=Tryz.zeroValue5
 have t27:=Tryz.underlying27
 have t76:=Tryz.underlying76;have a76:=Tryz.isAgg76;have z76:=Tryz.sizeOf76;have v76:=Tryz.zeroValue76
 have h0:Lib.IsBuilderF 76 5 w.heap.size w.heap.size [] (w.alloc (.cells #[.pointer none,.slice none 0 0] 76)):=Lib.IsBuilderF.of (Lib.fresh_isBuilder 76 5 w)
 have b0:Below w.heap.size w (w.alloc (.cells #[.pointer none,.slice none 0 0] 76)):=(Below.refl _ w).alloc (Nat.le_refl _) _
 obtain⟨n,hn⟩:∃n,bs.length=n:=⟨_,rfl⟩
 rw[hn]at ha hbk hl⊢
 go_enter Tryz.func10,(show Tryz.f10.ntmps=22 from rfl)
 go_wp2
 go_loopw [8] (fun iv wr=>∃j:Nat,j≤n∧iv= .int .i64 j∧Lib.IsBuilderF 76 5 w.heap.size w.heap.size (Lib.byteCells (Fw.hexL (bs.take j))) wr∧Below w.heap.size w wr) (fun iv _=>n-(RowKit.intOf iv).toNat)
 case atStart=>exact⟨0,Nat.zero_le _,rfl,h0,b0⟩
 case round=>
  obtain⟨j,hj,rfl,hB,hb⟩:=hrel
  by_cases hlt:j<n
  ·obtain rfl:=ha (by omega)
   have hx:∃x,bs[j]? =some x:=⟨_,List.getElem?_eq_getElem (by omega)⟩
   obtain⟨x,hx⟩:=hx
   have hc:=(hb.cell (p:=⟨bk,o+j,none⟩) (hbk (by omega))).trans (hcells j x hx)
   have hxl:x.toNat<256:=x.toNat_lt
   have r1:(0:Int)≤(x.toNat:Int) / 16∧(x.toNat:Int) / 16<16:=by omega
   have hlen:=hexL_len (bs.take j)
   rw[List.length_take]at hlen
   have hb1:∀l:List UInt8,(Lib.byteCells l).length=l.length:=fun l=>by simp[Lib.byteCells]
   have l1:x.toNat / 16<litD.size:=by show _<16;omega
   have l2:x.toNat % 16<litD.size:=by show _<16;omega
   have q1:=litD_at (x.toNat / 16) l1
   have q2:=litD_at (x.toNat % 16) l2
   have eb:∀(l:List UInt8) (y:UInt8),Lib.byteCells l++[Value.int .u8 (y.toNat:Int)]=Lib.byteCells (l++[y]):=fun l y=>by simp[Lib.byteCells]
   have e2:Fw.hexL (bs.take (j+1))=(Fw.hexL (bs.take j)++[Fw.hexAt (x.toNat / 16)])++[Fw.hexAt (x.toNat % 16)]:=by
    rw[List.take_add_one,hx,Option.toList_some,hexL_snoc]
    simp
   go_wp2_with (first
    |(go_at_call 29;refine(Tryz.Builder_WriteByte_k w.heap.size w.heap.size _ _ _ hB (by rw[hb1];omega) hb.size).mono ?_;clear hB;rintro e W1 ⟨rfl,hB1,hb1',_⟩)
    |(go_at_call 29;refine(Tryz.Builder_WriteByte_k w.heap.size w.heap.size _ _ _ (Or.inr hB1) (by rw[List.length_append,hb1,List.length_singleton];omega) (hb.trans hb1').size).mono ?_;rintro e W2 ⟨rfl,hB2,hb2,_⟩))
   go_roundw
   case rel=>
    refine⟨j+1,hlt,by simp,Or.inr ?_,(hb.trans hb1').trans hb2⟩
    change Lib.BuilderAtF 76 5 w.heap.size w.heap.size (.pointer (some ⟨w.heap.size,0,none⟩)) (Lib.byteCells (Fw.hexL (bs.take j))++[Value.int .u8 ((litD[x.toNat / 16]'l1).toNat:Int)]++[Value.int .u8 ((litD[x.toNat % 16]'l2).toNat:Int)]) W2 at hB2
    rw[q1,q2,eb,eb,←e2]at hB2
    exact hB2
   case measure=>simp[RowKit.intOf];omega
  ·obtain rfl:j=n:=by omega
   rw[List.take_of_length_le (by omega)]at hB
   go_wp2_with (go_at_call 30;refine(Tryz.Builder_String_any_k w.heap.size w.heap.size _ _ hB hb.size).mono ?_;rintro e W1 ⟨rfl,_,hb1,_⟩)
   go_ret
   exact⟨rfl,hb.trans hb1⟩
end Go.Proofs
namespace Go.Proofs.Tryz
open Go Go.Fw Go.RowKit
theorem fnok63:FnOk prog 63:=(fok_of (f:=63) (fn:=f63) (by kernel_rfl)).2
theorem c_Join:CtrOk prog 63 k_Join:=join_ctr fnok63 (fun a c sep w=>Tryz.strings_Join_none a c sep w) (fun bk o c xs sep w h1 h2 h3 h4 h5=>Tryz.strings_Join bk o c xs sep w h1 h2 h3 h4 h5)
theorem fnok40:FnOk prog 40:=(fok_of (f:=40) (fn:=f40) (by kernel_rfl)).2
theorem g_pow10:(prog.globalNamed "internal/strconv.uint64pow10").isSome=true:=by kernel_rfl
theorem c_Itoa:CtrOk prog 40 k_Itoa:=by
 obtain⟨g,hg⟩:=Option.isSome_iff_exists.1 g_pow10
 exact itoa_ctr fnok40 hg fun n h0 h1 w ht=>Tryz.strconv_Itoa n h0 h1 w ht
theorem fnok38:FnOk prog 38:=(fok_of (f:=38) (fn:=f38) (by kernel_rfl)).2
theorem c_Rep:CtrOk prog 38 k_Rep:=rep_ctr fnok38 fun s c w h1 h2=>Tryz.strings_Repeat s c w h1 h2
theorem fnok10:FnOk prog 10:=(fok_of (f:=10) (fn:=f10) (by kernel_rfl)).2
theorem c_Hex:CtrOk prog 10 k_Hex:=hex_ctr fnok10 fun a bk o cap bs w h1 h2 h3 h4=>Tryz.dump_Hex a bk o cap bs w h1 h2 h3 h4
end Go.Proofs.Tryz
namespace Go.Fw
open Go.RowKit
section
variable {P:Program}{N:Nat}{all:Array Oper}{o:Oper}{r:List Oper}{τ τ' :Env}{σ σ' :Sto}{Kt:Env→Sto→Prop}
theorem go_nextM{it:Operand}{t l:Nat}{ks vs:List D}{rem:List Nat}{cur:Option Nat}(h1:wantD all τ o=some true) (ho:o.op= .next it false) (hit:ev τ it=some (.ptr l 0 0)) (hl:σ[l]? =some (.miter ks vs rem cur))
 (hd:o.dst=some t) (ht:Nat.blt t N=true) (hend:rem=[]→AOps P N all r ((t,.tuple [.bool false])::τ) σ Kt)
 (hgo:∀i a b,i ∈ rem→ks[i]? =some a→vs[i]? =some b→AOps P N all r ((t,.tuple [.bool true,a,b])::τ) (σ.set l (.miter ks vs (rem.filter (· !=i)) (some i))) Kt):AOps P N all (o::r) τ σ Kt:=by
 have hp:∀d,putD N o.dst d τ=some ((t,d)::τ):=fun d=>by
  unfold putD;rw[hd];simp only;exact if_pos (Nat.le_of_ble_eq_true ht)
 refine .inl ⟨h1,(aop_nextM ho hit hl).mono ?_⟩
 rintro d s (⟨h1,rfl,rfl⟩|⟨i,a,b,h1,h2,h3,rfl,rfl⟩)
 ·exact⟨_,hp _,hend h1⟩
 ·exact⟨_,hp _,hgo i a b h1 h2 h3⟩
theorem entry_E{T:Tys}{K:FuncId→List D→Option D}{it:Operand}{l i:Nat}{ks vs:List D}{rem:List Nat}{a b:D}(hit:ev τ it=some (.ptr l 0 0)) (hl:σ[l]? =some (.miter ks vs rem (some i)))
 (ha:ks[i]? =some a) (hb:vs[i]? =some b):opE T K τ σ (.entry it)=some (.tuple [a,b],σ):=by
 simp[opE,aop,oEntry,hit,entryD,hl,ha,hb]
theorem goC{T:Tys}(tok:TOk T P) {c:Call}{f:FuncId}{ds ds' :List D}{d:D}(h1:wantD all τ o=some true) (ho:o.op= .call c) (hc:callD T τ c=some (f,ds)) (hz:frzCs σ ds=some (ds',σ'))
 (hf:FnOk P f) (h:PureOK P f ds' d) (h3:putD N o.dst d τ=some τ') (h4:AOps P N all r τ' σ' Kt):AOps P N all (o::r) τ σ Kt:=
 .inl ⟨h1,(aop_call tok ho hc hz hf (h.acall _)).mono (by rintro d' s ⟨rfl,rfl⟩;exact⟨τ',h3,h4⟩)⟩
end
end Go.Fw
