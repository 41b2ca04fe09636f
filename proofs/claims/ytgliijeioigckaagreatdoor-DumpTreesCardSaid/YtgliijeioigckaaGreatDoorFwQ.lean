/- A framework for proofs about Go programs in this model: part Q. Everything is proved; no condition is added. -/
import Derived.IntWalk
import Derived.Test.YtgliijeioigckaaGreatDoorFwN
import Derived.Test.YtgliijeioigckaaGreatDoorFwP
import Derived.Test.YtgliijeioigckaaGreatDoorFwF
set_option linter.unusedVariables false
set_option linter.unusedSimpArgs false
namespace Go.Fw
open Go
theorem s_tree_valid_l0(N n:Nat) (R:Fw.Node→Int→Option Bool) (l3:List Fw.Node) (i4:Int) (i5:Int) (i6:Int) (i7:Int) (i8:Int) (c9:Bool) (l10:Bs) (l11:List Fw.Node) (i12:Int):F_tree_valid_l0 N R (n+1) (l3,i4,i5,i6,i7,i8,c9,l10,l11,i12)=(
 bif decide (i6<i5) then(
 (ix l3 i6).bind fun e13=>
 (R (Fw.Node.mk e13.cls e13.num e13.cons e13.body e13.kids) (wsub .i64 i4 1)).bind fun c14=>
 bif (!c14) then(
 some (Sum.inl (i6,i7,i8,c9,l10,l11,i12)))
 else
 F_tree_valid_l0 N R n (l3,i4,i5,wadd .i64 i6 1,i7,i8,c9,l10,l11,i12))
 else
 some (Sum.inr (i7,i8,c9,l10,l11,i12))):=rfl
theorem m_tree_valid(N n:Nat) (xc xm:Int) (xk:Bool) (xb:Bs) (xs:List Fw.Node) (a2:Int):F_tree_valid N (n+1) (Fw.Node.mk xc xm xk xb xs) a2=(
 (F_tlv_Identifier xc xk xm).bind fun(i1,i2)=>
 bif (i2 !=0) then(
 some false)
 else
 bif (a2==0) then(
 some false)
 else
 bif xk then(
 bif decide ((xb.length:Int)>0) then(
 some false)
 else
 bif (!xk) then(
 bif decide ((xs.length:Int)>0) then(
 some false)
 else
 (F_tree_valid_l0 N (F_tree_valid N n) N (xs,a2,(xs.length:Int),0,xc,xm,xk,xb,xs,a2)).bind fun y15=>(match y15 with
 |Sum.inl (i16,i17,i18,c19,l20,l21,i22)=>some (!(decide (i16≥0)))
 |Sum.inr ((i23,i24,c25,l26,l27,i28))=>some true))
 else
 (F_tree_valid_l0 N (F_tree_valid N n) N (xs,a2,(xs.length:Int),0,xc,xm,xk,xb,xs,a2)).bind fun y29=>(match y29 with
 |Sum.inl (i30,i31,i32,c33,l34,l35,i36)=>some (!(decide (i30≥0)))
 |Sum.inr ((i37,i38,c39,l40,l41,i42))=>some true))
 else
 bif (!xk) then(
 bif decide ((xs.length:Int)>0) then(
 some false)
 else
 (F_tree_valid_l0 N (F_tree_valid N n) N (xs,a2,(xs.length:Int),0,xc,xm,xk,xb,xs,a2)).bind fun y43=>(match y43 with
 |Sum.inl (i44,i45,i46,c47,l48,l49,i50)=>some (!(decide (i44≥0)))
 |Sum.inr ((i51,i52,c53,l54,l55,i56))=>some true))
 else
 (F_tree_valid_l0 N (F_tree_valid N n) N (xs,a2,(xs.length:Int),0,xc,xm,xk,xb,xs,a2)).bind fun y57=>(match y57 with
 |Sum.inl (i58,i59,i60,c61,l62,l63,i64)=>some (!(decide (i58≥0)))
 |Sum.inr ((i65,i66,c67,l68,l69,i70))=>some true)):=rfl
theorem s_tree_encode_l0(N n:Nat) (R:Fw.Node→Option (Bs×Int)) (l2:List Fw.Node) (i3:Int) (i4:Int) (i5:Int) (i6:Int) (c7:Bool) (l8:Bs) (l9:List Fw.Node) (l10:Bs):F_tree_encode_l0 N R (n+1) (l2,i3,i4,i5,i6,c7,l8,l9,l10)=(
 bif decide (i4<i3) then(
 (ix l2 i4).bind fun e11=>
 (R (Fw.Node.mk e11.cls e11.num e11.cons e11.body e11.kids)).bind fun(l12,i13)=>
 bif (i13 !=0) then(
 some (Sum.inl i13))
 else
 (app 1 l10 l12).bind fun l14=>
 F_tree_encode_l0 N R n (l2,i3,wadd .i64 i4 1,i5,i6,c7,l8,l9,l14))
 else
 some (Sum.inr (i5,i6,c7,l8,l9,l10))):=rfl
theorem m_tree_encode(N n:Nat) (xc xm:Int) (xk:Bool) (xb:Bs) (xs:List Fw.Node):F_tree_encode N (n+1) (Fw.Node.mk xc xm xk xb xs)=(
 (F_CloneO xb).bind fun l1=>
 (F_tree_encode_l0 N (F_tree_encode N n) N (xs,(xs.length:Int),0,xc,xm,xk,xb,xs,l1)).bind fun y15=>(match y15 with
 |Sum.inl i16=>some ([],i16)
 |Sum.inr ((i17,i18,c19,l20,l21,l22))=>(F_tlv_Encode N i17 c19 i18 l22).bind fun(l23,i24)=>
 some (l23,i24))):=rfl
theorem s_cref12_Hex_l0(N n:Nat) (l1:Bs) (s2:Bs) (i3:Int):F_cref12_Hex_l0 N (n+1) (l1,s2,i3)=(
 bif decide (i3<(l1.length:Int)) then(
 (ix l1 i3).bind fun b4=>
 (ix l1 i3).bind fun b5=>
 (slc ([48,49,50,51,52,53,54,55,56,57,97,98,99,100,101,102]:Bs) (wquo .u8 (b4.toNat:Int) 16) (wadd .u8 (wquo .u8 (b5.toNat:Int) 16) 1)).bind fun s6=>
 (cat s2 s6).bind fun s7=>
 (ix l1 i3).bind fun b8=>
 (ix l1 i3).bind fun b9=>
 (slc ([48,49,50,51,52,53,54,55,56,57,97,98,99,100,101,102]:Bs) (Int.tmod (b8.toNat:Int) 16) (wadd .u8 (Int.tmod (b9.toNat:Int) 16) 1)).bind fun s10=>
 (cat s7 s10).bind fun s11=>
 F_cref12_Hex_l0 N n (l1,s11,wadd .i64 i3 1))
 else
 some s2):=rfl
theorem s_cref29_Text_l0(N n:Nat) (R:Fw.Node→Option Bs) (s9:Bs) (i10:Int) (i11:Int) (i12:Int) (c13:Bool) (l14:Bs) (l15:List Fw.Node):F_cref29_Text_l0 N R (n+1) (s9,i10,i11,i12,c13,l14,l15)=(
 bif decide (i10<(l15.length:Int)) then(
 ((
 bif decide (i10>0) then(
 (cat s9 ([32]:Bs)).bind fun s16=>
 some (s16,i10,i11,i12,c13,l14,l15))
 else
 some (s9,i10,i11,i12,c13,l14,l15):Option (Bs×Int×Int×Int×Bool×Bs×List Fw.Node))).bind fun(s17,i18,i19,i20,c21,l22,l23)=>
 (ix l23 i18).bind fun e24=>
 (R (Fw.Node.mk e24.cls e24.num e24.cons e24.body e24.kids)).bind fun s25=>
 (cat s17 s25).bind fun s26=>
 F_cref29_Text_l0 N R n (s26,wadd .i64 i18 1,i19,i20,c21,l22,l23))
 else
 some s9):=rfl
theorem m_cref29_Text(N n:Nat) (xc xm:Int) (xk:Bool) (xb:Bs) (xs:List Fw.Node):F_cref29_Text N (n+1) (Fw.Node.mk xc xm xk xb xs)=(
 (F_cref02_Identifier xc xk xm).bind fun(i1,i2)=>
 (toB i1).bind fun b3=>
 (F_cref12_Hex N [b3]).bind fun s4=>
 bif (!xk) then(
 (cat s4 ([58]:Bs)).bind fun s5=>
 (F_cref12_Hex N xb).bind fun s6=>
 (cat s5 s6).bind fun s7=>
 some s7)
 else
 (cat s4 ([40]:Bs)).bind fun s8=>
 (F_cref29_Text_l0 N (F_cref29_Text N n) N (s8,0,xc,xm,xk,xb,xs)).bind fun s27=>
 (cat s27 ([41]:Bs)).bind fun s28=>
 some s28):=rfl
theorem s_cref01_Minimal_o(N n:Nat) (a1:Int):F_cref01_Minimal_o N (n+1) a1=(
 bif decide (a1<256) then(
 (toB (IntKind.wrap .u8 a1)).bind fun b1=>
 some [b1])
 else
 ((F_cref01_Minimal_o N n) (wquo .u64 a1 256)).bind fun l2=>
 (toB (IntKind.wrap .u8 (Int.tmod a1 256))).bind fun b3=>
 (app 1 l2 [b3]).bind fun l4=>
 some l4):=rfl
theorem s_cref03_Bytes_l0(N n:Nat) (R:Fw.Node→Option Bs) (i4:Int) (i5:Int) (i6:Int) (i7:Int) (c8:Bool) (l9:Bs) (l10:List Fw.Node) (l11:Bs):F_cref03_Bytes_l0 N R (n+1) (i4,i5,i6,i7,c8,l9,l10,l11)=(
 bif decide (i5<(l10.length:Int)) then(
 (ix l10 i5).bind fun e12=>
 (R (Fw.Node.mk e12.cls e12.num e12.cons e12.body e12.kids)).bind fun l13=>
 (app 1 l11 l13).bind fun l14=>
 F_cref03_Bytes_l0 N R n (i4,wadd .i64 i5 1,i6,i7,c8,l9,l10,l14))
 else
 some (i4,l11)):=rfl
theorem m_cref03_Bytes(N n:Nat) (xc xm:Int) (xk:Bool) (xb:Bs) (xs:List Fw.Node):F_cref03_Bytes N (n+1) (Fw.Node.mk xc xm xk xb xs)=(
 (F_cref02_Identifier xc xk xm).bind fun(i1,i2)=>
 (app 1 [] xb).bind fun l3=>
 (F_cref03_Bytes_l0 N (F_cref03_Bytes N n) N (i1,0,xc,xm,xk,xb,xs,l3)).bind fun(i15,l16)=>
 (F_cref02_Put N i15 l16).bind fun l17=>
 some l17):=rfl
theorem s_tree_read_l0(N n:Nat) (R:Bs→Int→Int→Int→Option (Fw.Spot×(Int×Int))) (l12:Bs) (i13:Int) (i14:Int) (i15:Int) (i16:Int) (i17:Int) (i18:Int) (c19:Bool) (l20:List Fw.Spot) (i21:Int) (i22:Int) (l23:List Fw.Node) (l24:List Fw.Spot) (i25:Int) (i26:Int) (i27:Int) (i28:Int) (c29:Bool):F_tree_read_l0 N R (n+1) (l12,i13,i14,i15,i16,i17,i18,c19,l20,i21,i22,l23,l24,i25,i26,i27,i28,c29)=(
 bif decide (i14<i26) then(
 (R l12 i14 i26 (wsub .i64 i13 1)).bind fun(v30,v31)=>
 bif (v31.1 !=0) then(
 some (Sum.inl (0,0,0,0,false,v31)))
 else
 (app 112 l24 [Fw.Spot.mk v30.at' v30.stop (Fw.Node.mk v30.nd.cls v30.nd.num v30.nd.cons v30.nd.body v30.nd.kids) v30.kids]).bind fun l32=>
 (app 72 l23 [Fw.Node.mk v30.nd.cls v30.nd.num v30.nd.cons v30.nd.body v30.nd.kids]).bind fun l33=>
 F_tree_read_l0 N R n (l12,i13,v30.stop,i15,i16,i17,i18,c19,l20,i21,i22,l33,l32,i25,i26,i27,i28,c29))
 else
 some (Sum.inr (i15,i16,i17,i18,c19,l20,i21,i22,l23,l24,i25,i26,i27,i28,c29))):=rfl
theorem s_tree_read(N n:Nat) (a1:Bs) (a2:Int) (a3:Int) (a4:Int):F_tree_read N (n+1) a1 a2 a3 a4=(
 bif (a4==0) then(
 (F_tree_read_1 5 a2).bind fun(v1,v2)=>
 some (Fw.Spot.mk v1.at' v1.stop (Fw.Node.mk v1.nd.cls v1.nd.num v1.nd.cons v1.nd.body v1.nd.kids) v1.kids,v2))
 else
 bif (decide (a3≤a3)&&decide (a3≤a1.length)) then(
 (slc a1 a2 a3).bind fun s3=>
 (F_tlv_ReadHeader N s3).bind fun(v4,v5)=>
 bif (v5.1 !=0) then(
 (F_tree_read_1 v5.1 (wadd .i64 a2 v5.2)).bind fun(v6,v7)=>
 some (Fw.Spot.mk v6.at' v6.stop (Fw.Node.mk v6.nd.cls v6.nd.num v6.nd.cons v6.nd.body v6.nd.kids) v6.kids,v7))
 else
 bif decide (wsub .i64 a3 (wadd .i64 a2 v4.2.2.2.2)<v4.2.2.2.1) then(
 (F_tree_read_1 1 a3).bind fun(v8,v9)=>
 some (Fw.Spot.mk v8.at' v8.stop (Fw.Node.mk v8.nd.cls v8.nd.num v8.nd.cons v8.nd.body v8.nd.kids) v8.kids,v9))
 else
 bif (!v4.2.2.1) then(
 (slc a1 (wadd .i64 a2 v4.2.2.2.2) (wadd .i64 (wadd .i64 a2 v4.2.2.2.2) v4.2.2.2.1)).bind fun s10=>
 (F_Clone s10).bind fun l11=>
 some (Fw.Spot.mk a2 (wadd .i64 (wadd .i64 a2 v4.2.2.2.2) v4.2.2.2.1) (Fw.Node.mk v4.1 v4.2.1 v4.2.2.1 l11 []) [],0,0))
 else
 (F_tree_read_l0 N (F_tree_read N n) N (a1,a4,wadd .i64 a2 v4.2.2.2.2,0,0,0,0,false,[],0,0,[],[],a2,wadd .i64 (wadd .i64 a2 v4.2.2.2.2) v4.2.2.2.1,v4.1,v4.2.1,v4.2.2.1)).bind fun y34=>(match y34 with
 |Sum.inl (i35,i36,i37,i38,c39,i40,i41)=>some (Fw.Spot.mk i35 i36 (Fw.Node.mk i37 i38 c39 [] []) [],i40,i41)
 |Sum.inr ((i42,i43,i44,i45,c46,l47,i48,i49,l50,l51,i52,i53,i54,i55,c56))=>some (Fw.Spot.mk i52 i53 (Fw.Node.mk i54 i55 c56 [] l50) l51,0,0)))
 else
 none):=rfl
theorem s_dump_text_l0(N n:Nat) (R:Fw.Node→Option Bs) (s7:Bs) (l8:List Fw.Node) (i9:Int) (i10:Int) (l11:List Bs):F_dump_text_l0 N R (n+1) (s7,l8,i9,i10,l11)=(
 bif decide (i10<i9) then(
 (ix l8 i10).bind fun e12=>
 (R (Fw.Node.mk e12.cls e12.num e12.cons e12.body e12.kids)).bind fun s13=>
 (app 16 l11 [s13]).bind fun l14=>
 F_dump_text_l0 N R n (s7,l8,i9,wadd .i64 i10 1,l14))
 else
 some (s7,l11)):=rfl
theorem m_dump_text(N n:Nat) (xc xm:Int) (xk:Bool) (xb:Bs) (xs:List Fw.Node):F_dump_text N (n+1) (Fw.Node.mk xc xm xk xb xs)=(
 (F_dump_identifier (Fw.Node.mk xc xm xk xb xs)).bind fun i1=>
 (toB i1).bind fun b2=>
 (F_Hex [b2]).bind fun s3=>
 bif (!xk) then(
 (cat s3 ([58]:Bs)).bind fun s4=>
 (F_Hex xb).bind fun s5=>
 (cat s4 s5).bind fun s6=>
 some s6)
 else
 (F_dump_text_l0 N (F_dump_text N n) N (s3,xs,(xs.length:Int),0,[])).bind fun(s15,l16)=>
 (cat s15 ([40]:Bs)).bind fun s17=>
 (F_Join l16 ([32]:Bs)).bind fun s18=>
 (cat s17 s18).bind fun s19=>
 (cat s19 ([41]:Bs)).bind fun s20=>
 some s20):=rfl
end Go.Fw
namespace Go.Fw
open Go
theorem or_byte{a b:Int}(h1: -36028797018963968≤a) (h2:a<36028797018963968) (h3:0≤b) (h4:b<256):bits .or .i64 (wshl .i64 a 8) b=256*a+b:=by
 have e1:wshl .i64 a 8=256*a:=by
  show IntKind.i64.wrap (a*2 ^ (8:Nat))=_
  rw[Go.IntWalk.i64_in _ (by omega)]
  omega
 rw[e1]
 show IntKind.i64.wrap (((BitVec.ofInt 64 (256*a))|||(BitVec.ofInt 64 b)).toNat:Int)=_
 rw[BitVec.toNat_or,BitVec.toNat_ofInt,BitVec.toNat_ofInt]
 have hm:((256*a) % ((2 ^ 64:Nat):Int)).toNat=(a % 72057594037927936).toNat*2 ^ 8:=by omega
 have hb:(b % ((2 ^ 64:Nat):Int)).toNat=b.toNat:=by omega
 rw[hm,hb,←Nat.shiftLeft_eq,←Nat.shiftLeft_add_eq_or_of_lt (by omega:b.toNat<2 ^ 8),Nat.shiftLeft_eq,IntKind.wrap_i64]
 omega
end Go.Fw
namespace Go.Fw
open Go
theorem wad1{i:Nat}(h:i<4611686018427387904):wadd .i64 (i:Int) 1=((i+1:Nat):Int):=by
 show IntKind.i64.wrap ((i:Int)+1)=_
 rw[Go.IntWalk.i64_in _ (by omega)]
 omega
theorem wsb1{i:Nat}(h0:0<i) (h:i<4611686018427387904):wsub .i64 (i:Int) 1=((i-1:Nat):Int):=by
 show IntKind.i64.wrap ((i:Int)-1)=_
 rw[Go.IntWalk.i64_in _ (by omega)]
 omega
theorem ix_get{α:Type}{l:List α}{i:Nat}{x:α}(h:l[i]? =some x):ix l (i:Int)=some x:=by
 unfold ix
 rw[if_pos (by omega),Int.toNat_natCast,h]
theorem toB_nat(x:UInt8):toB (x.toNat:Int)=some x:=by
 unfold toB
 have:=x.toNat_lt
 rw[if_pos ⟨by omega,by omega⟩]
 simp
theorem inb_nat{i n:Nat}(h:i<n):inb (i:Int) n=true:=by
 unfold inb
 simp only[Bool.and_eq_true,decide_eq_true_eq]
 omega
theorem set_swap(p m q:List UInt8) (x y:UInt8):(((p++(x::m++[y])++q).set p.length y).set (p.length+m.length+1) x)=(p++[y])++m++(x::q):=by
 have e1:p++(x::m++[y])++q=p++(x::(m++(y::q))):=by simp
 rw[e1,List.set_append_right _ _ (Nat.le_refl _),Nat.sub_self,List.set_cons_zero,List.set_append_right _ _ (by omega)]
 rw[show p.length+m.length+1-p.length=m.length+1 from by omega,List.set_cons_succ,List.set_append_right _ _ (Nat.le_refl _),Nat.sub_self,List.set_cons_zero]
 simp
theorem min_step(N n:Nat) (i7 i8:Int) (l9:Bs):F_cursor_Minimal_l1 N (n+1) (i7,i8,l9)=bif decide (i7<i8) then(bif inb i8 l9.length then((ix l9 i8).bind fun b10=>bif inb i7 l9.length then((ix l9 i7).bind fun b11=>bif inb i7 l9.length then(bif inb i7 l9.length then((toB (b10.toNat:Int)).bind fun b12=>
 bif inb i8 (l9.set (Int.toNat i7) b12).length then(bif inb i8 (l9.set (Int.toNat i7) b12).length then((toB (b11.toNat:Int)).bind fun b13=>F_cursor_Minimal_l1 N n (wadd .i64 i7 1,wsub .i64 i8 1,(l9.set (Int.toNat i7) b12).set (Int.toNat i8) b13)) else none) else none) else none) else none) else none) else none) else some l9:=rfl
theorem min_rev(N:Nat):∀(k:Nat) (mid p q:List UInt8) (n:Nat),mid.length≤k→mid.length<2*n→(p++mid++q).length<4611686018427387904→
 F_cursor_Minimal_l1 N n ((p.length:Int),(((p.length+mid.length:Nat):Int)-1),p++mid++q)=some (p++mid.reverse++q):=by
 intro k
 induction k with
 |zero=>
  intro mid p q n hk hn hl
  obtain⟨n,rfl⟩:∃m,n=m+1:=⟨n-1,by omega⟩
  have:mid=[]:=List.eq_nil_of_length_eq_zero (by omega)
  subst this
  show(bif decide ((p.length:Int)<((p.length+([]:List UInt8).length:Nat):Int)-1) then _ else _)=_
  rw[decide_eq_false (by simp;omega)]
  simp
 |succ k ih=>
  intro mid p q n hk hn hl
  obtain⟨n,rfl⟩:∃m,n=m+1:=⟨n-1,by omega⟩
  match mid,hk,hn,hl with
  |[],_,_,_=>
   show(bif decide ((p.length:Int)<((p.length+([]:List UInt8).length:Nat):Int)-1) then _ else _)=_
   rw[decide_eq_false (by simp;omega)]
   simp
  |[x],_,_,_=>
   show(bif decide ((p.length:Int)<((p.length+[x].length:Nat):Int)-1) then _ else _)=_
   rw[decide_eq_false (by simp)]
   simp
  |x::z::r,hk,hn,hl=>
   obtain⟨m,y,hm⟩:∃m y,z::r=m++[y]:=⟨(z::r).dropLast,(z::r).getLast (by simp),(List.dropLast_concat_getLast (by simp)).symm⟩
   rw[hm]at hk hn hl⊢
   have hlen:(x::(m++[y])).length=m.length+2:=by simp
   have g1:(p++(x::(m++[y]))++q)[p.length+m.length+1]? =some y:=by
    rw[List.append_assoc,List.getElem?_append_right (by omega),show p.length+m.length+1-p.length=m.length+1 from by omega,List.cons_append,List.getElem?_cons_succ,List.append_assoc,List.getElem?_append_right (Nat.le_refl _),Nat.sub_self]
    rfl
   have g2:(p++(x::(m++[y]))++q)[p.length]? =some x:=by
    rw[List.append_assoc,List.getElem?_append_right (Nat.le_refl _),Nat.sub_self]
    rfl
   have hll:(p++(x::(m++[y]))++q).length=p.length+m.length+2+q.length:=by simp;omega
   have ej:((p.length+(x::(m++[y])).length:Nat):Int)-1=((p.length+m.length+1:Nat):Int):=by rw[hlen];omega
   rw[ej]
   have hstep:F_cursor_Minimal_l1 N (n+1) ((p.length:Int),((p.length+m.length+1:Nat):Int),p++(x::(m++[y]))++q)=F_cursor_Minimal_l1 N n (((p.length+1:Nat):Int),((p.length+m.length:Nat):Int),(p++[y])++m++(x::q)):=by
    rw[min_step,decide_eq_true (by omega:(p.length:Int)<((p.length+m.length+1:Nat):Int))]
    simp only[cond_true,ix_get g1,ix_get g2,Option.bind_some,toB_nat,Int.toNat_natCast,List.length_set,hll]
    rw[inb_nat (by omega:p.length+m.length+1<p.length+m.length+2+q.length),inb_nat (by omega:p.length<p.length+m.length+2+q.length)]
    simp only[cond_true]
    rw[wad1 (by omega),wsb1 (by omega) (by omega),show p.length+m.length+1-1=p.length+m.length from by omega]
    rw[show p++(x::(m++[y]))++q=p++(x::m++[y])++q from rfl,set_swap]
   rw[hstep]
   have h9:((p++[y])++m++(x::q)).length=p.length+m.length+2+q.length:=by simp;omega
   rw[hll]at hl
   have hi:=ih m (p++[y]) (x::q) n (by simp at hk;omega) (by simp at hn;omega) (by rw[h9];omega)
   rw[show((p++[y]).length:Int)=((p.length+1:Nat):Int) from by simp,show(((p++[y]).length+m.length:Nat):Int)-1=((p.length+m.length:Nat):Int) from by simp;omega]at hi
   rw[hi]
   simp
end Go.Fw
namespace Go.Fw
open Go
def leB:Nat→Nat→List UInt8
 |0,_=>[]
 |f+1,n=>if n=0 then [] else UInt8.ofNat (n % 256)::leB f (n / 256)
theorem leB_len:∀(f n:Nat),(leB f n).length≤f
 |0,_=>Nat.le_refl _
 |f+1,n=>by
  unfold leB
  split
  ·simp
  ·simp only[List.length_cons]
   have:=leB_len f (n / 256)
   omega
theorem toB_wrap(n:Nat):toB (IntKind.wrap .u8 (n:Int))=some (UInt8.ofNat (n % 256)):=by
 unfold toB
 rw[IntKind.wrap_u8,if_pos ⟨by omega,by omega⟩]
 congr 1
theorem wshr8(n:Nat):wshr .u64 (n:Int) 8=((n / 256:Nat):Int):=by
 show(n:Int).fdiv (2 ^ (8:Nat))=_
 rw[Int.fdiv_eq_ediv_of_nonneg _ (by decide)]
 omega
theorem min_step0(N n:Nat) (i2:Int) (l3:Bs):F_cursor_Minimal_l0 N (n+1) (i2,l3)=bif decide (i2>0) then((toB (IntKind.wrap .u8 i2)).bind fun b4=>(app 1 l3 [b4]).bind fun l5=>F_cursor_Minimal_l0 N n (wshr .u64 i2 8,l5)) else some l3:=rfl
theorem min_l0(N:Nat):∀(f a n:Nat) (l:List UInt8),a<256 ^ f→f<n→l.length+f<1000→F_cursor_Minimal_l0 N n ((a:Int),l)=some (l++leB f a):=by
 intro f
 induction f with
 |zero=>
  intro a n l ha hn _
  obtain⟨n,rfl⟩:∃m,n=m+1:=⟨n-1,by omega⟩
  have:a=0:=by simpa using ha
  subst this
  rw[min_step0,decide_eq_false (by simp)]
  simp[leB]
 |succ f ih=>
  intro a n l ha hn hl
  obtain⟨n,rfl⟩:∃m,n=m+1:=⟨n-1,by omega⟩
  rw[min_step0]
  by_cases h0:a=0
  ·subst h0
   rw[decide_eq_false (by simp)]
   simp[leB]
  ·rw[decide_eq_true (by omega:(a:Int)>0),cond_true,toB_wrap,wshr8]
   simp only[Option.bind_some]
   have happ:app 1 l [UInt8.ofNat (a % 256)]=some (l++[UInt8.ofNat (a % 256)]):=by
    unfold app limit
    rw[if_pos ⟨by simp only[List.length_cons,List.length_nil];omega,by simp only[List.length_cons,List.length_nil];omega⟩]
   rw[happ]
   simp only[Option.bind_some]
   rw[ih (a / 256) n _ (by rw[Nat.pow_succ]at ha;omega) (by omega) (by simp;omega)]
   simp[leB,h0]
def minB(n:Nat):List UInt8:=(leB 8 (n / 256)).reverse++[UInt8.ofNat (n % 256)]
theorem minimal_val(N:Nat) (hN:20≤N) (n:Nat) (hn:n<18446744073709551616):F_cursor_Minimal N (n:Int)=some (minB n):=by
 unfold F_cursor_Minimal
 rw[toB_wrap,wshr8]
 simp only[Option.bind_some]
 rw[min_l0 N 8 (n / 256) N _ (by omega) (by omega) (by simp)]
 simp only[Option.bind_some]
 have hlen:=leB_len 8 (n / 256)
 have h:=min_rev N 9 ([UInt8.ofNat (n % 256)]++leB 8 (n / 256)) [] [] N (by simp;omega) (by simp;omega) (by simp;omega)
 simp only[List.nil_append,List.append_nil,List.length_nil,Nat.zero_add]at h
 have e:wsub .i64 ((([UInt8.ofNat (n % 256)]++leB 8 (n / 256)).length:Nat):Int) 1=((([UInt8.ofNat (n % 256)]++leB 8 (n / 256)).length:Nat):Int)-1:=by
  show IntKind.i64.wrap _=_
  rw[Go.IntWalk.i64_in _ (by simp;omega)]
 rw[e]
 rw[show(0:Int)=((0:Nat):Int) from rfl,h]
 simp[minB]
def beN(l:List UInt8):Nat:=l.foldl (fun n x=>256*n+x.toNat) 0
theorem beN_append(a:List UInt8) (x:UInt8):beN (a++[x])=256*beN a+x.toNat:=by
 unfold beN
 rw[List.foldl_append]
 rfl
theorem beN_le:∀(f n:Nat),n<256 ^ f→beN (leB f n).reverse=n
 |0,n,h=>by
  have:n=0:=by simpa using h
  subst this
  rfl
 |f+1,n,h=>by
  unfold leB
  split
  ·rename_i h0
   subst h0
   rfl
  ·rw[List.reverse_cons,beN_append,beN_le f (n / 256) (by rw[Nat.pow_succ]at h;omega)]
   have:(UInt8.ofNat (n % 256)).toNat=n % 256:=by simp
   rw[this]
   omega
theorem beN_min(n:Nat) (h:n<18446744073709551616):beN (minB n)=n:=by
 unfold minB
 rw[beN_append,beN_le 8 (n / 256) (by omega)]
 have:(UInt8.ofNat (n % 256)).toNat=n % 256:=by simp
 rw[this]
 omega
theorem min_len(n:Nat):1≤(minB n).length∧(minB n).length≤9:=by
 unfold minB
 have:=leB_len 8 (n / 256)
 simp
 omega
end Go.Fw
namespace Go.Fw
open Go
theorem leB_short:∀(f k n:Nat),n<256 ^ k→(leB f n).length≤k
 |0,_,_,_=>Nat.zero_le _
 |f+1,k,n,h=>by
  unfold leB
  split
  ·exact Nat.zero_le _
  ·rename_i h0
   cases k with
   |zero=>simp at h;omega
   |succ k=>
    have:=leB_short f k (n / 256) (by rw[Nat.pow_succ]at h;omega)
    simp only[List.length_cons]
    omega
theorem leB_head:∀(f n:Nat),0<n→n<256 ^ f→∃x r,(leB f n).reverse=x::r∧x.toNat≠0
 |0,n,h0,h=>by simp at h;omega
 |f+1,n,h0,h=>by
  unfold leB
  rw[if_neg (by omega),List.reverse_cons]
  by_cases h1:n / 256=0
  ·refine⟨UInt8.ofNat (n % 256),[],?_,?_⟩
   ·rw[h1]
    cases f<;>simp[leB]
   ·have:(UInt8.ofNat (n % 256)).toNat=n % 256:=by simp
    rw[this]
    omega
  ·obtain⟨x,r,e,hx⟩:=leB_head f (n / 256) (by omega) (by rw[Nat.pow_succ]at h;omega)
   exact⟨x,r++[UInt8.ofNat (n % 256)],by rw[e];rfl,hx⟩
theorem min_head(n:Nat) (h0:0<n) (h:n<18446744073709551616):∃x r,minB n=x::r∧x.toNat≠0:=by
 unfold minB
 by_cases h1:n / 256=0
 ·refine⟨UInt8.ofNat (n % 256),[],?_,?_⟩
  ·rw[h1]
   simp[leB]
  ·have:(UInt8.ofNat (n % 256)).toNat=n % 256:=by simp
   rw[this]
   omega
 ·obtain⟨x,r,e,hx⟩:=leB_head 8 (n / 256) (by omega) (by omega)
  exact⟨x,r++[UInt8.ofNat (n % 256)],by rw[e];rfl,hx⟩
theorem min_small(n:Nat) (h:n<256):minB n=[UInt8.ofNat n]:=by
 unfold minB
 rw[show n / 256=0 from by omega,show n % 256=n from by omega]
 simp[leB]
theorem min_four(n:Nat) (h:n<4294967296):(minB n).length≤4:=by
 unfold minB
 have:=leB_short 8 3 (n / 256) (by omega)
 simp
 omega
def lenB(n:Nat):List UInt8:=if n<128 then minB n else UInt8.ofNat (128+(minB n).length)::minB n
theorem lenB_len(n:Nat) (h:n<4294967296):1≤(lenB n).length∧(lenB n).length≤5:=by
 have h1:=min_len n
 have h2:=min_four n h
 unfold lenB
 split
 ·omega
 ·simp only[List.length_cons];omega
theorem length_val(N:Nat) (hN:20≤N) (n:Nat) (hn:n≤2147483647):F_tlv_Length N (n:Int)=some (lenB n,0):=by
 unfold F_tlv_Length
 rw[decide_eq_false (by omega:¬(n:Int)<0),decide_eq_false (by omega:¬(n:Int)>2147483647),Go.IntWalk.u64_in _ (by omega),minimal_val N hN n (by omega)]
 simp only[cond_false,Option.bind_some]
 by_cases h:n<128
 ·rw[decide_eq_true (by omega:(n:Int)<128)]
  simp[lenB,h]
 ·rw[decide_eq_false (by omega:¬(n:Int)<128)]
  have hl:=min_four n (by omega)
  have e:wadd .i64 128 (((minB n).length:Nat):Int)=((128+(minB n).length:Nat):Int):=by
   show IntKind.i64.wrap _=_
   rw[Go.IntWalk.i64_in _ (by omega)]
   omega
  rw[e,toB_wrap,show(128+(minB n).length) % 256=128+(minB n).length from by omega]
  simp only[cond_false,Option.bind_some]
  have happ:app 1 [UInt8.ofNat (128+(minB n).length)] (minB n)=some ([UInt8.ofNat (128+(minB n).length)]++minB n):=by
   unfold app limit
   rw[if_pos ⟨by simp only[List.length_cons,List.length_nil];omega,by simp only[List.length_cons,List.length_nil];omega⟩]
  rw[happ]
  simp[lenB,h]
theorem rlen_step(N n:Nat) (l:Bs) (i17 i18 i19:Int):F_tlv_ReadLength_l0 N (n+1) (l,i17,i18,i19,0,0)=bif decide (i19>i17) then some (l,i17,i18,0,0) else((ix l i19).bind fun b22=>F_tlv_ReadLength_l0 N n (l,i17,bits .or .i64 (wshl .i64 i18 8) (IntKind.wrap .i64 (b22.toNat:Int)),wadd .i64 i19 1,0,0)):=rfl
theorem byte_w(b:UInt8):IntKind.wrap .i64 (b.toNat:Int)=(b.toNat:Int):=by
 have:=b.toNat_lt
 rw[Go.IntWalk.i64_in _ (by omega)]
theorem rlen_loop(N:Nat) (b:UInt8) (m rest:List UInt8) (hm:m.length≤4):∀(k n i L:Nat),m.length-i=k→i≤m.length→k<n→L<256 ^ i→
 F_tlv_ReadLength_l0 N n (b::(m++rest),(m.length:Int),(L:Int),((i+1:Nat):Int),0,0)=some (b::(m++rest),(m.length:Int),(((m.drop i).foldl (fun n x=>256*n+x.toNat) L:Nat):Int),0,0):=by
 intro k
 induction k with
 |zero=>
  intro n i L hk hi hn _
  obtain⟨n,rfl⟩:∃m,n=m+1:=⟨n-1,by omega⟩
  rw[rlen_step,decide_eq_true (by omega:((i+1:Nat):Int)>(m.length:Int)),List.drop_eq_nil_of_le (by omega)]
  rfl
 |succ k ih=>
  intro n i L hk hi hn hL
  obtain⟨n,rfl⟩:∃m,n=m+1:=⟨n-1,by omega⟩
  have hlt:i<m.length:=by omega
  have hget:(b::(m++rest))[i+1]? =some m[i]:=by
   rw[List.getElem?_cons_succ,List.getElem?_append_left hlt,List.getElem?_eq_getElem hlt]
  rw[rlen_step,decide_eq_false (by omega:¬((i+1:Nat):Int)>(m.length:Int)),cond_false,ix_get hget]
  simp only[Option.bind_some]
  have hp:(256:Nat) ^ i≤256 ^ 4:=Nat.pow_le_pow_right (by decide) (by omega)
  have h4:(256:Nat) ^ 4=4294967296:=by decide
  have hb:=(m[i]).toNat_lt
  rw[byte_w,or_byte (by omega) (by omega) (by omega) (by omega),wad1 (by omega),List.drop_eq_getElem_cons hlt,List.foldl_cons]
  rw[show(256*(L:Int)+((m[i]).toNat:Int))=((256*L+(m[i]).toNat:Nat):Int) from by omega]
  exact ih n (i+1) _ (by omega) (by omega) (by omega) (by rw[Nat.pow_succ];omega)
theorem rlen_val(N:Nat) (hN:20≤N) (n:Nat) (hn:n≤2147483647) (rest:List UInt8):F_tlv_ReadLength N (lenB n++rest)=some ((n:Int),((lenB n).length:Int),0,0):=by
 unfold F_tlv_ReadLength
 by_cases h:n<128
 ·have e:lenB n=[UInt8.ofNat n]:=by simp[lenB,h,min_small n (by omega)]
  rw[e]
  have h0:(((([UInt8.ofNat n]++rest).length:Nat):Int)==0)=false:=by simp;omega
  have hix:ix ([UInt8.ofNat n]++rest) 0=some (UInt8.ofNat n):=rfl
  have hn' :(UInt8.ofNat n).toNat=n:=by simp;omega
  rw[h0]
  simp only[cond_false,hix,Option.bind_some,hn']
  rw[decide_eq_true (by omega:(n:Int)<128),cond_true,Go.IntWalk.i64_in _ (by omega)]
  rfl
 ·have hm4:=min_four n (by omega)
  have hm1:=(min_len n).1
  have e:lenB n=UInt8.ofNat (128+(minB n).length)::minB n:=by simp[lenB,h]
  obtain⟨x,r,hx,hx0⟩:=min_head n (by omega) (by omega)
  rw[e,List.cons_append]
  generalize hb:UInt8.ofNat (128+(minB n).length)=b
  have hbn:b.toNat=128+(minB n).length:=by rw[←hb];simp;omega
  have h0:((((b::(minB n++rest)).length:Nat):Int)==0)=false:=by simp;omega
  have hix:ix (b::(minB n++rest)) 0=some b:=rfl
  have hix1:ix (b::(minB n++rest)) 1=some x:=by rw[hx];rfl
  have hsub:wsub .i64 (b.toNat:Int) 128=((minB n).length:Int):=by
   show IntKind.i64.wrap _=_
   rw[hbn,Go.IntWalk.i64_in _ (by omega)]
   omega
  rw[h0]
  simp only[cond_false,hix,Option.bind_some,byte_w]
  rw[decide_eq_false (by omega:¬(b.toNat:Int)<128),hsub]
  rw[show((((minB n).length:Nat):Int)==0)=false from beq_eq_false_iff_ne.2 (by omega),decide_eq_false (by omega:¬(((minB n).length:Nat):Int)>4),decide_eq_false (by simp;omega:¬(((b::(minB n++rest)).length:Nat):Int)≤(((minB n).length:Nat):Int))]
  simp only[cond_false]
  have hl:=rlen_loop N b (minB n) rest hm4 (minB n).length N 0 0 (by omega) (by omega) (by omega) (by simp)
  rw[List.drop_zero,show(minB n).foldl (fun n x=>256*n+x.toNat) 0=n from beN_min n (by omega)]at hl
  rw[show F_tlv_ReadLength_l0 N N (b::(minB n++rest),(((minB n).length:Nat):Int),0,1,0,0)=_ from hl]
  simp only[Option.bind_some,hix1]
  rw[show((x.toNat:Int)==0)=false from beq_eq_false_iff_ne.2 (by omega),decide_eq_false (by omega:¬(n:Int)<128),decide_eq_false (by omega:¬(n:Int)>2147483647)]
  have ew:wadd .i64 1 (((minB n).length:Nat):Int)=(((b::minB n).length:Nat):Int):=by
   show IntKind.i64.wrap _=_
   rw[Go.IntWalk.i64_in _ (by omega)]
   simp;omega
  rw[ew]
  rfl
end Go.Fw
namespace Go.Fw
open Go
theorem beN_lt:∀(f:Nat) (l:List UInt8),l.length=f→beN l<256 ^ f:=by
 intro f
 induction f with
 |zero=>
  intro l h
  have:l=[]:=List.eq_nil_of_length_eq_zero h
  subst this
  decide
 |succ f ih=>
  intro l h
  obtain⟨m,d,hm⟩:∃m d,l=m++[d]:=⟨l.dropLast,l.getLast (by intro h0;subst h0;simp at h),(List.dropLast_concat_getLast (by intro h0;subst h0;simp at h)).symm⟩
  subst hm
  have:=ih m (by simpa using h)
  have hd:=d.toNat_lt
  rw[beN_append,Nat.pow_succ]
  omega
theorem beN_pos:∀(l:List UInt8) (x:UInt8) (r:List UInt8),l=x::r→x.toNat≠0→0<beN l:=by
 intro l x r h hx
 subst h
 have key:∀(r:List UInt8) (a:Nat),0<a→0<r.foldl (fun n x=>256*n+x.toNat) a:=by
  intro r
  induction r with
  |nil=>intro a h;exact h
  |cons y r ih=>intro a h;exact ih _ (by show 0<256*a+y.toNat;omega)
 exact key r _ (by show 0<256*0+x.toNat;omega)
theorem leB_be:∀(f:Nat) (l:List UInt8),l.length≤f→(∀x r,l=x::r→x.toNat≠0)→(leB f (beN l)).reverse=l:=by
 intro f
 induction f with
 |zero=>
  intro l h _
  have:l=[]:=List.eq_nil_of_length_eq_zero (by omega)
  subst this
  rfl
 |succ f ih=>
  intro l h hx
  cases hl:l with
  |nil=>simp[beN,leB]
  |cons x r=>
   have hx0:=hx x r hl
   have hpos:=beN_pos l x r hl hx0
   rw[←hl]
   obtain⟨m,d,hm⟩:∃m d,l=m++[d]:=⟨l.dropLast,l.getLast (by rw[hl];simp),(List.dropLast_concat_getLast (by rw[hl];simp)).symm⟩
   have hd:=d.toNat_lt
   have hb:beN l=256*beN m+d.toNat:=by rw[hm,beN_append]
   have h1:beN l / 256=beN m:=by omega
   have h2:beN l % 256=d.toNat:=by omega
   unfold leB
   rw[if_neg (by omega),h1,h2,List.reverse_cons,ih m (by rw[hm]at h;simp at h;omega) (fun y s hy=>by
    rw[hm,hy]at hl
    simp only[List.cons_append,List.cons.injEq]at hl
    rw[hl.1]
    exact hx0)]
   rw[hm]
   simp
theorem min_be(l:List UInt8) (h9:l.length≤9) (x:UInt8) (r:List UInt8) (hl:l=x::r) (hx:x.toNat≠0∨r=[]):minB (beN l)=l:=by
 obtain⟨m,d,hm⟩:∃m d,l=m++[d]:=⟨l.dropLast,l.getLast (by rw[hl];simp),(List.dropLast_concat_getLast (by rw[hl];simp)).symm⟩
 have hd:=d.toNat_lt
 have hb:beN l=256*beN m+d.toNat:=by rw[hm,beN_append]
 unfold minB
 rw[show beN l / 256=beN m from by omega,show beN l % 256=d.toNat from by omega,leB_be 8 m (by rw[hm]at h9;simp at h9;omega) (fun y s hy=>by
  rw[hm,hy]at hl
  simp only[List.cons_append,List.cons.injEq]at hl
  rcases hx with hx|hx
  ·rw[hl.1];exact hx
  ·rw[hx]at hl
   simp at hl),hm]
 simp
theorem rlen_inv(N:Nat) (hN:20≤N) (a:List UInt8) (ha:a.length<4611686018427387904) (L k o:Int) (h:F_tlv_ReadLength N a=some (L,k,0,o)):∃(n:Nat) (rest:List UInt8),n≤2147483647∧a=lenB n++rest∧L=(n:Int)∧k=((lenB n).length:Int):=by
 unfold F_tlv_ReadLength at h
 cases a with
 |nil=>cases h
 |cons b r=>
  have h0:((((b::r).length:Nat):Int)==0)=false:=beq_eq_false_iff_ne.2 (by simp only[List.length_cons];omega)
  have hix:ix (b::r) 0=some b:=rfl
  have hb:=b.toNat_lt
  rw[h0]at h
  simp only[cond_false,hix,Option.bind_some,byte_w]at h
  by_cases h1:(b.toNat:Int)<128
  ·rw[decide_eq_true h1]at h
   simp only[cond_true,Option.some.injEq,Prod.mk.injEq]at h
   obtain⟨rfl,rfl,_,_⟩:=h
   have e:lenB b.toNat=[b]:=by
    unfold lenB
    rw[if_pos (by omega),min_small _ (by omega)]
    simp
   exact⟨b.toNat,r,by omega,by rw[e];rfl,rfl,by rw[e];rfl⟩
  ·rw[decide_eq_false h1]at h
   obtain⟨c,hc⟩:∃c:Nat,b.toNat=128+c:=⟨b.toNat-128,by omega⟩
   have hsub:wsub .i64 (b.toNat:Int) 128=(c:Int):=by
    show IntKind.i64.wrap _=_
    rw[hc,Go.IntWalk.i64_in _ (by omega)]
    omega
   rw[hsub]at h
   simp only[cond_false,F_tlv_ReadLength_1,Option.bind_some]at h
   by_cases h2:c=0
   ·subst h2
    cases h
   ·rw[show((c:Int)==0)=false from beq_eq_false_iff_ne.2 (by omega)]at h
    simp only[cond_false]at h
    by_cases h3:(c:Int)>4
    ·rw[decide_eq_true h3]at h
     cases h
    ·rw[decide_eq_false h3]at h
     simp only[cond_false]at h
     by_cases h4:(((b::r).length:Nat):Int)≤(c:Int)
     ·rw[decide_eq_true h4]at h
      cases h
     ·rw[decide_eq_false h4]at h
      simp only[cond_false]at h
      simp only[List.length_cons]at h4
      have hr:r=r.take c++r.drop c:=(List.take_append_drop c r).symm
      have hm:(r.take c).length=c:=by rw[List.length_take];omega
      have hl:=rlen_loop N b (r.take c) (r.drop c) (by omega) (r.take c).length N 0 0 (by omega) (by omega) (by omega) (by simp)
      rw[List.drop_zero,←hr,hm]at hl
      rw[show F_tlv_ReadLength_l0 N N (b::r,(c:Int),0,1,0,0)=_ from hl]at h
      obtain⟨x,s,hx⟩:∃x s,r.take c=x::s:=by
       cases hq:r.take c with
       |nil=>rw[hq]at hm;simp at hm;omega
       |cons x s=>exact⟨x,s,rfl⟩
      have hix1:ix (b::r) 1=some x:=by rw[hr,hx];rfl
      simp only[Option.bind_some,hix1]at h
      by_cases h5:((x.toNat:Int)==0)=true
      ·rw[h5]at h
       cases h
      ·rw[show((x.toNat:Int)==0)=false from by simpa using h5]at h
       have hx0:x.toNat≠0:=by
        intro he
        apply h5
        rw[he]
        rfl
       simp only[cond_false]at h
       have hbe:(r.take c).foldl (fun n x=>256*n+x.toNat) 0=beN (r.take c):=rfl
       rw[hbe]at h
       by_cases h6:((beN (r.take c):Nat):Int)<128
       ·rw[decide_eq_true h6]at h
        cases h
       ·rw[decide_eq_false h6]at h
        simp only[cond_false]at h
        by_cases h7:((beN (r.take c):Nat):Int)>2147483647
        ·rw[decide_eq_true h7]at h
         cases h
        ·rw[decide_eq_false h7]at h
         simp only[cond_false,Option.some.injEq,Prod.mk.injEq]at h
         obtain⟨rfl,rfl,_⟩:=h
         have hmb:=min_be (r.take c) (by omega) x s hx (.inl hx0)
         have e:lenB (beN (r.take c))=b::r.take c:=by
          unfold lenB
          rw[if_neg (by omega),hmb,hm]
          congr 1
          apply UInt8.toNat_inj.1
          simp
          omega
         refine⟨beN (r.take c),r.drop c,by omega,by rw[e,List.cons_append,←hr],rfl,?_⟩
         rw[e]
         show IntKind.i64.wrap _=_
         rw[Go.IntWalk.i64_in _ (by omega)]
         simp only[List.length_cons,hm]
         omega
end Go.Fw
namespace Go.Fw
open Go
def idB(c:Nat) (k:Bool) (num:Nat):UInt8:=UInt8.ofNat (64*c+(if k then 32 else 0)+num)
theorem ident_all:∀(c:Fin 4) (k:Bool) (num:Fin 31),F_tlv_Identifier (c.val:Int) k (num.val:Int)=some (((idB c.val k num.val).toNat:Int),0)∧F_tlv_ReadIdentifier ((idB c.val k num.val).toNat:Int)=some ((c.val:Int),k,(num.val:Int),0):=of_decide_eq_true (by kernel_rfl)
theorem ident_val{c num:Nat}(k:Bool) (hc:c<4) (hn:num<31):F_tlv_Identifier (c:Int) k (num:Int)=some (((idB c k num).toNat:Int),0):=(ident_all ⟨c,hc⟩ k ⟨num,hn⟩).1
theorem rident_val{c num:Nat}(k:Bool) (hc:c<4) (hn:num<31):F_tlv_ReadIdentifier ((idB c k num).toNat:Int)=some ((c:Int),k,(num:Int),0):=(ident_all ⟨c,hc⟩ k ⟨num,hn⟩).2
theorem rident_alls:∀n:Fin 256,(match F_tlv_ReadIdentifier ((UInt8.ofNat n.val).toNat:Int) with
 |some (c,k,num,e)=>decide (e=0→0≤c∧c<4∧0≤num∧num<31∧UInt8.ofNat n.val=idB c.toNat k num.toNat)
 |none=>false)=true:=of_decide_eq_true (by kernel_rfl)
theorem rident_inv(b:UInt8):∃c k num e,F_tlv_ReadIdentifier (b.toNat:Int)=some (c,k,num,e)∧(e=0→∃c' num' :Nat,c' <4∧num' <31∧c=(c' :Int)∧num=(num' :Int)∧b=idB c' k num'):=by
 have h:=rident_alls ⟨b.toNat,b.toNat_lt⟩
 rw[show UInt8.ofNat (⟨b.toNat,b.toNat_lt⟩:Fin 256).val=b from by simp]at h
 cases hf:F_tlv_ReadIdentifier (b.toNat:Int) with
 |none=>rw[hf]at h;cases h
 |some x=>
  obtain⟨c,k,num,e⟩:=x
  rw[hf]at h
  refine⟨c,k,num,e,rfl,fun he=> ?_⟩
  obtain⟨h1,h2,h3,h4,h5⟩:=of_decide_eq_true h he
  exact⟨c.toNat,num.toNat,by omega,by omega,by omega,by omega,h5⟩
theorem slc_one(b:UInt8) (r:List UInt8):slc (b::r) 1 ((b::r).length:Int)=some r:=by
 unfold slc
 rw[if_pos ⟨by decide,by simp only[List.length_cons];omega,by omega⟩,Int.toNat_natCast,List.take_length]
 rfl
theorem wad_in{a b:Int}(h: -4611686018427387904≤a+b∧a+b≤4611686018427387904):wadd .i64 a b=a+b:=by
 show IntKind.i64.wrap _=_
 rw[Go.IntWalk.i64_in _ (by omega)]
theorem wsb_in{a b:Int}(h: -4611686018427387904≤a-b∧a-b≤4611686018427387904):wsub .i64 a b=a-b:=by
 show IntKind.i64.wrap _=_
 rw[Go.IntWalk.i64_in _ (by omega)]
theorem header_val(N:Nat) (hN:20≤N) {c num n:Nat}(k:Bool) (hc:c<4) (hu:num<31) (hn:n≤2147483647) (rest:List UInt8):
 F_tlv_ReadHeader N (idB c k num::(lenB n++rest))=some (((c:Int),(num:Int),k,(n:Int),((1+(lenB n).length:Nat):Int)),0,0):=by
 have hl:=lenB_len n (by omega)
 unfold F_tlv_ReadHeader
 have h0:((((idB c k num::(lenB n++rest)).length:Nat):Int)==0)=false:=beq_eq_false_iff_ne.2 (by simp only[List.length_cons];omega)
 have hix:ix (idB c k num::(lenB n++rest)) 0=some (idB c k num):=rfl
 rw[h0,slc_one]
 simp only[cond_false,hix,Option.bind_some,rident_val k hc hu,rlen_val N hN n hn rest]
 have ew:wadd .i64 1 (((lenB n).length:Nat):Int)=((1+(lenB n).length:Nat):Int):=by
  rw[wad_in (by omega)]
  omega
 rw[ew]
 rfl
theorem header_inv(N:Nat) (hN:20≤N) (a:List UInt8) (ha:a.length<4611686018427387904) (c num L sz o:Int) (k:Bool) (h:F_tlv_ReadHeader N a=some ((c,num,k,L,sz),0,o)):
 ∃(c' num' n:Nat) (rest:List UInt8),c' <4∧num' <31∧n≤2147483647∧a=idB c' k num' ::(lenB n++rest)∧c=(c' :Int)∧num=(num' :Int)∧L=(n:Int)∧sz=((1+(lenB n).length:Nat):Int):=by
 unfold F_tlv_ReadHeader at h
 cases a with
 |nil=>cases h
 |cons b r=>
  have h0:((((b::r).length:Nat):Int)==0)=false:=beq_eq_false_iff_ne.2 (by simp only[List.length_cons];omega)
  have hix:ix (b::r) 0=some b:=rfl
  obtain⟨c1,k1,num1,e1,hid,hinv⟩:=rident_inv b
  rw[h0,slc_one]at h
  simp only[cond_false,hix,Option.bind_some,hid]at h
  by_cases he:e1=0
  ·obtain⟨c',num',hc,hu,rfl,rfl,rfl⟩:=hinv he
   subst he
   rw[show((0:Int) !=0)=false from rfl]at h
   simp only[cond_false]at h
   cases hr:F_tlv_ReadLength N r with
   |none=>rw[hr]at h;cases h
   |some x=>
    obtain⟨L1,k2,e2,o2⟩:=x
    rw[hr]at h
    simp only[Option.bind_some]at h
    by_cases he2:e2=0
    ·subst he2
     rw[show((0:Int) !=0)=false from rfl]at h
     simp only[cond_false,Option.some.injEq,Prod.mk.injEq]at h
     obtain⟨⟨rfl,rfl,rfl,rfl,rfl⟩,_⟩:=h
     obtain⟨n,rest,hn,rfl,rfl,rfl⟩:=rlen_inv N hN r (by simp at ha;omega) _ _ _ hr
     have hl:=lenB_len n (by omega)
     refine⟨c',num',n,rest,hc,hu,hn,rfl,rfl,rfl,rfl,?_⟩
     rw[wad_in (by omega)]
     omega
    ·rw[show(e2 !=0)=true from by simpa using he2]at h
     simp only[cond_true,Option.some.injEq,Prod.mk.injEq]at h
     omega
  ·rw[show(e1 !=0)=true from by simpa using he]at h
   simp only[cond_true,Option.some.injEq,Prod.mk.injEq]at h
   omega
end Go.Fw
namespace Go.Fw
open Go
theorem cc_step0(N n:Nat) (l1 l3:List Bs) (i2 i4 i5:Int):F_slices_Concat_byte_byte_l0 N (n+1) (l1,i2,l3,i4,i5)=bif decide (i5<i4) then((ix l3 i5).bind fun e6=>((bif decide (wadd .i64 i2 (e6.length:Int)<0) then none else some (l1,wadd .i64 i2 (e6.length:Int),l3,i4,i5):Option (List Bs×Int×List Bs×Int×Int))).bind fun(l7,i8,l9,i10,i11)=>
 F_slices_Concat_byte_byte_l0 N n (l7,i8,l9,i10,wadd .i64 i11 1)) else some (l1,i2):=rfl
theorem cc_step1(N n:Nat) (l15:List Bs) (i16 i17:Int) (l18:Bs):F_slices_Concat_byte_byte_l1 N (n+1) (l15,i16,i17,l18)=bif decide (i17<i16) then((ix l15 i17).bind fun e19=>(app 1 l18 e19).bind fun l20=>F_slices_Concat_byte_byte_l1 N n (l15,i16,wadd .i64 i17 1,l20)) else some l18:=rfl
theorem cc_l0(N:Nat) (xs:List Bs) (hx:xs.length<4611686018427387904):∀(k n i s:Nat),xs.length-i=k→i≤xs.length→k<n→s+(xs.drop i).flatten.length≤1099511627776→
 F_slices_Concat_byte_byte_l0 N n (xs,(s:Int),xs,(xs.length:Int),(i:Int))=some (xs,((s+(xs.drop i).flatten.length:Nat):Int)):=by
 intro k
 induction k with
 |zero=>
  intro n i s hk hi hn _
  obtain⟨n,rfl⟩:∃m,n=m+1:=⟨n-1,by omega⟩
  rw[cc_step0,decide_eq_false (by omega:¬(i:Int)<(xs.length:Int)),List.drop_eq_nil_of_le (by omega)]
  rfl
 |succ k ih=>
  intro n i s hk hi hn hs
  obtain⟨n,rfl⟩:∃m,n=m+1:=⟨n-1,by omega⟩
  have hlt:i<xs.length:=by omega
  rw[List.drop_eq_getElem_cons hlt,List.flatten_cons,List.length_append]at hs
  rw[cc_step0,decide_eq_true (by omega:(i:Int)<(xs.length:Int)),cond_true,ix_get (List.getElem?_eq_getElem hlt)]
  simp only[Option.bind_some]
  rw[wad_in (by omega),show(s:Int)+((xs[i].length:Nat):Int)=((s+xs[i].length:Nat):Int) from by omega,decide_eq_false (by omega:¬((s+xs[i].length:Nat):Int)<0)]
  simp only[cond_false,Option.bind_some]
  rw[wad1 (by omega),ih n (i+1) _ (by omega) (by omega) (by omega) (by omega),List.drop_eq_getElem_cons hlt,List.flatten_cons,List.length_append,Nat.add_assoc]
theorem cc_l1(N:Nat) (xs:List Bs) (hx:xs.length<4611686018427387904):∀(k n i:Nat) (l:Bs),xs.length-i=k→i≤xs.length→k<n→l.length+(xs.drop i).flatten.length≤1099511627776→
 F_slices_Concat_byte_byte_l1 N n (xs,(xs.length:Int),(i:Int),l)=some (l++(xs.drop i).flatten):=by
 intro k
 induction k with
 |zero=>
  intro n i l hk hi hn _
  obtain⟨n,rfl⟩:∃m,n=m+1:=⟨n-1,by omega⟩
  rw[cc_step1,decide_eq_false (by omega:¬(i:Int)<(xs.length:Int)),List.drop_eq_nil_of_le (by omega)]
  simp
 |succ k ih=>
  intro n i l hk hi hn hs
  obtain⟨n,rfl⟩:∃m,n=m+1:=⟨n-1,by omega⟩
  have hlt:i<xs.length:=by omega
  rw[List.drop_eq_getElem_cons hlt,List.flatten_cons,List.length_append]at hs
  rw[cc_step1,decide_eq_true (by omega:(i:Int)<(xs.length:Int)),cond_true,ix_get (List.getElem?_eq_getElem hlt)]
  simp only[Option.bind_some]
  have happ:app 1 l xs[i]=some (l++xs[i]):=by
   unfold app limit
   rw[if_pos ⟨by omega,by omega⟩]
  rw[happ]
  simp only[Option.bind_some]
  rw[wad1 (by omega),ih n (i+1) _ (by omega) (by omega) (by omega) (by rw[List.length_append];omega),List.drop_eq_getElem_cons hlt,List.flatten_cons,List.append_assoc]
theorem concat_val(N:Nat) (xs:List Bs) (hN:xs.length<N) (hN2:N<4611686018427387904) (hl:xs.flatten.length≤1099511627776):F_slices_Concat_byte_byte N xs=some xs.flatten:=by
 unfold F_slices_Concat_byte_byte
 have h0:=cc_l0 N xs (by omega) xs.length N 0 0 rfl (by omega) hN (by simpa using hl)
 rw[List.drop_zero,Nat.zero_add]at h0
 rw[show F_slices_Concat_byte_byte_l0 N N (xs,0,xs,(xs.length:Int),0)=_ from h0]
 simp only[Option.bind_some]
 have hg:F_Grow ((xs.flatten.length:Nat):Int)=some []:=by
  unfold F_Grow limit
  rw[decide_eq_true (by omega:(0:Int)≤((xs.flatten.length:Nat):Int)),decide_eq_true (by omega:((xs.flatten.length:Nat):Int)≤((1099511627776:Nat):Int))]
  rfl
 rw[hg]
 simp only[Option.bind_some]
 have h1:=cc_l1 N xs (by omega) xs.length N 0 [] rfl (by omega) hN (by simpa using hl)
 rw[List.drop_zero,List.nil_append]at h1
 rw[show F_slices_Concat_byte_byte_l1 N N (xs,(xs.length:Int),0,[])=_ from h1]
 rfl
def tlv(c:Nat) (k:Bool) (num:Nat) (body:List UInt8):List UInt8:=idB c k num::(lenB body.length++body)
theorem tlv_len(c:Nat) (k:Bool) (num:Nat) (body:List UInt8):(tlv c k num body).length=1+(lenB body.length).length+body.length:=by
 unfold tlv
 simp
 omega
theorem encode_val(N:Nat) (hN:20≤N) (hN2:N<4611686018427387904) {c num:Nat}(k:Bool) (hc:c<4) (hu:num<31) (body:List UInt8) (hb:body.length≤2147483647):F_tlv_Encode N (c:Int) k (num:Int) body=some (tlv c k num body,0):=by
 have hl:=lenB_len body.length (by omega)
 unfold F_tlv_Encode
 rw[ident_val k hc hu]
 simp only[Option.bind_some]
 rw[show((0:Int) !=0)=false from rfl,length_val N hN body.length hb]
 simp only[cond_false,Option.bind_some]
 rw[show((0:Int) !=0)=false from rfl,toB_nat]
 simp only[cond_false,Option.bind_some]
 rw[concat_val N _ (by simp;omega) hN2 (by simp;omega)]
 simp[tlv]
end Go.Fw
namespace Go.Fw
open Go
mutual
def encN:Node→Bs
 | .mk c m k b ks=>tlv c.toNat k m.toNat (b++encL ks)
def encL:List Node→Bs
 |[]=>[]
 |n::r=>encN n++encL r
end
theorem node_eta(n:Node):Node.mk n.cls n.num n.cons n.body n.kids=n:=by cases n;rfl
theorem encL_le{d:Nat}(IH:∀n,okN d n→(txN n).length≤1000000→(encN n).length≤2*(txN n).length):∀ks,okL d ks→(txR ks).length≤1000000→(encL ks).length≤2*(txR ks).length
 |[],_,_=>by simp[encL]
 |n::r,h,hl=>by
  have h:okN d n∧okL d r:=h
  simp only[txR,encL,List.length_append,List.length_cons]at hl⊢
  have h1:=IH n h.1 (by omega)
  have h2:=encL_le IH r h.2 (by omega)
  omega
theorem encL_le'{d:Nat}(IH:∀n,okN d n→(txN n).length≤1000000→(encN n).length≤2*(txN n).length) (ks:List Node) (h:okL d ks) (hl:(txL ks).length≤1000000):(encL ks).length≤2*(txL ks).length:=by
 cases ks with
 |nil=>simp[encL]
 |cons n r=>
  have h:okN d n∧okL d r:=h
  simp only[txL,encL,List.length_append]at hl⊢
  have h1:=IH n h.1 (by omega)
  have h2:=encL_le IH r h.2 (by omega)
  omega
theorem txN_len(c m:Int) (k:Bool) (b:Bs) (ks:List Node):(txN (.mk c m k b ks)).length=if k then 4+(txL ks).length else 3+2*b.length:=by
 rw[txN,List.length_append,hexL_length]
 cases k<;>simp[hexL_length]<;>omega
theorem body_le{d:Nat}{c m:Int}{k:Bool}{b:Bs}{ks:List Node}(hok:okN (d+1) (.mk c m k b ks)) (hl:(txN (.mk c m k b ks)).length≤1000000) (IH:∀n,okN d n→(txN n).length≤1000000→(encN n).length≤2*(txN n).length):(b++encL ks).length+6≤2*(txN (.mk c m k b ks)).length:=by
 obtain⟨hc,hm,hb,hks,hL⟩:=hok
 rw[txN_len]at hl⊢
 cases k with
 |false=>
  rw[hks rfl]
  simp only[encL,List.append_nil,Bool.false_eq_true,if_false]at hl⊢
  omega
 |true=>
  rw[hb rfl]
  simp only[List.nil_append,if_true]at hl⊢
  have:=encL_le' IH ks hL (by omega)
  omega
theorem encN_le:∀(d:Nat) (n:Node),okN d n→(txN n).length≤1000000→(encN n).length≤2*(txN n).length
 |0,n,h,_=>by cases n;exact False.elim h
 |d+1,.mk c m k b ks,hok,hl=>by
  have h1:=body_le hok hl (encN_le d)
  rw[encN,tlv_len]
  have h2:=lenB_len (b++encL ks).length (by omega)
  omega
theorem app_ok{α:Type}{by' :Nat}{xs ys:List α}(h:(xs.length+ys.length)*by'≤1000000000) (h2:xs.length+ys.length≤1000000000):app by' xs ys=some (xs++ys):=by
 unfold app limit
 rw[if_pos ⟨by omega,by omega⟩]
theorem ix_at{α:Type}{l:List α}{i:Nat}(h:i<l.length):ix l (i:Int)=some l[i]:=ix_n (List.getElem?_eq_getElem h)
theorem lt_i{i n:Nat}(h:i<n):decide ((i:Int)<(n:Int))=true:=decide_eq_true (by omega)
theorem ge_i{i n:Nat}(h:n≤i):decide ((i:Int)<(n:Int))=false:=decide_eq_false (by omega)
theorem inc_i{i:Nat}(h:i<1000000000):wadd .i64 (i:Int) 1=((i+1:Nat):Int):=by
 show IntKind.i64.wrap ((i:Int)+1)=_
 rw[Go.IntWalk.i64_in _ (by omega)];omega
theorem dec_i{d:Nat}(h:d<1000000000):wsub .i64 ((d+1:Nat):Int) 1=(d:Int):=by
 show IntKind.i64.wrap _=_
 rw[Go.IntWalk.i64_in _ (by omega)];omega
theorem okL_mem{d:Nat}:∀{ks:List Node}{x:Node},okL d ks→x ∈ ks→okN d x
 |k::ks,x,h,hx=>by
  rcases List.mem_cons.1 hx with rfl|h1
  ·exact h.1
  ·exact okL_mem h.2 h1
theorem valid_loop(N:Nat) (R:Node→Int→Option Bool) (l:List Node) (a2:Int) (hl:l.length<1000000) (hR:∀x ∈ l,R x (wsub .i64 a2 1)=some true) (x7 x8:Int) (c9:Bool) (l10:Bs) (l11:List Node) (i12:Int):
 ∀(k n i:Nat),l.length-i=k→i≤l.length→k<n→F_tree_valid_l0 N R n (l,a2,(l.length:Int),(i:Int),x7,x8,c9,l10,l11,i12)=some (Sum.inr (x7,x8,c9,l10,l11,i12))
 |0,n+1,i,hk,hi,_=>by
  rw[s_tree_valid_l0,ge_i (by omega)];rfl
 |k+1,n+1,i,hk,hi,hn=>by
  have hlt:i<l.length:=by omega
  rw[s_tree_valid_l0,lt_i hlt,cond_true,ix_at hlt,Option.bind_some,node_eta,hR _ (List.getElem_mem hlt),Option.bind_some,Bool.not_true,cond_false,inc_i (by omega)]
  exact valid_loop N R l a2 hl hR x7 x8 c9 l10 l11 i12 k n (i+1) (by omega) (by omega) (by omega)
theorem ident_ok{c m:Int}(k:Bool) (hc:0≤c∧c≤3) (hm:0≤m∧m≤30):F_tlv_Identifier c k m=some (((idB c.toNat k m.toNat).toNat:Int),0):=by
 have:=ident_val (c:=c.toNat) (num:=m.toNat) k (by omega) (by omega)
 rwa[Int.toNat_of_nonneg hc.1,Int.toNat_of_nonneg hm.1]at this
theorem valid_ok(N:Nat) (hN:1000000<N):∀(d m:Nat) (n:Node),d<1000→d<m→okN d n→(txN n).length<1000000→F_tree_valid N m n (d:Int)=some true
 |0,_,n,_,_,h,_=>by cases n;exact False.elim h
 |d+1,f+1,.mk c m k b ks,hd,hf,hok,hl=>by
  have hok0:=hok
  obtain⟨hc,hm,hb,hks,hL⟩:=hok
  rw[txN_len]at hl
  have e0:(((d+1:Nat):Int)==0)=false:=beq_eq_false_iff_ne.2 (by omega)
  have hlen:ks.length<1000000:=by
   cases k with
   |false=>rw[hks rfl];simp
   |true=>have:=txL_len' ks;simp only[if_true]at hl;omega
  have hloop:=valid_loop N (F_tree_valid N f) ks ((d+1:Nat):Int) hlen (fun x hx=>by
   rw[dec_i (by omega)]
   refine valid_ok N hN d f x (by omega) (by omega) (okL_mem hL hx) ?_
   cases k with
   |false=>rw[hks rfl]at hx;cases hx
   |true=>exact Nat.lt_of_le_of_lt (mem_txL hx) (by simp only[if_true]at hl;omega)) c m k b ks ((d+1:Nat):Int) (ks.length) N 0 (by omega) (by omega) (by omega)
  rw[m_tree_valid,ident_ok k hc hm,Option.bind_some]
  simp only[e0]
  cases k with
  |false=>
   have:=hks rfl
   subst this
   simp only[bne_self_eq_false,cond_false,cond_true,Bool.not_false]
   rw[show decide (((([]:List Node).length:Nat):Int)>0)=false from rfl,cond_false]
   rw[show(0:Int)=((0:Nat):Int) from rfl,hloop]
   rfl
  |true=>
   have:=hb rfl
   subst this
   simp only[bne_self_eq_false,cond_false,cond_true,Bool.not_true]
   rw[show decide (((([]:Bs).length:Nat):Int)>0)=false from rfl,cond_false]
   rw[show(0:Int)=((0:Nat):Int) from rfl,hloop]
   rfl
where
 mem_txL {x:Node}:∀{ks:List Node},x ∈ ks→(txN x).length≤(txL ks).length:=fun {ks} h=>by
  have hR:∀{ks:List Node},x ∈ ks→(txN x).length≤(txR ks).length:=by
   intro ks
   induction ks with
   |nil=>intro h;cases h
   |cons k ks ih=>
    intro h
    simp only[txR,List.length_append,List.length_cons]
    rcases List.mem_cons.1 h with rfl|h
    ·omega
    ·have:=ih h;omega
  cases ks with
  |nil=>cases h
  |cons k ks=>
   simp only[txL,List.length_append]
   rcases List.mem_cons.1 h with rfl|h
   ·omega
   ·have:=hR h;omega
end Go.Fw
namespace Go.Fw
open Go
theorem mem_txR{x:Node}:∀{ks:List Node},x ∈ ks→(txN x).length≤(txR ks).length
 |k::ks,h=>by
  simp only[txR,List.length_append,List.length_cons]
  rcases List.mem_cons.1 h with rfl|h
  ·omega
  ·have:=mem_txR h;omega
theorem mem_txL{x:Node}:∀{ks:List Node},x ∈ ks→(txN x).length≤(txL ks).length
 |k::ks,h=>by
  simp only[txL,List.length_append]
  rcases List.mem_cons.1 h with rfl|h
  ·omega
  ·have:=mem_txR h;omega
structure Kid (d:Nat) (c m:Int) (k:Bool) (b:Bs) (ks:List Node):Prop where
 hc:0≤c∧c≤3
 hm:0≤m∧m≤30
 hb:k=true→b=[]
 hk:k=false→ks=[]
 len:ks.length<1000000
 body:(b++encL ks).length<2000000
 kid:∀x ∈ ks,okN d x∧(txN x).length<1000000
theorem kd_of{d:Nat}{c m:Int}{k:Bool}{b:Bs}{ks:List Node}(hok:okN (d+1) (.mk c m k b ks)) (hl:(txN (.mk c m k b ks)).length<1000000):Kid d c m k b ks:=by
 have hbl:=body_le hok (by omega) (encN_le d)
 obtain⟨hc,hm,hb,hks,hL⟩:=hok
 rw[txN_len]at hl
 refine⟨hc,hm,hb,hks,?_,by rw[txN_len]at hbl;cases k<;>simp only[if_true,Bool.false_eq_true,if_false]at hl hbl<;>omega,fun x hx=>⟨okL_mem hL hx,?_⟩⟩
 ·cases k with
  |false=>rw[hks rfl];simp
  |true=>have:=txL_len' ks;simp only[if_true]at hl;omega
 ·cases k with
  |false=>rw[hks rfl]at hx;cases hx
  |true=>exact Nat.lt_of_le_of_lt (mem_txL hx) (by simp only[if_true]at hl;omega)
theorem drop_cons{α:Type}{l:List α}{i:Nat}(h:i<l.length):l.drop i=l[i]::l.drop (i+1):=List.drop_eq_getElem_cons h
theorem encode_loop(N:Nat) (R:Node→Option (Bs×Int)) (l:List Node) (hl:l.length<1000000) (hR:∀x ∈ l,R x=some (encN x,0)) (x5 x6:Int) (c7:Bool) (l8:Bs) (l9:List Node):
 ∀(k n i:Nat) (acc:Bs),l.length-i=k→i≤l.length→k<n→(acc++encL (l.drop i)).length<1000000000→F_tree_encode_l0 N R n (l,(l.length:Int),(i:Int),x5,x6,c7,l8,l9,acc)=some (Sum.inr (x5,x6,c7,l8,l9,acc++encL (l.drop i)))
 |0,n+1,i,acc,hk,hi,_,_=>by
  rw[s_tree_encode_l0,ge_i (by omega),List.drop_eq_nil_of_le (by omega)]
  simp[encL]
 |k+1,n+1,i,acc,hk,hi,hn,hs=>by
  have hlt:i<l.length:=by omega
  rw[drop_cons hlt,encL,←List.append_assoc]at hs⊢
  have hs2:=hs
  simp only[List.length_append]at hs2
  rw[s_tree_encode_l0,lt_i hlt,cond_true,ix_at hlt,Option.bind_some,node_eta,hR _ (List.getElem_mem hlt)]
  simp only[Option.bind_some,bne_self_eq_false,cond_false]
  rw[app_ok (by omega) (by omega),Option.bind_some,inc_i (by omega)]
  exact encode_loop N R l hl hR x5 x6 c7 l8 l9 k n (i+1) _ (by omega) (by omega) (by omega) hs
theorem encode_ok(N:Nat) (hN:1000000<N) (hN2:N<4611686018427387904):∀(d f:Nat) (n:Node),d<1000→d≤f→okN d n→(txN n).length<1000000→F_tree_encode N f n=some (encN n,0)
 |0,_,n,_,_,h,_=>by cases n;exact False.elim h
 |d+1,f+1,.mk c m k b ks,hd,hf,hok,hl=>by
  have K:=kd_of hok hl
  have hbd:=K.body
  rw[List.length_append]at hbd
  have hloop:=encode_loop N (F_tree_encode N f) ks K.len (fun x hx=>encode_ok N hN hN2 d f x (by omega) (by omega) (K.kid x hx).1 (K.kid x hx).2) c m k b ks ks.length N 0 b (by omega) (by omega) (by have:=K.len;omega) (by simp only[List.drop_zero,List.length_append];omega)
  rw[m_tree_encode,F_CloneO,app_ok (by simp;omega) (by simp;omega),Option.bind_some,List.nil_append,show(0:Int)=((0:Nat):Int) from rfl,hloop]
  simp only[Option.bind_some,List.drop_zero]
  have he:=encode_val N (by omega) hN2 (c:=c.toNat) (num:=m.toNat) k (by have:=K.hc;omega) (by have:=K.hm;omega) (b++encL ks) (by have:=K.body;omega)
  rw[Int.toNat_of_nonneg K.hc.1,Int.toNat_of_nonneg K.hm.1]at he
  rw[he,encN]
  rfl
theorem Encode_ok{N:Nat}(hN:1000000<N) (hN2:N<4611686018427387904) {n:Node}(hok:okN 16 n) (hl:(txN n).length<1000000):F_tree_Encode N n=some (encN n,0):=by
 unfold F_tree_Encode F_tree_Valid
 rw[node_eta,node_eta,show(16:Int)=((16:Nat):Int) from rfl,valid_ok N hN 16 N n (by omega) (by omega) hok hl]
 simp only[Option.bind_some,Bool.not_true,cond_false]
 rw[encode_ok N hN hN2 16 N n (by omega) (by omega) hok hl]
 rfl
end Go.Fw
namespace Go.Fw
open Go
theorem slc_dt{a:Bs}{i j:Nat}(h1:i≤j) (h2:j≤a.length):slc a (i:Int) (j:Int)=some ((a.drop i).take (j-i)):=by
 unfold slc
 rw[if_pos ⟨by omega,by omega,by omega⟩,List.drop_take]
 simp
theorem cut_r{a u v:Bs}{i m:Nat}(h:(a.drop i).take m=u++v):(a.drop (i+u.length)).take (m-u.length)=v:=by
 rw[←List.drop_drop,←List.drop_take,h,List.drop_left]
theorem cut_l{a u v:Bs}{i m:Nat}(h:(a.drop i).take m=u++v):(a.drop i).take u.length=u:=by
 have h1:=congrArg (List.take u.length) h
 rw[List.take_left,List.take_take]at h1
 have h2:=congrArg List.length h
 rw[List.length_take,List.length_append]at h2
 rw[Nat.min_eq_left (by omega)]at h1
 exact h1
theorem cut_len{a u:Bs}{i m:Nat}(h:(a.drop i).take m=u) (hm:i+m≤a.length):m=u.length:=by
 rw[←h,List.length_take,List.length_drop];omega
theorem read_loop(N:Nat) (R:Bs→Int→Int→Int→Option (Spot×(Int×Int))) (a:Bs) (ha:a.length<1000000000) (d stop:Nat) (hd:d<1000) (hst:stop≤a.length) (x27 x28:Int) (x29:Bool) (x25:Int):
 ∀(ks:List Node) (n pos:Nat) (ns:List Node) (ss:List Spot),(∀x ∈ ks,∀(i:Nat) (r:Bs),i≤stop→(a.drop i).take (stop-i)=encN x++r→∃sp:Spot,R a (i:Int) (stop:Int) (d:Int)=some (sp,0,0)∧sp.stop=((i+(encN x).length:Nat):Int)∧sp.nd=x)→
  (∀x ∈ ks,encN x≠[])→ks.length<n→pos≤stop→(a.drop pos).take (stop-pos)=encL ks→ns.length+ks.length<1000000→ss.length+ks.length<1000000→
  ∃ss',F_tree_read_l0 N R n (a,((d+1:Nat):Int),(pos:Int),0,0,0,0,false,[],0,0,ns,ss,x25,(stop:Int),x27,x28,x29)=some (Sum.inr (0,0,0,0,false,[],0,0,ns++ks,ss',x25,(stop:Int),x27,x28,x29))
 |[],n+1,pos,ns,ss,_,_,_,hp,he,_,_=>by
  have:stop-pos=0:=cut_len (u:=[]) (by simpa[encL] using he) (by omega)
  rw[s_tree_read_l0,ge_i (by omega),List.append_nil]
  exact⟨ss,rfl⟩
 |x::ks,n+1,pos,ns,ss,hR,hne,hn,hp,he,h1,h2=>by
  rw[encL]at he
  have hx:=hne x (by simp)
  have hlen:=cut_len he (by omega)
  rw[List.length_append]at hlen
  have hpos:0<(encN x).length:=List.length_pos_iff.2 hx
  obtain⟨sp,r1,r2,r3⟩:=hR x (by simp) pos _ hp he
  simp only[List.length_cons]at h1 h2 hn
  rw[s_tree_read_l0,lt_i (by omega),cond_true,dec_i (by omega),r1]
  simp only[Option.bind_some,bne_self_eq_false,cond_false]
  rw[app_ok (by simp only[List.length_cons,List.length_nil];omega) (by simp only[List.length_cons,List.length_nil];omega),Option.bind_some,app_ok (by simp only[List.length_cons,List.length_nil];omega) (by simp only[List.length_cons,List.length_nil];omega),Option.bind_some,r2,node_eta,r3]
  have:=read_loop N R a ha d stop hd hst x27 x28 x29 x25 ks n (pos+(encN x).length) (ns++[x]) (ss++[Spot.mk sp.at' ((pos+(encN x).length:Nat):Int) x sp.kids]) (fun y hy=>hR y (by simp[hy])) (fun y hy=>hne y (by simp[hy])) (by omega) (by omega)
   (by rw[show stop-(pos+(encN x).length)=stop-pos-(encN x).length from by omega];exact cut_r he) (by simp only[List.length_append,List.length_cons,List.length_nil];omega) (by simp only[List.length_append,List.length_cons,List.length_nil];omega)
  obtain⟨ss',e⟩:=this
  exact⟨ss',by rw[e];simp⟩
theorem encN_ne(n:Node):encN n≠[]:=by cases n;simp[encN,tlv]
theorem read_ok(N:Nat) (hN:1000000<N) (hN2:N<4611686018427387904) (a:Bs) (ha:a.length<1000000000):∀(d f:Nat) (n:Node) (i j:Nat) (r:Bs),d<1000→d≤f→okN d n→(txN n).length<1000000→i≤j→j≤a.length→(a.drop i).take (j-i)=encN n++r→
 ∃sp:Spot,F_tree_read N f a (i:Int) (j:Int) (d:Int)=some (sp,0,0)∧sp.stop=((i+(encN n).length:Nat):Int)∧sp.nd=n
 |0,_,n,_,_,_,_,_,h,_,_,_,_=>by cases n;exact False.elim h
 |d+1,f+1,.mk c m k b ks,i,j,r,hd,hf,hok,hl,hij,hj,he=>by
  have K:=kd_of hok hl
  have hbd:=K.body
  have e0:(((d+1:Nat):Int)==0)=false:=beq_eq_false_iff_ne.2 (by omega)
  have htl:=tlv_len c.toNat k m.toNat (b++encL ks)
  have hlb:=lenB_len (b++encL ks).length (by omega)
  have hlen:=cut_len he (by omega)
  rw[List.length_append,encN]at hlen
  have hh:=header_val N (by omega) (c:=c.toNat) (num:=m.toNat) k (by have:=K.hc;omega) (by have:=K.hm;omega) (n:=(b++encL ks).length) (by omega) (b++encL ks++r)
  rw[Int.toNat_of_nonneg K.hc.1,Int.toNat_of_nonneg K.hm.1]at hh
  have he2:(a.drop i).take (j-i)=(idB c.toNat k m.toNat::lenB (b++encL ks).length)++((b++encL ks)++r):=by
   rw[he,encN,tlv];simp
  have hc1:=cut_r he2
  have hc2:=cut_l hc1
  simp only[List.length_cons]at hc1 hc2
  rw[s_tree_read,e0]
  simp only[cond_false]
  rw[decide_eq_true (Int.le_refl _),decide_eq_true (show(j:Int)≤((a.length:Nat):Int) by omega)]
  simp only[Bool.and_self,cond_true]
  rw[slc_dt hij hj,Option.bind_some,show(a.drop i).take (j-i)=idB c.toNat k m.toNat::(lenB (b++encL ks).length++(b++encL ks++r)) from by rw[he2];simp,hh]
  simp only[Option.bind_some,bne_self_eq_false,cond_false]
  have e2:wadd .i64 (i:Int) ((1+(lenB (b++encL ks).length).length:Nat):Int)=((i+(1+(lenB (b++encL ks).length).length):Nat):Int):=by
   rw[wad_in (by omega)];omega
  rw[e2]
  have e1:wsub .i64 (j:Int) ((i+(1+(lenB (b++encL ks).length).length):Nat):Int)=((j-(i+(1+(lenB (b++encL ks).length).length)):Nat):Int):=by
   rw[wsb_in (by omega)];omega
  rw[e1,decide_eq_false (by omega)]
  simp only[cond_false]
  have e3:wadd .i64 ((i+(1+(lenB (b++encL ks).length).length):Nat):Int) ((b++encL ks).length:Int)=((i+(encN (.mk c m k b ks)).length:Nat):Int):=by
   rw[wad_in (by omega),encN];omega
  rw[e3]
  cases k with
  |false=>
   have hk:=K.hk rfl
   subst hk
   simp only[Bool.not_false,cond_true]
   rw[slc_dt (by rw[encN];omega) (by rw[encN];omega),Option.bind_some]
   have e4:(a.drop (i+(1+(lenB (b++encL []).length).length))).take (i+(encN (.mk c m false b [])).length-(i+(1+(lenB (b++encL []).length).length)))=b:=by
    have:i+(encN (.mk c m false b [])).length-(i+(1+(lenB (b++encL []).length).length))=(b++encL []).length:=by rw[encN];omega
    rw[this,Nat.add_comm 1,hc2]
    simp[encL]
   rw[e4]
   simp only[F_Clone]
   rw[app_ok (by simp[encL]at hbd⊢;omega) (by simp[encL]at hbd⊢;omega)]
   exact⟨_,rfl,rfl,rfl⟩
  |true=>
   have hb:=K.hb rfl
   subst hb
   simp only[Bool.not_true,cond_false]
   have hloop:=read_loop N (F_tree_read N f) a ha d (i+(encN (.mk c m true [] ks)).length) (by omega) (by rw[encN];omega) c m true (i:Int) ks N (i+(1+(lenB ([]++encL ks).length).length)) [] []
    (fun x hx i' r' hi' he' =>read_ok N hN hN2 a ha d f x i' (i+(encN (.mk c m true [] ks)).length) r' (by omega) (by omega) (K.kid x hx).1 (K.kid x hx).2 hi' (by rw[encN];omega) he')
    (fun x _=>encN_ne x) (by have:=K.len;omega) (by rw[encN];omega)
    (by
      have:i+(encN (.mk c m true [] ks)).length-(i+(1+(lenB ([]++encL ks).length).length))=([]++encL ks).length:=by rw[encN];omega
      rw[this,Nat.add_comm 1,hc2]
      simp)
    (by simpa using K.len) (by simpa using K.len)
   obtain⟨ss',hloop⟩:=hloop
   rw[hloop]
   exact⟨_,rfl,rfl,by simp[Spot.nd]⟩
theorem Parse_ok{N:Nat}(hN:1000000<N) (hN2:N<4611686018427387904) {n:Node}(hok:okN 16 n) (hl:(txN n).length<1000000):F_tree_Parse N (encN n)=some (n,0,0):=by
 have hle:=encN_le 16 n hok (by omega)
 obtain⟨sp,h1,h2,h3⟩:=read_ok N hN hN2 (encN n) (by omega) 16 N n 0 (encN n).length [] (by omega) (by omega) hok hl (by omega) (by omega) (by simp)
 unfold F_tree_Parse F_tree_whole
 rw[show F_tree_read N N (encN n) 0 ((encN n).length:Int) 16=_ from h1]
 simp only[Option.bind_some]
 rw[show((0:Int)==0)=true from rfl,cond_true,h2,decide_eq_false (by omega)]
 simp only[cond_false,Option.bind_some]
 rw[h3]
 show some (Node.mk n.cls n.num n.cons n.body n.kids,_)=_
 rw[node_eta]
end Go.Fw
namespace Go.Fw
open Go
theorem cat_ok{a b:Bs}(h:a.length+b.length≤1000000000):cat a b=some (a++b):=by
 unfold cat
 rw[if_pos (by omega)]
theorem idO_idB(c m:Int) (k:Bool):idO c k m=idB c.toNat k m.toNat:=rfl
theorem join_cons(x y:Bs) (l:List Bs):Lib.join (x::y::l) ([32]:Bs)=x++(32::Lib.join (y::l) [32]):=by simp[Lib.join]
theorem join_txR:∀(ks:List Node) (n:Node),Lib.join ((n::ks).map txN) ([32]:Bs)=txL (n::ks)
 |[],n=>by simp[Lib.join,txL,txR]
 |k::ks,n=>by
  have:=join_txR ks k
  simp only[List.map_cons]at this⊢
  rw[join_cons,this]
  simp[txL,txR]
theorem join_txL(ks:List Node):Lib.join (ks.map txN) ([32]:Bs)=txL ks:=by
 cases ks with
 |nil=>simp[Lib.join,txL]
 |cons n ks=>exact join_txR ks n
theorem text_loop(N:Nat) (R:Node→Option Bs) (l:List Node) (hl:l.length<1000000) (hR:∀x ∈ l,R x=some (txN x)) (s7:Bs):
 ∀(k n i:Nat) (acc:List Bs),l.length-i=k→i≤l.length→k<n→acc.length=i→F_dump_text_l0 N R n (s7,l,(l.length:Int),(i:Int),acc)=some (s7,acc++(l.drop i).map txN)
 |0,n+1,i,acc,hk,hi,_,_=>by
  rw[s_dump_text_l0,ge_i (by omega),List.drop_eq_nil_of_le (by omega)]
  simp
 |k+1,n+1,i,acc,hk,hi,hn,hs=>by
  have hlt:i<l.length:=by omega
  rw[drop_cons hlt,s_dump_text_l0,lt_i hlt,cond_true,ix_at hlt,Option.bind_some,node_eta,hR _ (List.getElem_mem hlt)]
  simp only[Option.bind_some]
  rw[app_ok (by simp only[List.length_cons,List.length_nil];omega) (by simp only[List.length_cons,List.length_nil];omega),Option.bind_some,inc_i (by omega),text_loop N R l hl hR s7 k n (i+1) _ (by omega) (by omega) (by omega) (by simp[hs])]
  rw[List.append_assoc]
  rfl
theorem text_ok(N:Nat) (hN:1000000<N):∀(d f:Nat) (n:Node),d≤f→okN d n→(txN n).length<1000000→F_dump_text N f n=some (txN n)
 |0,_,n,_,h,_=>by cases n;exact False.elim h
 |d+1,f+1,.mk c m k b ks,hf,hok,hl=>by
  have K:=kd_of hok hl
  have hlt:=txN_len c m k b ks
  have hh:(hexL [idO c k m]).length=2:=by rw[hexL_length];rfl
  rw[m_dump_text,F_dump_identifier]
  simp only[Node.cls,Node.num,Node.cons]
  rw[ident_ok k K.hc K.hm]
  simp only[Option.bind_some]
  rw[toB_nat,Option.bind_some,←idO_idB,hexF_val (by simp),Option.bind_some]
  cases k with
  |false=>
   simp only[Bool.false_eq_true,if_false]at hlt
   simp only[Bool.not_false,cond_true]
   rw[cat_ok (by simp[hh]),Option.bind_some,hexF_val (by omega),Option.bind_some,cat_ok (by simp[hh,hexL_length];omega),Option.bind_some,txN]
   simp
  |true=>
   simp only[if_true]at hlt
   have hloop:=text_loop N (F_dump_text N f) ks K.len (fun x hx=>text_ok N hN d f x (by omega) (K.kid x hx).1 (K.kid x hx).2) (hexL [idO c true m]) ks.length N 0 [] (by omega) (by omega) (by have:=K.len;omega) rfl
   simp only[Bool.not_true,cond_false]
   rw[show(0:Int)=((0:Nat):Int) from rfl,hloop]
   simp only[Option.bind_some,List.drop_zero,List.nil_append]
   rw[cat_ok (by simp[hh]),Option.bind_some]
   unfold F_Join
   rw[join_txL,show Nat.ble (ks.map txN).length joinMax=true from Nat.ble_eq_true_of_le (by have:=K.len;unfold joinMax;simp;omega),show Nat.ble (txL ks).length joinMax=true from Nat.ble_eq_true_of_le (by unfold joinMax;omega)]
   simp only[Bool.and_self,cond_true,Option.bind_some]
   rw[cat_ok (by simp[hh];omega),Option.bind_some,cat_ok (by simp[hh];omega),Option.bind_some,txN]
   simp
theorem Tree_ok{N:Nat}(hN:1000000<N) (hN2:N<4611686018427387904) {n:Node}(hok:okN 16 n) (hl:(txN n).length<1000000):F_dump_Tree N (encN n)=some (txN n,0,0):=by
 unfold F_dump_Tree
 rw[Parse_ok hN hN2 hok hl]
 simp only[Option.bind_some,bne_self_eq_false,cond_false]
 rw[node_eta,text_ok N hN 16 N n (by omega) hok hl]
 rfl
theorem rident_all' :((List.range 4).all fun c=>(List.range 31).all fun m=>[true,false].all fun k=>decide (F_cref02_Identifier (c:Nat) k (m:Nat)=some (((idB c k m).toNat:Int),0)))=true:=by decide+kernel
theorem rident_ok{c m:Int}(k:Bool) (hc:0≤c∧c≤3) (hm:0≤m∧m≤30):F_cref02_Identifier c k m=some (((idB c.toNat k m.toNat).toNat:Int),0):=by
 have h1:=List.all_eq_true.1 (List.all_eq_true.1 (List.all_eq_true.1 rident_all' c.toNat (List.mem_range.2 (by omega))) m.toNat (List.mem_range.2 (by omega))) k (by cases k<;>simp)
 have h2:=of_decide_eq_true h1
 rwa[Int.toNat_of_nonneg hc.1,Int.toNat_of_nonneg hm.1]at h2
def hex2(x:Nat):Bool:=match slc ([48,49,50,51,52,53,54,55,56,57,97,98,99,100,101,102]:Bs) (wquo .u8 ((UInt8.ofNat x).toNat:Int) 16) (wadd .u8 (wquo .u8 ((UInt8.ofNat x).toNat:Int) 16) 1),slc ([48,49,50,51,52,53,54,55,56,57,97,98,99,100,101,102]:Bs) (Int.tmod ((UInt8.ofNat x).toNat:Int) 16) (wadd .u8 (Int.tmod ((UInt8.ofNat x).toNat:Int) 16) 1) with
 |some a,some b=>decide (a=[hexAt (x / 16)]∧b=[hexAt (x % 16)])
 |_,_=>false
theorem hex2_all:((List.range 256).all hex2)=true:=by decide+kernel
theorem hex2_ok(x:UInt8):slc ([48,49,50,51,52,53,54,55,56,57,97,98,99,100,101,102]:Bs) (wquo .u8 (x.toNat:Int) 16) (wadd .u8 (wquo .u8 (x.toNat:Int) 16) 1)=some [hexAt (x.toNat / 16)]∧
 slc ([48,49,50,51,52,53,54,55,56,57,97,98,99,100,101,102]:Bs) (Int.tmod (x.toNat:Int) 16) (wadd .u8 (Int.tmod (x.toNat:Int) 16) 1)=some [hexAt (x.toNat % 16)]:=by
 have h:=List.all_eq_true.1 hex2_all x.toNat (List.mem_range.2 x.toNat_lt)
 unfold hex2 at h
 rw[UInt8.ofNat_toNat]at h
 split at h
 ·rename_i a b h1 h2
  obtain⟨rfl,rfl⟩:=of_decide_eq_true h
  exact⟨h1,h2⟩
 ·cases h
theorem rhex_loop(N:Nat) (l:Bs) (hl:l.length<1000000):∀(k n i:Nat) (acc:Bs),l.length-i=k→i≤l.length→k<n→acc.length=2*i→F_cref12_Hex_l0 N n (l,acc,(i:Int))=some (acc++hexL (l.drop i))
 |0,n+1,i,acc,hk,hi,_,_=>by
  rw[s_cref12_Hex_l0,ge_i (by omega),List.drop_eq_nil_of_le (by omega)]
  simp[hexL]
 |k+1,n+1,i,acc,hk,hi,hn,hs=>by
  have hlt:i<l.length:=by omega
  obtain⟨h1,h2⟩:=hex2_ok l[i]
  rw[drop_cons hlt,s_cref12_Hex_l0,lt_i hlt,cond_true]
  simp only[ix_at hlt,Option.bind_some,h1,h2]
  rw[cat_ok (by simp;omega),Option.bind_some,cat_ok (by simp;omega),Option.bind_some,inc_i (by omega),rhex_loop N l hl k n (i+1) _ (by omega) (by omega) (by omega) (by simp;omega)]
  simp only[List.append_assoc]
  rfl
theorem rhex_ok{N:Nat}(hN:1000000<N) {l:Bs}(hl:l.length<1000000):F_cref12_Hex N l=some (hexL l):=by
 unfold F_cref12_Hex
 rw[show(0:Int)=((0:Nat):Int) from rfl,rhex_loop N l hl l.length N 0 [] (by omega) (by omega) (by omega) rfl]
 simp
end Go.Fw
namespace Go.Fw
open Go
theorem rtext_loop(N:Nat) (R:Node→Option Bs) (l:List Node) (hl:l.length<1000000) (hR:∀x ∈ l,R x=some (txN x)) (x11 x12:Int) (c13:Bool) (l14:Bs):
 ∀(k n i:Nat) (acc:Bs),l.length-i=k→i≤l.length→k<n→acc.length+(txR (l.drop i)).length<10000000→F_cref29_Text_l0 N R n (acc,(i:Int),x11,x12,c13,l14,l)=some (acc++if i=0 then txL l else txR (l.drop i))
 |0,n+1,i,acc,hk,hi,_,_=>by
  rw[s_cref29_Text_l0,ge_i (by omega),List.drop_eq_nil_of_le (by omega)]
  by_cases h0:i=0
  ·have:l=[]:=List.eq_nil_of_length_eq_zero (by omega)
   rw[if_pos h0,this];simp[txL]
  ·rw[if_neg h0];simp[txR]
 |k+1,n+1,i,acc,hk,hi,hn,hs=>by
  have hlt:i<l.length:=by omega
  rw[drop_cons hlt]at hs
  simp only[txR,List.length_append,List.length_cons,List.length_nil]at hs
  have key:∀acc' :Bs,acc'.length≤acc.length+1→((ix l (i:Int)).bind fun e24=>(R (Fw.Node.mk e24.cls e24.num e24.cons e24.body e24.kids)).bind fun s25=>(cat acc' s25).bind fun s26=>F_cref29_Text_l0 N R n (s26,wadd .i64 (i:Int) 1,x11,x12,c13,l14,l))=some (acc' ++(txN l[i]++txR (l.drop (i+1)))):=fun acc' ha=>by
   rw[ix_at hlt,Option.bind_some,node_eta,hR _ (List.getElem_mem hlt),Option.bind_some,cat_ok (by omega),Option.bind_some,inc_i (by omega),rtext_loop N R l hl hR x11 x12 c13 l14 k n (i+1) _ (by omega) (by omega) (by omega) (by rw[List.length_append];omega),if_neg (by omega),List.append_assoc]
  rw[s_cref29_Text_l0,lt_i hlt,cond_true]
  by_cases h0:i=0
  ·subst h0
   rw[show decide (((0:Nat):Int)>0)=false from rfl,cond_false,Option.bind_some,if_pos rfl]
   refine(key acc (by omega)).trans ?_
   have:l=l[0]::l.drop 1:=by
    have:=drop_cons hlt
    rwa[List.drop_zero]at this
   conv=>rhs;rw[this]
   rfl
  ·rw[decide_eq_true (show((i:Nat):Int)>0 by omega),cond_true,cat_ok (by simp;omega),Option.bind_some,Option.bind_some,if_neg h0]
   refine(key (acc++[32]) (by simp)).trans ?_
   rw[drop_cons hlt,txR,List.append_assoc]
theorem rtext_ok(N:Nat) (hN:1000000<N):∀(d f:Nat) (n:Node),d≤f→okN d n→(txN n).length<1000000→F_cref29_Text N f n=some (txN n)
 |0,_,n,_,h,_=>by cases n;exact False.elim h
 |d+1,f+1,.mk c m k b ks,hf,hok,hl=>by
  have K:=kd_of hok hl
  have hlt:=txN_len c m k b ks
  have hh:(hexL [idO c k m]).length=2:=by rw[hexL_length];rfl
  rw[m_cref29_Text,rident_ok k K.hc K.hm]
  simp only[Option.bind_some]
  rw[toB_nat,Option.bind_some,←idO_idB,rhex_ok hN (by simp),Option.bind_some]
  cases k with
  |false=>
   simp only[Bool.false_eq_true,if_false]at hlt
   simp only[Bool.not_false,cond_true]
   rw[cat_ok (by simp[hh]),Option.bind_some,rhex_ok hN (by omega),Option.bind_some,cat_ok (by simp[hh,hexL_length];omega),Option.bind_some,txN]
   simp
  |true=>
   simp only[if_true]at hlt
   have hR:(txR ks).length≤(txL ks).length+1:=by
    cases ks with
    |nil=>simp[txR]
    |cons x ks=>simp[txR,txL]
   have hloop:=rtext_loop N (F_cref29_Text N f) ks K.len (fun x hx=>rtext_ok N hN d f x (by omega) (K.kid x hx).1 (K.kid x hx).2) c m true b ks.length N 0 (hexL [idO c true m]++[40]) (by omega) (by omega) (by have:=K.len;omega) (by rw[List.drop_zero];simp[hh];omega)
   simp only[Bool.not_true,cond_false]
   rw[cat_ok (by simp[hh]),Option.bind_some,show(0:Int)=((0:Nat):Int) from rfl,hloop]
   simp only[Option.bind_some,if_true]
   rw[cat_ok (by simp[hh];omega),Option.bind_some,txN]
   simp
theorem wq256{n:Nat}(h:n<18446744073709551616):wquo .u64 (n:Int) 256=((n / 256:Nat):Int):=by
 show IntKind.u64.wrap ((n:Int).tdiv 256)=_
 rw[Int.tdiv_eq_ediv_of_nonneg (by omega),Go.IntWalk.u64_in _ (by omega)]
 omega
theorem rmin_o(N:Nat):∀(g f n:Nat),0<n→n<256 ^ g→g≤f→g≤8→F_cref01_Minimal_o N f (n:Int)=some (leB g n).reverse
 |0,_,n,h0,h,_,_=>by simp at h;omega
 |g+1,f+1,n,h0,h,hf,hg=>by
  have h64:n<18446744073709551616:=by
   have:(256:Nat) ^ (g+1)≤256 ^ 8:=Nat.pow_le_pow_right (by decide) (by omega)
   have e:(256:Nat) ^ 8=18446744073709551616:=by decide
   omega
  rw[s_cref01_Minimal_o,leB,if_neg (by omega)]
  by_cases hs:n<256
  ·rw[decide_eq_true (by omega),cond_true,toB_wrap,Option.bind_some]
   have:leB g (n / 256)=[]:=by
    rw[Nat.div_eq_of_lt hs]
    cases g<;>simp[leB]
   rw[this];rfl
  ·rw[decide_eq_false (by omega),cond_false,wq256 h64,rmin_o N g f (n / 256) (by omega) (by rw[Nat.pow_succ]at h;omega) (by omega) (by omega),Option.bind_some]
   rw[show Int.tmod (n:Int) 256=((n % 256:Nat):Int) from by rw[Int.tmod_eq_emod_of_nonneg (by omega)];omega,toB_wrap,Option.bind_some]
   have hl:=leB_len g (n / 256)
   rw[app_ok (by simp only[List.length_reverse,List.length_cons,List.length_nil];omega) (by simp only[List.length_reverse,List.length_cons,List.length_nil];omega),Option.bind_some,Nat.mod_mod]
   simp
theorem rmin_ok{N:Nat}(hN:1000000<N) {n:Nat}(h:n<18446744073709551616):F_cref01_Minimal N (n:Int)=some (minB n):=by
 unfold F_cref01_Minimal
 by_cases hs:n<256
 ·rw[decide_eq_true (by omega),cond_true,toB_wrap,Option.bind_some,min_small n hs,Nat.mod_eq_of_lt hs]
 ·have e:(256:Nat) ^ 8=18446744073709551616:=by decide
  rw[decide_eq_false (by omega),cond_false,wq256 h,rmin_o N 8 N (n / 256) (by omega) (by omega) (by omega) (by omega),Option.bind_some]
  rw[show Int.tmod (n:Int) 256=((n % 256:Nat):Int) from by rw[Int.tmod_eq_emod_of_nonneg (by omega)];omega,toB_wrap,Option.bind_some]
  have hl:=leB_len 8 (n / 256)
  rw[app_ok (by simp only[List.length_reverse,List.length_cons,List.length_nil];omega) (by simp only[List.length_reverse,List.length_cons,List.length_nil];omega),Option.bind_some,Nat.mod_mod]
  rfl
theorem rlength_ok{N:Nat}(hN:1000000<N) {n:Nat}(hn:n≤2147483647):F_cref02_Length N (n:Int)=some (lenB n,0):=by
 have hm:=min_len n
 unfold F_cref02_Length
 rw[decide_eq_false (by omega),cond_false,decide_eq_false (by omega),cond_false,show IntKind.wrap .u64 (n:Int)=(n:Int) from Go.IntWalk.u64_in _ (by omega),rmin_ok hN (by omega),Option.bind_some,lenB]
 by_cases hs:n<128
 ·rw[decide_eq_true (by omega),cond_true,if_pos hs]
 ·rw[decide_eq_false (by omega),cond_false,if_neg hs,wad_in (by omega),show(128:Int)+((minB n).length:Int)=((128+(minB n).length:Nat):Int) from by omega,toB_wrap,Option.bind_some,app_ok (by simp;omega) (by simp;omega),Option.bind_some,Nat.mod_eq_of_lt (by omega)]
  rfl
theorem put_ok{N:Nat}(hN:1000000<N) (c:Nat) (k:Bool) (num:Nat) {body:Bs}(hb:body.length<100000000):F_cref02_Put N ((idB c k num).toNat:Int) body=some (tlv c k num body):=by
 have hlb:=lenB_len body.length (by omega)
 unfold F_cref02_Put
 rw[rlength_ok hN (by omega)]
 simp only[Option.bind_some]
 rw[toB_nat,Option.bind_some,app_ok (by simp;omega) (by simp;omega),Option.bind_some,app_ok (by simp;omega) (by simp;omega),Option.bind_some,tlv]
 simp
theorem bytes_loop(N:Nat) (R:Node→Option Bs) (l:List Node) (hl:l.length<1000000) (hR:∀x ∈ l,R x=some (encN x)) (x4 x6 x7:Int) (c8:Bool) (l9:Bs):
 ∀(k n i:Nat) (acc:Bs),l.length-i=k→i≤l.length→k<n→(acc++encL (l.drop i)).length<1000000000→F_cref03_Bytes_l0 N R n (x4,(i:Int),x6,x7,c8,l9,l,acc)=some (x4,acc++encL (l.drop i))
 |0,n+1,i,acc,hk,hi,_,_=>by
  rw[s_cref03_Bytes_l0,ge_i (by omega),List.drop_eq_nil_of_le (by omega)]
  simp[encL]
 |k+1,n+1,i,acc,hk,hi,hn,hs=>by
  have hlt:i<l.length:=by omega
  rw[drop_cons hlt,encL,←List.append_assoc]at hs⊢
  have hs2:=hs
  simp only[List.length_append]at hs2
  rw[s_cref03_Bytes_l0,lt_i hlt,cond_true,ix_at hlt,Option.bind_some,node_eta,hR _ (List.getElem_mem hlt)]
  simp only[Option.bind_some]
  rw[app_ok (by omega) (by omega),Option.bind_some,inc_i (by omega)]
  exact bytes_loop N R l hl hR x4 x6 x7 c8 l9 k n (i+1) _ (by omega) (by omega) (by omega) hs
theorem bytes_ok(N:Nat) (hN:1000000<N):∀(d f:Nat) (n:Node),d≤f→okN d n→(txN n).length<1000000→F_cref03_Bytes N f n=some (encN n)
 |0,_,n,_,h,_=>by cases n;exact False.elim h
 |d+1,f+1,.mk c m k b ks,hf,hok,hl=>by
  have K:=kd_of hok hl
  have hbd:=K.body
  rw[List.length_append]at hbd
  have hloop:=bytes_loop N (F_cref03_Bytes N f) ks K.len (fun x hx=>bytes_ok N hN d f x (by omega) (K.kid x hx).1 (K.kid x hx).2) ((idB c.toNat k m.toNat).toNat:Int) c m k b ks.length N 0 b (by omega) (by omega) (by have:=K.len;omega) (by simp only[List.drop_zero,List.length_append];omega)
  rw[m_cref03_Bytes,rident_ok k K.hc K.hm]
  simp only[Option.bind_some]
  rw[app_ok (by simp;omega) (by simp;omega),Option.bind_some,List.nil_append,show(0:Int)=((0:Nat):Int) from rfl,hloop]
  simp only[Option.bind_some,List.drop_zero]
  rw[put_ok hN _ _ _ (by have:=K.body;omega),encN]
  rfl
end Go.Fw
namespace Go.Fw
open Go
theorem ix_0{α:Type}(x:α) (r:List α):ix (x::r) 0=some x:=ix_n (i:=0) rfl
theorem pos_len{α:Type}(x:α) (r:List α):decide (((x::r).length:Int)>0)=true:=decide_eq_true (by simp)
theorem slc_pre{s:Bs}{k:Nat}(h:k≤s.length):slc s 0 (k:Int)=some (s.take k):=by
 unfold slc
 rw[if_pos ⟨by omega,by omega,by omega⟩]
 simp
theorem slc_suf{s:Bs}{k:Nat}(h:k≤s.length):slc s (k:Int) (s.length:Int)=some (s.drop k):=by
 unfold slc
 rw[if_pos ⟨by omega,by omega,by omega⟩]
 simp
end Go.Fw
namespace Go.Fw
open Go
theorem txR_le(ks:List Node):(txR ks).length≤(txL ks).length+1:=by
 cases ks with
 |nil=>simp[txR]
 |cons x ks=>simp[txR,txL]
end Go.Fw
namespace Go.Fw
open Go
theorem PT_ok{N:Nat}(hN:1000000<N) (hN2:N<4611686018427387904) {n:Node}(hok:okN 16 n) (hl:(txN n).length<10000):F_PT N (txN n)=some (encN n,(0,0)):=by
 have h:=rdN_tx (txN n) 16 n 0 [] hok (by simp) trivial
 rw[Nat.zero_add]at h
 unfold F_PT
 rw[h,show Nat.blt (txN n).length 1000000=true from by simp[Nat.blt_eq];omega,cond_true]
 dsimp only
 rw[Encode_ok hN hN2 hok (by omega)]
 simp only[Option.bind_some,Bool.not_true,Bool.false_or]
 rw[show Nat.blt (txN n).length (txN n).length=false from by rw[←Bool.not_eq_true,Nat.blt_eq];omega]
 rfl
end Go.Fw
