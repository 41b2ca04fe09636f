/- A framework for proofs about Go programs in this model: part Q. Everything is proved; no condition is added. -/
import Derived.IntWalk
import Derived.WideShapes
import Derived.WideKeyArgs
import Derived.Stop.LaidErr
import Derived.Lib.LaidTab
import Derived.Test.YtgliijeioigckaaGreatDoorFwN
import Derived.Test.YtgliijeioigckaaGreatDoorFwP
import Derived.Test.YtgliijeioigckaaGreatDoorFwF
import Derived.Test.YtgliijeioigckaaGreatDoorFwI
set_option linter.unusedVariables false
set_option linter.unusedSimpArgs false
namespace Go.Fw
open Go
theorem s_tree_valid_l0 (N n : Nat) (R : Fw.Node → Int → Option Bool) (l3 : List Fw.Node) (i4 : Int) (i5 : Int) (i6 : Int) (i7 : Int) (i8 : Int) (c9 : Bool) (l10 : Bs) (l11 : List Fw.Node) (i12 : Int) : F_tree_valid_l0 N R (n + 1) (l3, i4, i5, i6, i7, i8, c9, l10, l11, i12) = (
 bif decide (i6 < i5) then (
 (ix l3 i6).bind fun e13 =>
 (R (Fw.Node.mk e13.cls e13.num e13.cons e13.body e13.kids) (wsub .i64 i4 1)).bind fun c14 =>
 bif (!c14) then (
 some (Sum.inl (i6, i7, i8, c9, l10, l11, i12)))
 else
 F_tree_valid_l0 N R n (l3, i4, i5, wadd .i64 i6 1, i7, i8, c9, l10, l11, i12))
 else
 some (Sum.inr (i7, i8, c9, l10, l11, i12))) := rfl
theorem m_tree_valid (N n : Nat) (xc xm : Int) (xk : Bool) (xb : Bs) (xs : List Fw.Node) (a2 : Int) : F_tree_valid N (n + 1) (Fw.Node.mk xc xm xk xb xs) a2 = (
 (F_tlv_Identifier xc xk xm).bind fun (i1, i2) =>
 bif (i2 != 0) then (
 some false)
 else
 bif (a2 == 0) then (
 some false)
 else
 bif xk then (
 bif decide ((xb.length : Int) > 0) then (
 some false)
 else
 bif (!xk) then (
 bif decide ((xs.length : Int) > 0) then (
 some false)
 else
 (F_tree_valid_l0 N (F_tree_valid N n) N (xs, a2, (xs.length : Int), 0, xc, xm, xk, xb, xs, a2)).bind fun y15 => (match y15 with
 | Sum.inl (i16, i17, i18, c19, l20, l21, i22) => some (!(decide (i16 ≥ 0)))
 | Sum.inr ((i23, i24, c25, l26, l27, i28)) => some true))
 else
 (F_tree_valid_l0 N (F_tree_valid N n) N (xs, a2, (xs.length : Int), 0, xc, xm, xk, xb, xs, a2)).bind fun y29 => (match y29 with
 | Sum.inl (i30, i31, i32, c33, l34, l35, i36) => some (!(decide (i30 ≥ 0)))
 | Sum.inr ((i37, i38, c39, l40, l41, i42)) => some true))
 else
 bif (!xk) then (
 bif decide ((xs.length : Int) > 0) then (
 some false)
 else
 (F_tree_valid_l0 N (F_tree_valid N n) N (xs, a2, (xs.length : Int), 0, xc, xm, xk, xb, xs, a2)).bind fun y43 => (match y43 with
 | Sum.inl (i44, i45, i46, c47, l48, l49, i50) => some (!(decide (i44 ≥ 0)))
 | Sum.inr ((i51, i52, c53, l54, l55, i56)) => some true))
 else
 (F_tree_valid_l0 N (F_tree_valid N n) N (xs, a2, (xs.length : Int), 0, xc, xm, xk, xb, xs, a2)).bind fun y57 => (match y57 with
 | Sum.inl (i58, i59, i60, c61, l62, l63, i64) => some (!(decide (i58 ≥ 0)))
 | Sum.inr ((i65, i66, c67, l68, l69, i70)) => some true)) := rfl
theorem s_tree_encode_l0 (N n : Nat) (R : Fw.Node → Option (Bs × Int)) (l2 : List Fw.Node) (i3 : Int) (i4 : Int) (i5 : Int) (i6 : Int) (c7 : Bool) (l8 : Bs) (l9 : List Fw.Node) (l10 : Bs) : F_tree_encode_l0 N R (n + 1) (l2, i3, i4, i5, i6, c7, l8, l9, l10) = (
 bif decide (i4 < i3) then (
 (ix l2 i4).bind fun e11 =>
 (R (Fw.Node.mk e11.cls e11.num e11.cons e11.body e11.kids)).bind fun (l12, i13) =>
 bif (i13 != 0) then (
 some (Sum.inl i13))
 else
 (app 1 l10 l12).bind fun l14 =>
 F_tree_encode_l0 N R n (l2, i3, wadd .i64 i4 1, i5, i6, c7, l8, l9, l14))
 else
 some (Sum.inr (i5, i6, c7, l8, l9, l10))) := rfl
theorem m_tree_encode (N n : Nat) (xc xm : Int) (xk : Bool) (xb : Bs) (xs : List Fw.Node)  : F_tree_encode N (n + 1) (Fw.Node.mk xc xm xk xb xs) = (
 (F_CloneO xb).bind fun l1 =>
 (F_tree_encode_l0 N (F_tree_encode N n) N (xs, (xs.length : Int), 0, xc, xm, xk, xb, xs, l1)).bind fun y15 => (match y15 with
 | Sum.inl i16 => some ([], i16)
 | Sum.inr ((i17, i18, c19, l20, l21, l22)) => (F_tlv_Encode N i17 c19 i18 l22).bind fun (l23, i24) =>
 some (l23, i24))) := rfl
theorem s_cref29_read_l0 (N n : Nat) (R : Bs → Int → Option (Fw.Node × Bs × Bool)) (s10 : Bs) (i11 : Int) (l12 : List Fw.Node) (l13 : List Fw.Node) (i14 : Int) (i15 : Int) (c16 : Bool) : F_cref29_read_l0 N R (n + 1) (s10, i11, l12, l13, i14, i15, c16) = (
 bif decide (i11 < (s10.length : Int)) then (
 (ix s10 i11).bind fun b17 =>
 (F_cref29_value N (b17.toNat : Int)).bind fun i18 =>
 bif decide (i18 ≥ 0) then (
 F_cref29_read_l0 N R n (s10, wadd .i64 i11 1, l12, l13, i14, i15, c16))
 else
 some (s10, i11, l12, l13, i14, i15, c16))
 else
 some (s10, i11, l12, l13, i14, i15, c16)) := rfl
theorem s_cref29_read_l1 (N n : Nat) (R : Bs → Int → Option (Fw.Node × Bs × Bool)) (s30 : Bs) (i31 : Int) (l32 : List Fw.Node) (l33 : List Fw.Node) (i34 : Int) (i35 : Int) (c36 : Bool) : F_cref29_read_l1 N R (n + 1) (s30, i31, l32, l33, i34, i35, c36) = (
 bif decide ((s30.length : Int) > 0) then (
 (ix s30 0).bind fun b37 =>
 bif ((b37.toNat : Int) != 41) then (
 ((
 bif decide ((l33.length : Int) > 0) then (
 (slc s30 1 (s30.length : Int)).bind fun s38 =>
 some (s38, i31, l32, l33, i34, i35, c36))
 else
 some (s30, i31, l32, l33, i34, i35, c36) : Option (Bs × Int × List Fw.Node × List Fw.Node × Int × Int × Bool))).bind fun (s39, i40, l41, l42, i43, i44, c45) =>
 (R s39 (wsub .i64 i40 1)).bind fun (v46, s47, c48) =>
 bif (!c48) then (
 some (Sum.inl ()))
 else
 (app 72 l42 [Fw.Node.mk v46.cls v46.num v46.cons v46.body v46.kids]).bind fun l49 =>
 F_cref29_read_l1 N R n (s47, i40, l41, l49, i43, i44, c45))
 else
 some (Sum.inr (s30, l32, l33, i34, i35, c36)))
 else
 some (Sum.inr (s30, l32, l33, i34, i35, c36))) := rfl
theorem s_cref29_read (N n : Nat) (a1 : Bs) (a2 : Int) : F_cref29_read N (n + 1) a1 a2 = (
 bif decide ((a1.length : Int) < 3) then (
 some (Fw.Node.mk 0 0 false [] [], [], false))
 else
 bif (a2 == 0) then (
 some (Fw.Node.mk 0 0 false [] [], [], false))
 else
 (slc a1 0 2).bind fun s1 =>
 (F_cref29_ParseHex N s1).bind fun (l2, c3) =>
 bif (!c3) then (
 some (Fw.Node.mk 0 0 false [] [], [], false))
 else
 (ix l2 0).bind fun b4 =>
 (F_cref02_ReadIdentifier (b4.toNat : Int)).bind fun (i5, c6, i7, i8) =>
 (slc a1 3 (a1.length : Int)).bind fun s9 =>
 bif (!c6) then (
 (F_cref29_read_l0 N (F_cref29_read N n) N (s9, 0, [], [], i5, i7, c6)).bind fun (s19, i20, l21, l22, i23, i24, c25) =>
 (slc s19 0 i20).bind fun s26 =>
 (F_cref29_ParseHex N s26).bind fun (l27, c28) =>
 (slc s19 i20 (s19.length : Int)).bind fun s29 =>
 some (Fw.Node.mk i23 i24 c25 l27 l22, s29, c28))
 else
 (F_cref29_read_l1 N (F_cref29_read N n) N (s9, a2, [], [], i5, i7, c6)).bind fun y50 => (match y50 with
 | Sum.inl _ => some (Fw.Node.mk 0 0 false [] [], [], false)
 | Sum.inr ((s51, l52, l53, i54, i55, c56)) => bif (s51 == []) then (
 some (Fw.Node.mk 0 0 false [] [], [], false))
 else
 (slc s51 1 (s51.length : Int)).bind fun s57 =>
 some (Fw.Node.mk i54 i55 c56 [] l53, s57, true))) := rfl
theorem s_cref03_shaped_l0 (N n : Nat) (R : Fw.Node → Option Bool) (i3 : Int) (i4 : Int) (i5 : Int) (c6 : Bool) (l7 : Bs) (l8 : List Fw.Node) : F_cref03_shaped_l0 N R (n + 1) (i3, i4, i5, c6, l7, l8) = (
 bif decide (i3 < (l8.length : Int)) then (
 (ix l8 i3).bind fun e9 =>
 (R (Fw.Node.mk e9.cls e9.num e9.cons e9.body e9.kids)).bind fun c10 =>
 bif (!c10) then (
 some (Sum.inl ()))
 else
 F_cref03_shaped_l0 N R n (wadd .i64 i3 1, i4, i5, c6, l7, l8))
 else
 some (Sum.inr ())) := rfl
theorem m_cref03_shaped (N n : Nat) (xc xm : Int) (xk : Bool) (xb : Bs) (xs : List Fw.Node)  : F_cref03_shaped N (n + 1) (Fw.Node.mk xc xm xk xb xs) = (
 (F_cref02_Identifier xc xk xm).bind fun (i1, i2) =>
 bif (i2 != 0) then (
 some false)
 else
 bif xk then (
 bif decide ((xb.length : Int) > 0) then (
 some false)
 else
 bif (!xk) then (
 bif decide ((xs.length : Int) > 0) then (
 some false)
 else
 (F_cref03_shaped_l0 N (F_cref03_shaped N n) N (0, xc, xm, xk, xb, xs)).bind fun y11 => (match y11 with
 | Sum.inl _ => some false
 | Sum.inr _ => some true))
 else
 (F_cref03_shaped_l0 N (F_cref03_shaped N n) N (0, xc, xm, xk, xb, xs)).bind fun y12 => (match y12 with
 | Sum.inl _ => some false
 | Sum.inr _ => some true))
 else
 bif (!xk) then (
 bif decide ((xs.length : Int) > 0) then (
 some false)
 else
 (F_cref03_shaped_l0 N (F_cref03_shaped N n) N (0, xc, xm, xk, xb, xs)).bind fun y13 => (match y13 with
 | Sum.inl _ => some false
 | Sum.inr _ => some true))
 else
 (F_cref03_shaped_l0 N (F_cref03_shaped N n) N (0, xc, xm, xk, xb, xs)).bind fun y14 => (match y14 with
 | Sum.inl _ => some false
 | Sum.inr _ => some true)) := rfl
theorem s_cref03_Depth_l0 (N n : Nat) (R : Fw.Node → Option Int) (i1 : Int) (i2 : Int) (i3 : Int) (i4 : Int) (c5 : Bool) (l6 : Bs) (l7 : List Fw.Node) : F_cref03_Depth_l0 N R (n + 1) (i1, i2, i3, i4, c5, l6, l7) = (
 bif decide (i2 < (l7.length : Int)) then (
 (ix l7 i2).bind fun e8 =>
 (R (Fw.Node.mk e8.cls e8.num e8.cons e8.body e8.kids)).bind fun i9 =>
 F_cref03_Depth_l0 N R n (imax i1 (wadd .i64 1 i9), wadd .i64 i2 1, i3, i4, c5, l6, l7))
 else
 some i1) := rfl
theorem m_cref03_Depth (N n : Nat) (xc xm : Int) (xk : Bool) (xb : Bs) (xs : List Fw.Node)  : F_cref03_Depth N (n + 1) (Fw.Node.mk xc xm xk xb xs) = (
 (F_cref03_Depth_l0 N (F_cref03_Depth N n) N (1, 0, xc, xm, xk, xb, xs)).bind fun i10 =>
 some i10) := rfl
theorem s_cref12_Hex_l0 (N n : Nat)  (l1 : Bs) (s2 : Bs) (i3 : Int) : F_cref12_Hex_l0 N (n + 1) (l1, s2, i3) = (
 bif decide (i3 < (l1.length : Int)) then (
 (ix l1 i3).bind fun b4 =>
 (ix l1 i3).bind fun b5 =>
 (slc ([48, 49, 50, 51, 52, 53, 54, 55, 56, 57, 97, 98, 99, 100, 101, 102] : Bs) (wquo .u8 (b4.toNat : Int) 16) (wadd .u8 (wquo .u8 (b5.toNat : Int) 16) 1)).bind fun s6 =>
 (cat s2 s6).bind fun s7 =>
 (ix l1 i3).bind fun b8 =>
 (ix l1 i3).bind fun b9 =>
 (slc ([48, 49, 50, 51, 52, 53, 54, 55, 56, 57, 97, 98, 99, 100, 101, 102] : Bs) (Int.tmod (b8.toNat : Int) 16) (wadd .u8 (Int.tmod (b9.toNat : Int) 16) 1)).bind fun s10 =>
 (cat s7 s10).bind fun s11 =>
 F_cref12_Hex_l0 N n (l1, s11, wadd .i64 i3 1))
 else
 some s2) := rfl
theorem s_cref29_Text_l0 (N n : Nat) (R : Fw.Node → Option Bs) (s9 : Bs) (i10 : Int) (i11 : Int) (i12 : Int) (c13 : Bool) (l14 : Bs) (l15 : List Fw.Node) : F_cref29_Text_l0 N R (n + 1) (s9, i10, i11, i12, c13, l14, l15) = (
 bif decide (i10 < (l15.length : Int)) then (
 ((
 bif decide (i10 > 0) then (
 (cat s9 ([32] : Bs)).bind fun s16 =>
 some (s16, i10, i11, i12, c13, l14, l15))
 else
 some (s9, i10, i11, i12, c13, l14, l15) : Option (Bs × Int × Int × Int × Bool × Bs × List Fw.Node))).bind fun (s17, i18, i19, i20, c21, l22, l23) =>
 (ix l23 i18).bind fun e24 =>
 (R (Fw.Node.mk e24.cls e24.num e24.cons e24.body e24.kids)).bind fun s25 =>
 (cat s17 s25).bind fun s26 =>
 F_cref29_Text_l0 N R n (s26, wadd .i64 i18 1, i19, i20, c21, l22, l23))
 else
 some s9) := rfl
theorem m_cref29_Text (N n : Nat) (xc xm : Int) (xk : Bool) (xb : Bs) (xs : List Fw.Node)  : F_cref29_Text N (n + 1) (Fw.Node.mk xc xm xk xb xs) = (
 (F_cref02_Identifier xc xk xm).bind fun (i1, i2) =>
 (toB i1).bind fun b3 =>
 (F_cref12_Hex N [b3]).bind fun s4 =>
 bif (!xk) then (
 (cat s4 ([58] : Bs)).bind fun s5 =>
 (F_cref12_Hex N xb).bind fun s6 =>
 (cat s5 s6).bind fun s7 =>
 some s7)
 else
 (cat s4 ([40] : Bs)).bind fun s8 =>
 (F_cref29_Text_l0 N (F_cref29_Text N n) N (s8, 0, xc, xm, xk, xb, xs)).bind fun s27 =>
 (cat s27 ([41] : Bs)).bind fun s28 =>
 some s28) := rfl
theorem s_cref01_Minimal_o (N n : Nat) (a1 : Int) : F_cref01_Minimal_o N (n + 1) a1 = (
 bif decide (a1 < 256) then (
 (toB (IntKind.wrap .u8 a1)).bind fun b1 =>
 some [b1])
 else
 ((F_cref01_Minimal_o N n) (wquo .u64 a1 256)).bind fun l2 =>
 (toB (IntKind.wrap .u8 (Int.tmod a1 256))).bind fun b3 =>
 (app 1 l2 [b3]).bind fun l4 =>
 some l4) := rfl
theorem s_cref03_Bytes_l0 (N n : Nat) (R : Fw.Node → Option Bs) (i4 : Int) (i5 : Int) (i6 : Int) (i7 : Int) (c8 : Bool) (l9 : Bs) (l10 : List Fw.Node) (l11 : Bs) : F_cref03_Bytes_l0 N R (n + 1) (i4, i5, i6, i7, c8, l9, l10, l11) = (
 bif decide (i5 < (l10.length : Int)) then (
 (ix l10 i5).bind fun e12 =>
 (R (Fw.Node.mk e12.cls e12.num e12.cons e12.body e12.kids)).bind fun l13 =>
 (app 1 l11 l13).bind fun l14 =>
 F_cref03_Bytes_l0 N R n (i4, wadd .i64 i5 1, i6, i7, c8, l9, l10, l14))
 else
 some (i4, l11)) := rfl
theorem m_cref03_Bytes (N n : Nat) (xc xm : Int) (xk : Bool) (xb : Bs) (xs : List Fw.Node)  : F_cref03_Bytes N (n + 1) (Fw.Node.mk xc xm xk xb xs) = (
 (F_cref02_Identifier xc xk xm).bind fun (i1, i2) =>
 (app 1 [] xb).bind fun l3 =>
 (F_cref03_Bytes_l0 N (F_cref03_Bytes N n) N (i1, 0, xc, xm, xk, xb, xs, l3)).bind fun (i15, l16) =>
 (F_cref02_Put N i15 l16).bind fun l17 =>
 some l17) := rfl
theorem s_tree_read_l0 (N n : Nat) (R : Bs → Int → Int → Int → Option (Fw.Spot × (Int × Int))) (l12 : Bs) (i13 : Int) (i14 : Int) (i15 : Int) (i16 : Int) (i17 : Int) (i18 : Int) (c19 : Bool) (l20 : List Fw.Spot) (i21 : Int) (i22 : Int) (l23 : List Fw.Node) (l24 : List Fw.Spot) (i25 : Int) (i26 : Int) (i27 : Int) (i28 : Int) (c29 : Bool) : F_tree_read_l0 N R (n + 1) (l12, i13, i14, i15, i16, i17, i18, c19, l20, i21, i22, l23, l24, i25, i26, i27, i28, c29) = (
 bif decide (i14 < i26) then (
 (R l12 i14 i26 (wsub .i64 i13 1)).bind fun (v30, v31) =>
 bif (v31.1 != 0) then (
 some (Sum.inl (0, 0, 0, 0, false, v31)))
 else
 (app 112 l24 [Fw.Spot.mk v30.at' v30.stop (Fw.Node.mk v30.nd.cls v30.nd.num v30.nd.cons v30.nd.body v30.nd.kids) v30.kids]).bind fun l32 =>
 (app 72 l23 [Fw.Node.mk v30.nd.cls v30.nd.num v30.nd.cons v30.nd.body v30.nd.kids]).bind fun l33 =>
 F_tree_read_l0 N R n (l12, i13, v30.stop, i15, i16, i17, i18, c19, l20, i21, i22, l33, l32, i25, i26, i27, i28, c29))
 else
 some (Sum.inr (i15, i16, i17, i18, c19, l20, i21, i22, l23, l24, i25, i26, i27, i28, c29))) := rfl
theorem s_tree_read (N n : Nat) (a1 : Bs) (a2 : Int) (a3 : Int) (a4 : Int) : F_tree_read N (n + 1) a1 a2 a3 a4 = (
 bif (a4 == 0) then (
 (F_tree_read_1 5 a2).bind fun (v1, v2) =>
 some (Fw.Spot.mk v1.at' v1.stop (Fw.Node.mk v1.nd.cls v1.nd.num v1.nd.cons v1.nd.body v1.nd.kids) v1.kids, v2))
 else
 bif (decide (a3 ≤ a3) && decide (a3 ≤ a1.length)) then (
 (slc a1 a2 a3).bind fun s3 =>
 (F_tlv_ReadHeader N s3).bind fun (v4, v5) =>
 bif (v5.1 != 0) then (
 (F_tree_read_1 v5.1 (wadd .i64 a2 v5.2)).bind fun (v6, v7) =>
 some (Fw.Spot.mk v6.at' v6.stop (Fw.Node.mk v6.nd.cls v6.nd.num v6.nd.cons v6.nd.body v6.nd.kids) v6.kids, v7))
 else
 bif decide (wsub .i64 a3 (wadd .i64 a2 v4.2.2.2.2) < v4.2.2.2.1) then (
 (F_tree_read_1 1 a3).bind fun (v8, v9) =>
 some (Fw.Spot.mk v8.at' v8.stop (Fw.Node.mk v8.nd.cls v8.nd.num v8.nd.cons v8.nd.body v8.nd.kids) v8.kids, v9))
 else
 bif (!v4.2.2.1) then (
 (slc a1 (wadd .i64 a2 v4.2.2.2.2) (wadd .i64 (wadd .i64 a2 v4.2.2.2.2) v4.2.2.2.1)).bind fun s10 =>
 (F_Clone s10).bind fun l11 =>
 some (Fw.Spot.mk a2 (wadd .i64 (wadd .i64 a2 v4.2.2.2.2) v4.2.2.2.1) (Fw.Node.mk v4.1 v4.2.1 v4.2.2.1 l11 []) [], 0, 0))
 else
 (F_tree_read_l0 N (F_tree_read N n) N (a1, a4, wadd .i64 a2 v4.2.2.2.2, 0, 0, 0, 0, false, [], 0, 0, [], [], a2, wadd .i64 (wadd .i64 a2 v4.2.2.2.2) v4.2.2.2.1, v4.1, v4.2.1, v4.2.2.1)).bind fun y34 => (match y34 with
 | Sum.inl (i35, i36, i37, i38, c39, i40, i41) => some (Fw.Spot.mk i35 i36 (Fw.Node.mk i37 i38 c39 [] []) [], i40, i41)
 | Sum.inr ((i42, i43, i44, i45, c46, l47, i48, i49, l50, l51, i52, i53, i54, i55, c56)) => some (Fw.Spot.mk i52 i53 (Fw.Node.mk i54 i55 c56 [] l50) l51, 0, 0)))
 else
 none) := rfl
theorem s_dump_text_l0 (N n : Nat) (R : Fw.Node → Option Bs) (s7 : Bs) (l8 : List Fw.Node) (i9 : Int) (i10 : Int) (l11 : List Bs) : F_dump_text_l0 N R (n + 1) (s7, l8, i9, i10, l11) = (
 bif decide (i10 < i9) then (
 (ix l8 i10).bind fun e12 =>
 (R (Fw.Node.mk e12.cls e12.num e12.cons e12.body e12.kids)).bind fun s13 =>
 (app 16 l11 [s13]).bind fun l14 =>
 F_dump_text_l0 N R n (s7, l8, i9, wadd .i64 i10 1, l14))
 else
 some (s7, l11)) := rfl
theorem m_dump_text (N n : Nat) (xc xm : Int) (xk : Bool) (xb : Bs) (xs : List Fw.Node)  : F_dump_text N (n + 1) (Fw.Node.mk xc xm xk xb xs) = (
 (F_dump_identifier (Fw.Node.mk xc xm xk xb xs)).bind fun i1 =>
 (toB i1).bind fun b2 =>
 (F_Hex [b2]).bind fun s3 =>
 bif (!xk) then (
 (cat s3 ([58] : Bs)).bind fun s4 =>
 (F_Hex xb).bind fun s5 =>
 (cat s4 s5).bind fun s6 =>
 some s6)
 else
 (F_dump_text_l0 N (F_dump_text N n) N (s3, xs, (xs.length : Int), 0, [])).bind fun (s15, l16) =>
 (cat s15 ([40] : Bs)).bind fun s17 =>
 (F_Join l16 ([32] : Bs)).bind fun s18 =>
 (cat s17 s18).bind fun s19 =>
 (cat s19 ([41] : Bs)).bind fun s20 =>
 some s20) := rfl
end Go.Fw
namespace Go.Fw
open Go
theorem or_byte {a b : Int} (h1 : -36028797018963968 ≤ a) (h2 : a < 36028797018963968) (h3 : 0 ≤ b) (h4 : b < 256) : bits .or .i64 (wshl .i64 a 8) b = 256 * a + b := by
 have e1 : wshl .i64 a 8 = 256 * a := by
  show IntKind.i64.wrap (a * 2 ^ (8 : Nat)) = _
  rw [Go.IntWalk.i64_in _ (by omega)]
  omega
 rw [e1]
 show IntKind.i64.wrap (((BitVec.ofInt 64 (256 * a)) ||| (BitVec.ofInt 64 b)).toNat : Int) = _
 rw [BitVec.toNat_or, BitVec.toNat_ofInt, BitVec.toNat_ofInt]
 have hm : ((256 * a) % ((2 ^ 64 : Nat) : Int)).toNat = (a % 72057594037927936).toNat * 2 ^ 8 := by omega
 have hb : (b % ((2 ^ 64 : Nat) : Int)).toNat = b.toNat := by omega
 rw [hm, hb, ← Nat.shiftLeft_eq, ← Nat.shiftLeft_add_eq_or_of_lt (by omega : b.toNat < 2 ^ 8), Nat.shiftLeft_eq, IntKind.wrap_i64]
 omega
end Go.Fw
namespace Go.Fw
open Go
theorem wad1 {i : Nat} (h : i < 4611686018427387904) : wadd .i64 (i : Int) 1 = ((i + 1 : Nat) : Int) := by
 show IntKind.i64.wrap ((i : Int) + 1) = _
 rw [Go.IntWalk.i64_in _ (by omega)]
 omega
theorem wsb1 {i : Nat} (h0 : 0 < i) (h : i < 4611686018427387904) : wsub .i64 (i : Int) 1 = ((i - 1 : Nat) : Int) := by
 show IntKind.i64.wrap ((i : Int) - 1) = _
 rw [Go.IntWalk.i64_in _ (by omega)]
 omega
theorem ix_get {α : Type} {l : List α} {i : Nat} {x : α} (h : l[i]? = some x) : ix l (i : Int) = some x := by
 unfold ix
 rw [if_pos (by omega), Int.toNat_natCast, h]
theorem toB_nat (x : UInt8) : toB (x.toNat : Int) = some x := by
 unfold toB
 have := x.toNat_lt
 rw [if_pos ⟨by omega, by omega⟩]
 simp
theorem inb_nat {i n : Nat} (h : i < n) : inb (i : Int) n = true := by
 unfold inb
 simp only [Bool.and_eq_true, decide_eq_true_eq]
 omega
theorem set_swap (p m q : List UInt8) (x y : UInt8) : (((p ++ (x :: m ++ [y]) ++ q).set p.length y).set (p.length + m.length + 1) x) = (p ++ [y]) ++ m ++ (x :: q) := by
 have e1 : p ++ (x :: m ++ [y]) ++ q = p ++ (x :: (m ++ (y :: q))) := by simp
 rw [e1, List.set_append_right _ _ (Nat.le_refl _), Nat.sub_self, List.set_cons_zero, List.set_append_right _ _ (by omega)]
 rw [show p.length + m.length + 1 - p.length = m.length + 1 from by omega, List.set_cons_succ, List.set_append_right _ _ (Nat.le_refl _), Nat.sub_self, List.set_cons_zero]
 simp
theorem min_step (N n : Nat) (i7 i8 : Int) (l9 : Bs) : F_cursor_Minimal_l1 N (n + 1) (i7, i8, l9) = bif decide (i7 < i8) then (bif inb i8 l9.length then ((ix l9 i8).bind fun b10 => bif inb i7 l9.length then ((ix l9 i7).bind fun b11 => bif inb i7 l9.length then (bif inb i7 l9.length then ((toB (b10.toNat : Int)).bind fun b12 =>
 bif inb i8 (l9.set (Int.toNat i7) b12).length then (bif inb i8 (l9.set (Int.toNat i7) b12).length then ((toB (b11.toNat : Int)).bind fun b13 => F_cursor_Minimal_l1 N n (wadd .i64 i7 1, wsub .i64 i8 1, (l9.set (Int.toNat i7) b12).set (Int.toNat i8) b13)) else none) else none) else none) else none) else none) else none) else some l9 := rfl
theorem min_rev (N : Nat) : ∀ (k : Nat) (mid p q : List UInt8) (n : Nat), mid.length ≤ k → mid.length < 2 * n → (p ++ mid ++ q).length < 4611686018427387904 →
 F_cursor_Minimal_l1 N n ((p.length : Int), (((p.length + mid.length : Nat) : Int) - 1), p ++ mid ++ q) = some (p ++ mid.reverse ++ q) := by
 intro k
 induction k with
 | zero =>
   intro mid p q n hk hn hl
   obtain ⟨n, rfl⟩ : ∃ m, n = m + 1 := ⟨n - 1, by omega⟩
   have : mid = [] := List.eq_nil_of_length_eq_zero (by omega)
   subst this
   show (bif decide ((p.length : Int) < ((p.length + ([] : List UInt8).length : Nat) : Int) - 1) then _ else _) = _
   rw [decide_eq_false (by simp; omega)]
   simp
 | succ k ih =>
   intro mid p q n hk hn hl
   obtain ⟨n, rfl⟩ : ∃ m, n = m + 1 := ⟨n - 1, by omega⟩
   match mid, hk, hn, hl with
   | [], _, _, _ =>
     show (bif decide ((p.length : Int) < ((p.length + ([] : List UInt8).length : Nat) : Int) - 1) then _ else _) = _
     rw [decide_eq_false (by simp; omega)]
     simp
   | [x], _, _, _ =>
     show (bif decide ((p.length : Int) < ((p.length + [x].length : Nat) : Int) - 1) then _ else _) = _
     rw [decide_eq_false (by simp)]
     simp
   | x :: z :: r, hk, hn, hl =>
     obtain ⟨m, y, hm⟩ : ∃ m y, z :: r = m ++ [y] := ⟨(z :: r).dropLast, (z :: r).getLast (by simp), (List.dropLast_concat_getLast (by simp)).symm⟩
     rw [hm] at hk hn hl ⊢
     have hlen : (x :: (m ++ [y])).length = m.length + 2 := by simp
     have g1 : (p ++ (x :: (m ++ [y])) ++ q)[p.length + m.length + 1]? = some y := by
      rw [List.append_assoc, List.getElem?_append_right (by omega), show p.length + m.length + 1 - p.length = m.length + 1 from by omega, List.cons_append, List.getElem?_cons_succ, List.append_assoc, List.getElem?_append_right (Nat.le_refl _), Nat.sub_self]
      rfl
     have g2 : (p ++ (x :: (m ++ [y])) ++ q)[p.length]? = some x := by
      rw [List.append_assoc, List.getElem?_append_right (Nat.le_refl _), Nat.sub_self]
      rfl
     have hll : (p ++ (x :: (m ++ [y])) ++ q).length = p.length + m.length + 2 + q.length := by simp; omega
     have ej : ((p.length + (x :: (m ++ [y])).length : Nat) : Int) - 1 = ((p.length + m.length + 1 : Nat) : Int) := by rw [hlen]; omega
     rw [ej]
     have hstep : F_cursor_Minimal_l1 N (n + 1) ((p.length : Int), ((p.length + m.length + 1 : Nat) : Int), p ++ (x :: (m ++ [y])) ++ q) = F_cursor_Minimal_l1 N n (((p.length + 1 : Nat) : Int), ((p.length + m.length : Nat) : Int), (p ++ [y]) ++ m ++ (x :: q)) := by
      rw [min_step, decide_eq_true (by omega : (p.length : Int) < ((p.length + m.length + 1 : Nat) : Int))]
      simp only [cond_true, ix_get g1, ix_get g2, Option.bind_some, toB_nat, Int.toNat_natCast, List.length_set, hll]
      rw [inb_nat (by omega : p.length + m.length + 1 < p.length + m.length + 2 + q.length), inb_nat (by omega : p.length < p.length + m.length + 2 + q.length)]
      simp only [cond_true]
      rw [wad1 (by omega), wsb1 (by omega) (by omega), show p.length + m.length + 1 - 1 = p.length + m.length from by omega]
      rw [show p ++ (x :: (m ++ [y])) ++ q = p ++ (x :: m ++ [y]) ++ q from rfl, set_swap]
     rw [hstep]
     have h9 : ((p ++ [y]) ++ m ++ (x :: q)).length = p.length + m.length + 2 + q.length := by simp; omega
     rw [hll] at hl
     have hi := ih m (p ++ [y]) (x :: q) n (by simp at hk; omega) (by simp at hn; omega) (by rw [h9]; omega)
     rw [show ((p ++ [y]).length : Int) = ((p.length + 1 : Nat) : Int) from by simp, show (((p ++ [y]).length + m.length : Nat) : Int) - 1 = ((p.length + m.length : Nat) : Int) from by simp; omega] at hi
     rw [hi]
     simp
end Go.Fw
namespace Go.Fw
open Go
def leB : Nat → Nat → List UInt8
 | 0, _ => []
 | f + 1, n => if n = 0 then [] else UInt8.ofNat (n % 256) :: leB f (n / 256)
theorem leB_len : ∀ (f n : Nat), (leB f n).length ≤ f
 | 0, _ => Nat.le_refl _
 | f + 1, n => by
   unfold leB
   split
   · simp
   · simp only [List.length_cons]
     have := leB_len f (n / 256)
     omega
theorem toB_wrap (n : Nat) : toB (IntKind.wrap .u8 (n : Int)) = some (UInt8.ofNat (n % 256)) := by
 unfold toB
 rw [IntKind.wrap_u8, if_pos ⟨by omega, by omega⟩]
 congr 1
theorem wshr8 (n : Nat) : wshr .u64 (n : Int) 8 = ((n / 256 : Nat) : Int) := by
 show (n : Int).fdiv (2 ^ (8 : Nat)) = _
 rw [Int.fdiv_eq_ediv_of_nonneg _ (by decide)]
 omega
theorem min_step0 (N n : Nat) (i2 : Int) (l3 : Bs) : F_cursor_Minimal_l0 N (n + 1) (i2, l3) = bif decide (i2 > 0) then ((toB (IntKind.wrap .u8 i2)).bind fun b4 => (app 1 l3 [b4]).bind fun l5 => F_cursor_Minimal_l0 N n (wshr .u64 i2 8, l5)) else some l3 := rfl
theorem min_l0 (N : Nat) : ∀ (f a n : Nat) (l : List UInt8), a < 256 ^ f → f < n → l.length + f < 1000 → F_cursor_Minimal_l0 N n ((a : Int), l) = some (l ++ leB f a) := by
 intro f
 induction f with
 | zero =>
   intro a n l ha hn _
   obtain ⟨n, rfl⟩ : ∃ m, n = m + 1 := ⟨n - 1, by omega⟩
   have : a = 0 := by simpa using ha
   subst this
   rw [min_step0, decide_eq_false (by simp)]
   simp [leB]
 | succ f ih =>
   intro a n l ha hn hl
   obtain ⟨n, rfl⟩ : ∃ m, n = m + 1 := ⟨n - 1, by omega⟩
   rw [min_step0]
   by_cases h0 : a = 0
   · subst h0
     rw [decide_eq_false (by simp)]
     simp [leB]
   · rw [decide_eq_true (by omega : (a : Int) > 0), cond_true, toB_wrap, wshr8]
     simp only [Option.bind_some]
     have happ : app 1 l [UInt8.ofNat (a % 256)] = some (l ++ [UInt8.ofNat (a % 256)]) := by
      unfold app limit
      rw [if_pos ⟨by simp only [List.length_cons, List.length_nil]; omega, by simp only [List.length_cons, List.length_nil]; omega⟩]
     rw [happ]
     simp only [Option.bind_some]
     rw [ih (a / 256) n _ (by rw [Nat.pow_succ] at ha; omega) (by omega) (by simp; omega)]
     simp [leB, h0]
def minB (n : Nat) : List UInt8 := (leB 8 (n / 256)).reverse ++ [UInt8.ofNat (n % 256)]
theorem minimal_val (N : Nat) (hN : 20 ≤ N) (n : Nat) (hn : n < 18446744073709551616) : F_cursor_Minimal N (n : Int) = some (minB n) := by
 unfold F_cursor_Minimal
 rw [toB_wrap, wshr8]
 simp only [Option.bind_some]
 rw [min_l0 N 8 (n / 256) N _ (by omega) (by omega) (by simp)]
 simp only [Option.bind_some]
 have hlen := leB_len 8 (n / 256)
 have h := min_rev N 9 ([UInt8.ofNat (n % 256)] ++ leB 8 (n / 256)) [] [] N (by simp; omega) (by simp; omega) (by simp; omega)
 simp only [List.nil_append, List.append_nil, List.length_nil, Nat.zero_add] at h
 have e : wsub .i64 ((([UInt8.ofNat (n % 256)] ++ leB 8 (n / 256)).length : Nat) : Int) 1 = ((([UInt8.ofNat (n % 256)] ++ leB 8 (n / 256)).length : Nat) : Int) - 1 := by
  show IntKind.i64.wrap _ = _
  rw [Go.IntWalk.i64_in _ (by simp; omega)]
 rw [e]
 rw [show (0 : Int) = ((0 : Nat) : Int) from rfl, h]
 simp [minB]
def beN (l : List UInt8) : Nat := l.foldl (fun n x => 256 * n + x.toNat) 0
theorem beN_append (a : List UInt8) (x : UInt8) : beN (a ++ [x]) = 256 * beN a + x.toNat := by
 unfold beN
 rw [List.foldl_append]
 rfl
theorem beN_le : ∀ (f n : Nat), n < 256 ^ f → beN (leB f n).reverse = n
 | 0, n, h => by
   have : n = 0 := by simpa using h
   subst this
   rfl
 | f + 1, n, h => by
   unfold leB
   split
   · rename_i h0
     subst h0
     rfl
   · rw [List.reverse_cons, beN_append, beN_le f (n / 256) (by rw [Nat.pow_succ] at h; omega)]
     have : (UInt8.ofNat (n % 256)).toNat = n % 256 := by simp
     rw [this]
     omega
theorem beN_min (n : Nat) (h : n < 18446744073709551616) : beN (minB n) = n := by
 unfold minB
 rw [beN_append, beN_le 8 (n / 256) (by omega)]
 have : (UInt8.ofNat (n % 256)).toNat = n % 256 := by simp
 rw [this]
 omega
theorem min_len (n : Nat) : 1 ≤ (minB n).length ∧ (minB n).length ≤ 9 := by
 unfold minB
 have := leB_len 8 (n / 256)
 simp
 omega
end Go.Fw
namespace Go.Fw
open Go
theorem leB_short : ∀ (f k n : Nat), n < 256 ^ k → (leB f n).length ≤ k
 | 0, _, _, _ => Nat.zero_le _
 | f + 1, k, n, h => by
   unfold leB
   split
   · exact Nat.zero_le _
   · rename_i h0
     cases k with
     | zero => simp at h; omega
     | succ k =>
       have := leB_short f k (n / 256) (by rw [Nat.pow_succ] at h; omega)
       simp only [List.length_cons]
       omega
theorem leB_head : ∀ (f n : Nat), 0 < n → n < 256 ^ f → ∃ x r, (leB f n).reverse = x :: r ∧ x.toNat ≠ 0
 | 0, n, h0, h => by simp at h; omega
 | f + 1, n, h0, h => by
   unfold leB
   rw [if_neg (by omega), List.reverse_cons]
   by_cases h1 : n / 256 = 0
   · refine ⟨UInt8.ofNat (n % 256), [], ?_, ?_⟩
     · rw [h1]
       cases f <;> simp [leB]
     · have : (UInt8.ofNat (n % 256)).toNat = n % 256 := by simp
       rw [this]
       omega
   · obtain ⟨x, r, e, hx⟩ := leB_head f (n / 256) (by omega) (by rw [Nat.pow_succ] at h; omega)
     exact ⟨x, r ++ [UInt8.ofNat (n % 256)], by rw [e]; rfl, hx⟩
theorem min_head (n : Nat) (h0 : 0 < n) (h : n < 18446744073709551616) : ∃ x r, minB n = x :: r ∧ x.toNat ≠ 0 := by
 unfold minB
 by_cases h1 : n / 256 = 0
 · refine ⟨UInt8.ofNat (n % 256), [], ?_, ?_⟩
   · rw [h1]
     simp [leB]
   · have : (UInt8.ofNat (n % 256)).toNat = n % 256 := by simp
     rw [this]
     omega
 · obtain ⟨x, r, e, hx⟩ := leB_head 8 (n / 256) (by omega) (by omega)
   exact ⟨x, r ++ [UInt8.ofNat (n % 256)], by rw [e]; rfl, hx⟩
theorem min_small (n : Nat) (h : n < 256) : minB n = [UInt8.ofNat n] := by
 unfold minB
 rw [show n / 256 = 0 from by omega, show n % 256 = n from by omega]
 simp [leB]
theorem min_four (n : Nat) (h : n < 4294967296) : (minB n).length ≤ 4 := by
 unfold minB
 have := leB_short 8 3 (n / 256) (by omega)
 simp
 omega
def lenB (n : Nat) : List UInt8 := if n < 128 then minB n else UInt8.ofNat (128 + (minB n).length) :: minB n
theorem lenB_len (n : Nat) (h : n < 4294967296) : 1 ≤ (lenB n).length ∧ (lenB n).length ≤ 5 := by
 have h1 := min_len n
 have h2 := min_four n h
 unfold lenB
 split
 · omega
 · simp only [List.length_cons]; omega
theorem length_val (N : Nat) (hN : 20 ≤ N) (n : Nat) (hn : n ≤ 2147483647) : F_tlv_Length N (n : Int) = some (lenB n, 0) := by
 unfold F_tlv_Length
 rw [decide_eq_false (by omega : ¬ (n : Int) < 0), decide_eq_false (by omega : ¬ (n : Int) > 2147483647), Go.IntWalk.u64_in _ (by omega), minimal_val N hN n (by omega)]
 simp only [cond_false, Option.bind_some]
 by_cases h : n < 128
 · rw [decide_eq_true (by omega : (n : Int) < 128)]
   simp [lenB, h]
 · rw [decide_eq_false (by omega : ¬ (n : Int) < 128)]
   have hl := min_four n (by omega)
   have e : wadd .i64 128 (((minB n).length : Nat) : Int) = ((128 + (minB n).length : Nat) : Int) := by
    show IntKind.i64.wrap _ = _
    rw [Go.IntWalk.i64_in _ (by omega)]
    omega
   rw [e, toB_wrap, show (128 + (minB n).length) % 256 = 128 + (minB n).length from by omega]
   simp only [cond_false, Option.bind_some]
   have happ : app 1 [UInt8.ofNat (128 + (minB n).length)] (minB n) = some ([UInt8.ofNat (128 + (minB n).length)] ++ minB n) := by
    unfold app limit
    rw [if_pos ⟨by simp only [List.length_cons, List.length_nil]; omega, by simp only [List.length_cons, List.length_nil]; omega⟩]
   rw [happ]
   simp [lenB, h]
theorem rlen_step (N n : Nat) (l : Bs) (i17 i18 i19 : Int) : F_tlv_ReadLength_l0 N (n + 1) (l, i17, i18, i19, 0, 0) = bif decide (i19 > i17) then some (l, i17, i18, 0, 0) else ((ix l i19).bind fun b22 => F_tlv_ReadLength_l0 N n (l, i17, bits .or .i64 (wshl .i64 i18 8) (IntKind.wrap .i64 (b22.toNat : Int)), wadd .i64 i19 1, 0, 0)) := rfl
theorem byte_w (b : UInt8) : IntKind.wrap .i64 (b.toNat : Int) = (b.toNat : Int) := by
 have := b.toNat_lt
 rw [Go.IntWalk.i64_in _ (by omega)]
theorem rlen_loop (N : Nat) (b : UInt8) (m rest : List UInt8) (hm : m.length ≤ 4) : ∀ (k n i L : Nat), m.length - i = k → i ≤ m.length → k < n → L < 256 ^ i →
 F_tlv_ReadLength_l0 N n (b :: (m ++ rest), (m.length : Int), (L : Int), ((i + 1 : Nat) : Int), 0, 0) = some (b :: (m ++ rest), (m.length : Int), (((m.drop i).foldl (fun n x => 256 * n + x.toNat) L : Nat) : Int), 0, 0) := by
 intro k
 induction k with
 | zero =>
   intro n i L hk hi hn _
   obtain ⟨n, rfl⟩ : ∃ m, n = m + 1 := ⟨n - 1, by omega⟩
   rw [rlen_step, decide_eq_true (by omega : ((i + 1 : Nat) : Int) > (m.length : Int)), List.drop_eq_nil_of_le (by omega)]
   rfl
 | succ k ih =>
   intro n i L hk hi hn hL
   obtain ⟨n, rfl⟩ : ∃ m, n = m + 1 := ⟨n - 1, by omega⟩
   have hlt : i < m.length := by omega
   have hget : (b :: (m ++ rest))[i + 1]? = some m[i] := by
    rw [List.getElem?_cons_succ, List.getElem?_append_left hlt, List.getElem?_eq_getElem hlt]
   rw [rlen_step, decide_eq_false (by omega : ¬ ((i + 1 : Nat) : Int) > (m.length : Int)), cond_false, ix_get hget]
   simp only [Option.bind_some]
   have hp : (256 : Nat) ^ i ≤ 256 ^ 4 := Nat.pow_le_pow_right (by decide) (by omega)
   have h4 : (256 : Nat) ^ 4 = 4294967296 := by decide
   have hb := (m[i]).toNat_lt
   rw [byte_w, or_byte (by omega) (by omega) (by omega) (by omega), wad1 (by omega), List.drop_eq_getElem_cons hlt, List.foldl_cons]
   rw [show (256 * (L : Int) + ((m[i]).toNat : Int)) = ((256 * L + (m[i]).toNat : Nat) : Int) from by omega]
   exact ih n (i + 1) _ (by omega) (by omega) (by omega) (by rw [Nat.pow_succ]; omega)
theorem rlen_val (N : Nat) (hN : 20 ≤ N) (n : Nat) (hn : n ≤ 2147483647) (rest : List UInt8) : F_tlv_ReadLength N (lenB n ++ rest) = some ((n : Int), ((lenB n).length : Int), 0, 0) := by
 unfold F_tlv_ReadLength
 by_cases h : n < 128
 · have e : lenB n = [UInt8.ofNat n] := by simp [lenB, h, min_small n (by omega)]
   rw [e]
   have h0 : (((([UInt8.ofNat n] ++ rest).length : Nat) : Int) == 0) = false := by simp; omega
   have hix : ix ([UInt8.ofNat n] ++ rest) 0 = some (UInt8.ofNat n) := rfl
   have hn' : (UInt8.ofNat n).toNat = n := by simp; omega
   rw [h0]
   simp only [cond_false, hix, Option.bind_some, hn']
   rw [decide_eq_true (by omega : (n : Int) < 128), cond_true, Go.IntWalk.i64_in _ (by omega)]
   rfl
 · have hm4 := min_four n (by omega)
   have hm1 := (min_len n).1
   have e : lenB n = UInt8.ofNat (128 + (minB n).length) :: minB n := by simp [lenB, h]
   obtain ⟨x, r, hx, hx0⟩ := min_head n (by omega) (by omega)
   rw [e, List.cons_append]
   generalize hb : UInt8.ofNat (128 + (minB n).length) = b
   have hbn : b.toNat = 128 + (minB n).length := by rw [← hb]; simp; omega
   have h0 : ((((b :: (minB n ++ rest)).length : Nat) : Int) == 0) = false := by simp; omega
   have hix : ix (b :: (minB n ++ rest)) 0 = some b := rfl
   have hix1 : ix (b :: (minB n ++ rest)) 1 = some x := by rw [hx]; rfl
   have hsub : wsub .i64 (b.toNat : Int) 128 = ((minB n).length : Int) := by
    show IntKind.i64.wrap _ = _
    rw [hbn, Go.IntWalk.i64_in _ (by omega)]
    omega
   rw [h0]
   simp only [cond_false, hix, Option.bind_some, byte_w]
   rw [decide_eq_false (by omega : ¬ (b.toNat : Int) < 128), hsub]
   rw [show ((((minB n).length : Nat) : Int) == 0) = false from beq_eq_false_iff_ne.2 (by omega), decide_eq_false (by omega : ¬ (((minB n).length : Nat) : Int) > 4), decide_eq_false (by simp; omega : ¬ (((b :: (minB n ++ rest)).length : Nat) : Int) ≤ (((minB n).length : Nat) : Int))]
   simp only [cond_false]
   have hl := rlen_loop N b (minB n) rest hm4 (minB n).length N 0 0 (by omega) (by omega) (by omega) (by simp)
   rw [List.drop_zero, show (minB n).foldl (fun n x => 256 * n + x.toNat) 0 = n from beN_min n (by omega)] at hl
   rw [show F_tlv_ReadLength_l0 N N (b :: (minB n ++ rest), (((minB n).length : Nat) : Int), 0, 1, 0, 0) = _ from hl]
   simp only [Option.bind_some, hix1]
   rw [show ((x.toNat : Int) == 0) = false from beq_eq_false_iff_ne.2 (by omega), decide_eq_false (by omega : ¬ (n : Int) < 128), decide_eq_false (by omega : ¬ (n : Int) > 2147483647)]
   have ew : wadd .i64 1 (((minB n).length : Nat) : Int) = (((b :: minB n).length : Nat) : Int) := by
    show IntKind.i64.wrap _ = _
    rw [Go.IntWalk.i64_in _ (by omega)]
    simp; omega
   rw [ew]
   rfl
end Go.Fw

namespace Go.Fw
open Go
def idB (c : Nat) (k : Bool) (num : Nat) : UInt8 := UInt8.ofNat (64 * c + (if k then 32 else 0) + num)
theorem ident_all : ∀ (c : Fin 4) (k : Bool) (num : Fin 31), F_tlv_Identifier (c.val : Int) k (num.val : Int) = some (((idB c.val k num.val).toNat : Int), 0) ∧ F_tlv_ReadIdentifier ((idB c.val k num.val).toNat : Int) = some ((c.val : Int), k, (num.val : Int), 0) := of_decide_eq_true (by kernel_rfl)
theorem ident_val {c num : Nat} (k : Bool) (hc : c < 4) (hn : num < 31) : F_tlv_Identifier (c : Int) k (num : Int) = some (((idB c k num).toNat : Int), 0) := (ident_all ⟨c, hc⟩ k ⟨num, hn⟩).1
theorem rident_val {c num : Nat} (k : Bool) (hc : c < 4) (hn : num < 31) : F_tlv_ReadIdentifier ((idB c k num).toNat : Int) = some ((c : Int), k, (num : Int), 0) := (ident_all ⟨c, hc⟩ k ⟨num, hn⟩).2
theorem slc_one (b : UInt8) (r : List UInt8) : slc (b :: r) 1 ((b :: r).length : Int) = some r := by
 unfold slc
 rw [if_pos ⟨by decide, by simp only [List.length_cons]; omega, by omega⟩, Int.toNat_natCast, List.take_length]
 rfl
theorem wad_in {a b : Int} (h : -4611686018427387904 ≤ a + b ∧ a + b ≤ 4611686018427387904) : wadd .i64 a b = a + b := by
 show IntKind.i64.wrap _ = _
 rw [Go.IntWalk.i64_in _ (by omega)]
theorem wsb_in {a b : Int} (h : -4611686018427387904 ≤ a - b ∧ a - b ≤ 4611686018427387904) : wsub .i64 a b = a - b := by
 show IntKind.i64.wrap _ = _
 rw [Go.IntWalk.i64_in _ (by omega)]
theorem header_val (N : Nat) (hN : 20 ≤ N) {c num n : Nat} (k : Bool) (hc : c < 4) (hu : num < 31) (hn : n ≤ 2147483647) (rest : List UInt8) :
 F_tlv_ReadHeader N (idB c k num :: (lenB n ++ rest)) = some (((c : Int), (num : Int), k, (n : Int), ((1 + (lenB n).length : Nat) : Int)), 0, 0) := by
 have hl := lenB_len n (by omega)
 unfold F_tlv_ReadHeader
 have h0 : ((((idB c k num :: (lenB n ++ rest)).length : Nat) : Int) == 0) = false := beq_eq_false_iff_ne.2 (by simp only [List.length_cons]; omega)
 have hix : ix (idB c k num :: (lenB n ++ rest)) 0 = some (idB c k num) := rfl
 rw [h0, slc_one]
 simp only [cond_false, hix, Option.bind_some, rident_val k hc hu, rlen_val N hN n hn rest]
 have ew : wadd .i64 1 (((lenB n).length : Nat) : Int) = ((1 + (lenB n).length : Nat) : Int) := by
  rw [wad_in (by omega)]
  omega
 rw [ew]
 rfl
end Go.Fw
namespace Go.Fw
open Go
theorem cc_step0 (N n : Nat) (l1 l3 : List Bs) (i2 i4 i5 : Int) : F_slices_Concat_byte_byte_l0 N (n + 1) (l1, i2, l3, i4, i5) = bif decide (i5 < i4) then ((ix l3 i5).bind fun e6 => ((bif decide (wadd .i64 i2 (e6.length : Int) < 0) then none else some (l1, wadd .i64 i2 (e6.length : Int), l3, i4, i5) : Option (List Bs × Int × List Bs × Int × Int))).bind fun (l7, i8, l9, i10, i11) =>
 F_slices_Concat_byte_byte_l0 N n (l7, i8, l9, i10, wadd .i64 i11 1)) else some (l1, i2) := rfl
theorem cc_step1 (N n : Nat) (l15 : List Bs) (i16 i17 : Int) (l18 : Bs) : F_slices_Concat_byte_byte_l1 N (n + 1) (l15, i16, i17, l18) = bif decide (i17 < i16) then ((ix l15 i17).bind fun e19 => (app 1 l18 e19).bind fun l20 => F_slices_Concat_byte_byte_l1 N n (l15, i16, wadd .i64 i17 1, l20)) else some l18 := rfl
theorem cc_l0 (N : Nat) (xs : List Bs) (hx : xs.length < 4611686018427387904) : ∀ (k n i s : Nat), xs.length - i = k → i ≤ xs.length → k < n → s + (xs.drop i).flatten.length ≤ 1099511627776 →
 F_slices_Concat_byte_byte_l0 N n (xs, (s : Int), xs, (xs.length : Int), (i : Int)) = some (xs, ((s + (xs.drop i).flatten.length : Nat) : Int)) := by
 intro k
 induction k with
 | zero =>
   intro n i s hk hi hn _
   obtain ⟨n, rfl⟩ : ∃ m, n = m + 1 := ⟨n - 1, by omega⟩
   rw [cc_step0, decide_eq_false (by omega : ¬ (i : Int) < (xs.length : Int)), List.drop_eq_nil_of_le (by omega)]
   rfl
 | succ k ih =>
   intro n i s hk hi hn hs
   obtain ⟨n, rfl⟩ : ∃ m, n = m + 1 := ⟨n - 1, by omega⟩
   have hlt : i < xs.length := by omega
   rw [List.drop_eq_getElem_cons hlt, List.flatten_cons, List.length_append] at hs
   rw [cc_step0, decide_eq_true (by omega : (i : Int) < (xs.length : Int)), cond_true, ix_get (List.getElem?_eq_getElem hlt)]
   simp only [Option.bind_some]
   rw [wad_in (by omega), show (s : Int) + ((xs[i].length : Nat) : Int) = ((s + xs[i].length : Nat) : Int) from by omega, decide_eq_false (by omega : ¬ ((s + xs[i].length : Nat) : Int) < 0)]
   simp only [cond_false, Option.bind_some]
   rw [wad1 (by omega), ih n (i + 1) _ (by omega) (by omega) (by omega) (by omega), List.drop_eq_getElem_cons hlt, List.flatten_cons, List.length_append, Nat.add_assoc]
theorem cc_l1 (N : Nat) (xs : List Bs) (hx : xs.length < 4611686018427387904) : ∀ (k n i : Nat) (l : Bs), xs.length - i = k → i ≤ xs.length → k < n → l.length + (xs.drop i).flatten.length ≤ 1099511627776 →
 F_slices_Concat_byte_byte_l1 N n (xs, (xs.length : Int), (i : Int), l) = some (l ++ (xs.drop i).flatten) := by
 intro k
 induction k with
 | zero =>
   intro n i l hk hi hn _
   obtain ⟨n, rfl⟩ : ∃ m, n = m + 1 := ⟨n - 1, by omega⟩
   rw [cc_step1, decide_eq_false (by omega : ¬ (i : Int) < (xs.length : Int)), List.drop_eq_nil_of_le (by omega)]
   simp
 | succ k ih =>
   intro n i l hk hi hn hs
   obtain ⟨n, rfl⟩ : ∃ m, n = m + 1 := ⟨n - 1, by omega⟩
   have hlt : i < xs.length := by omega
   rw [List.drop_eq_getElem_cons hlt, List.flatten_cons, List.length_append] at hs
   rw [cc_step1, decide_eq_true (by omega : (i : Int) < (xs.length : Int)), cond_true, ix_get (List.getElem?_eq_getElem hlt)]
   simp only [Option.bind_some]
   have happ : app 1 l xs[i] = some (l ++ xs[i]) := by
    unfold app limit
    rw [if_pos ⟨by omega, by omega⟩]
   rw [happ]
   simp only [Option.bind_some]
   rw [wad1 (by omega), ih n (i + 1) _ (by omega) (by omega) (by omega) (by rw [List.length_append]; omega), List.drop_eq_getElem_cons hlt, List.flatten_cons, List.append_assoc]
theorem concat_val (N : Nat) (xs : List Bs) (hN : xs.length < N) (hN2 : N < 4611686018427387904) (hl : xs.flatten.length ≤ 1099511627776) : F_slices_Concat_byte_byte N xs = some xs.flatten := by
 unfold F_slices_Concat_byte_byte
 have h0 := cc_l0 N xs (by omega) xs.length N 0 0 rfl (by omega) hN (by simpa using hl)
 rw [List.drop_zero, Nat.zero_add] at h0
 rw [show F_slices_Concat_byte_byte_l0 N N (xs, 0, xs, (xs.length : Int), 0) = _ from h0]
 simp only [Option.bind_some]
 have hg : F_Grow ((xs.flatten.length : Nat) : Int) = some [] := by
  unfold F_Grow limit
  rw [decide_eq_true (by omega : (0 : Int) ≤ ((xs.flatten.length : Nat) : Int)), decide_eq_true (by omega : ((xs.flatten.length : Nat) : Int) ≤ ((1099511627776 : Nat) : Int))]
  rfl
 rw [hg]
 simp only [Option.bind_some]
 have h1 := cc_l1 N xs (by omega) xs.length N 0 [] rfl (by omega) hN (by simpa using hl)
 rw [List.drop_zero, List.nil_append] at h1
 rw [show F_slices_Concat_byte_byte_l1 N N (xs, (xs.length : Int), 0, []) = _ from h1]
 rfl
def tlv (c : Nat) (k : Bool) (num : Nat) (body : List UInt8) : List UInt8 := idB c k num :: (lenB body.length ++ body)
theorem tlv_len (c : Nat) (k : Bool) (num : Nat) (body : List UInt8) : (tlv c k num body).length = 1 + (lenB body.length).length + body.length := by
 unfold tlv
 simp
 omega
theorem encode_val (N : Nat) (hN : 20 ≤ N) (hN2 : N < 4611686018427387904) {c num : Nat} (k : Bool) (hc : c < 4) (hu : num < 31) (body : List UInt8) (hb : body.length ≤ 2147483647) : F_tlv_Encode N (c : Int) k (num : Int) body = some (tlv c k num body, 0) := by
 have hl := lenB_len body.length (by omega)
 unfold F_tlv_Encode
 rw [ident_val k hc hu]
 simp only [Option.bind_some]
 rw [show ((0 : Int) != 0) = false from rfl, length_val N hN body.length hb]
 simp only [cond_false, Option.bind_some]
 rw [show ((0 : Int) != 0) = false from rfl, toB_nat]
 simp only [cond_false, Option.bind_some]
 rw [concat_val N _ (by simp; omega) hN2 (by simp; omega)]
 simp [tlv]
end Go.Fw
namespace Go.Fw
open Go
mutual
def encN : Node → Bs
 | .mk c m k b ks => tlv c.toNat k m.toNat (b ++ encL ks)
def encL : List Node → Bs
 | [] => []
 | n :: r => encN n ++ encL r
end
theorem node_eta (n : Node) : Node.mk n.cls n.num n.cons n.body n.kids = n := by cases n; rfl
theorem encL_le {d : Nat} (IH : ∀ n, okN d n → (txN n).length ≤ 1000000 → (encN n).length ≤ 2 * (txN n).length) : ∀ ks, okL d ks → (txR ks).length ≤ 1000000 → (encL ks).length ≤ 2 * (txR ks).length
 | [], _, _ => by simp [encL]
 | n :: r, h, hl => by
   have h : okN d n ∧ okL d r := h
   simp only [txR, encL, List.length_append, List.length_cons] at hl ⊢
   have h1 := IH n h.1 (by omega)
   have h2 := encL_le IH r h.2 (by omega)
   omega
theorem encL_le' {d : Nat} (IH : ∀ n, okN d n → (txN n).length ≤ 1000000 → (encN n).length ≤ 2 * (txN n).length) (ks : List Node) (h : okL d ks) (hl : (txL ks).length ≤ 1000000) : (encL ks).length ≤ 2 * (txL ks).length := by
 cases ks with
 | nil => simp [encL]
 | cons n r =>
   have h : okN d n ∧ okL d r := h
   simp only [txL, encL, List.length_append] at hl ⊢
   have h1 := IH n h.1 (by omega)
   have h2 := encL_le IH r h.2 (by omega)
   omega
theorem txN_len (c m : Int) (k : Bool) (b : Bs) (ks : List Node) : (txN (.mk c m k b ks)).length = if k then 4 + (txL ks).length else 3 + 2 * b.length := by
 rw [txN, List.length_append, hexL_length]
 cases k <;> simp [hexL_length] <;> omega
theorem body_le {d : Nat} {c m : Int} {k : Bool} {b : Bs} {ks : List Node} (hok : okN (d + 1) (.mk c m k b ks)) (hl : (txN (.mk c m k b ks)).length ≤ 1000000) (IH : ∀ n, okN d n → (txN n).length ≤ 1000000 → (encN n).length ≤ 2 * (txN n).length) : (b ++ encL ks).length + 6 ≤ 2 * (txN (.mk c m k b ks)).length := by
 obtain ⟨hc, hm, hb, hks, hL⟩ := hok
 rw [txN_len] at hl ⊢
 cases k with
 | false =>
   rw [hks rfl]
   simp only [encL, List.append_nil, Bool.false_eq_true, if_false] at hl ⊢
   omega
 | true =>
   rw [hb rfl]
   simp only [List.nil_append, if_true] at hl ⊢
   have := encL_le' IH ks hL (by omega)
   omega
theorem encN_le : ∀ (d : Nat) (n : Node), okN d n → (txN n).length ≤ 1000000 → (encN n).length ≤ 2 * (txN n).length
 | 0, n, h, _ => by cases n; exact False.elim h
 | d + 1, .mk c m k b ks, hok, hl => by
   have h1 := body_le hok hl (encN_le d)
   rw [encN, tlv_len]
   have h2 := lenB_len (b ++ encL ks).length (by omega)
   omega
theorem app_ok {α : Type} {by' : Nat} {xs ys : List α} (h : (xs.length + ys.length) * by' ≤ 1000000000) (h2 : xs.length + ys.length ≤ 1000000000) : app by' xs ys = some (xs ++ ys) := by
 unfold app limit
 rw [if_pos ⟨by omega, by omega⟩]
theorem ix_at {α : Type} {l : List α} {i : Nat} (h : i < l.length) : ix l (i : Int) = some l[i] := ix_n (List.getElem?_eq_getElem h)
theorem lt_i {i n : Nat} (h : i < n) : decide ((i : Int) < (n : Int)) = true := decide_eq_true (by omega)
theorem ge_i {i n : Nat} (h : n ≤ i) : decide ((i : Int) < (n : Int)) = false := decide_eq_false (by omega)
theorem inc_i {i : Nat} (h : i < 1000000000) : wadd .i64 (i : Int) 1 = ((i + 1 : Nat) : Int) := by
 show IntKind.i64.wrap ((i : Int) + 1) = _
 rw [Go.IntWalk.i64_in _ (by omega)]; omega
theorem dec_i {d : Nat} (h : d < 1000000000) : wsub .i64 ((d + 1 : Nat) : Int) 1 = (d : Int) := by
 show IntKind.i64.wrap _ = _
 rw [Go.IntWalk.i64_in _ (by omega)]; omega
theorem okL_mem {d : Nat} : ∀ {ks : List Node} {x : Node}, okL d ks → x ∈ ks → okN d x
 | k :: ks, x, h, hx => by
   rcases List.mem_cons.1 hx with rfl | h1
   · exact h.1
   · exact okL_mem h.2 h1
theorem valid_loop (N : Nat) (R : Node → Int → Option Bool) (l : List Node) (a2 : Int) (hl : l.length < 1000000) (hR : ∀ x ∈ l, R x (wsub .i64 a2 1) = some true) (x7 x8 : Int) (c9 : Bool) (l10 : Bs) (l11 : List Node) (i12 : Int) :
 ∀ (k n i : Nat), l.length - i = k → i ≤ l.length → k < n → F_tree_valid_l0 N R n (l, a2, (l.length : Int), (i : Int), x7, x8, c9, l10, l11, i12) = some (Sum.inr (x7, x8, c9, l10, l11, i12))
 | 0, n + 1, i, hk, hi, _ => by
   rw [s_tree_valid_l0, ge_i (by omega)]; rfl
 | k + 1, n + 1, i, hk, hi, hn => by
   have hlt : i < l.length := by omega
   rw [s_tree_valid_l0, lt_i hlt, cond_true, ix_at hlt, Option.bind_some, node_eta, hR _ (List.getElem_mem hlt), Option.bind_some, Bool.not_true, cond_false, inc_i (by omega)]
   exact valid_loop N R l a2 hl hR x7 x8 c9 l10 l11 i12 k n (i + 1) (by omega) (by omega) (by omega)
theorem ident_ok {c m : Int} (k : Bool) (hc : 0 ≤ c ∧ c ≤ 3) (hm : 0 ≤ m ∧ m ≤ 30) : F_tlv_Identifier c k m = some (((idB c.toNat k m.toNat).toNat : Int), 0) := by
 have := ident_val (c := c.toNat) (num := m.toNat) k (by omega) (by omega)
 rwa [Int.toNat_of_nonneg hc.1, Int.toNat_of_nonneg hm.1] at this
theorem mem_txR {x : Node} : ∀ {ks : List Node}, x ∈ ks → (txN x).length ≤ (txR ks).length
 | k :: ks, h => by
   simp only [txR, List.length_append, List.length_cons]
   rcases List.mem_cons.1 h with rfl | h
   · omega
   · have := mem_txR h; omega
theorem mem_txL {x : Node} : ∀ {ks : List Node}, x ∈ ks → (txN x).length ≤ (txL ks).length
 | k :: ks, h => by
   simp only [txL, List.length_append]
   rcases List.mem_cons.1 h with rfl | h
   · omega
   · have := mem_txR h; omega
theorem valid_ok (N : Nat) (hN : 1000000 < N) : ∀ (d m : Nat) (n : Node), d < 1000 → d < m → okN d n → (txN n).length < 1000000 → F_tree_valid N m n (d : Int) = some true
 | 0, _, n, _, _, h, _ => by cases n; exact False.elim h
 | d + 1, f + 1, .mk c m k b ks, hd, hf, hok, hl => by
   have hok0 := hok
   obtain ⟨hc, hm, hb, hks, hL⟩ := hok
   rw [txN_len] at hl
   have e0 : (((d + 1 : Nat) : Int) == 0) = false := beq_eq_false_iff_ne.2 (by omega)
   have hlen : ks.length < 1000000 := by
    cases k with
    | false => rw [hks rfl]; simp
    | true => have := txL_len' ks; simp only [if_true] at hl; omega
   have hloop := valid_loop N (F_tree_valid N f) ks ((d + 1 : Nat) : Int) hlen (fun x hx => by
    rw [dec_i (by omega)]
    refine valid_ok N hN d f x (by omega) (by omega) (okL_mem hL hx) ?_
    cases k with
    | false => rw [hks rfl] at hx; cases hx
    | true => exact Nat.lt_of_le_of_lt (mem_txL hx) (by simp only [if_true] at hl; omega)) c m k b ks ((d + 1 : Nat) : Int) (ks.length) N 0 (by omega) (by omega) (by omega)
   rw [m_tree_valid, ident_ok k hc hm, Option.bind_some]
   simp only [e0]
   cases k with
   | false =>
     have := hks rfl
     subst this
     simp only [bne_self_eq_false, cond_false, cond_true, Bool.not_false]
     rw [show decide (((([] : List Node).length : Nat) : Int) > 0) = false from rfl, cond_false]
     rw [show (0 : Int) = ((0 : Nat) : Int) from rfl, hloop]
     rfl
   | true =>
     have := hb rfl
     subst this
     simp only [bne_self_eq_false, cond_false, cond_true, Bool.not_true]
     rw [show decide (((([] : Bs).length : Nat) : Int) > 0) = false from rfl, cond_false]
     rw [show (0 : Int) = ((0 : Nat) : Int) from rfl, hloop]
     rfl
end Go.Fw
namespace Go.Fw
open Go
structure Kid (d : Nat) (c m : Int) (k : Bool) (b : Bs) (ks : List Node) : Prop where
 hc : 0 ≤ c ∧ c ≤ 3
 hm : 0 ≤ m ∧ m ≤ 30
 hb : k = true → b = []
 hk : k = false → ks = []
 len : ks.length < 1000000
 body : (b ++ encL ks).length < 2000000
 kid : ∀ x ∈ ks, okN d x ∧ (txN x).length < 1000000
theorem kd_of {d : Nat} {c m : Int} {k : Bool} {b : Bs} {ks : List Node} (hok : okN (d + 1) (.mk c m k b ks)) (hl : (txN (.mk c m k b ks)).length < 1000000) : Kid d c m k b ks := by
 have hbl := body_le hok (by omega) (encN_le d)
 obtain ⟨hc, hm, hb, hks, hL⟩ := hok
 rw [txN_len] at hl
 refine ⟨hc, hm, hb, hks, ?_, by rw [txN_len] at hbl; cases k <;> simp only [if_true, Bool.false_eq_true, if_false] at hl hbl <;> omega, fun x hx => ⟨okL_mem hL hx, ?_⟩⟩
 · cases k with
   | false => rw [hks rfl]; simp
   | true => have := txL_len' ks; simp only [if_true] at hl; omega
 · cases k with
   | false => rw [hks rfl] at hx; cases hx
   | true => exact Nat.lt_of_le_of_lt (mem_txL hx) (by simp only [if_true] at hl; omega)
theorem drop_cons {α : Type} {l : List α} {i : Nat} (h : i < l.length) : l.drop i = l[i] :: l.drop (i + 1) := List.drop_eq_getElem_cons h
theorem encode_loop (N : Nat) (R : Node → Option (Bs × Int)) (l : List Node) (hl : l.length < 1000000) (hR : ∀ x ∈ l, R x = some (encN x, 0)) (x5 x6 : Int) (c7 : Bool) (l8 : Bs) (l9 : List Node) :
 ∀ (k n i : Nat) (acc : Bs), l.length - i = k → i ≤ l.length → k < n → (acc ++ encL (l.drop i)).length < 1000000000 → F_tree_encode_l0 N R n (l, (l.length : Int), (i : Int), x5, x6, c7, l8, l9, acc) = some (Sum.inr (x5, x6, c7, l8, l9, acc ++ encL (l.drop i)))
 | 0, n + 1, i, acc, hk, hi, _, _ => by
   rw [s_tree_encode_l0, ge_i (by omega), List.drop_eq_nil_of_le (by omega)]
   simp [encL]
 | k + 1, n + 1, i, acc, hk, hi, hn, hs => by
   have hlt : i < l.length := by omega
   rw [drop_cons hlt, encL, ← List.append_assoc] at hs ⊢
   have hs2 := hs
   simp only [List.length_append] at hs2
   rw [s_tree_encode_l0, lt_i hlt, cond_true, ix_at hlt, Option.bind_some, node_eta, hR _ (List.getElem_mem hlt)]
   simp only [Option.bind_some, bne_self_eq_false, cond_false]
   rw [app_ok (by omega) (by omega), Option.bind_some, inc_i (by omega)]
   exact encode_loop N R l hl hR x5 x6 c7 l8 l9 k n (i + 1) _ (by omega) (by omega) (by omega) hs
theorem encode_ok (N : Nat) (hN : 1000000 < N) (hN2 : N < 4611686018427387904) : ∀ (d f : Nat) (n : Node), d < 1000 → d ≤ f → okN d n → (txN n).length < 1000000 → F_tree_encode N f n = some (encN n, 0)
 | 0, _, n, _, _, h, _ => by cases n; exact False.elim h
 | d + 1, f + 1, .mk c m k b ks, hd, hf, hok, hl => by
   have K := kd_of hok hl
   have hbd := K.body
   rw [List.length_append] at hbd
   have hloop := encode_loop N (F_tree_encode N f) ks K.len (fun x hx => encode_ok N hN hN2 d f x (by omega) (by omega) (K.kid x hx).1 (K.kid x hx).2) c m k b ks ks.length N 0 b (by omega) (by omega) (by have := K.len; omega) (by simp only [List.drop_zero, List.length_append]; omega)
   rw [m_tree_encode, F_CloneO, app_ok (by simp; omega) (by simp; omega), Option.bind_some, List.nil_append, show (0 : Int) = ((0 : Nat) : Int) from rfl, hloop]
   simp only [Option.bind_some, List.drop_zero]
   have he := encode_val N (by omega) hN2 (c := c.toNat) (num := m.toNat) k (by have := K.hc; omega) (by have := K.hm; omega) (b ++ encL ks) (by have := K.body; omega)
   rw [Int.toNat_of_nonneg K.hc.1, Int.toNat_of_nonneg K.hm.1] at he
   rw [he, encN]
   rfl
theorem Encode_ok {N : Nat} (hN : 1000000 < N) (hN2 : N < 4611686018427387904) {n : Node} (hok : okN 16 n) (hl : (txN n).length < 1000000) : F_tree_Encode N n = some (encN n, 0) := by
 unfold F_tree_Encode F_tree_Valid
 rw [node_eta, node_eta, show (16 : Int) = ((16 : Nat) : Int) from rfl, valid_ok N hN 16 N n (by omega) (by omega) hok hl]
 simp only [Option.bind_some, Bool.not_true, cond_false]
 rw [encode_ok N hN hN2 16 N n (by omega) (by omega) hok hl]
 rfl
end Go.Fw
namespace Go.Fw
open Go
theorem slc_dt {a : Bs} {i j : Nat} (h1 : i ≤ j) (h2 : j ≤ a.length) : slc a (i : Int) (j : Int) = some ((a.drop i).take (j - i)) := by
 unfold slc
 rw [if_pos ⟨by omega, by omega, by omega⟩, List.drop_take]
 simp
theorem cut_r {a u v : Bs} {i m : Nat} (h : (a.drop i).take m = u ++ v) : (a.drop (i + u.length)).take (m - u.length) = v := by
 rw [← List.drop_drop, ← List.drop_take, h, List.drop_left]
theorem cut_l {a u v : Bs} {i m : Nat} (h : (a.drop i).take m = u ++ v) : (a.drop i).take u.length = u := by
 have h1 := congrArg (List.take u.length) h
 rw [List.take_left, List.take_take] at h1
 have h2 := congrArg List.length h
 rw [List.length_take, List.length_append] at h2
 rw [Nat.min_eq_left (by omega)] at h1
 exact h1
theorem cut_len {a u : Bs} {i m : Nat} (h : (a.drop i).take m = u) (hm : i + m ≤ a.length) : m = u.length := by
 rw [← h, List.length_take, List.length_drop]; omega
theorem read_loop (N : Nat) (R : Bs → Int → Int → Int → Option (Spot × (Int × Int))) (a : Bs) (ha : a.length < 1000000000) (d stop : Nat) (hd : d < 1000) (hst : stop ≤ a.length) (x27 x28 : Int) (x29 : Bool) (x25 : Int) :
 ∀ (ks : List Node) (n pos : Nat) (ns : List Node) (ss : List Spot), (∀ x ∈ ks, ∀ (i : Nat) (r : Bs), i ≤ stop → (a.drop i).take (stop - i) = encN x ++ r → ∃ sp : Spot, R a (i : Int) (stop : Int) (d : Int) = some (sp, 0, 0) ∧ sp.stop = ((i + (encN x).length : Nat) : Int) ∧ sp.nd = x) →
   (∀ x ∈ ks, encN x ≠ []) → ks.length < n → pos ≤ stop → (a.drop pos).take (stop - pos) = encL ks → ns.length + ks.length < 1000000 → ss.length + ks.length < 1000000 →
   ∃ ss', F_tree_read_l0 N R n (a, ((d + 1 : Nat) : Int), (pos : Int), 0, 0, 0, 0, false, [], 0, 0, ns, ss, x25, (stop : Int), x27, x28, x29) = some (Sum.inr (0, 0, 0, 0, false, [], 0, 0, ns ++ ks, ss', x25, (stop : Int), x27, x28, x29))
 | [], n + 1, pos, ns, ss, _, _, _, hp, he, _, _ => by
   have : stop - pos = 0 := cut_len (u := []) (by simpa [encL] using he) (by omega)
   rw [s_tree_read_l0, ge_i (by omega), List.append_nil]
   exact ⟨ss, rfl⟩
 | x :: ks, n + 1, pos, ns, ss, hR, hne, hn, hp, he, h1, h2 => by
   rw [encL] at he
   have hx := hne x (by simp)
   have hlen := cut_len he (by omega)
   rw [List.length_append] at hlen
   have hpos : 0 < (encN x).length := List.length_pos_iff.2 hx
   obtain ⟨sp, r1, r2, r3⟩ := hR x (by simp) pos _ hp he
   simp only [List.length_cons] at h1 h2 hn
   rw [s_tree_read_l0, lt_i (by omega), cond_true, dec_i (by omega), r1]
   simp only [Option.bind_some, bne_self_eq_false, cond_false]
   rw [app_ok (by simp only [List.length_cons, List.length_nil]; omega) (by simp only [List.length_cons, List.length_nil]; omega), Option.bind_some, app_ok (by simp only [List.length_cons, List.length_nil]; omega) (by simp only [List.length_cons, List.length_nil]; omega), Option.bind_some, r2, node_eta, r3]
   have := read_loop N R a ha d stop hd hst x27 x28 x29 x25 ks n (pos + (encN x).length) (ns ++ [x]) (ss ++ [Spot.mk sp.at' ((pos + (encN x).length : Nat) : Int) x sp.kids]) (fun y hy => hR y (by simp [hy])) (fun y hy => hne y (by simp [hy])) (by omega) (by omega)
    (by rw [show stop - (pos + (encN x).length) = stop - pos - (encN x).length from by omega]; exact cut_r he) (by simp only [List.length_append, List.length_cons, List.length_nil]; omega) (by simp only [List.length_append, List.length_cons, List.length_nil]; omega)
   obtain ⟨ss', e⟩ := this
   exact ⟨ss', by rw [e]; simp⟩
theorem encN_ne (n : Node) : encN n ≠ [] := by cases n; simp [encN, tlv]
theorem read_ok (N : Nat) (hN : 1000000 < N) (hN2 : N < 4611686018427387904) (a : Bs) (ha : a.length < 1000000000) : ∀ (d f : Nat) (n : Node) (i j : Nat) (r : Bs), d < 1000 → d ≤ f → okN d n → (txN n).length < 1000000 → i ≤ j → j ≤ a.length → (a.drop i).take (j - i) = encN n ++ r →
 ∃ sp : Spot, F_tree_read N f a (i : Int) (j : Int) (d : Int) = some (sp, 0, 0) ∧ sp.stop = ((i + (encN n).length : Nat) : Int) ∧ sp.nd = n
 | 0, _, n, _, _, _, _, _, h, _, _, _, _ => by cases n; exact False.elim h
 | d + 1, f + 1, .mk c m k b ks, i, j, r, hd, hf, hok, hl, hij, hj, he => by
   have K := kd_of hok hl
   have hbd := K.body
   have e0 : (((d + 1 : Nat) : Int) == 0) = false := beq_eq_false_iff_ne.2 (by omega)
   have htl := tlv_len c.toNat k m.toNat (b ++ encL ks)
   have hlb := lenB_len (b ++ encL ks).length (by omega)
   have hlen := cut_len he (by omega)
   rw [List.length_append, encN] at hlen
   have hh := header_val N (by omega) (c := c.toNat) (num := m.toNat) k (by have := K.hc; omega) (by have := K.hm; omega) (n := (b ++ encL ks).length) (by omega) (b ++ encL ks ++ r)
   rw [Int.toNat_of_nonneg K.hc.1, Int.toNat_of_nonneg K.hm.1] at hh
   have he2 : (a.drop i).take (j - i) = (idB c.toNat k m.toNat :: lenB (b ++ encL ks).length) ++ ((b ++ encL ks) ++ r) := by
    rw [he, encN, tlv]; simp
   have hc1 := cut_r he2
   have hc2 := cut_l hc1
   simp only [List.length_cons] at hc1 hc2
   rw [s_tree_read, e0]
   simp only [cond_false]
   rw [decide_eq_true (Int.le_refl _), decide_eq_true (show (j : Int) ≤ ((a.length : Nat) : Int) by omega)]
   simp only [Bool.and_self, cond_true]
   rw [slc_dt hij hj, Option.bind_some, show (a.drop i).take (j - i) = idB c.toNat k m.toNat :: (lenB (b ++ encL ks).length ++ (b ++ encL ks ++ r)) from by rw [he2]; simp, hh]
   simp only [Option.bind_some, bne_self_eq_false, cond_false]
   have e2 : wadd .i64 (i : Int) ((1 + (lenB (b ++ encL ks).length).length : Nat) : Int) = ((i + (1 + (lenB (b ++ encL ks).length).length) : Nat) : Int) := by
    rw [wad_in (by omega)]; omega
   rw [e2]
   have e1 : wsub .i64 (j : Int) ((i + (1 + (lenB (b ++ encL ks).length).length) : Nat) : Int) = ((j - (i + (1 + (lenB (b ++ encL ks).length).length)) : Nat) : Int) := by
    rw [wsb_in (by omega)]; omega
   rw [e1, decide_eq_false (by omega)]
   simp only [cond_false]
   have e3 : wadd .i64 ((i + (1 + (lenB (b ++ encL ks).length).length) : Nat) : Int) ((b ++ encL ks).length : Int) = ((i + (encN (.mk c m k b ks)).length : Nat) : Int) := by
    rw [wad_in (by omega), encN]; omega
   rw [e3]
   cases k with
   | false =>
     have hk := K.hk rfl
     subst hk
     simp only [Bool.not_false, cond_true]
     rw [slc_dt (by rw [encN]; omega) (by rw [encN]; omega), Option.bind_some]
     have e4 : (a.drop (i + (1 + (lenB (b ++ encL []).length).length))).take (i + (encN (.mk c m false b [])).length - (i + (1 + (lenB (b ++ encL []).length).length))) = b := by
      have : i + (encN (.mk c m false b [])).length - (i + (1 + (lenB (b ++ encL []).length).length)) = (b ++ encL []).length := by rw [encN]; omega
      rw [this, Nat.add_comm 1, hc2]
      simp [encL]
     rw [e4]
     simp only [F_Clone]
     rw [app_ok (by simp [encL] at hbd ⊢; omega) (by simp [encL] at hbd ⊢; omega)]
     exact ⟨_, rfl, rfl, rfl⟩
   | true =>
     have hb := K.hb rfl
     subst hb
     simp only [Bool.not_true, cond_false]
     have hloop := read_loop N (F_tree_read N f) a ha d (i + (encN (.mk c m true [] ks)).length) (by omega) (by rw [encN]; omega) c m true (i : Int) ks N (i + (1 + (lenB ([] ++ encL ks).length).length)) [] []
      (fun x hx i' r' hi' he' => read_ok N hN hN2 a ha d f x i' (i + (encN (.mk c m true [] ks)).length) r' (by omega) (by omega) (K.kid x hx).1 (K.kid x hx).2 hi' (by rw [encN]; omega) he')
      (fun x _ => encN_ne x) (by have := K.len; omega) (by rw [encN]; omega)
      (by
        have : i + (encN (.mk c m true [] ks)).length - (i + (1 + (lenB ([] ++ encL ks).length).length)) = ([] ++ encL ks).length := by rw [encN]; omega
        rw [this, Nat.add_comm 1, hc2]
        simp)
      (by simpa using K.len) (by simpa using K.len)
     obtain ⟨ss', hloop⟩ := hloop
     rw [hloop]
     exact ⟨_, rfl, rfl, by simp [Spot.nd]⟩
theorem Parse_ok {N : Nat} (hN : 1000000 < N) (hN2 : N < 4611686018427387904) {n : Node} (hok : okN 16 n) (hl : (txN n).length < 1000000) : F_tree_Parse N (encN n) = some (n, 0, 0) := by
 have hle := encN_le 16 n hok (by omega)
 obtain ⟨sp, h1, h2, h3⟩ := read_ok N hN hN2 (encN n) (by omega) 16 N n 0 (encN n).length [] (by omega) (by omega) hok hl (by omega) (by omega) (by simp)
 unfold F_tree_Parse F_tree_whole
 rw [show F_tree_read N N (encN n) 0 ((encN n).length : Int) 16 = _ from h1]
 simp only [Option.bind_some]
 rw [show ((0 : Int) == 0) = true from rfl, cond_true, h2, decide_eq_false (by omega)]
 simp only [cond_false, Option.bind_some]
 rw [h3]
 show some (Node.mk n.cls n.num n.cons n.body n.kids, _) = _
 rw [node_eta]
end Go.Fw
namespace Go.Fw
open Go
theorem cat_ok {a b : Bs} (h : a.length + b.length ≤ 1000000000) : cat a b = some (a ++ b) := by
 unfold cat
 rw [if_pos (by omega)]
theorem idO_idB (c m : Int) (k : Bool) : idO c k m = idB c.toNat k m.toNat := rfl
theorem join_cons (x y : Bs) (l : List Bs) : Lib.join (x :: y :: l) ([32] : Bs) = x ++ (32 :: Lib.join (y :: l) [32]) := by simp [Lib.join]
theorem join_txR : ∀ (ks : List Node) (n : Node), Lib.join ((n :: ks).map txN) ([32] : Bs) = txL (n :: ks)
 | [], n => by simp [Lib.join, txL, txR]
 | k :: ks, n => by
   have := join_txR ks k
   simp only [List.map_cons] at this ⊢
   rw [join_cons, this]
   simp [txL, txR]
theorem join_txL (ks : List Node) : Lib.join (ks.map txN) ([32] : Bs) = txL ks := by
 cases ks with
 | nil => simp [Lib.join, txL]
 | cons n ks => exact join_txR ks n
theorem text_loop (N : Nat) (R : Node → Option Bs) (l : List Node) (hl : l.length < 1000000) (hR : ∀ x ∈ l, R x = some (txN x)) (s7 : Bs) :
 ∀ (k n i : Nat) (acc : List Bs), l.length - i = k → i ≤ l.length → k < n → acc.length = i → F_dump_text_l0 N R n (s7, l, (l.length : Int), (i : Int), acc) = some (s7, acc ++ (l.drop i).map txN)
 | 0, n + 1, i, acc, hk, hi, _, _ => by
   rw [s_dump_text_l0, ge_i (by omega), List.drop_eq_nil_of_le (by omega)]
   simp
 | k + 1, n + 1, i, acc, hk, hi, hn, hs => by
   have hlt : i < l.length := by omega
   rw [drop_cons hlt, s_dump_text_l0, lt_i hlt, cond_true, ix_at hlt, Option.bind_some, node_eta, hR _ (List.getElem_mem hlt)]
   simp only [Option.bind_some]
   rw [app_ok (by simp only [List.length_cons, List.length_nil]; omega) (by simp only [List.length_cons, List.length_nil]; omega), Option.bind_some, inc_i (by omega), text_loop N R l hl hR s7 k n (i + 1) _ (by omega) (by omega) (by omega) (by simp [hs])]
   rw [List.append_assoc]
   rfl
theorem text_ok (N : Nat) (hN : 1000000 < N) : ∀ (d f : Nat) (n : Node), d ≤ f → okN d n → (txN n).length < 1000000 → F_dump_text N f n = some (txN n)
 | 0, _, n, _, h, _ => by cases n; exact False.elim h
 | d + 1, f + 1, .mk c m k b ks, hf, hok, hl => by
   have K := kd_of hok hl
   have hlt := txN_len c m k b ks
   have hh : (hexL [idO c k m]).length = 2 := by rw [hexL_length]; rfl
   rw [m_dump_text, F_dump_identifier]
   simp only [Node.cls, Node.num, Node.cons]
   rw [ident_ok k K.hc K.hm]
   simp only [Option.bind_some]
   rw [toB_nat, Option.bind_some, ← idO_idB, hexF_val (by simp), Option.bind_some]
   cases k with
   | false =>
     simp only [Bool.false_eq_true, if_false] at hlt
     simp only [Bool.not_false, cond_true]
     rw [cat_ok (by simp [hh]), Option.bind_some, hexF_val (by omega), Option.bind_some, cat_ok (by simp [hh, hexL_length]; omega), Option.bind_some, txN]
     simp
   | true =>
     simp only [if_true] at hlt
     have hloop := text_loop N (F_dump_text N f) ks K.len (fun x hx => text_ok N hN d f x (by omega) (K.kid x hx).1 (K.kid x hx).2) (hexL [idO c true m]) ks.length N 0 [] (by omega) (by omega) (by have := K.len; omega) rfl
     simp only [Bool.not_true, cond_false]
     rw [show (0 : Int) = ((0 : Nat) : Int) from rfl, hloop]
     simp only [Option.bind_some, List.drop_zero, List.nil_append]
     rw [cat_ok (by simp [hh]), Option.bind_some]
     unfold F_Join
     rw [join_txL, show Nat.ble (ks.map txN).length joinMax = true from Nat.ble_eq_true_of_le (by have := K.len; unfold joinMax; simp; omega), show Nat.ble (txL ks).length joinMax = true from Nat.ble_eq_true_of_le (by unfold joinMax; omega)]
     simp only [Bool.and_self, cond_true, Option.bind_some]
     rw [cat_ok (by simp [hh]; omega), Option.bind_some, cat_ok (by simp [hh]; omega), Option.bind_some, txN]
     simp
theorem Tree_ok {N : Nat} (hN : 1000000 < N) (hN2 : N < 4611686018427387904) {n : Node} (hok : okN 16 n) (hl : (txN n).length < 1000000) : F_dump_Tree N (encN n) = some (txN n, 0, 0) := by
 unfold F_dump_Tree
 rw [Parse_ok hN hN2 hok hl]
 simp only [Option.bind_some, bne_self_eq_false, cond_false]
 rw [node_eta, text_ok N hN 16 N n (by omega) hok hl]
 rfl
theorem rident_all' : ((List.range 4).all fun c => (List.range 31).all fun m => [true, false].all fun k => decide (F_cref02_Identifier (c : Nat) k (m : Nat) = some (((idB c k m).toNat : Int), 0))) = true := by decide +kernel
theorem rident_ok {c m : Int} (k : Bool) (hc : 0 ≤ c ∧ c ≤ 3) (hm : 0 ≤ m ∧ m ≤ 30) : F_cref02_Identifier c k m = some (((idB c.toNat k m.toNat).toNat : Int), 0) := by
 have h1 := List.all_eq_true.1 (List.all_eq_true.1 (List.all_eq_true.1 rident_all' c.toNat (List.mem_range.2 (by omega))) m.toNat (List.mem_range.2 (by omega))) k (by cases k <;> simp)
 have h2 := of_decide_eq_true h1
 rwa [Int.toNat_of_nonneg hc.1, Int.toNat_of_nonneg hm.1] at h2
def hex2 (x : Nat) : Bool := match slc ([48, 49, 50, 51, 52, 53, 54, 55, 56, 57, 97, 98, 99, 100, 101, 102] : Bs) (wquo .u8 ((UInt8.ofNat x).toNat : Int) 16) (wadd .u8 (wquo .u8 ((UInt8.ofNat x).toNat : Int) 16) 1), slc ([48, 49, 50, 51, 52, 53, 54, 55, 56, 57, 97, 98, 99, 100, 101, 102] : Bs) (Int.tmod ((UInt8.ofNat x).toNat : Int) 16) (wadd .u8 (Int.tmod ((UInt8.ofNat x).toNat : Int) 16) 1) with
 | some a, some b => decide (a = [hexAt (x / 16)] ∧ b = [hexAt (x % 16)])
 | _, _ => false
theorem hex2_all : ((List.range 256).all hex2) = true := by decide +kernel
theorem hex2_ok (x : UInt8) : slc ([48, 49, 50, 51, 52, 53, 54, 55, 56, 57, 97, 98, 99, 100, 101, 102] : Bs) (wquo .u8 (x.toNat : Int) 16) (wadd .u8 (wquo .u8 (x.toNat : Int) 16) 1) = some [hexAt (x.toNat / 16)] ∧
 slc ([48, 49, 50, 51, 52, 53, 54, 55, 56, 57, 97, 98, 99, 100, 101, 102] : Bs) (Int.tmod (x.toNat : Int) 16) (wadd .u8 (Int.tmod (x.toNat : Int) 16) 1) = some [hexAt (x.toNat % 16)] := by
 have h := List.all_eq_true.1 hex2_all x.toNat (List.mem_range.2 x.toNat_lt)
 unfold hex2 at h
 rw [UInt8.ofNat_toNat] at h
 split at h
 · rename_i a b h1 h2
   obtain ⟨rfl, rfl⟩ := of_decide_eq_true h
   exact ⟨h1, h2⟩
 · cases h
theorem rhex_loop (N : Nat) (l : Bs) (hl : l.length < 1000000) : ∀ (k n i : Nat) (acc : Bs), l.length - i = k → i ≤ l.length → k < n → acc.length = 2 * i → F_cref12_Hex_l0 N n (l, acc, (i : Int)) = some (acc ++ hexL (l.drop i))
 | 0, n + 1, i, acc, hk, hi, _, _ => by
   rw [s_cref12_Hex_l0, ge_i (by omega), List.drop_eq_nil_of_le (by omega)]
   simp [hexL]
 | k + 1, n + 1, i, acc, hk, hi, hn, hs => by
   have hlt : i < l.length := by omega
   obtain ⟨h1, h2⟩ := hex2_ok l[i]
   rw [drop_cons hlt, s_cref12_Hex_l0, lt_i hlt, cond_true]
   simp only [ix_at hlt, Option.bind_some, h1, h2]
   rw [cat_ok (by simp; omega), Option.bind_some, cat_ok (by simp; omega), Option.bind_some, inc_i (by omega), rhex_loop N l hl k n (i + 1) _ (by omega) (by omega) (by omega) (by simp; omega)]
   simp only [List.append_assoc]
   rfl
theorem rhex_ok {N : Nat} (hN : 1000000 < N) {l : Bs} (hl : l.length < 1000000) : F_cref12_Hex N l = some (hexL l) := by
 unfold F_cref12_Hex
 rw [show (0 : Int) = ((0 : Nat) : Int) from rfl, rhex_loop N l hl l.length N 0 [] (by omega) (by omega) (by omega) rfl]
 simp
end Go.Fw
namespace Go.Fw
open Go
theorem rtext_loop (N : Nat) (R : Node → Option Bs) (l : List Node) (hl : l.length < 1000000) (hR : ∀ x ∈ l, R x = some (txN x)) (x11 x12 : Int) (c13 : Bool) (l14 : Bs) :
 ∀ (k n i : Nat) (acc : Bs), l.length - i = k → i ≤ l.length → k < n → acc.length + (txR (l.drop i)).length < 10000000 → F_cref29_Text_l0 N R n (acc, (i : Int), x11, x12, c13, l14, l) = some (acc ++ if i = 0 then txL l else txR (l.drop i))
 | 0, n + 1, i, acc, hk, hi, _, _ => by
   rw [s_cref29_Text_l0, ge_i (by omega), List.drop_eq_nil_of_le (by omega)]
   by_cases h0 : i = 0
   · have : l = [] := List.eq_nil_of_length_eq_zero (by omega)
     rw [if_pos h0, this]; simp [txL]
   · rw [if_neg h0]; simp [txR]
 | k + 1, n + 1, i, acc, hk, hi, hn, hs => by
   have hlt : i < l.length := by omega
   rw [drop_cons hlt] at hs
   simp only [txR, List.length_append, List.length_cons, List.length_nil] at hs
   have key : ∀ acc' : Bs, acc'.length ≤ acc.length + 1 → ((ix l (i : Int)).bind fun e24 => (R (Fw.Node.mk e24.cls e24.num e24.cons e24.body e24.kids)).bind fun s25 => (cat acc' s25).bind fun s26 => F_cref29_Text_l0 N R n (s26, wadd .i64 (i : Int) 1, x11, x12, c13, l14, l)) = some (acc' ++ (txN l[i] ++ txR (l.drop (i + 1)))) := fun acc' ha => by
    rw [ix_at hlt, Option.bind_some, node_eta, hR _ (List.getElem_mem hlt), Option.bind_some, cat_ok (by omega), Option.bind_some, inc_i (by omega), rtext_loop N R l hl hR x11 x12 c13 l14 k n (i + 1) _ (by omega) (by omega) (by omega) (by rw [List.length_append]; omega), if_neg (by omega), List.append_assoc]
   rw [s_cref29_Text_l0, lt_i hlt, cond_true]
   by_cases h0 : i = 0
   · subst h0
     rw [show decide (((0 : Nat) : Int) > 0) = false from rfl, cond_false, Option.bind_some, if_pos rfl]
     refine (key acc (by omega)).trans ?_
     have : l = l[0] :: l.drop 1 := by
      have := drop_cons hlt
      rwa [List.drop_zero] at this
     conv => rhs; rw [this]
     rfl
   · rw [decide_eq_true (show ((i : Nat) : Int) > 0 by omega), cond_true, cat_ok (by simp; omega), Option.bind_some, Option.bind_some, if_neg h0]
     refine (key (acc ++ [32]) (by simp)).trans ?_
     rw [drop_cons hlt, txR, List.append_assoc]
theorem rtext_ok (N : Nat) (hN : 1000000 < N) : ∀ (d f : Nat) (n : Node), d ≤ f → okN d n → (txN n).length < 1000000 → F_cref29_Text N f n = some (txN n)
 | 0, _, n, _, h, _ => by cases n; exact False.elim h
 | d + 1, f + 1, .mk c m k b ks, hf, hok, hl => by
   have K := kd_of hok hl
   have hlt := txN_len c m k b ks
   have hh : (hexL [idO c k m]).length = 2 := by rw [hexL_length]; rfl
   rw [m_cref29_Text, rident_ok k K.hc K.hm]
   simp only [Option.bind_some]
   rw [toB_nat, Option.bind_some, ← idO_idB, rhex_ok hN (by simp), Option.bind_some]
   cases k with
   | false =>
     simp only [Bool.false_eq_true, if_false] at hlt
     simp only [Bool.not_false, cond_true]
     rw [cat_ok (by simp [hh]), Option.bind_some, rhex_ok hN (by omega), Option.bind_some, cat_ok (by simp [hh, hexL_length]; omega), Option.bind_some, txN]
     simp
   | true =>
     simp only [if_true] at hlt
     have hR : (txR ks).length ≤ (txL ks).length + 1 := by
      cases ks with
      | nil => simp [txR]
      | cons x ks => simp [txR, txL]
     have hloop := rtext_loop N (F_cref29_Text N f) ks K.len (fun x hx => rtext_ok N hN d f x (by omega) (K.kid x hx).1 (K.kid x hx).2) c m true b ks.length N 0 (hexL [idO c true m] ++ [40]) (by omega) (by omega) (by have := K.len; omega) (by rw [List.drop_zero]; simp [hh]; omega)
     simp only [Bool.not_true, cond_false]
     rw [cat_ok (by simp [hh]), Option.bind_some, show (0 : Int) = ((0 : Nat) : Int) from rfl, hloop]
     simp only [Option.bind_some, if_true]
     rw [cat_ok (by simp [hh]; omega), Option.bind_some, txN]
     simp
theorem shaped_loop (N : Nat) (R : Node → Option Bool) (l : List Node) (hl : l.length < 1000000) (hR : ∀ x ∈ l, R x = some true) (x4 x5 : Int) (c6 : Bool) (l7 : Bs) :
 ∀ (k n i : Nat), l.length - i = k → i ≤ l.length → k < n → F_cref03_shaped_l0 N R n ((i : Int), x4, x5, c6, l7, l) = some (Sum.inr ())
 | 0, n + 1, i, hk, hi, _ => by
   rw [s_cref03_shaped_l0, ge_i (by omega)]; rfl
 | k + 1, n + 1, i, hk, hi, hn => by
   have hlt : i < l.length := by omega
   rw [s_cref03_shaped_l0, lt_i hlt, cond_true, ix_at hlt, Option.bind_some, node_eta, hR _ (List.getElem_mem hlt), Option.bind_some, Bool.not_true, cond_false, inc_i (by omega)]
   exact shaped_loop N R l hl hR x4 x5 c6 l7 k n (i + 1) (by omega) (by omega) (by omega)
theorem shaped_ok (N : Nat) (hN : 1000000 < N) : ∀ (d f : Nat) (n : Node), d ≤ f → okN d n → (txN n).length < 1000000 → F_cref03_shaped N f n = some true
 | 0, _, n, _, h, _ => by cases n; exact False.elim h
 | d + 1, f + 1, .mk c m k b ks, hf, hok, hl => by
   have K := kd_of hok hl
   have hloop := shaped_loop N (F_cref03_shaped N f) ks K.len (fun x hx => shaped_ok N hN d f x (by omega) (K.kid x hx).1 (K.kid x hx).2) c m k b ks.length N 0 (by omega) (by omega) (by have := K.len; omega)
   rw [m_cref03_shaped, rident_ok k K.hc K.hm]
   cases k with
   | false =>
     have := K.hk rfl
     subst this
     simp only [Option.bind_some, bne_self_eq_false, cond_false, cond_true, Bool.not_false]
     rw [show decide (((([] : List Node).length : Nat) : Int) > 0) = false from rfl, cond_false, show (0 : Int) = ((0 : Nat) : Int) from rfl, hloop]
     rfl
   | true =>
     have := K.hb rfl
     subst this
     simp only [Option.bind_some, bne_self_eq_false, cond_false, cond_true, Bool.not_true]
     rw [show decide (((([] : Bs).length : Nat) : Int) > 0) = false from rfl, cond_false, show (0 : Int) = ((0 : Nat) : Int) from rfl, hloop]
     rfl
theorem depth_loop (N : Nat) (R : Node → Option Int) (l : List Node) (hl : l.length < 1000000) (d : Nat) (hd : d < 1000) (hR : ∀ x ∈ l, ∃ v : Nat, R x = some (v : Int) ∧ v ≤ d) (x3 x4 : Int) (c5 : Bool) (l6 : Bs) :
 ∀ (k n i a : Nat), l.length - i = k → i ≤ l.length → k < n → a ≤ d + 1 → ∃ v : Nat, F_cref03_Depth_l0 N R n ((a : Int), (i : Int), x3, x4, c5, l6, l) = some (v : Int) ∧ v ≤ d + 1
 | 0, n + 1, i, a, hk, hi, _, ha => by
   rw [s_cref03_Depth_l0, ge_i (by omega)]
   exact ⟨a, rfl, ha⟩
 | k + 1, n + 1, i, a, hk, hi, hn, ha => by
   have hlt : i < l.length := by omega
   obtain ⟨v, hv, hvd⟩ := hR _ (List.getElem_mem hlt)
   rw [s_cref03_Depth_l0, lt_i hlt, cond_true, ix_at hlt, Option.bind_some, node_eta, hv, Option.bind_some, inc_i (by omega)]
   have e : imax (a : Int) (wadd .i64 1 (v : Int)) = ((if v + 1 > a then v + 1 else a : Nat) : Int) := by
    rw [wad_in (by omega)]
    unfold imax
    split <;> split <;> omega
   rw [e]
   exact depth_loop N R l hl d hd hR x3 x4 c5 l6 k n (i + 1) _ (by omega) (by omega) (by omega) (by split <;> omega)
theorem depth_ok (N : Nat) (hN : 1000000 < N) : ∀ (d f : Nat) (n : Node), d < 1000 → d ≤ f → okN d n → (txN n).length < 1000000 → ∃ v : Nat, F_cref03_Depth N f n = some (v : Int) ∧ v ≤ d
 | 0, _, n, _, _, h, _ => by cases n; exact False.elim h
 | d + 1, f + 1, .mk c m k b ks, hd, hf, hok, hl => by
   have K := kd_of hok hl
   obtain ⟨v, hv, hvd⟩ := depth_loop N (F_cref03_Depth N f) ks K.len d (by omega) (fun x hx => depth_ok N hN d f x (by omega) (by omega) (K.kid x hx).1 (K.kid x hx).2) c m k b ks.length N 0 1 (by omega) (by omega) (by have := K.len; omega) (by omega)
   refine ⟨v, ?_, hvd⟩
   rw [m_cref03_Depth, show (1 : Int) = ((1 : Nat) : Int) from rfl, show (0 : Int) = ((0 : Nat) : Int) from rfl, hv]
   rfl
theorem rvalid_ok {N : Nat} (hN : 1000000 < N) {n : Node} (hok : okN 16 n) (hl : (txN n).length < 1000000) : F_cref03_Valid N n = some true := by
 obtain ⟨v, hv, hvd⟩ := depth_ok N hN 16 N n (by omega) (by omega) hok hl
 unfold F_cref03_Valid
 rw [node_eta, shaped_ok N hN 16 N n (by omega) hok hl, Option.bind_some, cond_true, hv, Option.bind_some, decide_eq_true (by omega)]
theorem wq256 {n : Nat} (h : n < 18446744073709551616) : wquo .u64 (n : Int) 256 = ((n / 256 : Nat) : Int) := by
 show IntKind.u64.wrap ((n : Int).tdiv 256) = _
 rw [Int.tdiv_eq_ediv_of_nonneg (by omega), Go.IntWalk.u64_in _ (by omega)]
 omega
theorem rmin_o (N : Nat) : ∀ (g f n : Nat), 0 < n → n < 256 ^ g → g ≤ f → g ≤ 8 → F_cref01_Minimal_o N f (n : Int) = some (leB g n).reverse
 | 0, _, n, h0, h, _, _ => by simp at h; omega
 | g + 1, f + 1, n, h0, h, hf, hg => by
   have h64 : n < 18446744073709551616 := by
    have : (256 : Nat) ^ (g + 1) ≤ 256 ^ 8 := Nat.pow_le_pow_right (by decide) (by omega)
    have e : (256 : Nat) ^ 8 = 18446744073709551616 := by decide
    omega
   rw [s_cref01_Minimal_o, leB, if_neg (by omega)]
   by_cases hs : n < 256
   · rw [decide_eq_true (by omega), cond_true, toB_wrap, Option.bind_some]
     have : leB g (n / 256) = [] := by
      rw [Nat.div_eq_of_lt hs]
      cases g <;> simp [leB]
     rw [this]; rfl
   · rw [decide_eq_false (by omega), cond_false, wq256 h64, rmin_o N g f (n / 256) (by omega) (by rw [Nat.pow_succ] at h; omega) (by omega) (by omega), Option.bind_some]
     rw [show Int.tmod (n : Int) 256 = ((n % 256 : Nat) : Int) from by rw [Int.tmod_eq_emod_of_nonneg (by omega)]; omega, toB_wrap, Option.bind_some]
     have hl := leB_len g (n / 256)
     rw [app_ok (by simp only [List.length_reverse, List.length_cons, List.length_nil]; omega) (by simp only [List.length_reverse, List.length_cons, List.length_nil]; omega), Option.bind_some, Nat.mod_mod]
     simp
theorem rmin_ok {N : Nat} (hN : 1000000 < N) {n : Nat} (h : n < 18446744073709551616) : F_cref01_Minimal N (n : Int) = some (minB n) := by
 unfold F_cref01_Minimal
 by_cases hs : n < 256
 · rw [decide_eq_true (by omega), cond_true, toB_wrap, Option.bind_some, min_small n hs, Nat.mod_eq_of_lt hs]
 · have e : (256 : Nat) ^ 8 = 18446744073709551616 := by decide
   rw [decide_eq_false (by omega), cond_false, wq256 h, rmin_o N 8 N (n / 256) (by omega) (by omega) (by omega) (by omega), Option.bind_some]
   rw [show Int.tmod (n : Int) 256 = ((n % 256 : Nat) : Int) from by rw [Int.tmod_eq_emod_of_nonneg (by omega)]; omega, toB_wrap, Option.bind_some]
   have hl := leB_len 8 (n / 256)
   rw [app_ok (by simp only [List.length_reverse, List.length_cons, List.length_nil]; omega) (by simp only [List.length_reverse, List.length_cons, List.length_nil]; omega), Option.bind_some, Nat.mod_mod]
   rfl
theorem rlength_ok {N : Nat} (hN : 1000000 < N) {n : Nat} (hn : n ≤ 2147483647) : F_cref02_Length N (n : Int) = some (lenB n, 0) := by
 have hm := min_len n
 unfold F_cref02_Length
 rw [decide_eq_false (by omega), cond_false, decide_eq_false (by omega), cond_false, show IntKind.wrap .u64 (n : Int) = (n : Int) from Go.IntWalk.u64_in _ (by omega), rmin_ok hN (by omega), Option.bind_some, lenB]
 by_cases hs : n < 128
 · rw [decide_eq_true (by omega), cond_true, if_pos hs]
 · rw [decide_eq_false (by omega), cond_false, if_neg hs, wad_in (by omega), show (128 : Int) + ((minB n).length : Int) = ((128 + (minB n).length : Nat) : Int) from by omega, toB_wrap, Option.bind_some, app_ok (by simp; omega) (by simp; omega), Option.bind_some, Nat.mod_eq_of_lt (by omega)]
   rfl
theorem put_ok {N : Nat} (hN : 1000000 < N) (c : Nat) (k : Bool) (num : Nat) {body : Bs} (hb : body.length < 100000000) : F_cref02_Put N ((idB c k num).toNat : Int) body = some (tlv c k num body) := by
 have hlb := lenB_len body.length (by omega)
 unfold F_cref02_Put
 rw [rlength_ok hN (by omega)]
 simp only [Option.bind_some]
 rw [toB_nat, Option.bind_some, app_ok (by simp; omega) (by simp; omega), Option.bind_some, app_ok (by simp; omega) (by simp; omega), Option.bind_some, tlv]
 simp
theorem bytes_loop (N : Nat) (R : Node → Option Bs) (l : List Node) (hl : l.length < 1000000) (hR : ∀ x ∈ l, R x = some (encN x)) (x4 x6 x7 : Int) (c8 : Bool) (l9 : Bs) :
 ∀ (k n i : Nat) (acc : Bs), l.length - i = k → i ≤ l.length → k < n → (acc ++ encL (l.drop i)).length < 1000000000 → F_cref03_Bytes_l0 N R n (x4, (i : Int), x6, x7, c8, l9, l, acc) = some (x4, acc ++ encL (l.drop i))
 | 0, n + 1, i, acc, hk, hi, _, _ => by
   rw [s_cref03_Bytes_l0, ge_i (by omega), List.drop_eq_nil_of_le (by omega)]
   simp [encL]
 | k + 1, n + 1, i, acc, hk, hi, hn, hs => by
   have hlt : i < l.length := by omega
   rw [drop_cons hlt, encL, ← List.append_assoc] at hs ⊢
   have hs2 := hs
   simp only [List.length_append] at hs2
   rw [s_cref03_Bytes_l0, lt_i hlt, cond_true, ix_at hlt, Option.bind_some, node_eta, hR _ (List.getElem_mem hlt)]
   simp only [Option.bind_some]
   rw [app_ok (by omega) (by omega), Option.bind_some, inc_i (by omega)]
   exact bytes_loop N R l hl hR x4 x6 x7 c8 l9 k n (i + 1) _ (by omega) (by omega) (by omega) hs
theorem bytes_ok (N : Nat) (hN : 1000000 < N) : ∀ (d f : Nat) (n : Node), d ≤ f → okN d n → (txN n).length < 1000000 → F_cref03_Bytes N f n = some (encN n)
 | 0, _, n, _, h, _ => by cases n; exact False.elim h
 | d + 1, f + 1, .mk c m k b ks, hf, hok, hl => by
   have K := kd_of hok hl
   have hbd := K.body
   rw [List.length_append] at hbd
   have hloop := bytes_loop N (F_cref03_Bytes N f) ks K.len (fun x hx => bytes_ok N hN d f x (by omega) (K.kid x hx).1 (K.kid x hx).2) ((idB c.toNat k m.toNat).toNat : Int) c m k b ks.length N 0 b (by omega) (by omega) (by have := K.len; omega) (by simp only [List.drop_zero, List.length_append]; omega)
   rw [m_cref03_Bytes, rident_ok k K.hc K.hm]
   simp only [Option.bind_some]
   rw [app_ok (by simp; omega) (by simp; omega), Option.bind_some, List.nil_append, show (0 : Int) = ((0 : Nat) : Int) from rfl, hloop]
   simp only [Option.bind_some, List.drop_zero]
   rw [put_ok hN _ _ _ (by have := K.body; omega), encN]
   rfl
end Go.Fw
namespace Go.Fw
open Go
theorem rph_any {k : Nat} {r : Bs} (hN : r.length + 2 < k) (hs : r.length < 1000000) : ∃ l ok, F_cref29_ParseHex (k + 17) r = some (l, ok) ∧ (ok = true → hexL l = r) := by
 rw [rparse_val hN hs]
 rcases pr_rr (r.length + 1) r [] 0 (by omega) (by omega) with ⟨m, h1, h2, h3⟩ | ⟨j, h1, h2, h3, h4⟩
 · rw [h2]; exact ⟨_, _, rfl, fun _ => by rw [List.nil_append]; exact h3⟩
 · rcases h4 with h4 | h4
   · rw [h4]; exact ⟨_, _, rfl, fun h => by cases h⟩
   · cases rr [] r with
     | inl _ => exact ⟨_, _, rfl, fun h => by cases h⟩
     | inr l => exact ⟨_, _, rfl, fun h => by have := of_decide_eq_true h; omega⟩
theorem rr_hex : ∀ (m acc : Bs), rr acc (hexL m) = .inr (acc ++ m) := fun m acc => by
 rcases pr_rr ((hexL m).length + 1) (hexL m) acc 0 (by omega) (by omega) with ⟨m', h1, h2, h3⟩ | ⟨j, h1, _⟩
 · rw [pr_hex] at h1
   have h1 := List.append_cancel_left (Sum.inr.inj h1)
   rw [h2, h1]
 · rw [pr_hex] at h1; cases h1
theorem rph_hex {k : Nat} {m : Bs} (hN : 2 * m.length + 2 < k) (hs : 2 * m.length < 1000000) : F_cref29_ParseHex (k + 17) (hexL m) = some (m, true) := by
 have hl := hexL_length m
 rw [rparse_val (by omega) (by omega), rr_hex, List.nil_append]
 rw [decide_eq_true (by omega : (hexL m).length % 2 = 0)]
theorem rrid_all : ((List.range 256).all fun x => match F_cref02_ReadIdentifier ((UInt8.ofNat x).toNat : Int) with | some (c, _, m, _) => decide (0 ≤ c ∧ c ≤ 3 ∧ 0 ≤ m ∧ m ≤ 30) | none => false) = true := by decide +kernel
theorem rrid_any (x : UInt8) : ∃ c k m e, F_cref02_ReadIdentifier (x.toNat : Int) = some (c, k, m, e) ∧ (0 ≤ c ∧ c ≤ 3) ∧ (0 ≤ m ∧ m ≤ 30) := by
 have h := List.all_eq_true.1 rrid_all x.toNat (List.mem_range.2 x.toNat_lt)
 rw [UInt8.ofNat_toNat] at h
 split at h
 · rename_i c k m e hq
   have h := of_decide_eq_true h
   exact ⟨c, k, m, e, hq, ⟨h.1, h.2.1⟩, ⟨h.2.2.1, h.2.2.2⟩⟩
 · cases h
theorem rrid_ex_all : ((List.range 4).all fun c => (List.range 31).all fun m => [true, false].all fun k => decide (F_cref02_ReadIdentifier ((idB c k m).toNat : Int) = some (((c : Nat) : Int), k, ((m : Nat) : Int), 0))) = true := by decide +kernel
theorem rrid_ok {c m : Int} (k : Bool) (hc : 0 ≤ c ∧ c ≤ 3) (hm : 0 ≤ m ∧ m ≤ 30) : F_cref02_ReadIdentifier ((idB c.toNat k m.toNat).toNat : Int) = some (c, k, m, 0) := by
 have h1 := List.all_eq_true.1 (List.all_eq_true.1 (List.all_eq_true.1 rrid_ex_all c.toNat (List.mem_range.2 (by omega))) m.toNat (List.mem_range.2 (by omega))) k (by cases k <;> simp)
 have h2 := of_decide_eq_true h1
 rwa [Int.toNat_of_nonneg hc.1, Int.toNat_of_nonneg hm.1] at h2
theorem run_loop (k : Nat) (R : Bs → Int → Option (Node × Bs × Bool)) (s : Bs) (hs : s.length < 1000000) (l12 l13 : List Node) (i14 i15 : Int) (c16 : Bool) : ∀ (j n i : Nat), s.length - i = j → i ≤ s.length → j < n →
 F_cref29_read_l0 (k + 17) R n (s, (i : Int), l12, l13, i14, i15, c16) = some (s, ((i + hexRun (s.drop i) : Nat) : Int), l12, l13, i14, i15, c16)
 | 0, n + 1, i, hj, hi, _ => by
   rw [s_cref29_read_l0, ge_i (by omega), List.drop_eq_nil_of_le (by omega)]; rfl
 | j + 1, n + 1, i, hj, hi, hn => by
   have hlt : i < s.length := by omega
   rw [drop_cons hlt, s_cref29_read_l0, lt_i hlt, cond_true, ix_at hlt, Option.bind_some, value_val, Option.bind_some]
   cases hh : isHex s[i] with
   | false =>
     have h1 : decide (hv s[i] ≥ 0) = false := hh
     rw [h1, cond_false]
     simp [hexRun, hh]
   | true =>
     have h1 : decide (hv s[i] ≥ 0) = true := hh
     rw [h1, cond_true, inc_i (by omega), run_loop k R s hs l12 l13 i14 i15 c16 j n (i + 1) (by omega) (by omega) (by omega)]
     simp only [hexRun, hh, cond_true, Option.some.injEq, Prod.mk.injEq, true_and, and_true]
     omega
theorem ix_0 {α : Type} (x : α) (r : List α) : ix (x :: r) 0 = some x := ix_n (i := 0) rfl
theorem pos_len {α : Type} (x : α) (r : List α) : decide (((x :: r).length : Int) > 0) = true := decide_eq_true (by simp)
def KR (d : Nat) (acc : List Node) (s : Bs) (l32 : List Node) (i34 i35 : Int) (c36 : Bool) (y : Unit ⊕ (Bs × List Node × List Node × Int × Int × Bool)) : Prop :=
 y = .inl () ∨ ∃ s' ks, y = .inr (s', l32, acc ++ ks, i34, i35, c36) ∧ okL d ks ∧ s'.length + (if acc = [] then txL ks else txR ks).length = s.length ∧ (s' = [] ∨ ∃ t, s' = 41 :: t)
def RR (d : Nat) (s : Bs) (x : Option (Node × Bs × Bool)) : Prop := ∃ n r ok, x = some (n, r, ok) ∧ (ok = true → okN d n ∧ r.length + (txN n).length = s.length)
theorem kids_any (N : Nat) (R : Bs → Int → Option (Node × Bs × Bool)) (d : Nat) (hd : d < 1000) (hR : ∀ s : Bs, s.length < 100000 → RR d s (R s (d : Int))) (l32 : List Node) (i34 i35 : Int) (c36 : Bool) :
 ∀ (n : Nat) (s : Bs) (acc : List Node), s.length < n → s.length < 100000 → acc.length + s.length < 200000 → ∃ y, F_cref29_read_l1 N R n (s, ((d + 1 : Nat) : Int), l32, acc, i34, i35, c36) = some y ∧ KR d acc s l32 i34 i35 c36 y
 | n + 1, [], acc, _, _, _ => by
   rw [s_cref29_read_l1, show decide ((([] : Bs).length : Int) > 0) = false from rfl, cond_false]
   exact ⟨_, rfl, .inr ⟨[], [], by rw [List.append_nil], trivial, by split <;> rfl, .inl rfl⟩⟩
 | n + 1, x :: s, acc, hn, hs, ha => by
   rw [s_cref29_read_l1, pos_len, cond_true, ix_0, Option.bind_some]
   simp only [List.length_cons] at hn hs ha
   by_cases hx : x = 41
   · subst hx
     rw [show (((41 : UInt8).toNat : Int) != 41) = false from rfl, cond_false]
     exact ⟨_, rfl, .inr ⟨41 :: s, [], by rw [List.append_nil], trivial, by split <;> rfl, .inr ⟨s, rfl⟩⟩⟩
   · have hx2 : ((x.toNat : Int) != 41) = true := by
      rw [bne_iff_ne]
      intro h
      exact hx (UInt8.toNat_inj.1 (by show x.toNat = 41; omega))
     rw [hx2, cond_true]
     have key : ∀ s1 : Bs, s1.length + (if acc = [] then 0 else 1) = s.length + 1 → ∃ y, ((R s1 (wsub .i64 ((d + 1 : Nat) : Int) 1)).bind fun (v46, s47, c48) =>
      bif (!c48) then some (Sum.inl ()) else (app 72 acc [Fw.Node.mk v46.cls v46.num v46.cons v46.body v46.kids]).bind fun l49 => F_cref29_read_l1 N R n (s47, ((d + 1 : Nat) : Int), l32, l49, i34, i35, c36)) = some y ∧ KR d acc (x :: s) l32 i34 i35 c36 y := fun s1 h1 => by
      rw [dec_i (by omega)]
      have hs1 : s1.length ≤ s.length + 1 := by split at h1 <;> omega
      obtain ⟨nd, r, ok, e1, e2⟩ := hR s1 (by omega)
      rw [e1]
      simp only [Option.bind_some]
      cases ok with
      | false => exact ⟨_, rfl, .inl rfl⟩
      | true =>
        obtain ⟨e3, e4⟩ := e2 rfl
        have hp := List.length_pos_iff.2 (txN_ne nd)
        simp only [Bool.not_true, cond_false]
        rw [node_eta, app_ok (by simp only [List.length_cons, List.length_nil]; omega) (by simp only [List.length_cons, List.length_nil]; omega), Option.bind_some]
        obtain ⟨y, f1, f2⟩ := kids_any N R d hd hR l32 i34 i35 c36 n r (acc ++ [nd]) (by omega) (by omega) (by simp only [List.length_append, List.length_cons, List.length_nil]; omega)
        refine ⟨y, f1, ?_⟩
        rcases f2 with rfl | ⟨s', ks, rfl, g1, g2, g3⟩
        · exact .inl rfl
        · refine .inr ⟨s', nd :: ks, by simp, ⟨e3, g1⟩, ?_, g3⟩
          rw [if_neg (by simp)] at g2
          by_cases hacc : acc = []
          · rw [if_pos hacc] at h1 ⊢
            simp only [txL, List.length_append, List.length_cons]
            omega
          · rw [if_neg hacc] at h1 ⊢
            simp only [txR, List.length_append, List.length_cons, List.length_nil]
            omega
     by_cases hacc : acc = []
     · rw [show decide ((acc.length : Int) > 0) = false from by rw [hacc]; rfl, cond_false, Option.bind_some]
       exact key (x :: s) (by rw [if_pos hacc]; simp)
     · have hap : 0 < acc.length := List.length_pos_iff.2 hacc
       rw [decide_eq_true (by omega : (acc.length : Int) > 0), cond_true, slc_one, Option.bind_some, Option.bind_some]
       exact key s (by rw [if_neg hacc])
theorem slc_02 {s : Bs} (h : 3 ≤ s.length) : slc s 0 2 = some (s.take 2) := by
 unfold slc
 rw [if_pos ⟨by omega, by omega, by omega⟩]
 rfl
theorem slc_3 {s : Bs} (h : 3 ≤ s.length) : slc s 3 (s.length : Int) = some (s.drop 3) := by
 unfold slc
 rw [if_pos ⟨by omega, by omega, by omega⟩]
 simp
theorem slc_pre {s : Bs} {k : Nat} (h : k ≤ s.length) : slc s 0 (k : Int) = some (s.take k) := by
 unfold slc
 rw [if_pos ⟨by omega, by omega, by omega⟩]
 simp
theorem slc_suf {s : Bs} {k : Nat} (h : k ≤ s.length) : slc s (k : Int) (s.length : Int) = some (s.drop k) := by
 unfold slc
 rw [if_pos ⟨by omega, by omega, by omega⟩]
 simp
theorem one_of {l : Bs} {x y : UInt8} (h : hexL l = [x, y]) : ∃ b, l = [b] := by
 have := hexL_length l
 rw [h] at this
 match l, this with
 | [b], _ => exact ⟨b, rfl⟩
theorem read_any (k : Nat) (hk : 1000000 < k) : ∀ (d f : Nat) (s : Bs), d < 1000 → d ≤ f → s.length < 100000 → RR d s (F_cref29_read (k + 17) (f + 1) s (d : Int))
 | d, f, s, hd, hf, hs => by
   rw [s_cref29_read]
   by_cases h3 : s.length < 3
   · rw [decide_eq_true (by omega), cond_true]
     exact ⟨_, _, _, rfl, fun h => by cases h⟩
   rw [decide_eq_false (by omega), cond_false]
   match d, hd, hf with
   | 0, _, _ => exact ⟨_, _, _, rfl, fun h => by cases h⟩
   | d + 1, hd, hf =>
     obtain ⟨f, rfl⟩ : ∃ f', f = f' + 1 := ⟨f - 1, by omega⟩
     have e0 : (((d + 1 : Nat) : Int) == 0) = false := beq_eq_false_iff_ne.2 (by omega)
     rw [e0, cond_false, slc_02 (by omega), Option.bind_some]
     obtain ⟨l, ok, e1, e2⟩ := rph_any (k := k) (r := s.take 2) (by rw [List.length_take]; omega) (by rw [List.length_take]; omega)
     rw [e1]
     simp only [Option.bind_some]
     cases ok with
     | false => exact ⟨_, _, _, rfl, fun h => by cases h⟩
     | true =>
       have e2 := e2 rfl
       obtain ⟨b, rfl⟩ : ∃ b, l = [b] := by
        match s, h3, e2 with
        | x :: y :: r, _, e2 => exact one_of e2
        | [], h3, _ => simp at h3
        | [_], h3, _ => simp at h3
       simp only [Bool.not_true, cond_false]
       rw [ix_0, Option.bind_some]
       obtain ⟨c, kk, m, e, e3, hc, hm⟩ := rrid_any b
       rw [e3]
       simp only [Option.bind_some]
       rw [slc_3 (by omega), Option.bind_some]
       have hl3 : (s.drop 3).length = s.length - 3 := List.length_drop
       cases kk with
       | false =>
         simp only [Bool.not_false, cond_true]
         rw [show (0 : Int) = ((0 : Nat) : Int) from rfl, run_loop k _ (s.drop 3) (by omega) _ _ _ _ _ (s.drop 3).length (k + 17) 0 (by omega) (by omega) (by omega)]
         simp only [Option.bind_some, List.drop_zero, Nat.zero_add]
         have hle := hexRun_le (s.drop 3)
         obtain ⟨l2, ok2, g1, g2⟩ := rph_any (k := k) (r := (s.drop 3).take (hexRun (s.drop 3))) (by rw [List.length_take]; omega) (by rw [List.length_take]; omega)
         rw [show ((0 : Nat) : Int) = (0 : Int) from rfl, slc_pre hle, Option.bind_some, g1]
         simp only [Option.bind_some]
         rw [slc_suf hle, Option.bind_some]
         refine ⟨_, _, _, rfl, fun h => ⟨⟨hc, hm, (by simp), fun _ => rfl, trivial⟩, ?_⟩⟩
         have h5 := congrArg List.length (g2 h)
         rw [hexL_length, List.length_take] at h5
         rw [txN_len, List.length_drop]
         simp only [Bool.false_eq_true, if_false]
         omega
       | true =>
         simp only [Bool.not_true, cond_false]
         obtain ⟨y, g1, g2⟩ := kids_any (k + 17) (F_cref29_read (k + 17) (f + 1)) d (by omega) (fun s' hs' => read_any k hk d f s' (by omega) (by omega) hs') [] c m true (k + 17) (s.drop 3) [] (by omega) (by omega) (by simp; omega)
         rw [g1]
         simp only [Option.bind_some]
         rcases g2 with rfl | ⟨s', ks, rfl, g3, g4, g5⟩
         · exact ⟨_, _, _, rfl, fun h => by cases h⟩
         · rcases g5 with rfl | ⟨t, rfl⟩
           · exact ⟨_, _, _, rfl, fun h => by cases h⟩
           · rw [if_pos rfl] at g4
             simp only [List.length_cons] at g4
             dsimp only
             rw [show ((41 :: t : Bs) == []) = false from rfl, cond_false, slc_one, Option.bind_some]
             refine ⟨_, _, _, rfl, fun _ => ⟨⟨hc, hm, fun _ => rfl, (by simp), by simpa using g3⟩, ?_⟩⟩
             rw [txN_len]
             simp only [if_true, List.nil_append]
             omega
end Go.Fw
namespace Go.Fw
open Go
theorem kids_ex (N : Nat) (R : Bs → Int → Option (Node × Bs × Bool)) (d : Nat) (hd : d < 1000) (l32 : List Node) (i34 i35 : Int) (c36 : Bool) :
 ∀ (ks : List Node) (n : Nat) (acc : List Node) (r : Bs), (∀ x ∈ ks, ∀ r' : Bs, noHex r' → (txN x).length + r'.length ≤ (txR ks).length + r.length + 1 → R (txN x ++ r') (d : Int) = some (x, r', true)) → ks.length < n → acc.length + ks.length < 1000000 →
   F_cref29_read_l1 N R n ((if acc = [] then txL ks else txR ks) ++ 41 :: r, ((d + 1 : Nat) : Int), l32, acc, i34, i35, c36) = some (.inr (41 :: r, l32, acc ++ ks, i34, i35, c36))
 | [], n + 1, acc, r, _, _, _ => by
   have e : (if acc = [] then txL [] else txR []) = ([] : Bs) := by split <;> rfl
   rw [e, List.nil_append, s_cref29_read_l1, pos_len, cond_true, ix_0, Option.bind_some, show (((41 : UInt8).toNat : Int) != 41) = false from rfl, cond_false, List.append_nil]
 | x :: ks, n + 1, acc, r, hR, hn, ha => by
   simp only [List.length_cons] at hn ha
   obtain ⟨j, q, hj, hq⟩ := txN_hd x
   have key : ∀ s1 : Bs, s1 = txN x ++ (txR ks ++ 41 :: r) → ((R s1 (wsub .i64 ((d + 1 : Nat) : Int) 1)).bind fun (v46, s47, c48) =>
    bif (!c48) then some (Sum.inl ()) else (app 72 acc [Fw.Node.mk v46.cls v46.num v46.cons v46.body v46.kids]).bind fun l49 => F_cref29_read_l1 N R n (s47, ((d + 1 : Nat) : Int), l32, l49, i34, i35, c36)) = some (Sum.inr (41 :: r, l32, acc ++ x :: ks, i34, i35, c36)) := fun s1 h1 => by
    rw [h1, dec_i (by omega), hR x (by simp) _ (noHex_R ks r) (by simp only [txR, List.length_append, List.length_cons, List.length_nil]; omega)]
    simp only [Option.bind_some, Bool.not_true, cond_false]
    rw [node_eta, app_ok (by simp only [List.length_cons, List.length_nil]; omega) (by simp only [List.length_cons, List.length_nil]; omega), Option.bind_some]
    have := kids_ex N R d hd l32 i34 i35 c36 ks n (acc ++ [x]) r (fun y hy r' h1 h2 => hR y (by simp [hy]) r' h1 (by simp only [txR, List.length_append, List.length_cons, List.length_nil]; omega)) (by omega) (by simp only [List.length_append, List.length_cons, List.length_nil]; omega)
    rw [if_neg (by simp)] at this
    rw [this]
    simp
   by_cases hacc : acc = []
   · rw [if_pos hacc, txL, List.append_assoc]
     have h0 : txN x ++ (txR ks ++ 41 :: r) = hexAt j :: (q ++ (txR ks ++ 41 :: r)) := by rw [hq]; rfl
     have hx2 : (((hexAt j).toNat : Int) != 41) = true := by
      rw [bne_iff_ne]
      intro h
      exact hexAt_ne hj 41 nh41 (UInt8.toNat_inj.1 (by show (hexAt j).toNat = 41; omega))
     rw [h0, s_cref29_read_l1, pos_len, cond_true, ix_0, Option.bind_some, hx2, cond_true, show decide ((acc.length : Int) > 0) = false from by rw [hacc]; rfl, cond_false, Option.bind_some]
     exact key _ h0.symm
   · have hap : 0 < acc.length := List.length_pos_iff.2 hacc
     rw [if_neg hacc, txR]
     have h0 : [32] ++ (txN x ++ txR ks) ++ 41 :: r = 32 :: (txN x ++ (txR ks ++ 41 :: r)) := by simp
     rw [h0, s_cref29_read_l1, pos_len, cond_true, ix_0, Option.bind_some, show (((32 : UInt8).toNat : Int) != 41) = true from rfl, cond_true, decide_eq_true (by omega : (acc.length : Int) > 0), cond_true, slc_one, Option.bind_some, Option.bind_some]
     exact key _ rfl
theorem read_ex (k : Nat) (hk : 1000000 < k) : ∀ (d f : Nat) (n : Node) (r : Bs), d < 1000 → d ≤ f → okN d n → noHex r → (txN n).length + r.length < 100000 → F_cref29_read (k + 17) (f + 1) (txN n ++ r) (d : Int) = some (n, r, true)
 | 0, _, n, _, _, _, h, _, _ => by cases n; exact False.elim h
 | d + 1, f + 1, .mk c m kk b ks, r, hd, hf, hok, hr, hs => by
   have K := kd_of hok (by omega)
   have hlt := txN_len c m kk b ks
   have hh : (hexL [idO c kk m]).length = 2 := by rw [hexL_length]; rfl
   have hsp : ∃ x, txN (.mk c m kk b ks) ++ r = hexL [idO c kk m] ++ (x :: (if kk then txL ks ++ (41 :: r) else hexL b ++ r)) := by
    rw [txN]
    cases kk with
    | false => exact ⟨58, by simp⟩
    | true => exact ⟨40, by simp⟩
   obtain ⟨x, hsp⟩ := hsp
   have hlen : (txN (.mk c m kk b ks) ++ r).length < 100000 := by rw [List.length_append]; omega
   have h3 : 3 ≤ (txN (.mk c m kk b ks) ++ r).length := by rw [hsp, List.length_append, hh, List.length_cons]; omega
   have e0 : (((d + 1 : Nat) : Int) == 0) = false := beq_eq_false_iff_ne.2 (by omega)
   rw [s_cref29_read, decide_eq_false (by omega), cond_false, e0, cond_false, slc_02 h3, slc_3 h3, Option.bind_some]
   have e2 : (txN (.mk c m kk b ks) ++ r).take 2 = hexL [idO c kk m] := by rw [hsp, ← hh, List.take_left]
   have e3 : (txN (.mk c m kk b ks) ++ r).drop 3 = (if kk then txL ks ++ (41 :: r) else hexL b ++ r) := by
    rw [hsp, show (3 : Nat) = (hexL [idO c kk m]).length + 1 from by rw [hh], ← List.drop_drop, List.drop_left]; rfl
   rw [e2, rph_hex (by simp; omega) (by simp)]
   simp only [Option.bind_some, Bool.not_true, cond_false]
   rw [ix_0, Option.bind_some, idO_idB, rrid_ok kk K.hc K.hm]
   simp only [Option.bind_some]
   rw [e3]
   cases kk with
   | false =>
     have hks := K.hk rfl
     subst hks
     simp only [Bool.false_eq_true, if_false, Bool.not_false, cond_true] at hlt ⊢
     have hrun : hexRun (hexL b ++ r) = (hexL b).length := by rw [hexRun_app, hexRun_no hr, hexL_length]; omega
     have hl := hexL_length b
     rw [show (0 : Int) = ((0 : Nat) : Int) from rfl, run_loop k _ (hexL b ++ r) (by rw [List.length_append]; omega) _ _ _ _ _ (hexL b ++ r).length (k + 17) 0 (by omega) (by omega) (by rw [List.length_append]; omega)]
     simp only [Option.bind_some, List.drop_zero, Nat.zero_add]
     rw [hrun, show ((0 : Nat) : Int) = (0 : Int) from rfl, slc_pre (by simp), Option.bind_some, List.take_left, rph_hex (by omega) (by omega)]
     simp only [Option.bind_some]
     rw [slc_suf (by simp), Option.bind_some, List.drop_left]
   | true =>
     have hb := K.hb rfl
     subst hb
     simp only [if_true, Bool.not_true, cond_false] at hlt ⊢
     have hRL : (txR ks).length ≤ (txL ks).length + 1 := by
      cases ks with
      | nil => simp [txR]
      | cons x ks => simp [txR, txL]
     have hkl := txL_len' ks
     have := kids_ex (k + 17) (F_cref29_read (k + 17) (f + 1)) d (by omega) [] c m true ks (k + 17) [] r
      (fun x hx r' h1 h2 => read_ex k hk d f x r' (by omega) (by omega) (K.kid x hx).1 h1 (by omega)) (by omega) (by simp; omega)
     rw [if_pos rfl] at this
     rw [this]
     simp only [Option.bind_some]
     rw [show ((41 :: r : Bs) == []) = false from rfl, cond_false, slc_one, Option.bind_some, List.nil_append]
theorem rdK_sz {s : Bs} {d : Nat} (c m : Int) (hc : 0 ≤ c ∧ c ≤ 3) (hm : 0 ≤ m ∧ m ≤ 30) : ∀ (f : Nat) (acc : List Node) (a : Nat), a ≤ s.length → okL d acc → (txR acc).length ≤ a + 1 →
 okN (d + 1) (rdK s (rdN s d) (fun ks => .mk c m true [] ks) f acc a).1.1 ∧ (txN (rdK s (rdN s d) (fun ks => .mk c m true [] ks) f acc a).1.1).length ≤ s.length + 5 := by
 have base : ∀ (acc : List Node) (a : Nat), a ≤ s.length → okL d acc → (txR acc).length ≤ a + 1 → okN (d + 1) (.mk c m true [] acc) ∧ (txN (.mk c m true [] acc)).length ≤ s.length + 5 := fun acc a h1 h2 h3 => by
  refine ⟨⟨hc, hm, fun _ => rfl, (by simp), h2⟩, ?_⟩
  rw [txN_len, if_pos rfl]
  have : (txL acc).length ≤ (txR acc).length := by
   cases acc with
   | nil => simp [txL]
   | cons x r => simp [txL, txR]
  omega
 intro f
 induction f with
 | zero => exact fun acc a h1 h2 h3 => base acc a h1 h2 h3
 | succ f ih =>
   intro acc a h1 h2 h3
   rw [rdK]
   split
   · exact base acc a h1 h2 h3
   · split
     · exact base acc a h1 h2 h3
     · rename_i h4 h5
       obtain ⟨⟨⟨nd, ok⟩, a1⟩, hq⟩ : ∃ r, rdN s d (if acc = [] then a else a + 1) = r := ⟨_, rfl⟩
       have hle : (if acc = [] then a else a + 1) ≤ s.length := by
        split
        · exact h1
        · rename_i h6
          have h7 : s[a]? = some 32 := Decidable.not_not.1 fun h => h5 ⟨h6, h⟩
          exact (List.getElem?_eq_some_iff.1 h7).1
       have hle2 := rdN_le s d _ hle
       rw [hq] at hle2 ⊢
       dsimp only
       cases ok with
       | false => exact base acc a h1 h2 h3
       | true =>
         rw [if_pos rfl]
         obtain ⟨i1, i2⟩ := rdN_inv s d nd _ a1 hq
         have i3 := congrArg List.length i2
         rw [List.length_append, List.length_drop, List.length_drop] at i3
         have i4 := List.length_pos_iff.2 (txN_ne nd)
         refine ih (acc ++ [nd]) a1 hle2 (okL_app h2 i1) ?_
         have : ∀ l : List Node, (txR (l ++ [nd])).length = (txR l).length + 1 + (txN nd).length := fun l => by
          induction l with
          | nil => simp [txR]; omega
          | cons x l ih => simp only [List.cons_append, txR, List.length_append, List.length_cons, List.length_nil] at ih ⊢; omega
         rw [this]
         by_cases hacc : acc = []
         · rw [hacc] at h3 ⊢
           rw [if_pos hacc] at i3 hle
           simp only [txR, List.length_nil]
           omega
         · rw [if_neg hacc] at i3 hle
           omega
theorem rdI_rng (x : UInt8) : (0 ≤ (rdI x).1.1 ∧ (rdI x).1.1 ≤ 3) ∧ (0 ≤ (rdI x).1.2.2 ∧ (rdI x).1.2.2 ≤ 30) ∧ ((rdI x).2 = false → (rdI x).1.2.1 = false) := by
 have hx := x.toNat_lt
 unfold rdI
 split
 · exact ⟨by decide, by decide, fun _ => rfl⟩
 · refine ⟨⟨?_, ?_⟩, ⟨?_, ?_⟩, fun h => by cases h⟩ <;> simp only <;> omega
theorem rdB_sz {s : Bs} {a most : Nat} (h : a ≤ s.length) : 2 * (rdB s a most).1.1.length ≤ s.length := by
 obtain ⟨⟨⟨m, ok⟩, a1⟩, hq⟩ : ∃ r, rdB s a most = r := ⟨_, rfl⟩
 cases ok with
 | true =>
   obtain ⟨h1, _, _, _⟩ := rdB_inv hq
   rw [hq]
   have := congrArg List.length h1
   rw [List.length_append, List.length_drop, List.length_drop, hexL_length] at this
   dsimp only
   omega
 | false =>
   rw [hq]
   have : m = [] := by
    unfold rdB at hq
    simp only [Prod.mk.injEq] at hq
    obtain ⟨h1, _⟩ := hq
    split at h1
    · cases h1
    · cases h1; rfl
   rw [this]
   simp
theorem rdN_sz (s : Bs) (d a : Nat) (ha : a ≤ s.length) : okN (d + 1) (rdN s (d + 1) a).1.1 ∧ (txN (rdN s (d + 1) a).1.1).length ≤ s.length + 5 := by
 have hz : okN (d + 1) nd0' ∧ (txN nd0').length ≤ s.length + 5 := by
  refine ⟨⟨by decide, by decide, (by simp), (by simp), trivial⟩, ?_⟩
  rw [nd0', txN_len]
  simp
 have hb := (rdB_le (s := s) (most := 2) ha).2
 unfold rdN
 dsimp only
 split
 · rename_i x _ _
   obtain ⟨hc, hm, hk⟩ := rdI_rng x
   have hp : ∀ b : Bs, 2 * b.length ≤ s.length → (rdI x).1.2.1 = false → okN (d + 1) (.mk (rdI x).1.1 (rdI x).1.2.2 (rdI x).1.2.1 b []) ∧ (txN (.mk (rdI x).1.1 (rdI x).1.2.2 (rdI x).1.2.1 b [])).length ≤ s.length + 5 := fun b hb hk => by
    rw [hk]
    refine ⟨⟨hc, hm, (by simp), fun _ => rfl, trivial⟩, ?_⟩
    rw [txN_len, if_neg (by simp)]
    omega
   split
   · rename_i h1
     exact hp [] (by simp) (hk h1)
   · split
     · rename_i h1 h2
       split
       · rename_i h3
         exact hp _ (rdB_sz (List.getElem?_eq_some_iff.1 h3).1) h2
       · exact hp [] (by simp) h2
     · rename_i h1 h2
       have h2 : (rdI x).1.2.1 = true := by simpa using h2
       rw [h2]
       split
       · rename_i h3
         exact rdK_sz _ _ hc hm _ [] _ (List.getElem?_eq_some_iff.1 h3).1 trivial (by simp [txR])
       · refine ⟨⟨hc, hm, fun _ => rfl, (by simp), trivial⟩, ?_⟩
         rw [txN_len]
         simp [txL]
 · exact hz
end Go.Fw
namespace Go.Fw
open Go
theorem refPT_ok (k : Nat) (hk : 1000000 < k) {n : Node} (hok : okN 16 n) (hl : (txN n).length < 10000) : F_cref29_ParseTree (k + 17) (txN n) = some (encN n, true) := by
 unfold F_cref29_ParseTree
 have h := read_ex k hk 16 (k + 16) n [] (by omega) (by omega) hok trivial (by simp; omega)
 rw [List.append_nil] at h
 rw [show (16 : Int) = ((16 : Nat) : Int) from rfl, h]
 simp only [Option.bind_some, Bool.not_true, cond_false]
 rw [show (([] : Bs) == []) = true from rfl, node_eta, rvalid_ok (by omega) hok (by omega)]
 simp only [Option.bind_some, Bool.not_true, cond_false]
 rw [rtext_ok (k + 17) (by omega) 16 (k + 17) n (by omega) hok (by omega)]
 simp only [Option.bind_some, beq_self_eq_true, Bool.not_true, cond_false]
 rw [bytes_ok (k + 17) (by omega) 16 (k + 17) n (by omega) hok (by omega)]
 rfl
theorem refPT_no (k : Nat) (hk : 1000000 < k) {s : Bs} (hs : s.length < 10000) (hno : ∀ n, okN 16 n → txN n ≠ s) : F_cref29_ParseTree (k + 17) s = some ([], false) := by
 unfold F_cref29_ParseTree
 obtain ⟨n, r, ok, h1, h2⟩ := read_any k hk 16 (k + 16) s (by omega) (by omega) (by omega)
 rw [show (16 : Int) = ((16 : Nat) : Int) from rfl, h1]
 simp only [Option.bind_some]
 cases ok with
 | false => rfl
 | true =>
   obtain ⟨hok, hl⟩ := h2 rfl
   simp only [Bool.not_true, cond_false]
   cases r with
   | cons x r => rfl
   | nil =>
     rw [show (([] : Bs) == []) = true from rfl, node_eta, rvalid_ok (by omega) hok (by omega)]
     simp only [Option.bind_some, Bool.not_true, cond_false]
     rw [rtext_ok (k + 17) (by omega) 16 (k + 17) n (by omega) hok (by omega)]
     simp only [Option.bind_some]
     rw [show (txN n == s) = false from beq_eq_false_iff_ne.2 (hno n hok)]
     rfl
theorem PT_ok {N : Nat} (hN : 1000000 < N) (hN2 : N < 4611686018427387904) {n : Node} (hok : okN 16 n) (hl : (txN n).length < 10000) : F_PT N (txN n) = some (encN n, (0, 0)) := by
 have h := rdN_tx (txN n) 16 n 0 [] hok (by simp) trivial
 rw [Nat.zero_add] at h
 unfold F_PT
 rw [h, show Nat.blt (txN n).length 1000000 = true from by simp [Nat.blt_eq]; omega, cond_true]
 dsimp only
 rw [Encode_ok hN hN2 hok (by omega)]
 simp only [Option.bind_some, Bool.not_true, Bool.false_or]
 rw [show Nat.blt (txN n).length (txN n).length = false from by rw [← Bool.not_eq_true, Nat.blt_eq]; omega]
 rfl
theorem PT_no {N : Nat} (hN : 1000000 < N) (hN2 : N < 4611686018427387904) {s : Bs} (hs : s.length < 10000) (hno : ∀ n, okN 16 n → txN n ≠ s) : ∃ a : Nat, a ≤ s.length ∧ F_PT N s = some ([], (11, (a : Int))) := by
 obtain ⟨z1, z2⟩ := rdN_sz s 15 0 (Nat.zero_le _)
 have hle := rdN_le s 16 0 (Nat.zero_le _)
 obtain ⟨⟨⟨n, ok⟩, a⟩, hq⟩ : ∃ r, rdN s 16 0 = r := ⟨_, rfl⟩
 rw [hq] at z1 z2 hle
 refine ⟨a, hle, ?_⟩
 unfold F_PT
 rw [hq, show Nat.blt s.length 1000000 = true from by simp [Nat.blt_eq]; omega, cond_true]
 dsimp only at z1 z2 ⊢
 rw [Encode_ok hN hN2 z1 (by omega)]
 simp only [Option.bind_some]
 have hb : ((!ok) || Nat.blt a s.length || ((0 : Int) != 0)) = true := by
  cases ok with
  | false => rfl
  | true =>
    rw [show Nat.blt a s.length = true from ?_]; rfl
    rw [Nat.blt_eq]
    rcases Nat.lt_or_ge a s.length with h | h
    · exact h
    · exfalso
      obtain ⟨i1, i2⟩ := rdN_inv s 16 n 0 a hq
      rw [List.drop_zero, List.drop_eq_nil_of_le h, List.append_nil] at i2
      exact hno n i1 i2.symm
 rw [hb, cond_true]
theorem inverse_true (k : Nat) (hk : 1000000 < k) (hk2 : k < 4611686018427387800) (s : Bs) : F_claw29_DumpInverse (k + 17) s = some true := by
 unfold F_claw29_DumpInverse F_awakeD
 simp only [Option.bind_some, Bool.not_true, cond_false]
 by_cases hs : (s.length : Int) > 3000
 · rw [decide_eq_true hs]; rfl
 rw [decide_eq_false hs, cond_false]
 by_cases hx : ∃ n, okN 16 n ∧ txN n = s
 · obtain ⟨n, hok, rfl⟩ := hx
   rw [PT_ok (by omega) (by omega) hok (by omega), refPT_ok k hk hok (by omega)]
   simp only [Option.bind_some, F_cbase_Bytes, beq_self_eq_true, Bool.not_true, cond_false]
   have w : F_cbase_Within ((0 : Int), (0 : Int)) ((txN n).length : Int) = some true := by
    simp only [F_cbase_Within]
    rfl
   rw [w]
   simp only [Option.bind_some, Bool.not_true, cond_false]
   rw [Tree_ok (by omega) (by omega) hok (by omega)]
   simp
 · obtain ⟨a, ha, e⟩ := PT_no (N := k + 17) (by omega) (by omega) (s := s) (by omega) (fun n h1 h2 => hx ⟨n, h1, h2⟩)
   rw [e, refPT_no k hk (by omega) (fun n h1 h2 => hx ⟨n, h1, h2⟩)]
   simp only [Option.bind_some, F_cbase_Bytes, beq_self_eq_true, Bool.not_true, cond_false]
   have w : F_cbase_Within ((11 : Int), (a : Int)) (s.length : Int) = some true := by
    show (bif decide ((a : Int) ≥ 0) then some (decide ((a : Int) ≤ (s.length : Int))) else some false : Option Bool) = _
    rw [decide_eq_true (show (a : Int) ≥ 0 by omega), decide_eq_true (show (a : Int) ≤ (s.length : Int) by omega)]
    rfl
   rw [show ((11 : Int) == 0) = false from rfl]
   rw [w]
   rfl
end Go.Fw
namespace Go.Proofs.Tryz
open Go Go.Fw
theorem law_inv (s : List UInt8) : PureOK prog 6 [.str s] (.bool true) := by
 obtain ⟨_, _, _, h⟩ := c_claw29_DumpInverse 1000018
 obtain ⟨v, h1, _, h3⟩ := h s true (inverse_true 1000001 (by decide) (by decide) s)
 have e : v = .bool true := by
  have h1 : some ((SV.bool true, ([] : List DV))) = some (v, []) := h1
  cases h1; rfl
 subst e
 exact h3 _ rfl _ (by simp only [VRs, VR]; exact ⟨_, _, rfl, rfl, rfl⟩)
end Go.Proofs.Tryz
namespace Go.Proofs.Tryz
open Go Go.Fw Go.RowKit Go.ChangeShapes Go.WideShapes
set_option maxRecDepth 100000
theorem u9 : prog.underlying 9 = some .string := by kernel_rfl
section
variable {H : Type} {enc : TypeId × Value → H} {W : World} {base b0 : Nat} {sp : Nat → Bool} {held : Bool}
theorem open_inv {v0 : Value} {d0 : DataW H} {q0 : List MemPlace} (k0 : Value.okWide prog W .any b0 9 v0) (h0 : DataW.Trod enc prog W base sp held 9 v0 d0 q0) :
 ∃ s : List UInt8, Reps (snap G0 W) [.str s] [v0] := by
 obtain ⟨n0, e0⟩ := h0
 obtain ⟨x, rfl⟩ := okWide_string u9 k0
 obtain ⟨s, r1, _, _⟩ := open_tc (P := prog) (enc := enc) G0 20 .str 9 (by kernel_rfl) n0 _ _ e0
 exact ⟨s, r1⟩
end
theorem globs_n : prog.globals.size = 8 := by kernel_rfl
theorem globs_all : ((List.range 8).all fun g => match globOf prog g with | none => true | some _ => Nat.beq g 6 || Nat.beq g 7) = true := by kernel_rfl
theorem globs {g : Nat} {cs : List D} (h : globOf prog g = some cs) : cs = [.anyi] ∧ (g = 6 ∨ g = 7) := by
 constructor
 · unfold globOf globTab at h
   obtain ⟨v, _, h⟩ := Option.bind_eq_some_iff.1 h
   split at h
   · cases h; rfl
   · split at h
     · cases h; rfl
     · cases h
 · have hg : g < 8 := by
    rw [← globs_n]
    unfold globOf at h
    obtain ⟨v, hv, _⟩ := Option.bind_eq_some_iff.1 h
    exact (Array.getElem?_eq_some_iff.1 hv).1
   have ha := List.all_eq_true.1 globs_all g (List.mem_range.2 hg)
   rw [h] at ha
   simp only [Bool.or_eq_true] at ha
   rcases ha with ha | ha
   · exact .inl (Nat.eq_of_beq_eq_true ha)
   · exact .inr (Nat.eq_of_beq_eq_true ha)
theorem var_heap {W : World} {n : String} {g : Nat} {l : Array Value} (hg : prog.globalNamed n = some g) (h : W.var? prog n = some l) : ∃ t f, W.heap[g]? = some (.cells l t f) := by
 unfold World.var? at h
 rw [hg] at h
 simp only [Option.bind_some] at h
 split at h
 · rename_i cs t f hc
   cases h
   exact ⟨t, f, hc⟩
 · cases h
theorem var_cell {W : World} {n : String} {g : Nat} {x : Value} (hg : prog.globalNamed n = some g) (h : W.var? prog n = some #[x]) : g < W.heap.size ∧ W.cell? ⟨g, 0, none⟩ = some x := by
 obtain ⟨t, f, hc⟩ := var_heap hg h
 refine ⟨lt_of_some hc, ?_⟩
 unfold World.cell?
 rw [hc]
 rfl
theorem glob_ok {W : World} {t1 t2 : TypeId} {x1 x2 : Value} (hp : Lib.TabIs prog W "internal/strconv.uint64pow10" .u64 Lib.pow10Tab) (h1 : W.var? prog "strconv.ErrSyntax" = some #[.iface t1 x1]) (h2 : W.var? prog "strconv.ErrRange" = some #[.iface t2 x2]) : GlobOk prog (snap G0 W) W := by
 refine ⟨fun g cs h => ?_, ⟨fun g hg => var_heap hg hp⟩⟩
 obtain ⟨rfl, hg⟩ := globs h
 have key : ∃ t x, g < W.heap.size ∧ W.cell? ⟨g, 0, none⟩ = some (.iface t x) := by
  rcases hg with rfl | rfl
  · exact ⟨t1, x1, var_cell (by kernel_rfl) h1⟩
  · exact ⟨t2, x2, var_cell (by kernel_rfl) h2⟩
 obtain ⟨t, x, k1, k2⟩ := key
 refine ⟨k1, ?_⟩
 simp only [Rep]
 exact ⟨g, 0, rfl, ⟨_, k2, by simp only [Rep]; exact ⟨t, x, rfl⟩⟩, trivial⟩
end Go.Proofs.Tryz
