/- A framework for proofs about Go programs in this model: part K. Everything is proved; no condition is added. -/
import GoSem.ClaimJoined
import Derived.IntWalk
import Derived.Test.YtnckoelcmkdeeaaGreatDoorFwI
import Derived.Test.YtnckoelcmkdeeaaGreatDoorFwF
set_option linter.unusedVariables false
set_option linter.unusedSimpArgs false
namespace Go.Fw
open Go
def F_bytes_Equal (a1 : Bs) (a2 : Bs) : Option Bool :=
  some (a1 == a2)
def F_cref22_FewList_l0 (N n : Nat) : (List (Bs × Bool × Bs) × Int × Int) → Option (List (Bs × Bool × Bs) × Int) := Nat.rec (fun _ => none) (fun _ L (l1, i2, i3) =>
  bif decide (i3 < (l1.length : Int)) then (
  bif decide (i3 < 20) then (
  (ix l1 i3).bind fun e4 =>
  (ix l1 i3).bind fun e5 =>
  L (l1, wadd .i64 (wadd .i64 i2 (e4.1.length : Int)) (e5.2.2.length : Int), wadd .i64 i3 1))
  else
  some (l1, i2))
  else
  some (l1, i2)) n
def F_cref22_FewList (N : Nat) (a1 : List (Bs × Bool × Bs)) : Option Bool :=
  (F_cref22_FewList_l0 N N (a1, 0, 0)).bind fun (l6, i7) =>
  bif decide ((l6.length : Int) ≤ 12) then (
  some (decide (i7 ≤ 3000)))
  else
  some false
def F_cref26_FewEntry (N : Nat) (a1 : (Bs × (Int × Int × Int × Int × Int × Int) × List (Bs × Bool × Bs))) : Option Bool :=
  bif decide ((a1.1.length : Int) ≤ 100) then (
  (F_cref22_FewList N a1.2.2).bind fun c1 =>
  some c1)
  else
  some false
def F_cref10_Few (a1 : (Bs × Bs)) : Option Bool :=
  bif decide ((a1.1.length : Int) ≤ 200) then (
  some (decide ((a1.2.length : Int) ≤ 1000)))
  else
  some false
def F_cref11_Few (a1 : (Bs × Bs)) : Option Bool :=
  bif decide ((a1.1.length : Int) ≤ 200) then (
  some (decide ((a1.2.length : Int) ≤ 1000)))
  else
  some false
def F_cref12_FewRDN_l0 (N n : Nat) : (List (Bs × Bs) × Int × Int) → Option ((Bool) ⊕ (List (Bs × Bs) × Int)) := Nat.rec (fun _ => none) (fun _ L (l1, i2, i3) =>
  bif decide (i3 < (l1.length : Int)) then (
  bif decide (i3 < 10) then (
  (ix l1 i3).bind fun e4 =>
  (F_cref11_Few e4).bind fun c5 =>
  bif (!c5) then (
  some (Sum.inl false))
  else
  (ix l1 i3).bind fun e6 =>
  L (l1, wadd .i64 i2 (e6.2.length : Int), wadd .i64 i3 1))
  else
  some (Sum.inr (l1, i2)))
  else
  some (Sum.inr (l1, i2))) n
def F_cref12_FewRDN (N : Nat) (a1 : List (Bs × Bs)) : Option Bool :=
  (F_cref12_FewRDN_l0 N N (a1, 0, 0)).bind fun y7 => (match y7 with
  | Sum.inl c8 => some c8
  | Sum.inr ((l9, i10)) => bif decide ((l9.length : Int) ≤ 8) then (
  some (decide (i10 ≤ 2000)))
  else
  some false)
def F_cref12_Few_l0 (N n : Nat) : (List (List (Bs × Bs)) × Int × Int × Int) → Option (List (List (Bs × Bs)) × Int × Int) := Nat.rec (fun _ => none) (fun _ L (l6, i7, i8, i9) =>
  (ix l6 i8).bind fun e10 =>
  bif decide (i9 < (e10.length : Int)) then (
  (ix l6 i8).bind fun e11 =>
  (ix e11 i9).bind fun e12 =>
  L (l6, wadd .i64 i7 (e12.2.length : Int), i8, wadd .i64 i9 1))
  else
  some (l6, i7, i8)) n
def F_cref12_Few_l1 (N n : Nat) : (List (List (Bs × Bs)) × Int × Int) → Option ((Bool) ⊕ (List (List (Bs × Bs)) × Int)) := Nat.rec (fun _ => none) (fun _ L (l1, i2, i3) =>
  bif decide (i3 < (l1.length : Int)) then (
  bif decide (i3 < 20) then (
  (ix l1 i3).bind fun e4 =>
  (F_cref12_FewRDN N e4).bind fun c5 =>
  bif (!c5) then (
  some (Sum.inl false))
  else
  (F_cref12_Few_l0 N N (l1, i2, i3, 0)).bind fun (l6, i7, i8) =>
  L (l6, i7, wadd .i64 i8 1))
  else
  some (Sum.inr (l1, i2)))
  else
  some (Sum.inr (l1, i2))) n
def F_cref12_Few (N : Nat) (a1 : List (List (Bs × Bs))) : Option Bool :=
  (F_cref12_Few_l1 N N (a1, 0, 0)).bind fun y9 => (match y9 with
  | Sum.inl c10 => some c10
  | Sum.inr ((l11, i12)) => bif decide ((l11.length : Int) ≤ 10) then (
  some (decide (i12 ≤ 2000)))
  else
  some false)
def F_cref26_FewList_l0 (N n : Nat) : (Int × Int × Int × Int × Bs × Bs × List (List (Bs × Bs)) × Int × Int × Int × Int × Int × Int × Bool × Int × Int × Int × Int × Int × Int × List (Bs × (Int × Int × Int × Int × Int × Int) × List (Bs × Bool × Bs)) × List (Bs × Bool × Bs)) → Option (Int × Int × Int × Bs × Bs × List (List (Bs × Bs)) × Int × Int × Int × Int × Int × Int × Bool × Int × Int × Int × Int × Int × Int × List (Bs × (Int × Int × Int × Int × Int × Int) × List (Bs × Bool × Bs)) × List (Bs × Bool × Bs)) := Nat.rec (fun _ => none) (fun _ L (i24, i25, i26, i27, s28, l29, l30, i31, i32, i33, i34, i35, i36, c37, i38, i39, i40, i41, i42, i43, l44, l45) =>
  (ix l44 i25).bind fun e46 =>
  bif decide (i26 < (e46.2.2.length : Int)) then (
  (ix l44 i25).bind fun e47 =>
  (ix e47.2.2 i26).bind fun e48 =>
  L (wadd .i64 i24 (e48.2.2.length : Int), i25, wadd .i64 i26 1, i27, s28, l29, l30, i31, i32, i33, i34, i35, i36, c37, i38, i39, i40, i41, i42, i43, l44, l45))
  else
  some (i24, i25, i27, s28, l29, l30, i31, i32, i33, i34, i35, i36, c37, i38, i39, i40, i41, i42, i43, l44, l45)) n
def F_cref26_FewList_l1 (N n : Nat) : (Int × Int × Int × Bs × Bs × List (List (Bs × Bs)) × Int × Int × Int × Int × Int × Int × Bool × Int × Int × Int × Int × Int × Int × List (Bs × (Int × Int × Int × Int × Int × Int) × List (Bs × Bool × Bs)) × List (Bs × Bool × Bs)) → Option ((Bool) ⊕ (Int × Int × Bs × Bs × List (List (Bs × Bs)) × Int × Int × Int × Int × Int × Int × Bool × Int × Int × Int × Int × Int × Int × List (Bs × (Int × Int × Int × Int × Int × Int) × List (Bs × Bool × Bs)) × List (Bs × Bool × Bs))) := Nat.rec (fun _ => none) (fun _ L (i1, i2, i3, s4, l5, l6, i7, i8, i9, i10, i11, i12, c13, i14, i15, i16, i17, i18, i19, l20, l21) =>
  bif decide (i2 < (l20.length : Int)) then (
  bif decide (i2 < 10) then (
  (ix l20 i2).bind fun e22 =>
  (F_cref26_FewEntry N e22).bind fun c23 =>
  bif (!c23) then (
  some (Sum.inl false))
  else
  (F_cref26_FewList_l0 N N (i1, i2, 0, i3, s4, l5, l6, i7, i8, i9, i10, i11, i12, c13, i14, i15, i16, i17, i18, i19, l20, l21)).bind fun (i24, i25, i26, s27, l28, l29, i30, i31, i32, i33, i34, i35, c36, i37, i38, i39, i40, i41, i42, l43, l44) =>
  L (i24, wadd .i64 i25 1, i26, s27, l28, l29, i30, i31, i32, i33, i34, i35, c36, i37, i38, i39, i40, i41, i42, l43, l44))
  else
  some (Sum.inr (i1, i3, s4, l5, l6, i7, i8, i9, i10, i11, i12, c13, i14, i15, i16, i17, i18, i19, l20, l21)))
  else
  some (Sum.inr (i1, i3, s4, l5, l6, i7, i8, i9, i10, i11, i12, c13, i14, i15, i16, i17, i18, i19, l20, l21))) n
def F_cref26_FewList (N : Nat) (a1 : (Int × (Bs × Bs) × List (List (Bs × Bs)) × (Int × Int × Int × Int × Int × Int) × Bool × (Int × Int × Int × Int × Int × Int) × List (Bs × (Int × Int × Int × Int × Int × Int) × List (Bs × Bool × Bs)) × List (Bs × Bool × Bs))) : Option Bool :=
  (F_cref26_FewList_l1 N N (0, 0, a1.1, a1.2.1.1, a1.2.1.2, a1.2.2.1, a1.2.2.2.1.1, a1.2.2.2.1.2.1, a1.2.2.2.1.2.2.1, a1.2.2.2.1.2.2.2.1, a1.2.2.2.1.2.2.2.2.1, a1.2.2.2.1.2.2.2.2.2, a1.2.2.2.2.1, a1.2.2.2.2.2.1.1, a1.2.2.2.2.2.1.2.1, a1.2.2.2.2.2.1.2.2.1, a1.2.2.2.2.2.1.2.2.2.1, a1.2.2.2.2.2.1.2.2.2.2.1, a1.2.2.2.2.2.1.2.2.2.2.2, a1.2.2.2.2.2.2)).bind fun y45 => (match y45 with
  | Sum.inl c46 => some c46
  | Sum.inr ((i47, i48, s49, l50, l51, i52, i53, i54, i55, i56, i57, c58, i59, i60, i61, i62, i63, i64, l65, l66)) => bif decide ((l65.length : Int) ≤ 6) then (
  bif decide (i47 ≤ 3000) then (
  (F_cref10_Few (s49, l50)).bind fun c67 =>
  bif c67 then (
  (F_cref12_Few N l51).bind fun c68 =>
  bif c68 then (
  (F_cref22_FewList N l66).bind fun c69 =>
  some c69)
  else
  some false)
  else
  some false)
  else
  some false)
  else
  some false)
def F_revocation_Find_1_v1 (a1 : Bs) (a2 : Int) (a3 : Int) (a4 : Int) (a5 : Int) (a6 : Int) (a7 : Int) (a8 : List (Bs × Bool × Bs)) (a9 : Bs) : Option Bool :=
  (F_bytes_Equal a1 a9).bind fun c1 =>
  some c1
def F_slices_IndexFunc_api_Revoked_api_Revoked_v1_l0 (N n : Nat) : (List (Bs × (Int × Int × Int × Int × Int × Int) × List (Bs × Bool × Bs)) × Bs × Int × Int) → Option ((Int) ⊕ (Unit)) := Nat.rec (fun _ => none) (fun _ L (l1, l2, i3, i4) =>
  bif decide (i4 < i3) then (
  (ix l1 i4).bind fun e5 =>
  (F_revocation_Find_1_v1 e5.1 e5.2.1.1 e5.2.1.2.1 e5.2.1.2.2.1 e5.2.1.2.2.2.1 e5.2.1.2.2.2.2.1 e5.2.1.2.2.2.2.2 e5.2.2 l2).bind fun c6 =>
  bif c6 then (
  some (Sum.inl i4))
  else
  L (l1, l2, i3, wadd .i64 i4 1))
  else
  some (Sum.inr ())) n
def F_slices_IndexFunc_api_Revoked_api_Revoked_v1 (N : Nat) (a1 : List (Bs × (Int × Int × Int × Int × Int × Int) × List (Bs × Bool × Bs))) (a2 : Bs) : Option Int :=
  (F_slices_IndexFunc_api_Revoked_api_Revoked_v1_l0 N N (a1, a2, (a1.length : Int), 0)).bind fun y7 => (match y7 with
  | Sum.inl i8 => some i8
  | Sum.inr _ => some (-1))
def F_revocation_Find_l0 (N n : Nat) : (List (Bs × Bool × Bs) × Int × Int × Int × Int × Int × Int × Int × Int × Bs × Int × Int × Int × Int × Int × Int × List (Bs × Bool × Bs) × List (Bs × Bool × Bs)) → Option (Int × Int × Int × Int × Int × Int × Bs × Int × Int × Int × Int × Int × Int × List (Bs × Bool × Bs) × List (Bs × Bool × Bs)) := Nat.rec (fun _ => none) (fun _ L (l4, i5, i6, i7, i8, i9, i10, i11, i12, l13, i14, i15, i16, i17, i18, i19, l20, l21) =>
  bif decide (i6 < i5) then (
  (ix l4 i6).bind fun e22 =>
  (F_Clone e22.2.2).bind fun l23 =>
  (app 48 l21 [(e22.1, e22.2.1, l23)]).bind fun l24 =>
  L (l4, i5, wadd .i64 i6 1, i7, i8, i9, i10, i11, i12, l13, i14, i15, i16, i17, i18, i19, l20, l24))
  else
  some (i7, i8, i9, i10, i11, i12, l13, i14, i15, i16, i17, i18, i19, l20, l21)) n
def F_revocation_Find (N : Nat) (a1 : (Int × (Bs × Bs) × List (List (Bs × Bs)) × (Int × Int × Int × Int × Int × Int) × Bool × (Int × Int × Int × Int × Int × Int) × List (Bs × (Int × Int × Int × Int × Int × Int) × List (Bs × Bool × Bs)) × List (Bs × Bool × Bs))) (a2 : Bs) : Option ((Bs × (Int × Int × Int × Int × Int × Int) × List (Bs × Bool × Bs)) × Bool) :=
  (F_slices_IndexFunc_api_Revoked_api_Revoked_v1 N a1.2.2.2.2.2.2.1 a2).bind fun i1 =>
  bif decide (i1 < 0) then (
  some (([], (0, 0, 0, 0, 0, 0), []), false))
  else
  (ix a1.2.2.2.2.2.2.1 i1).bind fun e2 =>
  (F_Clone e2.1).bind fun l3 =>
  (F_revocation_Find_l0 N N (e2.2.2, (e2.2.2.length : Int), 0, 0, 0, 0, 0, 0, 0, l3, e2.2.1.1, e2.2.1.2.1, e2.2.1.2.2.1, e2.2.1.2.2.2.1, e2.2.1.2.2.2.2.1, e2.2.1.2.2.2.2.2, e2.2.2, [])).bind fun (i25, i26, i27, i28, i29, i30, l31, i32, i33, i34, i35, i36, i37, l38, l39) =>
  some ((l31, (i32, i33, i34, i35, i36, i37), l39), true)
def F_cbase_Bytes (a1 : Bs) (a2 : Bs) : Option Bool :=
  some (a1 == a2)
def F_cref26_Find_l0 (N n : Nat) : (Bs × Int × Int × Bs × Bs × List (List (Bs × Bs)) × Int × Int × Int × Int × Int × Int × Bool × Int × Int × Int × Int × Int × Int × List (Bs × (Int × Int × Int × Int × Int × Int) × List (Bs × Bool × Bs)) × List (Bs × Bool × Bs) × Int × Int × Int × Int × Int × Int) → Option ((Bool × Bs × Int × Int × Int × Int × Int × Int × List (Bs × Bool × Bs)) ⊕ (Int × Int × Int × Int × Int × Int)) := Nat.rec (fun _ => none) (fun _ L (l1, i2, i3, s4, l5, l6, i7, i8, i9, i10, i11, i12, c13, i14, i15, i16, i17, i18, i19, l20, l21, i22, i23, i24, i25, i26, i27) =>
  bif decide (i2 < (l20.length : Int)) then (
  (ix l20 i2).bind fun e28 =>
  (F_cbase_Bytes e28.1 l1).bind fun c29 =>
  bif c29 then (
  (ix l20 i2).bind fun e30 =>
  some (Sum.inl (true, e30.1, e30.2.1.1, e30.2.1.2.1, e30.2.1.2.2.1, e30.2.1.2.2.2.1, e30.2.1.2.2.2.2.1, e30.2.1.2.2.2.2.2, e30.2.2)))
  else
  L (l1, wadd .i64 i2 1, i3, s4, l5, l6, i7, i8, i9, i10, i11, i12, c13, i14, i15, i16, i17, i18, i19, l20, l21, i22, i23, i24, i25, i26, i27))
  else
  some (Sum.inr (i22, i23, i24, i25, i26, i27))) n
def F_cref26_Find (N : Nat) (a1 : (Int × (Bs × Bs) × List (List (Bs × Bs)) × (Int × Int × Int × Int × Int × Int) × Bool × (Int × Int × Int × Int × Int × Int) × List (Bs × (Int × Int × Int × Int × Int × Int) × List (Bs × Bool × Bs)) × List (Bs × Bool × Bs))) (a2 : Bs) : Option ((Bs × (Int × Int × Int × Int × Int × Int) × List (Bs × Bool × Bs)) × Bool) :=
  (F_cref26_Find_l0 N N (a2, 0, a1.1, a1.2.1.1, a1.2.1.2, a1.2.2.1, a1.2.2.2.1.1, a1.2.2.2.1.2.1, a1.2.2.2.1.2.2.1, a1.2.2.2.1.2.2.2.1, a1.2.2.2.1.2.2.2.2.1, a1.2.2.2.1.2.2.2.2.2, a1.2.2.2.2.1, a1.2.2.2.2.2.1.1, a1.2.2.2.2.2.1.2.1, a1.2.2.2.2.2.1.2.2.1, a1.2.2.2.2.2.1.2.2.2.1, a1.2.2.2.2.2.1.2.2.2.2.1, a1.2.2.2.2.2.1.2.2.2.2.2, a1.2.2.2.2.2.2.1, a1.2.2.2.2.2.2.2, 0, 0, 0, 0, 0, 0)).bind fun y31 => (match y31 with
  | Sum.inl (c32, l33, i34, i35, i36, i37, i38, i39, l40) => some ((l33, (i34, i35, i36, i37, i38, i39), l40), c32)
  | Sum.inr ((i41, i42, i43, i44, i45, i46)) => some (([], (0, 0, 0, 0, 0, 0), []), false))
def F_cbase_Extension (a1 : (Bs × Bool × Bs)) (a2 : (Bs × Bool × Bs)) : Option Bool :=
  bif (a1.1 == a2.1) then (
  bif (a1.2.1 == a2.2.1) then (
  (F_cbase_Bytes a1.2.2 a2.2.2).bind fun c1 =>
  some c1)
  else
  some false)
  else
  some false
def F_cbase_Extensions_l0 (N n : Nat) : (List (Bs × Bool × Bs) × List (Bs × Bool × Bs) × Int) → Option ((Bool) ⊕ (List (Bs × Bool × Bs) × List (Bs × Bool × Bs))) := Nat.rec (fun _ => none) (fun _ L (l1, l2, i3) =>
  bif decide (i3 < (l1.length : Int)) then (
  bif decide (i3 < (l2.length : Int)) then (
  (ix l1 i3).bind fun e4 =>
  (ix l2 i3).bind fun e5 =>
  (F_cbase_Extension e4 e5).bind fun c6 =>
  bif (!c6) then (
  some (Sum.inl false))
  else
  L (l1, l2, wadd .i64 i3 1))
  else
  some (Sum.inr (l1, l2)))
  else
  some (Sum.inr (l1, l2))) n
def F_cbase_Extensions (N : Nat) (a1 : List (Bs × Bool × Bs)) (a2 : List (Bs × Bool × Bs)) : Option Bool :=
  (F_cbase_Extensions_l0 N N (a1, a2, 0)).bind fun y7 => (match y7 with
  | Sum.inl c8 => some c8
  | Sum.inr ((l9, l10)) => some ((l9.length : Int) == (l10.length : Int)))
def F_cbase_Revoked_l0 (N n : Nat) : (List (Bs × (Int × Int × Int × Int × Int × Int) × List (Bs × Bool × Bs)) × List (Bs × (Int × Int × Int × Int × Int × Int) × List (Bs × Bool × Bs)) × Int) → Option ((Bool) ⊕ (List (Bs × (Int × Int × Int × Int × Int × Int) × List (Bs × Bool × Bs)) × List (Bs × (Int × Int × Int × Int × Int × Int) × List (Bs × Bool × Bs)))) := Nat.rec (fun _ => none) (fun _ L (l1, l2, i3) =>
  bif decide (i3 < (l1.length : Int)) then (
  bif decide (i3 < (l2.length : Int)) then (
  (ix l1 i3).bind fun e4 =>
  (ix l2 i3).bind fun e5 =>
  (F_cbase_Bytes e4.1 e5.1).bind fun c6 =>
  bif (!c6) then (
  some (Sum.inl false))
  else
  (ix l1 i3).bind fun e7 =>
  (ix l2 i3).bind fun e8 =>
  bif (!((e7.2.1.1 == e8.2.1.1) && ((e7.2.1.2.1 == e8.2.1.2.1) && ((e7.2.1.2.2.1 == e8.2.1.2.2.1) && ((e7.2.1.2.2.2.1 == e8.2.1.2.2.2.1) && ((e7.2.1.2.2.2.2.1 == e8.2.1.2.2.2.2.1) && (e7.2.1.2.2.2.2.2 == e8.2.1.2.2.2.2.2))))))) then (
  some (Sum.inl false))
  else
  (ix l1 i3).bind fun e9 =>
  (ix l2 i3).bind fun e10 =>
  (F_cbase_Extensions N e9.2.2 e10.2.2).bind fun c11 =>
  bif (!c11) then (
  some (Sum.inl false))
  else
  L (l1, l2, wadd .i64 i3 1))
  else
  some (Sum.inr (l1, l2)))
  else
  some (Sum.inr (l1, l2))) n
def F_cbase_Revoked (N : Nat) (a1 : List (Bs × (Int × Int × Int × Int × Int × Int) × List (Bs × Bool × Bs))) (a2 : List (Bs × (Int × Int × Int × Int × Int × Int) × List (Bs × Bool × Bs))) : Option Bool :=
  (F_cbase_Revoked_l0 N N (a1, a2, 0)).bind fun y12 => (match y12 with
  | Sum.inl c13 => some c13
  | Sum.inr ((l14, l15)) => some ((l14.length : Int) == (l15.length : Int)))
def F_dispatch_ID (a1 : Int) : Option Bs :=
  bif (a1 == 0) then (
  some [])
  else
  bif (a1 == 9) then (
  some ([50, 46, 53, 46, 50, 57, 46, 57] : Bs))
  else
  bif (a1 == 14) then (
  some ([50, 46, 53, 46, 50, 57, 46, 49, 52] : Bs))
  else
  bif (a1 == 15) then (
  some ([50, 46, 53, 46, 50, 57, 46, 49, 53] : Bs))
  else
  bif (a1 == 17) then (
  some ([50, 46, 53, 46, 50, 57, 46, 49, 55] : Bs))
  else
  bif (a1 == 18) then (
  some ([50, 46, 53, 46, 50, 57, 46, 49, 56] : Bs))
  else
  bif (a1 == 19) then (
  some ([50, 46, 53, 46, 50, 57, 46, 49, 57] : Bs))
  else
  bif (a1 == 20) then (
  some ([50, 46, 53, 46, 50, 57, 46, 50, 48] : Bs))
  else
  bif (a1 == 21) then (
  some ([50, 46, 53, 46, 50, 57, 46, 50, 49] : Bs))
  else
  bif (a1 == 24) then (
  some ([50, 46, 53, 46, 50, 57, 46, 50, 52] : Bs))
  else
  bif (a1 == 27) then (
  some ([50, 46, 53, 46, 50, 57, 46, 50, 55] : Bs))
  else
  bif (a1 == 28) then (
  some ([50, 46, 53, 46, 50, 57, 46, 50, 56] : Bs))
  else
  bif (a1 == 29) then (
  some ([50, 46, 53, 46, 50, 57, 46, 50, 57] : Bs))
  else
  bif (a1 == 30) then (
  some ([50, 46, 53, 46, 50, 57, 46, 51, 48] : Bs))
  else
  bif (a1 == 31) then (
  some ([50, 46, 53, 46, 50, 57, 46, 51, 49] : Bs))
  else
  bif (a1 == 32) then (
  some ([50, 46, 53, 46, 50, 57, 46, 51, 50] : Bs))
  else
  bif (a1 == 33) then (
  some ([50, 46, 53, 46, 50, 57, 46, 51, 51] : Bs))
  else
  bif (a1 == 35) then (
  some ([50, 46, 53, 46, 50, 57, 46, 51, 53] : Bs))
  else
  bif (a1 == 36) then (
  some ([50, 46, 53, 46, 50, 57, 46, 51, 54] : Bs))
  else
  bif (a1 == 37) then (
  some ([50, 46, 53, 46, 50, 57, 46, 51, 55] : Bs))
  else
  bif (a1 == 46) then (
  some ([50, 46, 53, 46, 50, 57, 46, 52, 54] : Bs))
  else
  bif (a1 == 54) then (
  some ([50, 46, 53, 46, 50, 57, 46, 53, 52] : Bs))
  else
  bif (a1 == 101) then (
  some ([49, 46, 51, 46, 54, 46, 49, 46, 53, 46, 53, 46, 55, 46, 49, 46, 49] : Bs))
  else
  bif (a1 == 111) then (
  some ([49, 46, 51, 46, 54, 46, 49, 46, 53, 46, 53, 46, 55, 46, 49, 46, 49, 49] : Bs))
  else
  some []
def F_extension_index_1_v1 (a1 : Bs) (a2 : Bool) (a3 : Bs) (a4 : Bs) : Option Bool :=
  some (a1 == a4)
def F_slices_IndexFunc_api_Extension_api_Extension_v1_l0 (N n : Nat) : (List (Bs × Bool × Bs) × Bs × Int × Int) → Option ((Int) ⊕ (Unit)) := Nat.rec (fun _ => none) (fun _ L (l1, s2, i3, i4) =>
  bif decide (i4 < i3) then (
  (ix l1 i4).bind fun e5 =>
  (F_extension_index_1_v1 e5.1 e5.2.1 e5.2.2 s2).bind fun c6 =>
  bif c6 then (
  some (Sum.inl i4))
  else
  L (l1, s2, i3, wadd .i64 i4 1))
  else
  some (Sum.inr ())) n
def F_slices_IndexFunc_api_Extension_api_Extension_v1 (N : Nat) (a1 : List (Bs × Bool × Bs)) (a2 : Bs) : Option Int :=
  (F_slices_IndexFunc_api_Extension_api_Extension_v1_l0 N N (a1, a2, (a1.length : Int), 0)).bind fun y7 => (match y7 with
  | Sum.inl i8 => some i8
  | Sum.inr _ => some (-1))
def F_extension_index (N : Nat) (a1 : List (Bs × Bool × Bs)) (a2 : Bs) : Option Int :=
  (F_slices_IndexFunc_api_Extension_api_Extension_v1 N a1 a2).bind fun i1 =>
  some i1
def F_extension_clone (a1 : (Bs × Bool × Bs)) : Option (Bs × Bool × Bs) :=
  (F_Clone a1.2.2).bind fun l1 =>
  some (a1.1, a1.2.1, l1)
def F_extension_Find (N : Nat) (a1 : List (Bs × Bool × Bs)) (a2 : Bs) : Option ((Bs × Bool × Bs) × Bool) :=
  (F_extension_index N a1 a2).bind fun i1 =>
  bif decide (i1 ≥ 0) then (
  (ix a1 i1).bind fun e2 =>
  (F_extension_clone e2).bind fun v3 =>
  some (v3, true))
  else
  some (([], false, []), false)
def F_cref22_Find_l0 (N n : Nat) : (List (Bs × Bool × Bs) × Bs × Int × Bs × Bool) → Option ((Bool × Bs × Bool × Bs) ⊕ (Bs × Bool)) := Nat.rec (fun _ => none) (fun _ L (l1, s2, i3, s4, c5) =>
  bif decide (i3 < (l1.length : Int)) then (
  (ix l1 i3).bind fun e6 =>
  bif (e6.1 == s2) then (
  (ix l1 i3).bind fun e7 =>
  some (Sum.inl (true, e7)))
  else
  L (l1, s2, wadd .i64 i3 1, s4, c5))
  else
  some (Sum.inr (s4, c5))) n
def F_cref22_Find (N : Nat) (a1 : List (Bs × Bool × Bs)) (a2 : Bs) : Option ((Bs × Bool × Bs) × Bool) :=
  (F_cref22_Find_l0 N N (a1, a2, 0, [], false)).bind fun y8 => (match y8 with
  | Sum.inl (c9, s10, c11, l12) => some ((s10, c11, l12), c9)
  | Sum.inr ((s13, c14)) => some (([], false, []), false))
def F_cref21_Valid (a1 : Int) : Option Bool :=
  bif decide (a1 ≥ 0) then (
  bif decide (a1 ≤ 10) then (
  some (a1 != 7))
  else
  some false)
  else
  some false
def F_cref21_Marshal (a1 : Int) : Option (Bs × Int) :=
  (F_cref21_Valid a1).bind fun c1 =>
  bif (!c1) then (
  some ([], 8))
  else
  (toB (IntKind.wrap .u8 a1)).bind fun b2 =>
  some ([10, 1, b2], 0)
def F_cref21_Parse_l0 (N n : Nat) : (Bs × Int) → Option ((Int × Bool) ⊕ (Unit)) := Nat.rec (fun _ => none) (fun _ L (l1, i2) =>
  bif decide (i2 ≤ 10) then (
  (F_cref21_Marshal i2).bind fun (l3, i4) =>
  bif (i4 == 0) then (
  (F_cbase_Bytes l3 l1).bind fun c5 =>
  bif c5 then (
  some (Sum.inl (i2, true)))
  else
  L (l1, wadd .i64 i2 1))
  else
  L (l1, wadd .i64 i2 1))
  else
  some (Sum.inr ())) n
def F_cref21_Parse (N : Nat) (a1 : Bs) : Option (Int × Bool) :=
  (F_cref21_Parse_l0 N N (a1, 0)).bind fun y6 => (match y6 with
  | Sum.inl (i7, c8) => some (i7, c8)
  | Sum.inr _ => some (0, false))
def F_tlv_ReadIdentifier (a1 : Int) : Option (Int × Bool × Int × Int) :=
  bif (bits .and .u8 a1 31 == 31) then (
  some (0, false, 0, 3))
  else
  some (IntKind.wrap .i64 (wshr .u8 a1 6), (bits .and .u8 a1 32 != 0), IntKind.wrap .i64 (bits .and .u8 a1 31), 0)
def F_tlv_ReadLength_1 (a1 : Int) (a2 : Int) : Option (Int × Int × (Int × Int)) :=
  some (0, 0, a1, a2)
def F_tlv_ReadLength_l0 (N n : Nat) : (Bs × Int × Int × Int × Int × Int) → Option (Bs × Int × Int × Int × Int) := Nat.rec (fun _ => none) (fun _ L (l16, i17, i18, i19, i20, i21) =>
  bif decide (i19 > i17) then (
  some (l16, i17, i18, i20, i21))
  else
  (ix l16 i19).bind fun b22 =>
  L (l16, i17, bits .or .i64 (wshl .i64 i18 8) (IntKind.wrap .i64 (b22.toNat : Int)), wadd .i64 i19 1, i20, i21)) n
def F_tlv_ReadLength (N : Nat) (a1 : Bs) : Option (Int × Int × (Int × Int)) :=
  bif ((a1.length : Int) == 0) then (
  (F_tlv_ReadLength_1 1 0).bind fun (i1, i2, v3) =>
  some (i1, i2, v3))
  else
  (ix a1 0).bind fun b4 =>
  bif decide ((b4.toNat : Int) < 128) then (
  (ix a1 0).bind fun b5 =>
  some (IntKind.wrap .i64 (b5.toNat : Int), 1, 0, 0))
  else
  (ix a1 0).bind fun b6 =>
  bif (wsub .i64 (IntKind.wrap .i64 (b6.toNat : Int)) 128 == 0) then (
  (F_tlv_ReadLength_1 4 0).bind fun (i7, i8, v9) =>
  some (i7, i8, v9))
  else
  bif decide (wsub .i64 (IntKind.wrap .i64 (b6.toNat : Int)) 128 > 4) then (
  (F_tlv_ReadLength_1 4 0).bind fun (i10, i11, v12) =>
  some (i10, i11, v12))
  else
  bif decide ((a1.length : Int) ≤ wsub .i64 (IntKind.wrap .i64 (b6.toNat : Int)) 128) then (
  (F_tlv_ReadLength_1 1 (a1.length : Int)).bind fun (i13, i14, v15) =>
  some (i13, i14, v15))
  else
  (F_tlv_ReadLength_l0 N N (a1, wsub .i64 (IntKind.wrap .i64 (b6.toNat : Int)) 128, 0, 1, 0, 0)).bind fun (l23, i24, i25, i26, i27) =>
  (ix l23 1).bind fun b28 =>
  bif ((b28.toNat : Int) == 0) then (
  (F_tlv_ReadLength_1 4 0).bind fun (i29, i30, v31) =>
  some (i29, i30, v31))
  else
  bif decide (i25 < 128) then (
  (F_tlv_ReadLength_1 4 0).bind fun (i32, i33, v34) =>
  some (i32, i33, v34))
  else
  bif decide (i25 > 2147483647) then (
  (F_tlv_ReadLength_1 4 0).bind fun (i35, i36, v37) =>
  some (i35, i36, v37))
  else
  some (i25, wadd .i64 1 i24, 0, 0)
def F_tlv_ReadHeader (N : Nat) (a1 : Bs) : Option ((Int × Int × Bool × Int × Int) × (Int × Int)) :=
  bif ((a1.length : Int) == 0) then (
  some ((0, 0, false, 0, 0), 1, 0))
  else
  (ix a1 0).bind fun b1 =>
  (F_tlv_ReadIdentifier (b1.toNat : Int)).bind fun (i2, c3, i4, i5) =>
  bif (i5 != 0) then (
  some ((0, 0, false, 0, 0), i5, 0))
  else
  (slc a1 1 (a1.length : Int)).bind fun s6 =>
  (F_tlv_ReadLength N s6).bind fun (i7, i8, v9) =>
  bif (v9.1 != 0) then (
  some ((0, 0, false, 0, 0), v9.1, wadd .i64 v9.2 1))
  else
  some ((i2, i4, c3, i7, wadd .i64 1 i8), 0, 0)
def F_element_next (N : Nat) (a1 : Bs) (a2 : Int) (a3 : Int) : Option ((Int × Int × Bool × Int × Int × Int) × (Int × Int)) :=
  bif (decide (a3 ≤ a3) && decide (a3 ≤ a1.length)) then (
  (slc a1 a2 a3).bind fun s1 =>
  (F_tlv_ReadHeader N s1).bind fun (v2, v3) =>
  bif (v3.1 != 0) then (
  some ((0, 0, false, 0, 0, 0), v3.1, wadd .i64 v3.2 a2))
  else
  bif decide (wsub .i64 (wsub .i64 a3 a2) v2.2.2.2.2 < v2.2.2.2.1) then (
  some ((0, 0, false, 0, 0, 0), 1, a3))
  else
  some ((v2.1, v2.2.1, v2.2.2.1, a2, wadd .i64 a2 v2.2.2.2.2, wadd .i64 (wadd .i64 a2 v2.2.2.2.2) v2.2.2.2.1), 0, 0))
  else
  none
def F_element_One (N : Nat) (a1 : Bs) : Option ((Int × Int × Bool × Int × Int × Int) × (Int × Int)) :=
  (F_element_next N a1 0 (a1.length : Int)).bind fun (v1, v2) =>
  bif (v2.1 == 0) then (
  bif decide (v1.2.2.2.2.2 < (a1.length : Int)) then (
  some ((0, 0, false, 0, 0, 0), 2, v1.2.2.2.2.2))
  else
  some (v1, v2))
  else
  some (v1, v2)
def F_element_Is (a1 : (Int × Int × Bool × Int × Int × Int)) (a2 : Int) (a3 : Bool) (a4 : Int) : Option Bool :=
  bif (a1.1 == a2) then (
  bif (a1.2.2.1 == a3) then (
  some (a1.2.1 == a4))
  else
  some false)
  else
  some false
def F_element_List_l0 (N n : Nat) : (Bs × Int × Int × Int × Int × List (Int × Int × Bool × Int × Int × Int)) → Option ((Int × Int) ⊕ (Int × Int × List (Int × Int × Bool × Int × Int × Int))) := Nat.rec (fun _ => none) (fun _ L (l1, i2, i3, i4, i5, l6) =>
  bif decide (i3 < i2) then (
  (F_element_next N l1 i3 i2).bind fun (v7, v8) =>
  bif (v8.1 != 0) then (
  some (Sum.inl v8))
  else
  (app 48 l6 [v7]).bind fun l9 =>
  L (l1, i2, v7.2.2.2.2.2, i4, i5, l9))
  else
  some (Sum.inr (i4, i5, l6))) n
def F_element_List (N : Nat) (a1 : Bs) (a2 : Int) (a3 : Int) : Option (List (Int × Int × Bool × Int × Int × Int) × (Int × Int)) :=
  bif decide (a2 < 0) then (
  some ([], 9, 0))
  else
  bif decide (a2 > a3) then (
  some ([], 9, 0))
  else
  bif decide (a3 > (a1.length : Int)) then (
  some ([], 9, 0))
  else
  (F_element_List_l0 N N (a1, a3, a2, 0, 0, [])).bind fun y10 => (match y10 with
  | Sum.inl (i11, i12) => some ([], i11, i12)
  | Sum.inr ((i13, i14, l15)) => some (l15, 0, 0))
def F_element_Parts (N : Nat) (a1 : Bs) (a2 : Int) (a3 : Int) : Option (List (Int × Int × Bool × Int × Int × Int) × (Int × Int)) :=
  (F_element_One N a1).bind fun (v1, v2) =>
  bif (v2.1 != 0) then (
  some ([], v2))
  else
  (F_element_Is v1 a2 true a3).bind fun c3 =>
  bif (!c3) then (
  some ([], 3, 0))
  else
  (F_element_List N a1 v1.2.2.2.2.1 v1.2.2.2.2.2).bind fun (l4, v5) =>
  some (l4, v5)
def F_revocation_contents_api_Bits_v1 (a1 : Int) : Option Int :=
  some a1
def F_slices_Concat_byte_byte_l0 (N n : Nat) : (List Bs × Int × List Bs × Int × Int) → Option (List Bs × Int) := Nat.rec (fun _ => none) (fun _ L (l1, i2, l3, i4, i5) =>
  bif decide (i5 < i4) then (
  (ix l3 i5).bind fun e6 =>
  ((
  bif decide (wadd .i64 i2 (e6.length : Int) < 0) then (
  none)
  else
  some (l1, wadd .i64 i2 (e6.length : Int), l3, i4, i5) : Option (List Bs × Int × List Bs × Int × Int))).bind fun (l7, i8, l9, i10, i11) =>
  L (l7, i8, l9, i10, wadd .i64 i11 1))
  else
  some (l1, i2)) n
def F_slices_Concat_byte_byte_l1 (N n : Nat) : (List Bs × Int × Int × Bs) → Option Bs := Nat.rec (fun _ => none) (fun _ L (l15, i16, i17, l18) =>
  bif decide (i17 < i16) then (
  (ix l15 i17).bind fun e19 =>
  (app 1 l18 e19).bind fun l20 =>
  L (l15, i16, wadd .i64 i17 1, l20))
  else
  some l18) n
def F_slices_Concat_byte_byte (N : Nat) (a1 : List Bs) : Option Bs :=
  (F_slices_Concat_byte_byte_l0 N N (a1, 0, a1, (a1.length : Int), 0)).bind fun (l12, i13) =>
  (F_Grow i13).bind fun l14 =>
  (F_slices_Concat_byte_byte_l1 N N (l12, (l12.length : Int), 0, l14)).bind fun l21 =>
  some l21
def F_integer_Valid (a1 : Bs) : Option Bool :=
  bif decide ((a1.length : Int) < 2) then (
  some ((a1.length : Int) == 1))
  else
  (ix a1 1).bind fun b1 =>
  (ix a1 0).bind fun b2 =>
  bif ((b2.toNat : Int) == 0) then (
  bif (!(bits .and .u8 (b1.toNat : Int) 128 == 0)) then (
  (ix a1 0).bind fun b3 =>
  bif ((b3.toNat : Int) == 255) then (
  some (!(bits .and .u8 (b1.toNat : Int) 128 != 0)))
  else
  some true)
  else
  some false)
  else
  (ix a1 0).bind fun b4 =>
  bif ((b4.toNat : Int) == 255) then (
  some (!(bits .and .u8 (b1.toNat : Int) 128 != 0)))
  else
  some true
def F_integer_Int_l0 (N n : Nat) : (Int × Bs × Int × Int) → Option Int := Nat.rec (fun _ => none) (fun _ L (i4, l5, i6, i7) =>
  bif decide (i7 < i6) then (
  (ix l5 i7).bind fun b8 =>
  L (bits .or .i64 (wshl .i64 i4 8) (IntKind.wrap .i64 (b8.toNat : Int)), l5, i6, wadd .i64 i7 1))
  else
  some i4) n
def F_integer_Int (N : Nat) (a1 : Bs) : Option (Int × Bool) :=
  (F_integer_Valid a1).bind fun c1 =>
  bif (!c1) then (
  some (0, false))
  else
  bif decide ((a1.length : Int) > 8) then (
  some (0, false))
  else
  (ix a1 0).bind fun b2 =>
  (slc a1 1 (a1.length : Int)).bind fun s3 =>
  (F_integer_Int_l0 N N (IntKind.wrap .i64 (IntKind.wrap .i8 (b2.toNat : Int)), s3, (s3.length : Int), 0)).bind fun i9 =>
  some (i9, true)
def F_entry_names_v1 : Option (Bs × Bs × Bs × Bs × Bs × Bs × Bs × Bs × Bs × Bs × Bs) :=
  some (([117, 110, 115, 112, 101, 99, 105, 102, 105, 101, 100] : Bs), ([107, 101, 121, 67, 111, 109, 112, 114, 111, 109, 105, 115, 101] : Bs), ([99, 65, 67, 111, 109, 112, 114, 111, 109, 105, 115, 101] : Bs), ([97, 102, 102, 105, 108, 105, 97, 116, 105, 111, 110, 67, 104, 97, 110, 103, 101, 100] : Bs), ([115, 117, 112, 101, 114, 115, 101, 100, 101, 100] : Bs), ([99, 101, 115, 115, 97, 116, 105, 111, 110, 79, 102, 79, 112, 101, 114, 97, 116, 105, 111, 110] : Bs), ([99, 101, 114, 116, 105, 102, 105, 99, 97, 116, 101, 72, 111, 108, 100] : Bs), [], ([114, 101, 109, 111, 118, 101, 70, 114, 111, 109, 67, 82, 76] : Bs), ([112, 114, 105, 118, 105, 108, 101, 103, 101, 87, 105, 116, 104, 100, 114, 97, 119, 110] : Bs), ([97, 65, 67, 111, 109, 112, 114, 111, 109, 105, 115, 101] : Bs))
def F_entry_Name (a1 : Int) : Option Bs :=
  (F_entry_names_v1).bind fun (s1, s2, s3, s4, s5, s6, s7, s8, s9, s10, s11) =>
  bif decide (a1 < 0) then (
  some [])
  else
  bif decide (a1 ≥ 11) then (
  some [])
  else
  bif (a1 == 0) then (
  some s1)
  else
  bif (a1 == 1) then (
  some s2)
  else
  bif (a1 == 2) then (
  some s3)
  else
  bif (a1 == 3) then (
  some s4)
  else
  bif (a1 == 4) then (
  some s5)
  else
  bif (a1 == 5) then (
  some s6)
  else
  bif (a1 == 6) then (
  some s7)
  else
  bif (a1 == 7) then (
  some s8)
  else
  bif (a1 == 8) then (
  some s9)
  else
  bif (a1 == 9) then (
  some s10)
  else
  bif (a1 == 10) then (
  some s11)
  else
  none
def F_entry_Valid (a1 : Int) : Option Bool :=
  (F_entry_Name a1).bind fun s1 =>
  some (!(s1 == []))
def F_entry_Parse (N : Nat) (a1 : Bs) : Option (Int × (Int × Int)) :=
  (F_element_One N a1).bind fun (v1, v2) =>
  bif (v2.1 != 0) then (
  some (0, v2))
  else
  (F_element_Is v1 0 false 10).bind fun c3 =>
  bif (!c3) then (
  some (0, 3, 0))
  else
  (slc a1 v1.2.2.2.2.1 v1.2.2.2.2.2).bind fun s4 =>
  (F_integer_Int N s4).bind fun (i5, c6) =>
  bif (!c6) then (
  some (0, 6, v1.2.2.2.2.1))
  else
  bif decide (i5 < 0) then (
  some (0, 6, v1.2.2.2.2.1))
  else
  bif decide (i5 > 10) then (
  some (0, 6, v1.2.2.2.2.1))
  else
  (F_entry_Valid i5).bind fun c7 =>
  bif (!c7) then (
  some (0, 6, v1.2.2.2.2.1))
  else
  some (i5, 0, 0)
end Go.Fw
namespace Go.Fw
open Go
/-! ### plain laws: what is found in a list of extensions -/
abbrev ExtV := List UInt8 × Bool × List UInt8
theorem wadd1 {i : Nat} (h : i < 4611686018427387904) : wadd .i64 (i : Int) 1 = ((i + 1 : Nat) : Int) := by
  show IntKind.i64.wrap ((i : Int) + 1) = _
  rw [Go.IntWalk.i64_in _ (by omega)]
  omega
theorem ix_at {α : Type} {l : List α} {i : Nat} (h : i < l.length) : ix l (i : Int) = some l[i] := by
  unfold ix
  rw [if_pos (by omega), Int.toNat_natCast, List.getElem?_eq_getElem h]
def findX (l : List ExtV) (s : List UInt8) : ExtV × Bool := match l.find? (fun x => x.1 == s) with
  | some x => (x, true)
  | none => (([], false, []), false)
theorem rf_loop (N : Nat) (l : List ExtV) (s s4 : List UInt8) (c5 : Bool) (hl : l.length < 4611686018427387904) : ∀ (k n i : Nat), l.length - i = k → i ≤ l.length → k < n →
    F_cref22_Find_l0 N n (l, s, (i : Int), s4, c5) = some (match (l.drop i).find? (fun x => x.1 == s) with
      | some x => .inl (true, x)
      | none => .inr (s4, c5)) := by
  intro k
  induction k with
  | zero =>
    intro n i hk hi hn
    obtain ⟨n, rfl⟩ : ∃ m, n = m + 1 := ⟨n - 1, by omega⟩
    show (bif decide ((i : Int) < (l.length : Int)) then _ else _) = _
    rw [decide_eq_false (by omega)]
    rw [List.drop_eq_nil_of_le (by omega)]
    rfl
  | succ k ih =>
    intro n i hk hi hn
    obtain ⟨n, rfl⟩ : ∃ m, n = m + 1 := ⟨n - 1, by omega⟩
    have hlt : i < l.length := by omega
    show (bif decide ((i : Int) < (l.length : Int)) then _ else _) = _
    rw [decide_eq_true (by omega : (i : Int) < (l.length : Int)), cond_true, ix_at hlt]
    simp only [Option.bind_some]
    rw [List.drop_eq_getElem_cons hlt, List.find?_cons]
    cases hc : (l[i].1 == s)
    · simp only [cond_false]
      rw [wadd1 (by omega)]
      exact ih n (i + 1) (by omega) (by omega) (by omega)
    · rfl
theorem rf_val (N : Nat) (l : List ExtV) (s : List UInt8) (hl : l.length < 4611686018427387904) (hN : l.length < N) : F_cref22_Find N l s = some (findX l s) := by
  have h := rf_loop N l s [] false hl l.length N 0 (by omega) (by omega) hN
  unfold F_cref22_Find findX
  rw [List.drop_zero] at h
  rw [show F_cref22_Find_l0 N N (l, s, 0, [], false) = _ from h]
  simp only [Option.bind_some]
  cases l.find? (fun x => x.1 == s) with
  | none => rfl
  | some x => obtain ⟨a, b, c⟩ := x; rfl
/-- the program's: first the index, then the element, copied. -/
theorem if_loop (N : Nat) (l : List ExtV) (s : List UInt8) (hl : l.length < 4611686018427387904) : ∀ (k n i : Nat), l.length - i = k → i ≤ l.length → k < n →
    F_slices_IndexFunc_api_Extension_api_Extension_v1_l0 N n (l, s, (l.length : Int), (i : Int)) = some (match (l.drop i).findIdx? (fun x => x.1 == s) with
      | some j => .inl (((i + j : Nat) : Int))
      | none => .inr ()) := by
  intro k
  induction k with
  | zero =>
    intro n i hk hi hn
    obtain ⟨n, rfl⟩ : ∃ m, n = m + 1 := ⟨n - 1, by omega⟩
    show (bif decide ((i : Int) < (l.length : Int)) then _ else _) = _
    rw [decide_eq_false (by omega)]
    rw [List.drop_eq_nil_of_le (by omega)]
    rfl
  | succ k ih =>
    intro n i hk hi hn
    obtain ⟨n, rfl⟩ : ∃ m, n = m + 1 := ⟨n - 1, by omega⟩
    have hlt : i < l.length := by omega
    show (bif decide ((i : Int) < (l.length : Int)) then _ else _) = _
    rw [decide_eq_true (by omega : (i : Int) < (l.length : Int)), cond_true, ix_at hlt]
    simp only [Option.bind_some, F_extension_index_1_v1]
    rw [List.drop_eq_getElem_cons hlt, List.findIdx?_cons]
    cases hc : (l[i].1 == s)
    · simp only [cond_false]
      rw [wadd1 (by omega)]
      refine (ih n (i + 1) (by omega) (by omega) (by omega)).trans ?_
      cases (l.drop (i + 1)).findIdx? (fun x => x.1 == s) with
      | none => rfl
      | some j => simp only [Option.map_some]; rw [show i + 1 + j = i + (j + 1) from by omega]; rfl
    · rfl
theorem if_val (N : Nat) (l : List ExtV) (s : List UInt8) (hl : l.length < 4611686018427387904) (hN : l.length < N) (hs : ∀ x ∈ l, F_Clone x.2.2 = some x.2.2) : F_extension_Find N l s = some (findX l s) := by
  have h := if_loop N l s hl l.length N 0 (by omega) (by omega) hN
  rw [List.drop_zero] at h
  unfold F_extension_Find F_extension_index F_slices_IndexFunc_api_Extension_api_Extension_v1 findX
  rw [show F_slices_IndexFunc_api_Extension_api_Extension_v1_l0 N N (l, s, (l.length : Int), 0) = _ from h]
  simp only [Option.bind_some]
  cases hf : l.findIdx? (fun x => x.1 == s) with
  | none =>
    have : l.find? (fun x => x.1 == s) = none := by
      rw [List.find?_eq_none]
      rw [List.findIdx?_eq_none_iff] at hf
      intro x hx
      simpa using hf x hx
    rw [this]
    rfl
  | some j =>
    obtain ⟨hj, hp, hq⟩ := List.findIdx?_eq_some_iff_getElem.1 hf
    have : l.find? (fun x => x.1 == s) = some l[j] := by
      rw [List.find?_eq_some_iff_getElem]
      exact ⟨hp, j, hj, rfl, fun i hi => by simpa using hq i hi⟩
    rw [this]
    simp only [Nat.zero_add, Option.bind_some]
    rw [decide_eq_true (by omega : (j : Int) ≥ 0), cond_true, ix_at hj]
    simp only [Option.bind_some, F_extension_clone, hs _ (List.getElem_mem hj)]
end Go.Fw
namespace Go.Fw
open Go
/-! ### plain laws: what is small enough -/
theorem wadd_nat {a b : Nat} (h : a + b < 9223372036854775808) : wadd .i64 (a : Int) (b : Int) = ((a + b : Nat) : Int) := by
  show IntKind.i64.wrap ((a : Int) + (b : Int)) = _
  rw [Go.IntWalk.i64_in _ (by omega)]
  omega
theorem few22_loop (N : Nat) (l : List ExtV) (hl : l.length ≤ 140737488351232) (hx : ∀ x ∈ l, x.1.length ≤ 140737488351232 ∧ x.2.2.length ≤ 140737488351232) : ∀ (k n i acc : Nat), 20 - i = k → i ≤ 20 → k < n → acc ≤ i * 281474976702464 →
    ∃ s : Nat, F_cref22_FewList_l0 N n (l, (acc : Int), (i : Int)) = some (l, (s : Int)) ∧ acc ≤ s ∧ ∀ (j : Nat) (h : j < l.length), i ≤ j → j < 20 → (l[j]).2.2.length ≤ s := by
  intro k
  induction k with
  | zero =>
    intro n i acc hk hi hn _
    obtain ⟨n, rfl⟩ : ∃ m, n = m + 1 := ⟨n - 1, by omega⟩
    refine ⟨acc, ?_, Nat.le_refl _, fun j h h1 h2 => by omega⟩
    show (bif decide ((i : Int) < (l.length : Int)) then (bif decide ((i : Int) < 20) then _ else _) else _) = _
    rw [decide_eq_false (by omega : ¬ (i : Int) < 20)]
    cases decide ((i : Int) < (l.length : Int)) <;> rfl
  | succ k ih =>
    intro n i acc hk hi hn ha
    obtain ⟨n, rfl⟩ : ∃ m, n = m + 1 := ⟨n - 1, by omega⟩
    by_cases hlt : i < l.length
    · obtain ⟨h1, h2⟩ := hx _ (List.getElem_mem hlt)
      obtain ⟨s, e1, e2, e3⟩ := ih n (i + 1) (acc + l[i].1.length + l[i].2.2.length) (by omega) (by omega) (by omega) (by omega)
      refine ⟨s, ?_, by omega, fun j h h3 h4 => ?_⟩
      · show (bif decide ((i : Int) < (l.length : Int)) then (bif decide ((i : Int) < 20) then _ else _) else _) = _
        rw [decide_eq_true (by omega : (i : Int) < (l.length : Int)), decide_eq_true (by omega : (i : Int) < 20)]
        simp only [cond_true, ix_at hlt, Option.bind_some]
        rw [wadd_nat (by omega), wadd_nat (by omega), wadd1 (by omega)]
        exact e1
      · rcases Nat.eq_or_lt_of_le h3 with rfl | h3
        · omega
        · exact e3 j h h3 h4
    · refine ⟨acc, ?_, Nat.le_refl _, fun j h h1 h2 => by omega⟩
      show (bif decide ((i : Int) < (l.length : Int)) then _ else _) = _
      rw [decide_eq_false (by omega : ¬ (i : Int) < (l.length : Int))]
      rfl
theorem few22 (N : Nat) (hN : 30 ≤ N) (l : List ExtV) (hl : l.length ≤ 140737488351232) (hx : ∀ x ∈ l, x.1.length ≤ 140737488351232 ∧ x.2.2.length ≤ 140737488351232) : ∃ b, F_cref22_FewList N l = some b ∧ (b = true → l.length ≤ 12 ∧ ∀ x ∈ l, x.2.2.length ≤ 3000) := by
  obtain ⟨s, e1, e2, e3⟩ := few22_loop N l hl hx 20 N 0 0 rfl (by omega) (by omega) (by omega)
  unfold F_cref22_FewList
  rw [show F_cref22_FewList_l0 N N (l, 0, 0) = _ from e1]
  simp only [Option.bind_some]
  by_cases h1 : (l.length : Int) ≤ 12
  · rw [decide_eq_true h1]
    refine ⟨_, rfl, fun hb => ⟨by omega, fun x hx => ?_⟩⟩
    obtain ⟨j, hj, rfl⟩ := List.getElem_of_mem hx
    have := e3 j hj (by omega) (by omega)
    have := of_decide_eq_true hb
    omega
  · rw [decide_eq_false h1]
    exact ⟨false, rfl, fun h => by cases h⟩
abbrev RevW := List UInt8 × (Int × Int × Int × Int × Int × Int) × List ExtV
def okE (r : RevW) : Prop := r.2.2.length ≤ 140737488351232 ∧ ∀ x ∈ r.2.2, x.1.length ≤ 140737488351232 ∧ x.2.2.length ≤ 140737488351232
def fewE (r : RevW) : Prop := r.1.length ≤ 100 ∧ r.2.2.length ≤ 12 ∧ ∀ x ∈ r.2.2, x.2.2.length ≤ 3000
theorem fewEntry (N : Nat) (hN : 30 ≤ N) (r : RevW) (h : okE r) : ∃ b, F_cref26_FewEntry N r = some b ∧ (b = true → fewE r) := by
  unfold F_cref26_FewEntry
  obtain ⟨b, e1, e2⟩ := few22 N hN r.2.2 h.1 h.2
  rw [e1]
  by_cases h1 : (r.1.length : Int) ≤ 100
  · rw [decide_eq_true h1]
    exact ⟨b, rfl, fun hb => ⟨by omega, e2 hb⟩⟩
  · rw [decide_eq_false h1]
    exact ⟨false, rfl, fun h => by cases h⟩
theorem few26_in (N : Nat) (v0 : Int) (v1 v2 : List UInt8) (v3 : List (List (List UInt8 × List UInt8))) (v4 v5 v6 v7 v8 v9 : Int) (v10 : Bool) (v11 v12 v13 v14 v15 v16 : Int) (l : List RevW) (v17 : List ExtV) (p : Nat) (hp : p < l.length) (hq : (l[p]).2.2.length ≤ 12) :
    ∀ (k n i : Nat) (acc : Int), (l[p]).2.2.length - i = k → i ≤ (l[p]).2.2.length → k < n →
    ∃ s, F_cref26_FewList_l0 N n (acc, (p : Int), (i : Int), v0, v1, v2, v3, v4, v5, v6, v7, v8, v9, v10, v11, v12, v13, v14, v15, v16, l, v17) = some (s, (p : Int), v0, v1, v2, v3, v4, v5, v6, v7, v8, v9, v10, v11, v12, v13, v14, v15, v16, l, v17) := by
  intro k
  induction k with
  | zero =>
    intro n i acc hk hi hn
    obtain ⟨n, rfl⟩ : ∃ m, n = m + 1 := ⟨n - 1, by omega⟩
    refine ⟨acc, ?_⟩
    show ((ix l (p : Int)).bind fun e46 => bif decide ((i : Int) < (e46.2.2.length : Int)) then _ else _) = _
    rw [ix_at hp]
    simp only [Option.bind_some]
    rw [decide_eq_false (by omega)]
    rfl
  | succ k ih =>
    intro n i acc hk hi hn
    obtain ⟨n, rfl⟩ : ∃ m, n = m + 1 := ⟨n - 1, by omega⟩
    have hlt : i < (l[p]).2.2.length := by omega
    obtain ⟨s, hs⟩ := ih n (i + 1) (wadd .i64 acc ((((l[p]).2.2[i]).2.2.length : Nat) : Int)) (by omega) (by omega) (by omega)
    refine ⟨s, ?_⟩
    show ((ix l (p : Int)).bind fun e46 => bif decide ((i : Int) < (e46.2.2.length : Int)) then _ else _) = _
    rw [ix_at hp]
    simp only [Option.bind_some]
    rw [decide_eq_true (by omega : (i : Int) < ((l[p]).2.2.length : Int)), cond_true, ix_at hlt]
    simp only [Option.bind_some]
    rw [wadd1 (by omega)]
    exact hs
theorem few26_out (N : Nat) (hN : 30 ≤ N) (v0 : Int) (v1 v2 : List UInt8) (v3 : List (List (List UInt8 × List UInt8))) (v4 v5 v6 v7 v8 v9 : Int) (v10 : Bool) (v11 v12 v13 v14 v15 v16 : Int) (l : List RevW) (v17 : List ExtV) (hl : l.length ≤ 140737488351232) (hE : ∀ r ∈ l, okE r) :
    ∀ (k n i : Nat) (acc : Int), 10 - i = k → i ≤ 10 → k < n →
    F_cref26_FewList_l1 N n (acc, (i : Int), v0, v1, v2, v3, v4, v5, v6, v7, v8, v9, v10, v11, v12, v13, v14, v15, v16, l, v17) = some (.inl false) ∨
    ∃ s, F_cref26_FewList_l1 N n (acc, (i : Int), v0, v1, v2, v3, v4, v5, v6, v7, v8, v9, v10, v11, v12, v13, v14, v15, v16, l, v17) = some (.inr (s, v0, v1, v2, v3, v4, v5, v6, v7, v8, v9, v10, v11, v12, v13, v14, v15, v16, l, v17)) ∧
      ∀ (j : Nat) (h : j < l.length), i ≤ j → j < 10 → fewE (l[j]) := by
  intro k
  induction k with
  | zero =>
    intro n i acc hk hi hn
    obtain ⟨n, rfl⟩ : ∃ m, n = m + 1 := ⟨n - 1, by omega⟩
    refine .inr ⟨acc, ?_, fun j h h1 h2 => by omega⟩
    show (bif decide ((i : Int) < (l.length : Int)) then (bif decide ((i : Int) < 10) then _ else _) else _) = _
    rw [decide_eq_false (by omega : ¬ (i : Int) < 10)]
    cases decide ((i : Int) < (l.length : Int)) <;> rfl
  | succ k ih =>
    intro n i acc hk hi hn
    obtain ⟨n, rfl⟩ : ∃ m, n = m + 1 := ⟨n - 1, by omega⟩
    by_cases hlt : i < l.length
    · obtain ⟨b, e1, e2⟩ := fewEntry N hN (l[i]) (hE _ (List.getElem_mem hlt))
      have hstep : F_cref26_FewList_l1 N (n + 1) (acc, (i : Int), v0, v1, v2, v3, v4, v5, v6, v7, v8, v9, v10, v11, v12, v13, v14, v15, v16, l, v17) = bif (!b) then some (.inl false) else
          (F_cref26_FewList_l0 N N (acc, (i : Int), 0, v0, v1, v2, v3, v4, v5, v6, v7, v8, v9, v10, v11, v12, v13, v14, v15, v16, l, v17)).bind fun (i24, i25, i26, s27, l28, l29, i30, i31, i32, i33, i34, i35, c36, i37, i38, i39, i40, i41, i42, l43, l44) =>
          F_cref26_FewList_l1 N n (i24, wadd .i64 i25 1, i26, s27, l28, l29, i30, i31, i32, i33, i34, i35, c36, i37, i38, i39, i40, i41, i42, l43, l44) := by
        show (bif decide ((i : Int) < (l.length : Int)) then (bif decide ((i : Int) < 10) then _ else _) else _) = _
        rw [decide_eq_true (by omega : (i : Int) < (l.length : Int)), decide_eq_true (by omega : (i : Int) < 10)]
        simp only [cond_true, ix_at hlt, Option.bind_some, e1]
        rfl
      cases b with
      | false => exact .inl (by rw [hstep]; rfl)
      | true =>
        obtain ⟨s, hs⟩ := few26_in N v0 v1 v2 v3 v4 v5 v6 v7 v8 v9 v10 v11 v12 v13 v14 v15 v16 l v17 i hlt (e2 rfl).2.1 (l[i]).2.2.length N 0 acc rfl (by omega) (by have := (e2 rfl).2.1; omega)
        rw [show F_cref26_FewList_l0 N N (acc, (i : Int), 0, v0, v1, v2, v3, v4, v5, v6, v7, v8, v9, v10, v11, v12, v13, v14, v15, v16, l, v17) = _ from hs] at hstep
        simp only [Option.bind_some, Bool.not_true, cond_false] at hstep
        rw [wadd1 (by omega)] at hstep
        rcases ih n (i + 1) s (by omega) (by omega) (by omega) with h | ⟨s', h1, h2⟩
        · exact .inl (hstep.trans h)
        · refine .inr ⟨s', hstep.trans h1, fun j h h3 h4 => ?_⟩
          rcases Nat.eq_or_lt_of_le h3 with rfl | h3
          · exact e2 rfl
          · exact h2 j h h3 h4
    · refine .inr ⟨acc, ?_, fun j h h1 h2 => by omega⟩
      show (bif decide ((i : Int) < (l.length : Int)) then _ else _) = _
      rw [decide_eq_false (by omega : ¬ (i : Int) < (l.length : Int))]
      rfl
end Go.Fw
namespace Go.Fw
open Go
abbrev TimV := Int × Int × Int × Int × Int × Int
abbrev RevV := List UInt8 × TimV × List ExtV
abbrev ListV := Int × (List UInt8 × List UInt8) × List (List (List UInt8 × List UInt8)) × TimV × Bool × TimV × List RevV × List ExtV
def findR (l : List RevV) (s : List UInt8) : RevV × Bool := match l.find? (fun x => x.1 == s) with
  | some x => (x, true)
  | none => (([], (0, 0, 0, 0, 0, 0), []), false)
theorem rF_loop (N : Nat) (l : List RevV) (s : List UInt8) (i3 : Int) (s4 l5 : List UInt8) (l6 : List (List (List UInt8 × List UInt8))) (i7 i8 i9 i10 i11 i12 : Int) (c13 : Bool) (i14 i15 i16 i17 i18 i19 : Int) (l21 : List ExtV) (i22 i23 i24 i25 i26 i27 : Int)
    (hl : l.length < 4611686018427387904) : ∀ (k n i : Nat), l.length - i = k → i ≤ l.length → k < n →
    F_cref26_Find_l0 N n (s, (i : Int), i3, s4, l5, l6, i7, i8, i9, i10, i11, i12, c13, i14, i15, i16, i17, i18, i19, l, l21, i22, i23, i24, i25, i26, i27) = some (match (l.drop i).find? (fun x => x.1 == s) with
      | some x => .inl (true, x.1, x.2.1.1, x.2.1.2.1, x.2.1.2.2.1, x.2.1.2.2.2.1, x.2.1.2.2.2.2.1, x.2.1.2.2.2.2.2, x.2.2)
      | none => .inr (i22, i23, i24, i25, i26, i27)) := by
  intro k
  induction k with
  | zero =>
    intro n i hk hi hn
    obtain ⟨n, rfl⟩ : ∃ m, n = m + 1 := ⟨n - 1, by omega⟩
    show (bif decide ((i : Int) < (l.length : Int)) then _ else _) = _
    rw [decide_eq_false (by omega)]
    rw [List.drop_eq_nil_of_le (by omega)]
    rfl
  | succ k ih =>
    intro n i hk hi hn
    obtain ⟨n, rfl⟩ : ∃ m, n = m + 1 := ⟨n - 1, by omega⟩
    have hlt : i < l.length := by omega
    show (bif decide ((i : Int) < (l.length : Int)) then _ else _) = _
    rw [decide_eq_true (by omega : (i : Int) < (l.length : Int)), cond_true, ix_at hlt]
    simp only [Option.bind_some, F_cbase_Bytes]
    rw [List.drop_eq_getElem_cons hlt, List.find?_cons]
    cases hc : (l[i].1 == s)
    · simp only [cond_false]
      rw [wadd1 (by omega)]
      exact ih n (i + 1) (by omega) (by omega) (by omega)
    · rfl
theorem rF_val (N : Nat) (v : ListV) (s : List UInt8) (hl : v.2.2.2.2.2.2.1.length < 4611686018427387904) (hN : v.2.2.2.2.2.2.1.length < N) : F_cref26_Find N v s = some (findR v.2.2.2.2.2.2.1 s) := by
  obtain ⟨v0, ⟨v1, v2⟩, v3, ⟨v4, v5, v6, v7, v8, v9⟩, v10, ⟨v11, v12, v13, v14, v15, v16⟩, l, v17⟩ := v
  have h := rF_loop N l s v0 v1 v2 v3 v4 v5 v6 v7 v8 v9 v10 v11 v12 v13 v14 v15 v16 v17 0 0 0 0 0 0 hl l.length N 0 (by omega) (by omega) hN
  rw [List.drop_zero] at h
  unfold F_cref26_Find findR
  simp only
  rw [show F_cref26_Find_l0 N N (s, 0, v0, v1, v2, v3, v4, v5, v6, v7, v8, v9, v10, v11, v12, v13, v14, v15, v16, l, v17, 0, 0, 0, 0, 0, 0) = _ from h]
  simp only [Option.bind_some]
  cases l.find? (fun x => x.1 == s) with
  | none => rfl
  | some x => obtain ⟨a, ⟨b1, b2, b3, b4, b5, b6⟩, c⟩ := x; rfl
/-- the program's index. -/
theorem iF_loop (N : Nat) (l : List RevV) (s : List UInt8) (hl : l.length < 4611686018427387904) : ∀ (k n i : Nat), l.length - i = k → i ≤ l.length → k < n →
    F_slices_IndexFunc_api_Revoked_api_Revoked_v1_l0 N n (l, s, (l.length : Int), (i : Int)) = some (match (l.drop i).findIdx? (fun x => x.1 == s) with
      | some j => .inl (((i + j : Nat) : Int))
      | none => .inr ()) := by
  intro k
  induction k with
  | zero =>
    intro n i hk hi hn
    obtain ⟨n, rfl⟩ : ∃ m, n = m + 1 := ⟨n - 1, by omega⟩
    show (bif decide ((i : Int) < (l.length : Int)) then _ else _) = _
    rw [decide_eq_false (by omega)]
    rw [List.drop_eq_nil_of_le (by omega)]
    rfl
  | succ k ih =>
    intro n i hk hi hn
    obtain ⟨n, rfl⟩ : ∃ m, n = m + 1 := ⟨n - 1, by omega⟩
    have hlt : i < l.length := by omega
    show (bif decide ((i : Int) < (l.length : Int)) then _ else _) = _
    rw [decide_eq_true (by omega : (i : Int) < (l.length : Int)), cond_true, ix_at hlt]
    simp only [Option.bind_some, F_revocation_Find_1_v1, F_bytes_Equal]
    rw [List.drop_eq_getElem_cons hlt, List.findIdx?_cons]
    cases hc : (l[i].1 == s)
    · simp only [cond_false]
      rw [wadd1 (by omega)]
      refine (ih n (i + 1) (by omega) (by omega) (by omega)).trans ?_
      cases (l.drop (i + 1)).findIdx? (fun x => x.1 == s) with
      | none => rfl
      | some j => simp only [Option.map_some]; rw [show i + 1 + j = i + (j + 1) from by omega]; rfl
    · rfl
theorem iF_val (N : Nat) (l : List RevV) (s : List UInt8) (hl : l.length < 4611686018427387904) (hN : l.length < N) : F_slices_IndexFunc_api_Revoked_api_Revoked_v1 N l s = some (match l.findIdx? (fun x => x.1 == s) with
    | some j => (j : Int)
    | none => -1) := by
  have h := iF_loop N l s hl l.length N 0 (by omega) (by omega) hN
  rw [List.drop_zero] at h
  unfold F_slices_IndexFunc_api_Revoked_api_Revoked_v1
  rw [show F_slices_IndexFunc_api_Revoked_api_Revoked_v1_l0 N N (l, s, (l.length : Int), 0) = _ from h]
  simp only [Option.bind_some]
  cases l.findIdx? (fun x => x.1 == s) with
  | none => rfl
  | some j => simp only [Nat.zero_add]
end Go.Fw
namespace Go.Fw
open Go
theorem few11 (x : List UInt8 × List UInt8) : ∃ b, F_cref11_Few x = some b := by
  unfold F_cref11_Few
  cases decide ((x.1.length : Int) ≤ 200)
  · exact ⟨_, rfl⟩
  · exact ⟨_, rfl⟩
theorem few10 (x : List UInt8 × List UInt8) : ∃ b, F_cref10_Few x = some b := by
  unfold F_cref10_Few
  cases decide ((x.1.length : Int) ≤ 200)
  · exact ⟨_, rfl⟩
  · exact ⟨_, rfl⟩
theorem fewRDN_loop (N : Nat) (l : List (List UInt8 × List UInt8)) : ∀ (k n i : Nat) (acc : Int), 10 - i = k → i ≤ 10 → k < n →
    F_cref12_FewRDN_l0 N n (l, acc, (i : Int)) = some (.inl false) ∨ ∃ s, F_cref12_FewRDN_l0 N n (l, acc, (i : Int)) = some (.inr (l, s)) := by
  intro k
  induction k with
  | zero =>
    intro n i acc hk hi hn
    obtain ⟨n, rfl⟩ : ∃ m, n = m + 1 := ⟨n - 1, by omega⟩
    refine .inr ⟨acc, ?_⟩
    show (bif decide ((i : Int) < (l.length : Int)) then (bif decide ((i : Int) < 10) then _ else _) else _) = _
    rw [decide_eq_false (by omega : ¬ (i : Int) < 10)]
    cases decide ((i : Int) < (l.length : Int)) <;> rfl
  | succ k ih =>
    intro n i acc hk hi hn
    obtain ⟨n, rfl⟩ : ∃ m, n = m + 1 := ⟨n - 1, by omega⟩
    by_cases hlt : i < l.length
    · obtain ⟨b, e1⟩ := few11 (l[i])
      have hstep : F_cref12_FewRDN_l0 N (n + 1) (l, acc, (i : Int)) = bif (!b) then some (.inl false) else F_cref12_FewRDN_l0 N n (l, wadd .i64 acc (((l[i]).2.length : Nat) : Int), wadd .i64 (i : Int) 1) := by
        show (bif decide ((i : Int) < (l.length : Int)) then (bif decide ((i : Int) < 10) then _ else _) else _) = _
        rw [decide_eq_true (by omega : (i : Int) < (l.length : Int)), decide_eq_true (by omega : (i : Int) < 10)]
        simp only [cond_true, ix_at hlt, Option.bind_some, e1]
        rfl
      cases b with
      | false => exact .inl (by rw [hstep]; rfl)
      | true =>
        simp only [Bool.not_true, cond_false] at hstep
        rw [wadd1 (by omega)] at hstep
        rcases ih n (i + 1) _ (by omega) (by omega) (by omega) with h | ⟨s, h⟩
        · exact .inl (hstep.trans h)
        · exact .inr ⟨s, hstep.trans h⟩
    · refine .inr ⟨acc, ?_⟩
      show (bif decide ((i : Int) < (l.length : Int)) then _ else _) = _
      rw [decide_eq_false (by omega : ¬ (i : Int) < (l.length : Int))]
      rfl
theorem fewRDN (N : Nat) (hN : 30 ≤ N) (l : List (List UInt8 × List UInt8)) : ∃ b, F_cref12_FewRDN N l = some b ∧ (b = true → l.length ≤ 8) := by
  unfold F_cref12_FewRDN
  rcases fewRDN_loop N l 10 N 0 0 rfl (by omega) (by omega) with h | ⟨s, h⟩
  · rw [show F_cref12_FewRDN_l0 N N (l, 0, 0) = _ from h]
    exact ⟨false, rfl, fun h => by cases h⟩
  · rw [show F_cref12_FewRDN_l0 N N (l, 0, 0) = _ from h]
    simp only [Option.bind_some]
    by_cases h1 : (l.length : Int) ≤ 8
    · rw [decide_eq_true h1]
      exact ⟨_, rfl, fun _ => by omega⟩
    · rw [decide_eq_false h1]
      exact ⟨false, rfl, fun h => by cases h⟩
theorem few12_in (N : Nat) (l : List (List (List UInt8 × List UInt8))) (p : Nat) (hp : p < l.length) (hq : (l[p]).length ≤ 8) : ∀ (k n i : Nat) (acc : Int), (l[p]).length - i = k → i ≤ (l[p]).length → k < n →
    ∃ s, F_cref12_Few_l0 N n (l, acc, (p : Int), (i : Int)) = some (l, s, (p : Int)) := by
  intro k
  induction k with
  | zero =>
    intro n i acc hk hi hn
    obtain ⟨n, rfl⟩ : ∃ m, n = m + 1 := ⟨n - 1, by omega⟩
    refine ⟨acc, ?_⟩
    show ((ix l (p : Int)).bind fun e46 => bif decide ((i : Int) < (e46.length : Int)) then _ else _) = _
    rw [ix_at hp]
    simp only [Option.bind_some]
    rw [decide_eq_false (by omega)]
    rfl
  | succ k ih =>
    intro n i acc hk hi hn
    obtain ⟨n, rfl⟩ : ∃ m, n = m + 1 := ⟨n - 1, by omega⟩
    have hlt : i < (l[p]).length := by omega
    obtain ⟨s, hs⟩ := ih n (i + 1) (wadd .i64 acc ((((l[p])[i]).2.length : Nat) : Int)) (by omega) (by omega) (by omega)
    refine ⟨s, ?_⟩
    show ((ix l (p : Int)).bind fun e46 => bif decide ((i : Int) < (e46.length : Int)) then _ else _) = _
    rw [ix_at hp]
    simp only [Option.bind_some]
    rw [decide_eq_true (by omega : (i : Int) < ((l[p]).length : Int)), cond_true, ix_at hlt]
    simp only [Option.bind_some]
    rw [wadd1 (by omega)]
    exact hs
theorem few12_out (N : Nat) (hN : 30 ≤ N) (l : List (List (List UInt8 × List UInt8))) : ∀ (k n i : Nat) (acc : Int), 20 - i = k → i ≤ 20 → k < n →
    F_cref12_Few_l1 N n (l, acc, (i : Int)) = some (.inl false) ∨ ∃ s, F_cref12_Few_l1 N n (l, acc, (i : Int)) = some (.inr (l, s)) := by
  intro k
  induction k with
  | zero =>
    intro n i acc hk hi hn
    obtain ⟨n, rfl⟩ : ∃ m, n = m + 1 := ⟨n - 1, by omega⟩
    refine .inr ⟨acc, ?_⟩
    show (bif decide ((i : Int) < (l.length : Int)) then (bif decide ((i : Int) < 20) then _ else _) else _) = _
    rw [decide_eq_false (by omega : ¬ (i : Int) < 20)]
    cases decide ((i : Int) < (l.length : Int)) <;> rfl
  | succ k ih =>
    intro n i acc hk hi hn
    obtain ⟨n, rfl⟩ : ∃ m, n = m + 1 := ⟨n - 1, by omega⟩
    by_cases hlt : i < l.length
    · obtain ⟨b, e1, e2⟩ := fewRDN N hN (l[i])
      have hstep : F_cref12_Few_l1 N (n + 1) (l, acc, (i : Int)) = bif (!b) then some (.inl false) else (F_cref12_Few_l0 N N (l, acc, (i : Int), 0)).bind fun (l6, i7, i8) => F_cref12_Few_l1 N n (l6, i7, wadd .i64 i8 1) := by
        show (bif decide ((i : Int) < (l.length : Int)) then (bif decide ((i : Int) < 20) then _ else _) else _) = _
        rw [decide_eq_true (by omega : (i : Int) < (l.length : Int)), decide_eq_true (by omega : (i : Int) < 20)]
        simp only [cond_true, ix_at hlt, Option.bind_some, e1]
        rfl
      cases b with
      | false => exact .inl (by rw [hstep]; rfl)
      | true =>
        simp only [Bool.not_true, cond_false] at hstep
        obtain ⟨s, hs⟩ := few12_in N l i hlt (e2 rfl) (l[i]).length N 0 acc rfl (by omega) (by have := e2 rfl; omega)
        rw [show F_cref12_Few_l0 N N (l, acc, (i : Int), 0) = _ from hs] at hstep
        simp only [Option.bind_some] at hstep
        rw [wadd1 (by omega)] at hstep
        rcases ih n (i + 1) _ (by omega) (by omega) (by omega) with h | ⟨s, h⟩
        · exact .inl (hstep.trans h)
        · exact .inr ⟨s, hstep.trans h⟩
    · refine .inr ⟨acc, ?_⟩
      show (bif decide ((i : Int) < (l.length : Int)) then _ else _) = _
      rw [decide_eq_false (by omega : ¬ (i : Int) < (l.length : Int))]
      rfl
theorem few12 (N : Nat) (hN : 30 ≤ N) (l : List (List (List UInt8 × List UInt8))) : ∃ b, F_cref12_Few N l = some b := by
  unfold F_cref12_Few
  rcases few12_out N hN l 20 N 0 0 rfl (by omega) (by omega) with h | ⟨s, h⟩
  · rw [show F_cref12_Few_l1 N N (l, 0, 0) = _ from h]
    exact ⟨false, rfl⟩
  · rw [show F_cref12_Few_l1 N N (l, 0, 0) = _ from h]
    simp only [Option.bind_some]
    cases decide ((l.length : Int) ≤ 10)
    · exact ⟨_, rfl⟩
    · exact ⟨_, rfl⟩
/-- what the reference takes for small enough, is. -/
theorem few26 (N : Nat) (hN : 30 ≤ N) (v : ListV) (hl : v.2.2.2.2.2.2.1.length ≤ 140737488351232) (hE : ∀ r ∈ v.2.2.2.2.2.2.1, okE r) (hx : v.2.2.2.2.2.2.2.length ≤ 140737488351232) (hx2 : ∀ x ∈ v.2.2.2.2.2.2.2, x.1.length ≤ 140737488351232 ∧ x.2.2.length ≤ 140737488351232) :
    ∃ b, F_cref26_FewList N v = some b ∧ (b = true → v.2.2.2.2.2.2.1.length ≤ 6 ∧ ∀ r ∈ v.2.2.2.2.2.2.1, fewE r) := by
  obtain ⟨v0, ⟨v1, v2⟩, v3, ⟨v4, v5, v6, v7, v8, v9⟩, v10, ⟨v11, v12, v13, v14, v15, v16⟩, l, v17⟩ := v
  unfold F_cref26_FewList
  simp only
  simp only at hl hE hx hx2
  rcases few26_out N hN v0 v1 v2 v3 v4 v5 v6 v7 v8 v9 v10 v11 v12 v13 v14 v15 v16 l v17 hl hE 10 N 0 0 rfl (by omega) (by omega) with h | ⟨s, h, h'⟩
  · rw [show F_cref26_FewList_l1 N N (0, 0, v0, v1, v2, v3, v4, v5, v6, v7, v8, v9, v10, v11, v12, v13, v14, v15, v16, l, v17) = _ from h]
    exact ⟨false, rfl, fun h => by cases h⟩
  · rw [show F_cref26_FewList_l1 N N (0, 0, v0, v1, v2, v3, v4, v5, v6, v7, v8, v9, v10, v11, v12, v13, v14, v15, v16, l, v17) = _ from h]
    simp only [Option.bind_some]
    by_cases h1 : (l.length : Int) ≤ 6
    · rw [decide_eq_true h1]
      have fin : ∀ r ∈ l, fewE r := fun r hr => by
        obtain ⟨j, hj, rfl⟩ := List.getElem_of_mem hr
        exact h' j hj (by omega) (by omega)
      obtain ⟨b1, k1⟩ := few10 (v1, v2)
      obtain ⟨b2, k2⟩ := few12 N hN v3
      obtain ⟨b3, k3, _⟩ := few22 N hN v17 hx hx2
      rw [k1, k2, k3]
      simp only [Option.bind_some, cond_true]
      cases decide (s ≤ 3000) <;> cases b1 <;> cases b2 <;> exact ⟨_, rfl, fun _ => ⟨by omega, fin⟩⟩
    · rw [decide_eq_false h1]
      exact ⟨false, rfl, fun h => by cases h⟩
end Go.Fw
namespace Go.Fw
open Go
/-! ### plain laws: what is found, is a copy -/
theorem clone_val {x : List UInt8} (h : x.length ≤ 3000) : F_Clone x = some x := by
  unfold F_Clone app limit
  simp only [List.length_nil, Nat.zero_add, Nat.mul_one, List.nil_append]
  rw [if_pos ⟨by omega, by omega⟩]
theorem rv_loop (N : Nat) (xs : List ExtV) (hx : ∀ x ∈ xs, x.2.2.length ≤ 3000) (hl : xs.length ≤ 12) (a1 a2 a3 a4 a5 a6 : Int) (l13 : List UInt8) (b1 b2 b3 b4 b5 b6 : Int) (l20 : List ExtV) : ∀ (k n i : Nat) (acc : List ExtV), xs.length - i = k → i ≤ xs.length → k < n → acc.length ≤ i →
    F_revocation_Find_l0 N n (xs, (xs.length : Int), (i : Int), a1, a2, a3, a4, a5, a6, l13, b1, b2, b3, b4, b5, b6, l20, acc) = some (a1, a2, a3, a4, a5, a6, l13, b1, b2, b3, b4, b5, b6, l20, acc ++ xs.drop i) := by
  intro k
  induction k with
  | zero =>
    intro n i acc hk hi hn _
    obtain ⟨n, rfl⟩ : ∃ m, n = m + 1 := ⟨n - 1, by omega⟩
    show (bif decide ((i : Int) < (xs.length : Int)) then _ else _) = _
    rw [decide_eq_false (by omega), List.drop_eq_nil_of_le (by omega), List.append_nil]
    rfl
  | succ k ih =>
    intro n i acc hk hi hn ha
    obtain ⟨n, rfl⟩ : ∃ m, n = m + 1 := ⟨n - 1, by omega⟩
    have hlt : i < xs.length := by omega
    show (bif decide ((i : Int) < (xs.length : Int)) then _ else _) = _
    rw [decide_eq_true (by omega : (i : Int) < (xs.length : Int)), cond_true, ix_at hlt]
    simp only [Option.bind_some]
    rw [clone_val (hx _ (List.getElem_mem hlt))]
    simp only [Option.bind_some]
    have happ : app 48 acc [(xs[i].1, xs[i].2.1, xs[i].2.2)] = some (acc ++ [xs[i]]) := by
      unfold app limit
      rw [if_pos ⟨by simp only [List.length_cons, List.length_nil]; omega, by simp only [List.length_cons, List.length_nil]; omega⟩]
    rw [happ]
    simp only [Option.bind_some]
    rw [wadd1 (by omega), List.drop_eq_getElem_cons hlt]
    refine (ih n (i + 1) _ (by omega) (by omega) (by omega) (by simp; omega)).trans ?_
    simp
theorem rv_find (N : Nat) (hN : 30 ≤ N) (v : ListV) (s : List UInt8) (hl : v.2.2.2.2.2.2.1.length ≤ 6) (hE : ∀ r ∈ v.2.2.2.2.2.2.1, fewE r) : F_revocation_Find N v s = some (findR v.2.2.2.2.2.2.1 s) := by
  unfold F_revocation_Find findR
  rw [iF_val N _ s (by omega) (by omega)]
  simp only [Option.bind_some]
  generalize v.2.2.2.2.2.2.1 = l at *
  cases hf : l.findIdx? (fun x => x.1 == s) with
  | none =>
    have : l.find? (fun x => x.1 == s) = none := by
      rw [List.find?_eq_none]
      rw [List.findIdx?_eq_none_iff] at hf
      intro x hx
      simpa using hf x hx
    rw [this]
    rfl
  | some j =>
    obtain ⟨hj, hp, hq⟩ := List.findIdx?_eq_some_iff_getElem.1 hf
    have : l.find? (fun x => x.1 == s) = some l[j] := by
      rw [List.find?_eq_some_iff_getElem]
      exact ⟨hp, j, hj, rfl, fun i hi => by simpa using hq i hi⟩
    rw [this]
    simp only
    rw [decide_eq_false (by omega : ¬ (j : Int) < 0), cond_false, ix_at hj]
    simp only [Option.bind_some]
    obtain ⟨h1, h2, h3⟩ := hE _ (List.getElem_mem hj)
    rw [clone_val (by omega)]
    simp only [Option.bind_some]
    have hloop := rv_loop N (l[j]).2.2 h3 h2 0 0 0 0 0 0 (l[j]).1 (l[j]).2.1.1 (l[j]).2.1.2.1 (l[j]).2.1.2.2.1 (l[j]).2.1.2.2.2.1 (l[j]).2.1.2.2.2.2.1 (l[j]).2.1.2.2.2.2.2 (l[j]).2.2 _ N 0 [] rfl (by omega) (by omega) (by simp)
    rw [List.drop_zero, List.nil_append] at hloop
    rw [show F_revocation_Find_l0 N N ((l[j]).2.2, ((l[j]).2.2.length : Int), 0, 0, 0, 0, 0, 0, 0, (l[j]).1, (l[j]).2.1.1, (l[j]).2.1.2.1, (l[j]).2.1.2.2.1, (l[j]).2.1.2.2.2.1, (l[j]).2.1.2.2.2.2.1, (l[j]).2.1.2.2.2.2.2, (l[j]).2.2, []) = _ from hloop]
    rfl
/-! ### what is compared with itself -/
theorem ext_self (x : ExtV) : F_cbase_Extension x x = some true := by
  unfold F_cbase_Extension F_cbase_Bytes
  simp
theorem exts_loop (N : Nat) (xs : List ExtV) (hl : xs.length ≤ 12) : ∀ (k n i : Nat), xs.length - i = k → i ≤ xs.length → k < n → F_cbase_Extensions_l0 N n (xs, xs, (i : Int)) = some (.inr (xs, xs)) := by
  intro k
  induction k with
  | zero =>
    intro n i hk hi hn
    obtain ⟨n, rfl⟩ : ∃ m, n = m + 1 := ⟨n - 1, by omega⟩
    show (bif decide ((i : Int) < (xs.length : Int)) then _ else _) = _
    rw [decide_eq_false (by omega)]
    rfl
  | succ k ih =>
    intro n i hk hi hn
    obtain ⟨n, rfl⟩ : ∃ m, n = m + 1 := ⟨n - 1, by omega⟩
    have hlt : i < xs.length := by omega
    show (bif decide ((i : Int) < (xs.length : Int)) then _ else _) = _
    rw [decide_eq_true (by omega : (i : Int) < (xs.length : Int))]
    simp only [cond_true, ix_at hlt, Option.bind_some, ext_self, Bool.not_true, cond_false]
    rw [wadd1 (by omega)]
    exact ih n (i + 1) (by omega) (by omega) (by omega)
theorem exts_self (N : Nat) (hN : 30 ≤ N) (xs : List ExtV) (hl : xs.length ≤ 12) : F_cbase_Extensions N xs xs = some true := by
  unfold F_cbase_Extensions
  rw [show F_cbase_Extensions_l0 N N (xs, xs, 0) = _ from exts_loop N xs hl _ N 0 rfl (by omega) (by omega)]
  simp
theorem rev_self (N : Nat) (hN : 30 ≤ N) (r : RevV) (hl : r.2.2.length ≤ 12) : F_cbase_Revoked N [r] [r] = some true := by
  obtain ⟨m, rfl⟩ : ∃ m, N = m + 1 + 1 := ⟨N - 2, by omega⟩
  unfold F_cbase_Revoked
  have h1 : F_cbase_Revoked_l0 (m + 1 + 1) (m + 1 + 1) ([r], [r], 0) = some (.inr ([r], [r])) := by
    have hix : ix [r] 0 = some r := rfl
    have he := exts_self (m + 1 + 1) hN r.2.2 hl
    generalize hM : m + 1 + 1 = M at he ⊢
    rw [show F_cbase_Revoked_l0 M M = F_cbase_Revoked_l0 M (m + 1 + 1) from by rw [hM]]
    unfold F_cbase_Revoked_l0
    simp only [hix, Option.bind_some, F_cbase_Bytes, beq_self_eq_true, Bool.not_true, cond_false, cond_true, Bool.and_self, he, List.length_singleton]
    rfl
  rw [h1]
  rfl
end Go.Fw
namespace Go.Fw
open Go
/-! ### plain laws: the header of an element -/
theorem rl_loop (N : Nat) (a : List UInt8) (cnt : Nat) (hc : cnt < a.length) (hs : a.length < 4611686018427387904) : ∀ (k n i : Nat) (L : Int), cnt + 1 - i = k → k < n → ∃ L', F_tlv_ReadLength_l0 N n (a, (cnt : Int), L, (i : Int), 0, 0) = some (a, (cnt : Int), L', 0, 0) := by
  intro k
  induction k with
  | zero =>
    intro n i L hk hn
    obtain ⟨n, rfl⟩ : ∃ m, n = m + 1 := ⟨n - 1, by omega⟩
    refine ⟨L, ?_⟩
    show (bif decide ((i : Int) > (cnt : Int)) then _ else _) = _
    rw [decide_eq_true (by omega)]
    rfl
  | succ k ih =>
    intro n i L hk hn
    obtain ⟨n, rfl⟩ : ∃ m, n = m + 1 := ⟨n - 1, by omega⟩
    have h : F_tlv_ReadLength_l0 N (n + 1) (a, (cnt : Int), L, (i : Int), 0, 0) = (ix a (i : Int)).bind fun b => F_tlv_ReadLength_l0 N n (a, (cnt : Int), bits .or .i64 (wshl .i64 L 8) (IntKind.wrap .i64 (b.toNat : Int)), wadd .i64 (i : Int) 1, 0, 0) := by
      show (bif decide ((i : Int) > (cnt : Int)) then _ else _) = _
      rw [decide_eq_false (by omega)]
      rfl
    rw [h, ix_at (by omega : i < a.length)]
    simp only [Option.bind_some]
    rw [wadd1 (by omega)]
    exact ih n (i + 1) _ (by omega) (by omega)
theorem byte_wrap (b : UInt8) : IntKind.wrap .i64 (b.toNat : Int) = (b.toNat : Int) := by
  have := b.toNat_lt
  rw [Go.IntWalk.i64_in _ (by omega)]
/-- the length: an error, or one byte below 128, or a longer form of at least 128. -/
theorem rl_val (N : Nat) (hN : 200 ≤ N) (a : List UInt8) (hs : a.length < 4611686018427387904) : ∃ L k e o : Int, F_tlv_ReadLength N a = some (L, k, e, o) ∧
    ((e ≠ 0) ∨ (e = 0 ∧ ((k = 1 ∧ ∃ b r, a = b :: r ∧ L = (b.toNat : Int) ∧ b.toNat < 128) ∨ (128 ≤ L ∧ L ≤ 2147483647 ∧ 2 ≤ k ∧ k ≤ 5)))) := by
  unfold F_tlv_ReadLength
  cases a with
  | nil => exact ⟨0, 0, 1, 0, rfl, .inl (by decide)⟩
  | cons b r =>
    have h0 : ((((b :: r).length : Nat) : Int) == 0) = false := by
      simp only [List.length_cons, beq_eq_false_iff_ne, ne_eq]; omega
    have hix : ix (b :: r) 0 = some b := rfl
    simp only [h0, cond_false, hix, Option.bind_some, byte_wrap]
    by_cases h1 : (b.toNat : Int) < 128
    · rw [decide_eq_true h1]
      exact ⟨_, _, _, _, rfl, .inr ⟨rfl, .inl ⟨rfl, b, r, rfl, rfl, by omega⟩⟩⟩
    · rw [decide_eq_false h1]
      simp only [cond_false]
      have hb := b.toNat_lt
      have hsub : wsub .i64 (b.toNat : Int) 128 = ((b.toNat - 128 : Nat) : Int) := by
        show IntKind.i64.wrap ((b.toNat : Int) - 128) = _
        rw [Go.IntWalk.i64_in _ (by omega)]
        omega
      rw [hsub]
      generalize hc : b.toNat - 128 = cnt
      by_cases h2 : cnt = 0
      · subst h2
        exact ⟨0, 0, 4, 0, rfl, .inl (by decide)⟩
      · have e2 : (((cnt : Nat) : Int) == 0) = false := by simp only [beq_eq_false_iff_ne, ne_eq]; omega
        rw [e2]
        simp only [cond_false]
        by_cases h3 : (cnt : Int) > 4
        · rw [decide_eq_true h3]
          exact ⟨0, 0, 4, 0, rfl, .inl (by decide)⟩
        · rw [decide_eq_false h3]
          simp only [cond_false]
          by_cases h4 : ((b :: r).length : Int) ≤ (cnt : Int)
          · rw [decide_eq_true h4]
            exact ⟨0, 0, 1, _, rfl, .inl (by decide)⟩
          · rw [decide_eq_false h4]
            simp only [cond_false]
            obtain ⟨L', hL⟩ := rl_loop N (b :: r) cnt (by omega) hs (cnt + 1 - 1) N 1 0 rfl (by omega)
            rw [show F_tlv_ReadLength_l0 N N (b :: r, (cnt : Int), 0, 1, 0, 0) = _ from hL]
            simp only [Option.bind_some]
            have hlen : 1 < (b :: r).length := by omega
            rw [show ix (b :: r) 1 = some ((b :: r)[1]'hlen) from ix_at hlen]
            simp only [Option.bind_some]
            generalize hz : (((((b :: r)[1]'hlen).toNat : Nat) : Int) == 0) = z
            cases z with
            | true => exact ⟨0, 0, 4, 0, rfl, .inl (by decide)⟩
            | false =>
              simp only [cond_false]
              by_cases h5 : L' < 128
              · rw [decide_eq_true h5]
                exact ⟨0, 0, 4, 0, rfl, .inl (by decide)⟩
              · rw [decide_eq_false h5]
                simp only [cond_false]
                by_cases h6 : L' > 2147483647
                · rw [decide_eq_true h6]
                  exact ⟨0, 0, 4, 0, rfl, .inl (by decide)⟩
                · rw [decide_eq_false h6]
                  refine ⟨_, _, _, _, rfl, .inr ⟨rfl, .inr ⟨by omega, by omega, ?_, ?_⟩⟩⟩
                  all_goals
                    rw [show wadd .i64 1 (cnt : Int) = ((1 + cnt : Nat) : Int) from by
                      show IntKind.i64.wrap (1 + (cnt : Int)) = _
                      rw [Go.IntWalk.i64_in _ (by omega)]
                      omega]
                    omega
end Go.Fw
namespace Go.Fw
open Go
/-- the identifier of an element of universal class, not constructed, with number 10. -/
theorem id_val (b : UInt8) : ∃ c num e : Int, ∃ k : Bool, F_tlv_ReadIdentifier (b.toNat : Int) = some (c, k, num, e) ∧ (e = 0 → c = 0 → k = false → num = 10 → b = 10) := by
  have all : ∀ n : Fin 256, (match F_tlv_ReadIdentifier ((UInt8.ofNat n.val).toNat : Int) with
      | some (c, k, num, e) => decide (e = 0 → c = 0 → k = false → num = 10 → UInt8.ofNat n.val = 10)
      | none => false) = true := of_decide_eq_true (by kernel_rfl)
  have h := all ⟨b.toNat, b.toNat_lt⟩
  rw [show UInt8.ofNat (⟨b.toNat, b.toNat_lt⟩ : Fin 256).val = b from by simp] at h
  cases hf : F_tlv_ReadIdentifier (b.toNat : Int) with
  | none => rw [hf] at h; cases h
  | some x =>
    obtain ⟨c, k, num, e⟩ := x
    rw [hf] at h
    exact ⟨c, num, e, k, rfl, of_decide_eq_true h⟩
theorem slc_tail (b : UInt8) (r : List UInt8) : slc (b :: r) 1 ((b :: r).length : Int) = some r := by
  unfold slc
  rw [if_pos ⟨by decide, by simp only [List.length_cons]; omega, by omega⟩]
  simp
theorem hd_val (N : Nat) (hN : 200 ≤ N) (v : List UInt8) (hs : v.length < 4611686018427387904) : ∃ c num L sz e o : Int, ∃ k : Bool, F_tlv_ReadHeader N v = some ((c, num, k, L, sz), e, o) ∧
    (e ≠ 0 ∨ (e = 0 ∧ ∃ b r, v = b :: r ∧ (c = 0 → k = false → num = 10 → b = 10) ∧ ((sz = 2 ∧ ∃ b1 r1, r = b1 :: r1 ∧ L = (b1.toNat : Int) ∧ b1.toNat < 128) ∨ (128 ≤ L ∧ L ≤ 2147483647 ∧ 3 ≤ sz ∧ sz ≤ 6)))) := by
  unfold F_tlv_ReadHeader
  cases v with
  | nil => exact ⟨0, 0, 0, 0, 1, 0, false, rfl, .inl (by decide)⟩
  | cons b r =>
    have h0 : ((((b :: r).length : Nat) : Int) == 0) = false := by
      simp only [List.length_cons, beq_eq_false_iff_ne, ne_eq]; omega
    have hix : ix (b :: r) 0 = some b := rfl
    obtain ⟨c, num, e, k, hid, hb⟩ := id_val b
    simp only [h0, cond_false, hix, Option.bind_some, hid]
    by_cases he : e = 0
    · subst he
      rw [show ((0 : Int) != 0) = false from rfl]
      simp only [cond_false, slc_tail, Option.bind_some]
      obtain ⟨L, sz, e, o, hl, hc⟩ := rl_val N hN r (by simp at hs; omega)
      rw [hl]
      simp only [Option.bind_some]
      rcases hc with hc | ⟨rfl, hc⟩
      · rw [show (e != 0) = true from by simpa using hc]
        exact ⟨0, 0, 0, 0, e, _, false, rfl, .inl hc⟩
      · rw [show ((0 : Int) != 0) = false from rfl]
        refine ⟨_, _, _, _, _, _, _, rfl, .inr ⟨rfl, b, r, rfl, hb rfl, ?_⟩⟩
        have hw : ∀ z : Int, 0 ≤ z → z < 100 → wadd .i64 1 z = 1 + z := fun z h1 h2 => by
          show IntKind.i64.wrap (1 + z) = _
          rw [Go.IntWalk.i64_in _ (by omega)]
        rcases hc with ⟨rfl, b1, r1, rfl, hL, hb1⟩ | ⟨h1, h2, h3, h4⟩
        · exact .inl ⟨by rw [hw 1 (by omega) (by omega)]; rfl, b1, r1, rfl, hL, hb1⟩
        · exact .inr ⟨h1, h2, by rw [hw sz (by omega) (by omega)]; omega, by rw [hw sz (by omega) (by omega)]; omega⟩
    · rw [show (e != 0) = true from by simpa using he]
      exact ⟨0, 0, 0, 0, e, 0, false, rfl, .inl he⟩
/-- one element, and no more: where it lies. -/
theorem one_val (N : Nat) (hN : 200 ≤ N) (v : List UInt8) (hs : v.length < 4611686018427387904) : ∃ c num st bd en e o : Int, ∃ k : Bool, F_element_One N v = some ((c, num, k, st, bd, en), e, o) ∧
    (e ≠ 0 ∨ (e = 0 ∧ ∃ b r, v = b :: r ∧ (c = 0 → k = false → num = 10 → b = 10) ∧ en = (v.length : Int) ∧ ((bd = 2 ∧ ∃ b1 r1, r = b1 :: r1 ∧ r1.length = b1.toNat ∧ b1.toNat < 128) ∨ (3 ≤ bd ∧ bd ≤ 6 ∧ bd + 128 ≤ en)))) := by
  unfold F_element_One F_element_next
  have hsl : slc v 0 (v.length : Int) = some v := by
    unfold slc
    rw [if_pos ⟨by decide, by omega, by omega⟩]
    simp
  rw [decide_eq_true (by omega : (v.length : Int) ≤ (v.length : Int))]
  simp only [Bool.and_self, cond_true, hsl, Option.bind_some]
  obtain ⟨c, num, L, sz, e, o, k, hh, hc⟩ := hd_val N hN v hs
  rw [hh]
  simp only [Option.bind_some]
  rcases hc with hc | ⟨rfl, b, r, rfl, hb, hc⟩
  · rw [show (e != 0) = true from by simpa using hc]
    simp only [cond_true, Option.bind_some]
    rw [show (e == 0) = false from by simpa using hc]
    exact ⟨0, 0, 0, 0, 0, e, _, false, rfl, .inl hc⟩
  · rw [show ((0 : Int) != 0) = false from rfl]
    simp only [cond_false]
    have hsz : 2 ≤ sz ∧ sz ≤ 6 ∧ 0 ≤ L ∧ L ≤ 2147483647 := by
      rcases hc with ⟨rfl, b1, r1, _, rfl, h1⟩ | ⟨h1, h2, h3, h4⟩
      · have := b1.toNat_lt; omega
      · omega
    obtain ⟨z1, z2, z3, z4⟩ := hsz
    generalize hn : (b :: r).length = n
    rw [hn] at hs
    have e1 : wsub .i64 (wsub .i64 (n : Int) 0) sz = (n : Int) - sz := by
      show IntKind.i64.wrap (IntKind.i64.wrap ((n : Int) - 0) - sz) = _
      rw [Go.IntWalk.i64_in ((n : Int) - 0) (by omega), Go.IntWalk.i64_in _ (by omega)]
      omega
    have e2 : wadd .i64 0 sz = sz := by
      show IntKind.i64.wrap (0 + sz) = _
      rw [Go.IntWalk.i64_in _ (by omega)]
      omega
    have e3 : wadd .i64 sz L = sz + L := by
      show IntKind.i64.wrap (sz + L) = _
      rw [Go.IntWalk.i64_in _ (by omega)]
    rw [e1, e2, e3]
    by_cases h1 : (n : Int) - sz < L
    · rw [decide_eq_true h1]
      simp only [cond_true, Option.bind_some]
      exact ⟨0, 0, 0, 0, 0, 1, _, false, rfl, .inl (by decide)⟩
    · rw [decide_eq_false h1]
      simp only [cond_false, Option.bind_some]
      rw [show ((0 : Int) == 0) = true from rfl]
      simp only [cond_true]
      by_cases h2 : sz + L < (n : Int)
      · rw [decide_eq_true h2]
        exact ⟨0, 0, 0, 0, 0, 2, _, false, rfl, .inl (by decide)⟩
      · rw [decide_eq_false h2]
        refine ⟨c, num, 0, sz, sz + L, 0, 0, k, rfl, .inr ⟨rfl, b, r, rfl, hb, by omega, ?_⟩⟩
        rcases hc with ⟨rfl, b1, r1, rfl, hL, hb1⟩ | ⟨h3, h4, h5, h6⟩
        · refine .inl ⟨rfl, b1, r1, rfl, ?_, hb1⟩
          simp only [List.length_cons] at hn
          omega
        · exact .inr ⟨h5, h6, by omega⟩
end Go.Fw
namespace Go.Fw
open Go
/-! ### plain laws: a number's contents -/
theorem iv_tot (a : List UInt8) : ∃ b, F_integer_Valid a = some b := by
  unfold F_integer_Valid
  match a with
  | [] => exact ⟨_, rfl⟩
  | [x] => exact ⟨_, rfl⟩
  | x :: y :: r =>
    have h : decide ((((x :: y :: r).length : Nat) : Int) < 2) = false := by
      simp only [List.length_cons, decide_eq_false_iff_not]; omega
    have h0 : ix (x :: y :: r) 0 = some x := rfl
    have h1 : ix (x :: y :: r) 1 = some y := rfl
    simp only [h, cond_false, h0, h1, Option.bind_some]
    cases ((x.toNat : Int) == 0) <;> simp only [cond_true, cond_false]
    · cases ((x.toNat : Int) == 255) <;> exact ⟨_, rfl⟩
    · cases (!(bits .and .u8 (y.toNat : Int) 128 == 0)) <;> simp only [cond_true, cond_false]
      · exact ⟨_, rfl⟩
      · cases ((x.toNat : Int) == 255) <;> exact ⟨_, rfl⟩
theorem ii_nil (N : Nat) : F_integer_Int N [] = some (0, false) := rfl
theorem ii_long (N : Nat) (a : List UInt8) (h : 8 < a.length) : F_integer_Int N a = some (0, false) := by
  obtain ⟨b, hb⟩ := iv_tot a
  unfold F_integer_Int
  rw [hb]
  simp only [Option.bind_some]
  cases b
  · rfl
  · rw [decide_eq_true (by omega : (a.length : Int) > 8)]
    rfl
theorem ii_one (N : Nat) (hN : 1 ≤ N) (x : UInt8) : F_integer_Int N [x] = some (IntKind.wrap .i64 (IntKind.wrap .i8 (x.toNat : Int)), true) := by
  obtain ⟨m, rfl⟩ : ∃ m, N = m + 1 := ⟨N - 1, by omega⟩
  rfl
end Go.Fw
namespace Go.Fw
open Go
/-! ### plain laws: the reason of an entry -/
theorem rp_step (N n : Nat) (v : List UInt8) (i : Int) (x : UInt8) (hi : i ≤ 10) (h : F_cref21_Marshal i = some ([10, 1, x], 0)) (j : Int) (hj : wadd .i64 i 1 = j) :
    F_cref21_Parse_l0 N (n + 1) (v, i) = bif ([10, 1, x] == v) then some (Sum.inl (i, true)) else F_cref21_Parse_l0 N n (v, j) := by
  show (bif decide (i ≤ 10) then _ else _) = _
  rw [decide_eq_true hi]
  simp only [cond_true, h, Option.bind_some, F_cbase_Bytes, hj]
  rfl
theorem rp_skip (N n : Nat) (v : List UInt8) : F_cref21_Parse_l0 N (n + 1) (v, 7) = F_cref21_Parse_l0 N n (v, 8) := rfl
theorem rp_end (N n : Nat) (v : List UInt8) : F_cref21_Parse_l0 N (n + 1) (v, 11) = some (Sum.inr ()) := rfl
def reasons : List UInt8 := [0, 1, 2, 3, 4, 5, 6, 8, 9, 10]
theorem rp_val (N : Nat) (hN : 12 ≤ N) (v : List UInt8) : F_cref21_Parse N v = some (match v with
    | [10, 1, x] => bif reasons.contains x then ((x.toNat : Int), true) else (0, false)
    | _ => (0, false)) := by
  obtain ⟨m, rfl⟩ : ∃ m, N = m + 12 := ⟨N - 12, by omega⟩
  have key : F_cref21_Parse_l0 (m + 12) (m + 12) (v, 0) = some (bif ([10, 1, 0] == v) then .inl (0, true) else bif ([10, 1, 1] == v) then .inl (1, true) else bif ([10, 1, 2] == v) then .inl (2, true) else
      bif ([10, 1, 3] == v) then .inl (3, true) else bif ([10, 1, 4] == v) then .inl (4, true) else bif ([10, 1, 5] == v) then .inl (5, true) else bif ([10, 1, 6] == v) then .inl (6, true) else
      bif ([10, 1, 8] == v) then .inl (8, true) else bif ([10, 1, 9] == v) then .inl (9, true) else bif ([10, 1, 10] == v) then .inl (10, true) else .inr ()) := by
    rw [rp_step _ _ v 0 0 (by decide) rfl 1 rfl, rp_step _ _ v 1 1 (by decide) rfl 2 rfl, rp_step _ _ v 2 2 (by decide) rfl 3 rfl, rp_step _ _ v 3 3 (by decide) rfl 4 rfl, rp_step _ _ v 4 4 (by decide) rfl 5 rfl,
      rp_step _ _ v 5 5 (by decide) rfl 6 rfl, rp_step _ _ v 6 6 (by decide) rfl 7 rfl, rp_skip, rp_step _ _ v 8 8 (by decide) rfl 9 rfl, rp_step _ _ v 9 9 (by decide) rfl 10 rfl, rp_step _ _ v 10 10 (by decide) rfl 11 rfl, rp_end]
    cases ([10, 1, 0] == v) <;> cases ([10, 1, 1] == v) <;> cases ([10, 1, 2] == v) <;> cases ([10, 1, 3] == v) <;> cases ([10, 1, 4] == v) <;> first | rfl | (cases ([10, 1, 5] == v) <;> cases ([10, 1, 6] == v) <;> cases ([10, 1, 8] == v) <;> cases ([10, 1, 9] == v) <;> cases ([10, 1, 10] == v) <;> rfl)
  unfold F_cref21_Parse
  rw [key]
  simp only [Option.bind_some]
  by_cases h : ∃ x, v = [10, 1, x]
  · obtain ⟨x, rfl⟩ := h
    simp only
    clear key
    have all : ∀ n : Fin 256, (match (bif (([10, 1, 0] : List UInt8) == [10, 1, UInt8.ofNat n.val]) then Sum.inl ((0 : Int), true) else bif (([10, 1, 1] : List UInt8) == [10, 1, UInt8.ofNat n.val]) then .inl (1, true) else bif (([10, 1, 2] : List UInt8) == [10, 1, UInt8.ofNat n.val]) then .inl (2, true) else
      bif (([10, 1, 3] : List UInt8) == [10, 1, UInt8.ofNat n.val]) then .inl (3, true) else bif (([10, 1, 4] : List UInt8) == [10, 1, UInt8.ofNat n.val]) then .inl (4, true) else bif (([10, 1, 5] : List UInt8) == [10, 1, UInt8.ofNat n.val]) then .inl (5, true) else bif (([10, 1, 6] : List UInt8) == [10, 1, UInt8.ofNat n.val]) then .inl (6, true) else
      bif (([10, 1, 8] : List UInt8) == [10, 1, UInt8.ofNat n.val]) then .inl (8, true) else bif (([10, 1, 9] : List UInt8) == [10, 1, UInt8.ofNat n.val]) then .inl (9, true) else bif (([10, 1, 10] : List UInt8) == [10, 1, UInt8.ofNat n.val]) then .inl (10, true) else .inr () : (Int × Bool) ⊕ Unit) with
        | Sum.inl (i7, c8) => some (i7, c8)
        | Sum.inr _ => some (0, false)) = some (bif reasons.contains (UInt8.ofNat n.val) then (((UInt8.ofNat n.val).toNat : Int), true) else (0, false)) := of_decide_eq_true (by kernel_rfl)
    have e := all ⟨x.toNat, x.toNat_lt⟩
    rw [show UInt8.ofNat (⟨x.toNat, x.toNat_lt⟩ : Fin 256).val = x from by simp] at e
    exact e
  · have no : ∀ x : UInt8, ([10, 1, x] == v) = false := fun x => by
      cases hc : ([10, 1, x] == v) with
      | false => rfl
      | true => exact absurd ⟨x, (beq_iff_eq.1 hc).symm⟩ h
    simp only [no, cond_false]
    split
    · rename_i x
      exact absurd ⟨x, rfl⟩ h
    · rfl
end Go.Fw
namespace Go.Fw
open Go
theorem or_byte {a b : Int} (h1 : -36028797018963968 ≤ a) (h2 : a < 36028797018963968) (h3 : 0 ≤ b) (h4 : b < 256) : bits .or .i64 (wshl .i64 a 8) b = 256 * a + b := by
  have e1 : wshl .i64 a 8 = 256 * a := by
    show IntKind.i64.wrap (a * 2 ^ (8 : Nat)) = _
    rw [Go.IntWalk.i64_in _ (by omega)]
    omega
  rw [e1]
  show IntKind.i64.wrap (((BitVec.ofInt 64 (256 * a)) ||| (BitVec.ofInt 64 b)).toNat : Int) = _
  rw [BitVec.toNat_or, BitVec.toNat_ofInt, BitVec.toNat_ofInt]
  have hm : ((256 * a) % ((2 ^ 64 : Nat) : Int)).toNat = (a % 72057594037927936).toNat * 2 ^ 8 := by omega
  have hb : (b % ((2 ^ 64 : Nat) : Int)).toNat = b.toNat := by omega
  rw [hm, hb, ← Nat.shiftLeft_eq, ← Nat.shiftLeft_add_eq_or_of_lt (by omega : b.toNat < 2 ^ 8), Nat.shiftLeft_eq, IntKind.wrap_i64]
  omega
end Go.Fw
namespace Go.Fw
open Go
/-! ### plain laws: a number of two bytes and more; the reason of an entry -/
def be (a : Int) (r : List UInt8) : Int := r.foldl (fun n x => 256 * n + (x.toNat : Int)) a
theorem be_neg : ∀ (r : List UInt8) (a : Int), a < 0 → be a r < 0
  | [], _, h => h
  | x :: r, a, h => be_neg r _ (by have := x.toNat_lt; show 256 * a + (x.toNat : Int) < 0; omega)
theorem be_big : ∀ (r : List UInt8) (a : Int), 128 ≤ a → 128 ≤ be a r
  | [], _, h => h
  | x :: r, a, h => be_big r _ (by show 128 ≤ 256 * a + (x.toNat : Int); omega)
theorem ii_loop (N : Nat) (r : List UInt8) (hl : r.length < 4611686018427387904) : ∀ (k n i m : Nat) (a : Int), r.length - i = k → i ≤ r.length → k < n → k + m ≤ 7 → -(128 * 256 ^ m) ≤ a → a < 128 * 256 ^ m →
    F_integer_Int_l0 N n (a, r, (r.length : Int), (i : Int)) = some (be a (r.drop i)) := by
  intro k
  induction k with
  | zero =>
    intro n i m a hk hi hn _ _ _
    obtain ⟨n, rfl⟩ : ∃ m, n = m + 1 := ⟨n - 1, by omega⟩
    show (bif decide ((i : Int) < (r.length : Int)) then _ else _) = _
    rw [decide_eq_false (by omega), List.drop_eq_nil_of_le (by omega)]
    rfl
  | succ k ih =>
    intro n i m a hk hi hn hm h1 h2
    obtain ⟨n, rfl⟩ : ∃ m, n = m + 1 := ⟨n - 1, by omega⟩
    have hlt : i < r.length := by omega
    show (bif decide ((i : Int) < (r.length : Int)) then _ else _) = _
    rw [decide_eq_true (by omega : (i : Int) < (r.length : Int)), cond_true, ix_at hlt]
    simp only [Option.bind_some]
    rw [byte_wrap, wadd1 (by omega)]
    have hb := (r[i]).toNat_lt
    have hp : (128 : Int) * 256 ^ m ≤ 36028797018963968 := by
      have h7 : ∀ m : Fin 7, (128 : Int) * 256 ^ m.val ≤ 36028797018963968 := by decide
      exact h7 ⟨m, by omega⟩
    rw [or_byte (by omega) (by omega) (by omega) (by omega), List.drop_eq_getElem_cons hlt]
    refine ih n (i + 1) (m + 1) _ (by omega) (by omega) (by omega) (by omega) ?_ ?_
    · rw [Int.pow_succ]; omega
    · rw [Int.pow_succ]; omega
theorem high_byte (y : UInt8) (h : (!(bits .and .u8 (y.toNat : Int) 128 == 0)) = true) : 128 ≤ y.toNat := by
  have all : ∀ n : Fin 256, (!(bits .and .u8 ((UInt8.ofNat n.val).toNat : Int) 128 == 0)) = true → 128 ≤ (UInt8.ofNat n.val).toNat := of_decide_eq_true (by kernel_rfl)
  have e := all ⟨y.toNat, y.toNat_lt⟩
  rw [show UInt8.ofNat (⟨y.toNat, y.toNat_lt⟩ : Fin 256).val = y from by simp] at e
  exact e h
theorem first_byte (x : UInt8) : IntKind.wrap .i64 (IntKind.wrap .i8 (x.toNat : Int)) = if x.toNat < 128 then (x.toNat : Int) else (x.toNat : Int) - 256 := by
  have all : ∀ n : Fin 256, IntKind.wrap .i64 (IntKind.wrap .i8 ((UInt8.ofNat n.val).toNat : Int)) = if (UInt8.ofNat n.val).toNat < 128 then ((UInt8.ofNat n.val).toNat : Int) else ((UInt8.ofNat n.val).toNat : Int) - 256 := of_decide_eq_true (by kernel_rfl)
  have e := all ⟨x.toNat, x.toNat_lt⟩
  rw [show UInt8.ofNat (⟨x.toNat, x.toNat_lt⟩ : Fin 256).val = x from by simp] at e
  exact e
theorem iv_two (x y : UInt8) (r : List UInt8) (h : F_integer_Valid (x :: y :: r) = some true) (hx : x.toNat = 0) : 128 ≤ y.toNat := by
  unfold F_integer_Valid at h
  have hd : decide ((((x :: y :: r).length : Nat) : Int) < 2) = false := by
    simp only [List.length_cons, decide_eq_false_iff_not]; omega
  have h0 : ix (x :: y :: r) 0 = some x := rfl
  have h1 : ix (x :: y :: r) 1 = some y := rfl
  have h2 : ((x.toNat : Int) == 0) = true := by simp [hx]
  simp only [hd, cond_false, h0, h1, Option.bind_some, h2, cond_true] at h
  refine high_byte y ?_
  cases hc : (!(bits .and .u8 (y.toNat : Int) 128 == 0)) with
  | true => rfl
  | false =>
    rw [hc] at h
    simp at h
theorem slc_rest (x : UInt8) (r : List UInt8) : slc (x :: r) 1 ((x :: r).length : Int) = some r := slc_tail x r
theorem ii_two (N : Nat) (hN : 200 ≤ N) (x y : UInt8) (r : List UInt8) : ∃ v b, F_integer_Int N (x :: y :: r) = some (v, b) ∧ (b = false ∨ v < 0 ∨ 128 ≤ v) := by
  obtain ⟨c, hc⟩ := iv_tot (x :: y :: r)
  unfold F_integer_Int
  rw [hc]
  simp only [Option.bind_some]
  cases c with
  | false => exact ⟨0, false, rfl, .inl rfl⟩
  | true =>
    by_cases h8 : (((x :: y :: r).length : Nat) : Int) > 8
    · rw [decide_eq_true h8]
      exact ⟨0, false, rfl, .inl rfl⟩
    · rw [decide_eq_false h8]
      have h0 : ix (x :: y :: r) 0 = some x := rfl
      simp only [Bool.not_true, cond_false, h0, Option.bind_some, slc_rest]
      have hx := x.toNat_lt
      have hy := y.toNat_lt
      simp only [List.length_cons] at h8
      have hloop := ii_loop N (y :: r) (by simp only [List.length_cons]; omega) (y :: r).length N 0 0 (if x.toNat < 128 then (x.toNat : Int) else (x.toNat : Int) - 256) (by omega) (by omega) (by simp only [List.length_cons]; omega) (by simp only [List.length_cons]; omega) (by split <;> omega) (by split <;> omega)
      rw [first_byte]
      rw [show F_integer_Int_l0 N N (if x.toNat < 128 then (x.toNat : Int) else (x.toNat : Int) - 256, y :: r, (((y :: r).length : Nat) : Int), 0) = _ from hloop]
      refine ⟨_, true, rfl, .inr ?_⟩
      rw [List.drop_zero]
      show be (256 * _ + (y.toNat : Int)) r < 0 ∨ 128 ≤ be (256 * _ + (y.toNat : Int)) r
      by_cases hlt : x.toNat < 128
      · rw [if_pos hlt]
        right
        refine be_big _ _ ?_
        rcases Nat.eq_zero_or_pos x.toNat with h | h
        · have := iv_two x y r hc h
          omega
        · omega
      · rw [if_neg hlt]
        exact .inl (be_neg _ _ (by omega))
theorem one_concrete (N : Nat) (x : UInt8) : F_element_One N [10, 1, x] = some ((0, 10, false, 0, 2, 3), 0, 0) := rfl
def tailP (i5 bd : Int) : Option (Int × (Int × Int)) :=
  bif decide (i5 < 0) then some (0, 6, bd) else bif decide (i5 > 10) then some (0, 6, bd) else
  (F_entry_Valid i5).bind fun c7 => bif (!c7) then some (0, 6, bd) else some (i5, 0, 0)
theorem tail_all (x : UInt8) : tailP (IntKind.wrap .i64 (IntKind.wrap .i8 (x.toNat : Int))) 2 = some (bif reasons.contains x then ((x.toNat : Int), 0, 0) else (0, 6, 2)) := by
  have all : ∀ n : Fin 256, tailP (IntKind.wrap .i64 (IntKind.wrap .i8 ((UInt8.ofNat n.val).toNat : Int))) 2 = some (bif reasons.contains (UInt8.ofNat n.val) then (((UInt8.ofNat n.val).toNat : Int), 0, 0) else (0, 6, 2)) := of_decide_eq_true (by kernel_rfl)
  have e := all ⟨x.toNat, x.toNat_lt⟩
  rw [show UInt8.ofNat (⟨x.toNat, x.toNat_lt⟩ : Fin 256).val = x from by simp] at e
  exact e
theorem ep_one (N : Nat) (hN : 1 ≤ N) (x : UInt8) : F_entry_Parse N [10, 1, x] = some (bif reasons.contains x then ((x.toNat : Int), 0, 0) else (0, 6, 2)) := by
  unfold F_entry_Parse
  rw [one_concrete]
  simp only [Option.bind_some]
  rw [show ((0 : Int) != 0) = false from rfl, show F_element_Is (0, 10, false, 0, 2, 3) 0 false 10 = some true from rfl, show slc [10, 1, x] 2 3 = some [x] from rfl]
  simp only [Option.bind_some, Bool.not_true, cond_false, ii_one N hN]
  exact tail_all x
/-- the program's Parse of a reason: just [10, 1, x], x a reason. -/
theorem ep_val (N : Nat) (hN : 200 ≤ N) (v : List UInt8) (hs : v.length < 4611686018427387904) : ∃ r e o : Int, F_entry_Parse N v = some (r, e, o) ∧
    ((e = 0 ∧ ∃ x, v = [10, 1, x] ∧ reasons.contains x = true ∧ r = (x.toNat : Int)) ∨ (e ≠ 0 ∧ ∀ x, v = [10, 1, x] → reasons.contains x = false)) := by
  by_cases hv : ∃ x, v = [10, 1, x]
  · obtain ⟨x, rfl⟩ := hv
    rw [ep_one N (by omega)]
    cases hc : reasons.contains x
    · exact ⟨_, _, _, rfl, .inr ⟨by decide, fun y hy => by cases hy; exact hc⟩⟩
    · exact ⟨_, _, _, rfl, .inl ⟨rfl, x, rfl, hc, rfl⟩⟩
  · have no : ∀ {r e o : Int}, e ≠ 0 → ∃ r' e' o' : Int, some (r, e, o) = some (r', e', o') ∧ ((e' = 0 ∧ ∃ x, v = [10, 1, x] ∧ reasons.contains x = true ∧ r' = (x.toNat : Int)) ∨ (e' ≠ 0 ∧ ∀ x, v = [10, 1, x] → reasons.contains x = false)) :=
      fun {r e o} h => ⟨r, e, o, rfl, .inr ⟨h, fun x hx => absurd ⟨x, hx⟩ hv⟩⟩
    obtain ⟨c, num, st, bd, en, e, o, k, ho, hc⟩ := one_val N hN v hs
    unfold F_entry_Parse
    rw [ho]
    simp only [Option.bind_some]
    rcases hc with hc | ⟨rfl, b, r, rfl, hb, hen, hc⟩
    · rw [show (e != 0) = true from by simpa using hc]
      exact no hc
    · rw [show ((0 : Int) != 0) = false from rfl]
      simp only [cond_false]
      have his : F_element_Is (c, num, k, st, bd, en) 0 false 10 = some (bif (c == 0) then (bif (k == false) then (num == 10) else false) else false) := by
        unfold F_element_Is
        simp only
        cases (c == 0) <;> cases (k == false) <;> rfl
      rw [his]
      simp only [Option.bind_some]
      by_cases h1 : (bif (c == 0) then (bif (k == false) then (num == 10) else false) else false) = true
      · rw [h1]
        simp only [Bool.not_true, cond_false]
        have hb10 : b = 10 := by
          refine hb ?_ ?_ ?_ <;> revert h1 <;> cases hcc : (c == 0) <;> cases hkk : (k == false) <;> simp_all
        subst hb10
        subst hen
        rcases hc with ⟨rfl, b1, r1, rfl, hr, hb1⟩ | ⟨h3, h4, h5⟩
        · have hsl : slc (10 :: b1 :: r1) 2 (((10 :: b1 :: r1).length : Nat) : Int) = some r1 := by
            unfold slc
            rw [if_pos ⟨by decide, by simp only [List.length_cons]; omega, by omega⟩, Int.toNat_natCast, List.take_length]
            rfl
          rw [hsl]
          simp only [Option.bind_some]
          clear ho his
          match r1, hr with
          | [], _ =>
            rw [show F_integer_Int N [] = some (0, false) from ii_nil N]
            exact no (by decide)
          | [x], hr =>
            exfalso
            refine hv ⟨x, ?_⟩
            have : b1 = 1 := by
              have h0 : b1.toNat = 1 := by simpa using hr.symm
              exact UInt8.toNat_inj.1 h0
            rw [this]
          | x :: y :: r, _ =>
            obtain ⟨w, b', hw, hp⟩ := ii_two N hN x y r
            rw [hw]
            simp only [Option.bind_some]
            cases b' with
            | false => exact no (by decide)
            | true =>
              simp only [Bool.not_true, cond_false]
              rcases hp with hp | hp | hp
              · cases hp
              · rw [decide_eq_true hp]
                exact no (by decide)
              · rw [decide_eq_false (by omega : ¬ w < 0), decide_eq_true (by omega : w > 10)]
                exact no (by decide)
        · obtain ⟨n, rfl⟩ : ∃ n : Nat, bd = n := ⟨bd.toNat, by omega⟩
          have hsl : slc (10 :: r) (n : Int) (((10 :: r).length : Nat) : Int) = some ((10 :: r).drop n) := by
            unfold slc
            rw [if_pos ⟨by omega, by omega, by omega⟩, Int.toNat_natCast, Int.toNat_natCast, List.take_length]
          rw [hsl]
          simp only [Option.bind_some]
          rw [ii_long N _ (by rw [List.length_drop]; omega)]
          exact no (by decide)
      · rw [show (bif (c == 0) then (bif (k == false) then (num == 10) else false) else false) = false from by simpa using h1]
        exact no (by decide)
end Go.Fw
