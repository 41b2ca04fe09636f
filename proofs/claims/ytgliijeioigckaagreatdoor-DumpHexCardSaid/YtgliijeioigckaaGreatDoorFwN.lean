/- A framework for proofs about Go programs in this model: part N. Everything is proved; no condition is added. -/
import Derived.WideShapes
import Derived.WideKeyArgs
import Derived.Stop.LaidErr
import Derived.Lib.LaidTab
import Derived.Test.YtgliijeioigckaaGreatDoorFwM
import Derived.Test.YtgliijeioigckaaGreatDoorFwI
set_option linter.unusedVariables false
set_option linter.unusedSimpArgs false
namespace Go.Proofs.Tryz
open Go Go.Fw
set_option maxHeartbeats 1000000
noncomputable def k_clock_leap : Ctr := ⟨[.hole (.int .i64)], .hole .bool, fun (x : Int) => F_clock_leap x⟩
noncomputable def x_clock_leap (L : List LoopC) : Cx := ⟨prog, T, hH, hO, [], [], [], L, .nil⟩
theorem c_clock_leap : CtrOk prog 126 (k_clock_leap) := fun_ok (cx := x_clock_leap []) tok mixed trivial trivial trivial trivial 126 _ (by kernel_rfl) (by kernel_rfl) (by intro x; kernel_rfl)
noncomputable def k_clock_Days : Ctr := ⟨[.hole (.int .i64), .hole (.int .i64)], .hole (.int .i64), fun (x : Int × Int) => F_clock_Days x.1 x.2⟩
noncomputable def x_clock_Days (L : List LoopC) : Cx := ⟨prog, T, hH, hO, [(126, k_clock_leap)], [], [], L, .nil⟩
theorem c_clock_Days : CtrOk prog 56 (k_clock_Days) := fun_ok (cx := x_clock_Days []) tok mixed ⟨c_clock_leap, trivial⟩ trivial trivial trivial 56 _ (by kernel_rfl) (by kernel_rfl) (by intro x; kernel_rfl)
noncomputable def k_clock_Valid : Ctr := ⟨[.hole (.pair (.int .i64) (.pair (.int .i64) (.pair (.int .i64) (.pair (.int .i64) (.pair (.int .i64) (.int .i64))))))], .hole .bool, fun (x : (Int × Int × Int × Int × Int × Int)) => F_clock_Valid x⟩
noncomputable def x_clock_Valid (L : List LoopC) : Cx := ⟨prog, T, hH, hO, [(56, k_clock_Days)], [], [], L, .nil⟩
theorem c_clock_Valid : CtrOk prog 26 (k_clock_Valid) := fun_ok (cx := x_clock_Valid []) tok mixed ⟨c_clock_Days, trivial⟩ trivial trivial trivial 26 _ (by kernel_rfl) (by kernel_rfl) (by intro x; kernel_rfl)
noncomputable def k_dump_pad : Ctr := ⟨[.hole (.int .i64), .hole (.int .i64)], .hole .str, fun (x : Int × Int) => F_dump_pad x.1 x.2⟩
noncomputable def x_dump_pad (L : List LoopC) : Cx := ⟨prog, T, hH, hO, [(40, k_Itoa), (38, k_Rep)], [], [], L, .nil⟩
theorem c_dump_pad : CtrOk prog 27 (k_dump_pad) := fun_ok (cx := x_dump_pad []) tok mixed ⟨c_Itoa, c_Rep, trivial⟩ trivial trivial trivial 27 _ (by kernel_rfl) (by kernel_rfl) (by intro x; kernel_rfl)
noncomputable def k_dump_Date : Ctr := ⟨[.hole (.pair (.int .i64) (.pair (.int .i64) (.pair (.int .i64) (.pair (.int .i64) (.pair (.int .i64) (.int .i64))))))], .hole .str, fun (x : (Int × Int × Int × Int × Int × Int)) => F_dump_Date x⟩
noncomputable def x_dump_Date (L : List LoopC) : Cx := ⟨prog, T, hH, hO, [(26, k_clock_Valid), (27, k_dump_pad)], [], [], L, .nil⟩
theorem c_dump_Date : CtrOk prog 8 (k_dump_Date) := fun_ok (cx := x_dump_Date []) tok mixed ⟨c_clock_Valid, c_dump_pad, trivial⟩ trivial trivial trivial 8 _ (by kernel_rfl) (by kernel_rfl) (by intro x; kernel_rfl)
noncomputable def j_cref08_Days : Tr Exits := (.node (.node (.node (.node .nil 8589938688 [(.normal, ⟨[(0, .hole (.int .i64)), (11, .hole (.int .i64)), (12, .hole .bool)], []⟩)] .nil) 8589939712 [(.normal, ⟨[(0, .hole (.int .i64)), (11, .hole (.int .i64)), (12, .hole .bool)], []⟩)] .nil) 8589940736 [(.normal, ⟨[(0, .hole (.int .i64)), (11, .hole (.int .i64)), (12, .hole .bool)], []⟩)] (.node .nil 8589941760 [(.normal, ⟨[(0, .hole (.int .i64)), (11, .hole (.int .i64)), (12, .hole .bool)], []⟩)] .nil)) 8589942784 [(.normal, ⟨[(0, .hole (.int .i64)), (11, .hole (.int .i64)), (12, .hole .bool)], []⟩)] (.node (.node (.node .nil 8589943808 [(.normal, ⟨[(0, .hole (.int .i64)), (11, .hole (.int .i64)), (12, .hole .bool)], []⟩)] .nil) 8589946880 [(.normal, ⟨[(0, .hole (.int .i64)), (11, .hole (.int .i64)), (20, .hole .bool)], []⟩)] .nil) 8589947904 [(.normal, ⟨[(0, .hole (.int .i64)), (11, .hole (.int .i64)), (20, .hole .bool)], []⟩)] (.node .nil 8589948928 [(.normal, ⟨[(0, .hole (.int .i64)), (11, .hole (.int .i64)), (20, .hole .bool)], []⟩)] .nil)))
noncomputable def k_cref08_Days : Ctr := ⟨[.hole (.int .i64), .hole (.int .i64)], .hole (.int .i64), fun (x : Int × Int) => F_cref08_Days x.1 x.2⟩
noncomputable def x_cref08_Days (L : List LoopC) : Cx := ⟨prog, T, hH, hO, [], [], [], L, j_cref08_Days⟩
theorem c_cref08_Days : CtrOk prog 128 (k_cref08_Days) := fun_ok (cx := x_cref08_Days []) tok mixed trivial trivial trivial trivial 128 _ (by kernel_rfl) (by kernel_rfl) (by intro x; kernel_rfl)
noncomputable def k_cref08_in : Ctr := ⟨[.hole (.int .i64), .hole (.int .i64), .hole (.int .i64)], .hole .bool, fun (x : Int × Int × Int) => F_cref08_in x.1 x.2.1 x.2.2⟩
noncomputable def x_cref08_in (L : List LoopC) : Cx := ⟨prog, T, hH, hO, [], [], [], L, .nil⟩
theorem c_cref08_in : CtrOk prog 127 (k_cref08_in) := fun_ok (cx := x_cref08_in []) tok mixed trivial trivial trivial trivial 127 _ (by kernel_rfl) (by kernel_rfl) (by intro x; kernel_rfl)
noncomputable def k_cref08_Valid : Ctr := ⟨[.hole (.pair (.int .i64) (.pair (.int .i64) (.pair (.int .i64) (.pair (.int .i64) (.pair (.int .i64) (.int .i64))))))], .hole .bool, fun (x : (Int × Int × Int × Int × Int × Int)) => F_cref08_Valid x⟩
noncomputable def x_cref08_Valid (L : List LoopC) : Cx := ⟨prog, T, hH, hO, [(128, k_cref08_Days), (127, k_cref08_in)], [], [], L, .nil⟩
theorem c_cref08_Valid : CtrOk prog 57 (k_cref08_Valid) := fun_ok (cx := x_cref08_Valid []) tok mixed ⟨c_cref08_Days, c_cref08_in, trivial⟩ trivial trivial trivial 57 _ (by kernel_rfl) (by kernel_rfl) (by intro x; kernel_rfl)
noncomputable def k_cref08_digits (N m : Nat) : Ctr := ⟨[.hole (.int .i64), .hole (.int .i64)], .hole .str, fun (x : Int × Int) => F_cref08_digits N m x.1 x.2⟩
noncomputable def x_cref08_digits (N m : Nat) (L : List LoopC) : Cx := ⟨prog, T, hH, hO, [(58, k_cref08_digits N m)], [], [], L, .nil⟩
theorem c_cref08_digits (N : Nat) : ∀ m, CtrOk prog 58 (k_cref08_digits N m) := fun m => Nat.rec (motive := fun m => CtrOk prog 58 (k_cref08_digits N m)) (ctr0 58 _ (by kernel_rfl) (by kernel_rfl) (by intro x; kernel_rfl)) (fun m hR => fun_ok (cx := x_cref08_digits N m []) tok mixed ⟨hR, trivial⟩ trivial trivial trivial 58 (k_cref08_digits N (m + 1)) (by kernel_rfl) (by kernel_rfl) (by intro x; kernel_rfl)) m
noncomputable def k_cref08_tail (N : Nat) : Ctr := ⟨[.hole (.pair (.int .i64) (.pair (.int .i64) (.pair (.int .i64) (.pair (.int .i64) (.pair (.int .i64) (.int .i64))))))], .hole .str, fun (x : (Int × Int × Int × Int × Int × Int)) => F_cref08_tail N x⟩
noncomputable def x_cref08_tail (N : Nat) (L : List LoopC) : Cx := ⟨prog, T, hH, hO, [(58, k_cref08_digits N N)], [], [], L, .nil⟩
theorem c_cref08_tail (N : Nat) : CtrOk prog 59 (k_cref08_tail N) := fun_ok (cx := x_cref08_tail N []) tok mixed ⟨c_cref08_digits N N, trivial⟩ trivial trivial trivial 59 _ (by kernel_rfl) (by kernel_rfl) (by intro x; kernel_rfl)
noncomputable def k_cref08_EncodeGeneral (N : Nat) : Ctr := ⟨[.hole (.pair (.int .i64) (.pair (.int .i64) (.pair (.int .i64) (.pair (.int .i64) (.pair (.int .i64) (.int .i64))))))], .tup [.hole (.sl .byte), .hole (.int .i64)], fun (x : (Int × Int × Int × Int × Int × Int)) => F_cref08_EncodeGeneral N x⟩
noncomputable def x_cref08_EncodeGeneral (N : Nat) (L : List LoopC) : Cx := ⟨prog, T, hH, hO, [(57, k_cref08_Valid), (58, k_cref08_digits N N), (59, k_cref08_tail N)], [], [], L, .nil⟩
theorem c_cref08_EncodeGeneral (N : Nat) : CtrOk prog 28 (k_cref08_EncodeGeneral N) := fun_ok (cx := x_cref08_EncodeGeneral N []) tok mixed ⟨c_cref08_Valid, c_cref08_digits N N, c_cref08_tail N, trivial⟩ trivial trivial trivial 28 _ (by kernel_rfl) (by kernel_rfl) (by intro x; kernel_rfl)
noncomputable def k_cref29_Date (N : Nat) : Ctr := ⟨[.hole (.pair (.int .i64) (.pair (.int .i64) (.pair (.int .i64) (.pair (.int .i64) (.pair (.int .i64) (.int .i64))))))], .hole .str, fun (x : (Int × Int × Int × Int × Int × Int)) => F_cref29_Date N x⟩
noncomputable def x_cref29_Date (N : Nat) (L : List LoopC) : Cx := ⟨prog, T, hH, hO, [(28, k_cref08_EncodeGeneral N)], [], [], L, .nil⟩
theorem c_cref29_Date (N : Nat) : CtrOk prog 9 (k_cref29_Date N) := fun_ok (cx := x_cref29_Date N []) tok mixed ⟨c_cref08_EncodeGeneral N, trivial⟩ trivial trivial trivial 9 _ (by kernel_rfl) (by kernel_rfl) (by intro x; kernel_rfl)
noncomputable def k_claw29_DumpDates (N : Nat) : Ctr := ⟨[.hole (.pair (.int .i64) (.pair (.int .i64) (.pair (.int .i64) (.pair (.int .i64) (.pair (.int .i64) (.int .i64))))))], .hole .bool, fun (x : (Int × Int × Int × Int × Int × Int)) => F_claw29_DumpDates N x⟩
noncomputable def x_claw29_DumpDates (N : Nat) (L : List LoopC) : Cx := ⟨prog, T, hH, hO, [(7, k_awakeD), (8, k_dump_Date), (9, k_cref29_Date N)], [], [], L, .nil⟩
theorem c_claw29_DumpDates (N : Nat) : CtrOk prog 3 (k_claw29_DumpDates N) := fun_ok (cx := x_claw29_DumpDates N []) tok mixed ⟨c_awakeD, c_dump_Date, c_cref29_Date N, trivial⟩ trivial trivial trivial 3 _ (by kernel_rfl) (by kernel_rfl) (by intro x; kernel_rfl)
noncomputable def k_internal_stringslite_IndexByte_v1 : Ctr := ⟨[.slit [48, 49, 50, 51, 52, 53, 54, 55, 56, 57, 97, 98, 99, 100, 101, 102], .hole (.int .u8)], .hole (.int .i64), fun (x : Int) => F_internal_stringslite_IndexByte_v1 x⟩
noncomputable def x_internal_stringslite_IndexByte_v1 (L : List LoopC) : Cx := ⟨prog, T, hH, hO, [], [], [], L, .nil⟩
theorem c_internal_stringslite_IndexByte_v1 : CtrOk prog 61 (k_internal_stringslite_IndexByte_v1) := fun_ok (cx := x_internal_stringslite_IndexByte_v1 []) tok mixed trivial trivial trivial trivial 61 _ (by kernel_rfl) (by kernel_rfl) (by intro x; kernel_rfl)
noncomputable def k_strings_IndexByte_v1 : Ctr := ⟨[.slit [48, 49, 50, 51, 52, 53, 54, 55, 56, 57, 97, 98, 99, 100, 101, 102], .hole (.int .u8)], .hole (.int .i64), fun (x : Int) => F_strings_IndexByte_v1 x⟩
noncomputable def x_strings_IndexByte_v1 (L : List LoopC) : Cx := ⟨prog, T, hH, hO, [(61, k_internal_stringslite_IndexByte_v1)], [], [], L, .nil⟩
theorem c_strings_IndexByte_v1 : CtrOk prog 31 (k_strings_IndexByte_v1) := fun_ok (cx := x_strings_IndexByte_v1 []) tok mixed ⟨c_internal_stringslite_IndexByte_v1, trivial⟩ trivial trivial trivial 31 _ (by kernel_rfl) (by kernel_rfl) (by intro x; kernel_rfl)
noncomputable def k_dump_ParseHex (N : Nat) : Ctr := ⟨[.hole .str], .tup [.hole (.sl .byte), .hole (.pair (.int .i64) (.int .i64))], fun (x : Bs) => F_dump_ParseHex N x⟩
noncomputable def x_dump_ParseHex (N : Nat) (L : List LoopC) : Cx := ⟨prog, T, hH, hO, [(31, k_strings_IndexByte_v1)], [], [], L, .nil⟩
noncomputable def h_dump_ParseHex_l0 : Pat := ⟨[(0, .hole .str), (3, .ptr 0 0), (4, .own 1), (5, .hole (.int .i64))], [.cells [.ilit .i64 0, .ilit .i64 0] false, .arr .byte false false]⟩
noncomputable def q_dump_ParseHex_l0 : Exits := [(.ret, ⟨[(2, .nils), (3, .ptr 0 0)], [.cells [.ilit .i64 11, .hole (.int .i64)] false, .junk]⟩), (.exit 0, ⟨[(3, .ptr 0 0), (4, .own 1)], [.cells [.ilit .i64 0, .ilit .i64 0] false, .arr .byte false false]⟩)]
noncomputable def e_dump_ParseHex_l0 (N n : Nat) : LoopC := ⟨11, 3, 0, h_dump_ParseHex_l0, q_dump_ParseHex_l0, fun x => F_dump_ParseHex_l0 N n x⟩
theorem l_dump_ParseHex_l0 (N : Nat) : ∀ n, LOk prog (e_dump_ParseHex_l0 N n) := loopc_ok (cx := x_dump_ParseHex N []) tok mixed ⟨c_strings_IndexByte_v1, trivial⟩ trivial trivial trivial 11 3 0 h_dump_ParseHex_l0 q_dump_ParseHex_l0 (fun n x => F_dump_ParseHex_l0 N n x) (by kernel_rfl) (by kernel_rfl) (fun _ => rfl) (by intro n x; kernel_rfl)
theorem c_dump_ParseHex (N : Nat) : CtrOk prog 11 (k_dump_ParseHex N) := fun_ok (cx := x_dump_ParseHex N [e_dump_ParseHex_l0 N N]) tok mixed ⟨c_strings_IndexByte_v1, trivial⟩ trivial trivial ⟨l_dump_ParseHex_l0 N N, trivial⟩ 11 _ (by kernel_rfl) (by kernel_rfl) (by intro x; kernel_rfl)
noncomputable def k_cref29_value (N : Nat) : Ctr := ⟨[.hole (.int .u8)], .hole (.int .i64), fun (x : Int) => F_cref29_value N x⟩
noncomputable def x_cref29_value (N : Nat) (L : List LoopC) : Cx := ⟨prog, T, hH, hO, [], [], [], L, .nil⟩
noncomputable def h_cref29_value_l0 : Pat := ⟨[(0, .hole (.int .u8)), (3, .hole (.int .i64))], []⟩
noncomputable def q_cref29_value_l0 : Exits := [(.ret, ⟨[(2, .hole (.int .i64))], []⟩), (.exit 0, ⟨[], []⟩)]
noncomputable def e_cref29_value_l0 (N n : Nat) : LoopC := ⟨32, 2, 0, h_cref29_value_l0, q_cref29_value_l0, fun x => F_cref29_value_l0 N n x⟩
theorem l_cref29_value_l0 (N : Nat) : ∀ n, LOk prog (e_cref29_value_l0 N n) := loopc_ok (cx := x_cref29_value N []) tok mixed trivial trivial trivial trivial 32 2 0 h_cref29_value_l0 q_cref29_value_l0 (fun n x => F_cref29_value_l0 N n x) (by kernel_rfl) (by kernel_rfl) (fun _ => rfl) (by intro n x; kernel_rfl)
theorem c_cref29_value (N : Nat) : CtrOk prog 32 (k_cref29_value N) := fun_ok (cx := x_cref29_value N [e_cref29_value_l0 N N]) tok mixed trivial trivial trivial ⟨l_cref29_value_l0 N N, trivial⟩ 32 _ (by kernel_rfl) (by kernel_rfl) (by intro x; kernel_rfl)
noncomputable def k_cref29_ParseHex (N : Nat) : Ctr := ⟨[.hole .str], .tup [.hole (.sl .byte), .hole .bool], fun (x : Bs) => F_cref29_ParseHex N x⟩
noncomputable def x_cref29_ParseHex (N : Nat) (L : List LoopC) : Cx := ⟨prog, T, hH, hO, [(32, k_cref29_value N)], [], [], L, .nil⟩
noncomputable def h_cref29_ParseHex_l0 : Pat := ⟨[(0, .hole .str), (4, .own 0), (5, .hole (.int .i64))], [.arr .byte false false]⟩
noncomputable def q_cref29_ParseHex_l0 : Exits := [(.ret, ⟨[(2, .nils), (3, .blit false)], [.junk]⟩), (.exit 0, ⟨[(0, .hole .str), (4, .own 0)], [.arr .byte false false]⟩)]
noncomputable def e_cref29_ParseHex_l0 (N n : Nat) : LoopC := ⟨12, 3, 0, h_cref29_ParseHex_l0, q_cref29_ParseHex_l0, fun x => F_cref29_ParseHex_l0 N n x⟩
theorem l_cref29_ParseHex_l0 (N : Nat) : ∀ n, LOk prog (e_cref29_ParseHex_l0 N n) := loopc_ok (cx := x_cref29_ParseHex N []) tok mixed ⟨c_cref29_value N, trivial⟩ trivial trivial trivial 12 3 0 h_cref29_ParseHex_l0 q_cref29_ParseHex_l0 (fun n x => F_cref29_ParseHex_l0 N n x) (by kernel_rfl) (by kernel_rfl) (fun _ => rfl) (by intro n x; kernel_rfl)
theorem c_cref29_ParseHex (N : Nat) : CtrOk prog 12 (k_cref29_ParseHex N) := fun_ok (cx := x_cref29_ParseHex N [e_cref29_ParseHex_l0 N N]) tok mixed ⟨c_cref29_value N, trivial⟩ trivial trivial ⟨l_cref29_ParseHex_l0 N N, trivial⟩ 12 _ (by kernel_rfl) (by kernel_rfl) (by intro x; kernel_rfl)
noncomputable def k_cbase_Bytes : Ctr := ⟨[.hole (.sl .byte), .hole (.sl .byte)], .hole .bool, fun (x : Bs × Bs) => F_cbase_Bytes x.1 x.2⟩
noncomputable def x_cbase_Bytes (L : List LoopC) : Cx := ⟨prog, T, hH, hO, [], [], [], L, .nil⟩
theorem c_cbase_Bytes : CtrOk prog 13 (k_cbase_Bytes) := fun_ok (cx := x_cbase_Bytes []) tok mixed trivial trivial trivial trivial 13 _ (by kernel_rfl) (by kernel_rfl) (by intro x; kernel_rfl)
noncomputable def k_cbase_Within : Ctr := ⟨[.hole (.pair (.int .i64) (.int .i64)), .hole (.int .i64)], .hole .bool, fun (x : (Int × Int) × Int) => F_cbase_Within x.1 x.2⟩
noncomputable def x_cbase_Within (L : List LoopC) : Cx := ⟨prog, T, hH, hO, [], [], [], L, .nil⟩
theorem c_cbase_Within : CtrOk prog 14 (k_cbase_Within) := fun_ok (cx := x_cbase_Within []) tok mixed trivial trivial trivial trivial 14 _ (by kernel_rfl) (by kernel_rfl) (by intro x; kernel_rfl)
noncomputable def k_claw29_DumpHex (N : Nat) : Ctr := ⟨[.hole (.sl .byte), .hole .str], .hole .bool, fun (x : Bs × Bs) => F_claw29_DumpHex N x.1 x.2⟩
noncomputable def x_claw29_DumpHex (N : Nat) (L : List LoopC) : Cx := ⟨prog, T, hH, hO, [(7, k_awakeD), (10, k_Hex), (11, k_dump_ParseHex N), (12, k_cref29_ParseHex N), (13, k_cbase_Bytes), (14, k_cbase_Within)], [], [], L, .nil⟩
theorem c_claw29_DumpHex (N : Nat) : CtrOk prog 4 (k_claw29_DumpHex N) := fun_ok (cx := x_claw29_DumpHex N []) tok mixed ⟨c_awakeD, c_Hex, c_dump_ParseHex N, c_cref29_ParseHex N, c_cbase_Bytes, c_cbase_Within, trivial⟩ trivial trivial trivial 4 _ (by kernel_rfl) (by kernel_rfl) (by intro x; kernel_rfl)
end Go.Proofs.Tryz
namespace Go.Fw
open Go
def d2 (n : Nat) : Bs := [UInt8.ofNat (48 + n / 10), UInt8.ofNat (48 + n % 10)]
def d4 (n : Nat) : Bs := d2 (n / 100) ++ d2 (n % 100)
def bsEq : Bs → Bs → Bool
  | [], l => match l with | [] => true | _ => false
  | a :: x, l => match l with | b :: y => Nat.beq a.toNat b.toNat && bsEq x y | [] => false
theorem bsEq_eq : ∀ (a b : Bs), bsEq a b = true → a = b
  | [], b, h => by cases b <;> simp [bsEq] at h ⊢
  | x :: a, b, h => by
    cases b with
    | nil => simp [bsEq] at h
    | cons y b =>
      simp only [bsEq, Bool.and_eq_true] at h
      rw [bsEq_eq a b h.2, UInt8.toNat_inj.1 (Nat.eq_of_beq_eq_true h.1)]
def isB (o : Option Bs) (b : Bs) : Bool := match o with | some x => bsEq x b | none => false
theorem isB_eq {o : Option Bs} {b : Bs} (h : isB o b = true) : o = some b := by
  cases o with
  | none => simp [isB] at h
  | some x => rw [bsEq_eq x b h]
set_option maxRecDepth 100000 in
theorem pad2_all : ((List.range 100).all fun n => isB (F_dump_pad (Int.ofNat n) 2) (d2 n)) = true := by kernel_rfl
set_option maxRecDepth 100000 in
theorem pad4_all : ((List.range 10000).all fun n => isB (F_dump_pad (Int.ofNat n) 4) (d4 n)) = true := by kernel_rfl
set_option maxRecDepth 100000 in
theorem dig2_all (N k : Nat) : ((List.range 100).all fun n => isB (F_cref08_digits N (k + 3) (Int.ofNat n) 2) (d2 n)) = true := by kernel_rfl
set_option maxRecDepth 100000 in
theorem dig4_all (N k : Nat) : ((List.range 10000).all fun n => isB (F_cref08_digits N (k + 5) (Int.ofNat n) 4) (d4 n)) = true := by kernel_rfl
end Go.Fw
namespace Go.Fw
open Go
theorem leap_val (y : Int) : F_clock_leap y = some ((Int.tmod y 4 == 0) && ((Int.tmod y 100 != 0) || (Int.tmod y 400 == 0))) := by
  unfold F_clock_leap
  cases (Int.tmod y 4 == 0) <;> cases (Int.tmod y 100 != 0) <;> rfl
theorem days_eq (y m : Int) : ∃ d, F_clock_Days y m = some d ∧ F_cref08_Days y m = some d ∧ d ≤ 31 ∧ (0 < d → 0 ≤ y ∧ y ≤ 9999 ∧ 1 ≤ m ∧ m ≤ 12) := by
  by_cases h1 : y < 0
  · exact ⟨0, by unfold F_clock_Days; rw [decide_eq_true h1]; rfl, by unfold F_cref08_Days; rw [decide_eq_true h1]; rfl, by decide, fun h => absurd h (by decide)⟩
  by_cases h2 : y > 9999
  · exact ⟨0, by unfold F_clock_Days; rw [decide_eq_false h1, decide_eq_true h2]; rfl, by unfold F_cref08_Days; rw [decide_eq_false h1, decide_eq_true h2]; rfl, by decide, fun h => absurd h (by decide)⟩
  by_cases h3 : 1 ≤ m ∧ m ≤ 12
  · have hm : m = 1 ∨ m = 2 ∨ m = 3 ∨ m = 4 ∨ m = 5 ∨ m = 6 ∨ m = 7 ∨ m = 8 ∨ m = 9 ∨ m = 10 ∨ m = 11 ∨ m = 12 := by omega
    have k1 := decide_eq_false h1
    have k2 := decide_eq_false h2
    unfold F_clock_Days F_cref08_Days
    rw [k1, k2, leap_val]
    rcases hm with rfl | rfl | rfl | rfl | rfl | rfl | rfl | rfl | rfl | rfl | rfl | rfl
    case inr.inl =>
      have h40 : (Int.tmod y 400 == 0) = true → (Int.tmod y 4 == 0) = true := fun h => by
        rw [beq_iff_eq] at h ⊢
        rw [Int.tmod_eq_emod_of_nonneg (by omega)] at h ⊢
        omega
      change ∃ d : Int, (bif ((Int.tmod y 4 == 0) && ((Int.tmod y 100 != 0) || (Int.tmod y 400 == 0))) then some 29 else some 28) = some d ∧
        (bif (Int.tmod y 400 == 0) then some 29 else bif (Int.tmod y 4 == 0) then bif (Int.tmod y 100 != 0) then some 29 else some 28 else some 28) = some d ∧ d ≤ 31 ∧ (0 < d → 0 ≤ y ∧ y ≤ 9999 ∧ 1 ≤ (2 : Int) ∧ (2 : Int) ≤ 12)
      cases q4 : (Int.tmod y 400 == 0) with
      | true =>
        rw [h40 q4]
        cases (Int.tmod y 100 != 0) <;> exact ⟨29, rfl, rfl, by decide, fun _ => by omega⟩
      | false =>
        cases (Int.tmod y 4 == 0) <;> cases (Int.tmod y 100 != 0) <;> first
          | exact ⟨29, rfl, rfl, by decide, fun _ => by omega⟩
          | exact ⟨28, rfl, rfl, by decide, fun _ => by omega⟩
    all_goals first
      | exact ⟨31, rfl, rfl, by decide, fun _ => by omega⟩
      | exact ⟨30, rfl, rfl, by decide, fun _ => by omega⟩
  · refine ⟨0, ?_, ?_, by decide, fun h => absurd h (by decide)⟩
    · unfold F_clock_Days
      rw [decide_eq_false h1, decide_eq_false h2]
      by_cases h4 : m < 1
      · rw [decide_eq_true h4]; rfl
      · rw [decide_eq_false h4, decide_eq_true (show m > 12 by omega)]; rfl
    · unfold F_cref08_Days
      rw [decide_eq_false h1, decide_eq_false h2]
      have f : ∀ k : Int, 1 ≤ k → k ≤ 12 → (m == k) = false := fun k a b => by
        rw [beq_eq_false_iff_ne]; omega
      rw [f 1 (by decide) (by decide), f 3 (by decide) (by decide), f 5 (by decide) (by decide), f 7 (by decide) (by decide), f 8 (by decide) (by decide), f 10 (by decide) (by decide), f 12 (by decide) (by decide)]
      simp only [cond_false, Option.bind_some]
      rw [f 4 (by decide) (by decide), f 6 (by decide) (by decide), f 9 (by decide) (by decide), f 11 (by decide) (by decide)]
      simp only [cond_false, Option.bind_some]
      rw [f 2 (by decide) (by decide)]
      rfl
def okT (t : Int × Int × Int × Int × Int × Int) : Prop := (0 ≤ t.1 ∧ t.1 ≤ 9999) ∧ (1 ≤ t.2.1 ∧ t.2.1 ≤ 12) ∧ (1 ≤ t.2.2.1 ∧ t.2.2.1 ≤ 31) ∧ (0 ≤ t.2.2.2.1 ∧ t.2.2.2.1 < 24) ∧ (0 ≤ t.2.2.2.2.1 ∧ t.2.2.2.2.1 < 60) ∧ (0 ≤ t.2.2.2.2.2 ∧ t.2.2.2.2.2 < 60)
theorem valid_eq (t : Int × Int × Int × Int × Int × Int) : ∃ v, F_clock_Valid t = some v ∧ F_cref08_Valid t = some v ∧ (v = true → okT t) := by
  obtain ⟨y, mo, d, h, mi, s⟩ := t
  obtain ⟨n, e1, e2, e3, e4⟩ := days_eq y mo
  refine ⟨decide (0 ≤ h) && (decide (h < 24) && (decide (0 ≤ mi) && (decide (mi < 60) && (decide (0 ≤ s) && (decide (s < 60) && (decide (1 ≤ d) && decide (d ≤ n))))))), ?_, ?_, ?_⟩
  · unfold F_clock_Valid
    dsimp only
    rw [e1]
    simp only [ge_iff_le]
    cases decide (0 ≤ h) <;> cases decide (h < 24) <;> cases decide (0 ≤ mi) <;> cases decide (mi < 60) <;> cases decide (0 ≤ s) <;> cases decide (s < 60) <;> cases decide (1 ≤ d) <;> rfl
  · unfold F_cref08_Valid F_cref08_in
    dsimp only
    rw [e2]
    simp only [ge_iff_le, Option.bind_some]
    rw [show decide (h ≤ 23) = decide (h < 24) from decide_eq_decide.2 (by omega), show decide (mi ≤ 59) = decide (mi < 60) from decide_eq_decide.2 (by omega), show decide (s ≤ 59) = decide (s < 60) from decide_eq_decide.2 (by omega)]
    cases decide (0 ≤ h) <;> cases decide (h < 24) <;> cases decide (0 ≤ mi) <;> cases decide (mi < 60) <;> cases decide (0 ≤ s) <;> cases decide (s < 60) <;> cases decide (1 ≤ d) <;> cases decide (d ≤ n) <;> rfl
  · intro hv
    simp only [Bool.and_eq_true, decide_eq_true_eq] at hv
    have h4 := e4 (by omega)
    exact ⟨⟨h4.1, h4.2.1⟩, ⟨h4.2.2.1, h4.2.2.2⟩, ⟨by dsimp only; omega, by dsimp only; omega⟩, ⟨by dsimp only; omega, by dsimp only; omega⟩, ⟨by dsimp only; omega, by dsimp only; omega⟩, ⟨by dsimp only; omega, by dsimp only; omega⟩⟩
theorem pad2_val {n : Int} (h0 : 0 ≤ n) (h1 : n < 100) : ∃ a b, F_dump_pad n 2 = some [a, b] ∧ ∀ N k, F_cref08_digits N (k + 3) n 2 = some [a, b] := by
  obtain ⟨m, rfl⟩ := Int.eq_ofNat_of_zero_le h0
  have hm : m ∈ List.range 100 := List.mem_range.2 (by omega)
  exact ⟨_, _, isB_eq (List.all_eq_true.1 pad2_all m hm), fun N k => isB_eq (List.all_eq_true.1 (dig2_all N k) m hm)⟩
theorem pad4_val {n : Int} (h0 : 0 ≤ n) (h1 : n < 10000) : ∃ a b c d, F_dump_pad n 4 = some [a, b, c, d] ∧ ∀ N k, F_cref08_digits N (k + 5) n 4 = some [a, b, c, d] := by
  obtain ⟨m, rfl⟩ := Int.eq_ofNat_of_zero_le h0
  have hm : m ∈ List.range 10000 := List.mem_range.2 (by omega)
  exact ⟨_, _, _, _, isB_eq (List.all_eq_true.1 pad4_all m hm), fun N k => isB_eq (List.all_eq_true.1 (dig4_all N k) m hm)⟩
theorem dates_true (k : Nat) (t : Int × Int × Int × Int × Int × Int) : F_claw29_DumpDates (k + 5) t = some true := by
  obtain ⟨v, hv1, hv2, hv3⟩ := valid_eq t
  unfold F_claw29_DumpDates F_awakeD F_dump_Date F_cref29_Date F_cref08_EncodeGeneral
  rw [hv1, hv2]
  cases v with
  | false => rfl
  | true =>
    obtain ⟨y, mo, d, h, mi, s⟩ := t
    obtain ⟨⟨y1, y2⟩, ⟨o1, o2⟩, ⟨d1, d2⟩, ⟨h1, h2⟩, ⟨i1, i2⟩, s1, s2⟩ := hv3 rfl
    dsimp only at y1 y2 o1 o2 d1 d2 h1 h2 i1 i2 s1 s2 ⊢
    obtain ⟨a0, a1, a2, a3, ea, ea'⟩ := pad4_val y1 (by omega)
    obtain ⟨b0, b1, eb, eb'⟩ := pad2_val (n := mo) (by omega) (by omega)
    obtain ⟨c0, c1, ec, ec'⟩ := pad2_val (n := d) (by omega) (by omega)
    obtain ⟨g0, g1, eg, eg'⟩ := pad2_val h1 (by omega)
    obtain ⟨i0, i1', ei, ei'⟩ := pad2_val i1 (by omega)
    obtain ⟨s0, s1', es, es'⟩ := pad2_val s1 (by omega)
    unfold F_cref08_tail
    dsimp only
    rw [ea, ea', eb, eb' _ (k + 2), ec, ec' _ (k + 2), eg, eg' _ (k + 2), ei, ei' _ (k + 2), es, es' _ (k + 2)]
    refine Eq.trans (b := some (([a0, a1, a2, a3, 45, b0, b1, 45, c0, c1, 84, g0, g1, 58, i0, i1', 58, s0, s1', 90] : Bs) == [a0, a1, a2, a3, 45, b0, b1, 45, c0, c1, 84, g0, g1, 58, i0, i1', 58, s0, s1', 90])) (by kernel_rfl) (by rw [beq_self_eq_true])
end Go.Fw
namespace Go.Fw
open Go Go.RowKit
theorem wadd_n {a b : Nat} (h : a + b < 9223372036854775808) : wadd .i64 (a : Int) (b : Int) = ((a + b : Nat) : Int) := by
  show IntKind.i64.wrap ((a : Int) + (b : Int)) = _
  rw [Go.IntWalk.i64_in _ (by omega)]
  omega
theorem ix_n {α : Type} {l : List α} {i : Nat} {x : α} (h : l[i]? = some x) : ix l (i : Int) = some x := by
  unfold ix
  rw [if_pos (Int.natCast_nonneg i)]
  exact h
def hv (b : UInt8) : Int := extIndex ([48, 49, 50, 51, 52, 53, 54, 55, 56, 57, 97, 98, 99, 100, 101, 102] : Bs) (b.toNat : Int)
def oiEq (o : Option Int) (i : Int) : Bool := match o with | some x => (match x, i with | .ofNat a, .ofNat b => Nat.beq a b | .negSucc a, .negSucc b => Nat.beq a b | _, _ => false) | none => false
theorem oiEq_eq {o : Option Int} {i : Int} (h : oiEq o i = true) : o = some i := by
  unfold oiEq at h
  split at h
  · split at h
    · rw [Nat.eq_of_beq_eq_true h]
    · rw [Nat.eq_of_beq_eq_true h]
    · cases h
  · cases h
def hvN (n : Nat) : Int := extIndex ([48, 49, 50, 51, 52, 53, 54, 55, 56, 57, 97, 98, 99, 100, 101, 102] : Bs) (Int.ofNat n)
set_option maxRecDepth 100000 in
theorem value_all (k : Nat) : ((List.range 256).all fun n => oiEq (F_cref29_value (k + 17) (Int.ofNat n)) (hvN n)) = true := by kernel_rfl
theorem value_val (k : Nat) (b : UInt8) : F_cref29_value (k + 17) (b.toNat : Int) = some (hv b) := oiEq_eq (List.all_eq_true.1 (value_all k) b.toNat (List.mem_range.2 b.toNat_lt))
set_option maxRecDepth 100000 in
theorem hv_all : ((List.range 256).all fun n => match hvN n with | .ofNat k => Nat.blt k 16 && Nat.beq (hexAt k).toNat n | .negSucc _ => true) = true := by kernel_rfl
theorem hv_lt {b : UInt8} {k : Nat} (h : hv b = (k : Int)) : k < 16 ∧ hexAt k = b := by
  have := List.all_eq_true.1 hv_all b.toNat (List.mem_range.2 b.toNat_lt)
  rw [show hvN b.toNat = Int.ofNat k from h] at this
  simp only [Bool.and_eq_true] at this
  have h1 : k + 1 ≤ 16 := Nat.le_of_ble_eq_true this.1
  exact ⟨by omega, UInt8.toNat_inj.1 (Nat.eq_of_beq_eq_true this.2)⟩
theorem hv_hex {k : Nat} (h : k < 16) : hv (hexAt k) = (k : Int) := by
  have : ∀ k : Fin 16, hv (hexAt k.val) = (k.val : Int) := by
    have h2 : ((List.range 16).all fun k => oiEq (some (hv (hexAt k))) (Int.ofNat k)) = true := by kernel_rfl
    intro k
    have := oiEq_eq (List.all_eq_true.1 h2 k.val (List.mem_range.2 k.isLt))
    exact Option.some.inj this
  exact this ⟨k, h⟩
def byH (a b : Int) : UInt8 := UInt8.ofNat (16 * a.toNat + b.toNat)
def pr (acc : Bs) (i : Int) : Bs → Int ⊕ Bs
  | [] => .inr acc
  | [_] => .inl i
  | x :: y :: r => if hv x < 0 then .inl i else if hv y < 0 then .inl i else pr (acc ++ [byH (hv x) (hv y)]) (i + 2) r
def rr (acc : Bs) : Bs → Unit ⊕ Bs
  | [] => .inr acc
  | [_] => .inr acc
  | x :: y :: r => if hv x < 0 then .inl () else if hv y < 0 then .inl () else rr (acc ++ [byH (hv x) (hv y)]) r
theorem byte_pr_all : ((List.range 16).all fun a => (List.range 16).all fun b => match toB (IntKind.wrap .u8 (bits .or .i64 (wshl .i64 (Int.ofNat a) 4) (Int.ofNat b))), toB (IntKind.wrap .u8 (wadd .i64 (wmul .i64 16 (Int.ofNat a)) (Int.ofNat b))) with
    | some x, some y => Nat.beq x.toNat (16 * a + b) && Nat.beq y.toNat (16 * a + b) | _, _ => false) = true := by kernel_rfl
theorem byte_pr {a b : Nat} (ha : a < 16) (hb : b < 16) : toB (IntKind.wrap .u8 (bits .or .i64 (wshl .i64 (a : Int) 4) (b : Int))) = some (byH a b) ∧ toB (IntKind.wrap .u8 (wadd .i64 (wmul .i64 16 (a : Int)) (b : Int))) = some (byH a b) := by
  have := List.all_eq_true.1 (List.all_eq_true.1 byte_pr_all a (List.mem_range.2 ha)) b (List.mem_range.2 hb)
  have e : ∀ x : UInt8, Nat.beq x.toNat (16 * a + b) = true → x = byH a b := fun x h => by
    have h := Nat.eq_of_beq_eq_true h
    apply UInt8.toNat_inj.1
    rw [h, show byH a b = UInt8.ofNat (16 * a + b) from rfl, UInt8.toNat_ofNat_of_lt' (by show _ < 256; omega)]
  split at this
  · rename_i x y h1 h2
    simp only [Bool.and_eq_true] at this
    constructor
    · rw [show (a : Int) = Int.ofNat a from rfl, show (b : Int) = Int.ofNat b from rfl, h1, e x this.1]; rfl
    · rw [show (a : Int) = Int.ofNat a from rfl, show (b : Int) = Int.ofNat b from rfl, h2, e y this.2]; rfl
  · cases this
theorem app1 (l : Bs) (b : UInt8) (h : l.length < 1000000) : app 1 l [b] = some (l ++ [b]) := by
  unfold app
  rw [if_pos]
  have : (1000001 : Nat) ≤ limit := by decide
  simp only [List.length_singleton]
  omega
theorem hv_cases (b : UInt8) : hv b < 0 ∨ ∃ k : Nat, hv b = (k : Int) ∧ k < 16 := by
  cases h : hv b with
  | negSucc n => exact .inl (by omega)
  | ofNat k => exact .inr ⟨k, rfl, (hv_lt (b := b) (k := k) h).1⟩
theorem pr_loop (N : Nat) : ∀ (n : Nat) (s acc : Bs) (i : Nat), s.length + 1 < n + i → acc.length + s.length < 1000000 + i → s.length < 1000000 → i ≤ s.length → F_dump_ParseHex_l0 N n (s, (i : Int), acc) = some (pr acc (i : Int) (s.drop i))
  | 0, s, acc, i, h1, h2, h3, h4 => by omega
  | n + 1, s, acc, i, h1, h2, h3, h4 => by
    have step : F_dump_ParseHex_l0 N (n + 1) (s, (i : Int), acc) =
      (bif decide ((i : Int) < (s.length : Int)) then (
        bif (wadd .i64 (i : Int) 1 == (s.length : Int)) then (
        some (Sum.inl (i : Int)))
        else
        (ix s (i : Int)).bind fun b4 =>
        (F_strings_IndexByte_v1 (b4.toNat : Int)).bind fun i5 =>
        (ix s (wadd .i64 (i : Int) 1)).bind fun b6 =>
        (F_strings_IndexByte_v1 (b6.toNat : Int)).bind fun i7 =>
        bif decide (i5 < 0) then (
        some (Sum.inl (i : Int)))
        else
        bif decide (i7 < 0) then (
        some (Sum.inl (i : Int)))
        else
        (toB (IntKind.wrap .u8 (bits .or .i64 (wshl .i64 i5 4) i7))).bind fun b8 =>
        (app 1 acc [b8]).bind fun l9 =>
        F_dump_ParseHex_l0 N n (s, wadd .i64 (i : Int) 2, l9))
        else
        some (Sum.inr acc)) := rfl
    rw [step]
    rw [show wadd .i64 (i : Int) 1 = ((i + 1 : Nat) : Int) from wadd_n (b := 1) (by omega), show wadd .i64 (i : Int) 2 = ((i + 2 : Nat) : Int) from wadd_n (b := 2) (by omega)]
    rcases Nat.lt_or_ge i s.length with hi | hi
    · rw [decide_eq_true (show (i : Int) < (s.length : Int) by omega)]
      rcases Nat.lt_or_ge (i + 1) s.length with hj | hj
      · rw [beq_eq_false_iff_ne.2 (show ((i + 1 : Nat) : Int) ≠ (s.length : Int) by omega)]
        have g0 := List.getElem?_eq_getElem hi
        have g1 := List.getElem?_eq_getElem hj
        have hd : s.drop i = s[i] :: s[i + 1] :: s.drop (i + 2) := by
          rw [List.drop_eq_getElem_cons hi, List.drop_eq_getElem_cons hj]
        rw [ix_n g0, ix_n g1, hd]
        generalize s[i] = x at *
        generalize s[i + 1] = y at *
        simp only [cond_true, cond_false, Option.bind_some]
        rw [show F_strings_IndexByte_v1 (x.toNat : Int) = some (hv x) from rfl, show F_strings_IndexByte_v1 (y.toNat : Int) = some (hv y) from rfl]
        simp only [Option.bind_some, pr]
        rcases hv_cases x with hx | ⟨a, hx, ha⟩
        · rw [decide_eq_true hx, if_pos hx]; rfl
        · rw [hx, decide_eq_false (show ¬(a : Int) < 0 by omega), if_neg (show ¬(a : Int) < 0 by omega)]
          rcases hv_cases y with hy | ⟨b, hy, hb⟩
          · rw [decide_eq_true hy, if_pos hy]; rfl
          · rw [hy, decide_eq_false (show ¬(b : Int) < 0 by omega), if_neg (show ¬(b : Int) < 0 by omega), (byte_pr ha hb).1]
            simp only [cond_false, Option.bind_some]
            rw [app1 _ _ (by omega)]
            simp only [Option.bind_some]
            rw [pr_loop N n s _ (i + 2) (by omega) (by rw [List.length_append, List.length_singleton]; omega) h3 (by omega)]
            rfl
      · rw [show ((i + 1 : Nat) : Int) = (s.length : Int) from by omega, beq_self_eq_true, List.drop_eq_getElem_cons hi, List.drop_eq_nil_of_le (by omega)]
        rfl
    · rw [decide_eq_false (show ¬(i : Int) < (s.length : Int) by omega), List.drop_eq_nil_of_le (by omega)]
      rfl
theorem rr_loop (k : Nat) : ∀ (n : Nat) (s acc : Bs) (i : Nat), s.length + 1 < n + i → acc.length + s.length < 1000000 + i → s.length < 1000000 → i ≤ s.length → F_cref29_ParseHex_l0 (k + 17) n (s, (i : Int), acc) = some (match rr acc (s.drop i) with | .inl u => .inl u | .inr l => .inr (s, l))
  | 0, s, acc, i, h1, h2, h3, h4 => by omega
  | n + 1, s, acc, i, h1, h2, h3, h4 => by
    have step : F_cref29_ParseHex_l0 (k + 17) (n + 1) (s, (i : Int), acc) =
      (bif decide (wadd .i64 (i : Int) 1 < (s.length : Int)) then (
        (ix s (i : Int)).bind fun b4 =>
        (F_cref29_value (k + 17) (b4.toNat : Int)).bind fun i5 =>
        bif decide (i5 < 0) then (
        some (Sum.inl ()))
        else
        (ix s (wadd .i64 (i : Int) 1)).bind fun b6 =>
        (F_cref29_value (k + 17) (b6.toNat : Int)).bind fun i7 =>
        bif decide (i7 < 0) then (
        some (Sum.inl ()))
        else
        (ix s (i : Int)).bind fun b8 =>
        (F_cref29_value (k + 17) (b8.toNat : Int)).bind fun i9 =>
        (ix s (wadd .i64 (i : Int) 1)).bind fun b10 =>
        (F_cref29_value (k + 17) (b10.toNat : Int)).bind fun i11 =>
        (toB (IntKind.wrap .u8 (wadd .i64 (wmul .i64 16 i9) i11))).bind fun b12 =>
        (app 1 acc [b12]).bind fun l13 =>
        F_cref29_ParseHex_l0 (k + 17) n (s, wadd .i64 (i : Int) 2, l13))
        else
        some (Sum.inr (s, acc))) := rfl
    rw [step]
    rw [show wadd .i64 (i : Int) 1 = ((i + 1 : Nat) : Int) from wadd_n (b := 1) (by omega), show wadd .i64 (i : Int) 2 = ((i + 2 : Nat) : Int) from wadd_n (b := 2) (by omega)]
    rcases Nat.lt_or_ge (i + 1) s.length with hj | hj
    · rw [decide_eq_true (show ((i + 1 : Nat) : Int) < (s.length : Int) by omega)]
      have hi : i < s.length := by omega
      have g0 := List.getElem?_eq_getElem hi
      have g1 := List.getElem?_eq_getElem hj
      have hd : s.drop i = s[i] :: s[i + 1] :: s.drop (i + 2) := by
        rw [List.drop_eq_getElem_cons hi, List.drop_eq_getElem_cons hj]
      rw [ix_n g0, ix_n g1, hd]
      generalize s[i] = x at *
      generalize s[i + 1] = y at *
      simp only [cond_true, Option.bind_some, value_val]
      simp only [rr]
      rcases hv_cases x with hx | ⟨a, hx, ha⟩
      · rw [decide_eq_true hx, if_pos hx]; rfl
      · rw [hx, decide_eq_false (show ¬(a : Int) < 0 by omega), if_neg (show ¬(a : Int) < 0 by omega)]
        rcases hv_cases y with hy | ⟨b, hy, hb⟩
        · rw [decide_eq_true hy, if_pos hy]; rfl
        · rw [hy, decide_eq_false (show ¬(b : Int) < 0 by omega), if_neg (show ¬(b : Int) < 0 by omega), (byte_pr ha hb).2]
          simp only [cond_false, Option.bind_some]
          rw [app1 _ _ (by omega)]
          simp only [Option.bind_some]
          rw [rr_loop k n s _ (i + 2) (by omega) (by rw [List.length_append, List.length_singleton]; omega) h3 (by omega)]
    · rw [decide_eq_false (show ¬((i + 1 : Nat) : Int) < (s.length : Int) by omega)]
      rcases Nat.lt_or_ge i s.length with hi | hi
      · rw [List.drop_eq_getElem_cons hi, List.drop_eq_nil_of_le (show s.length ≤ i + 1 by omega)]
        rfl
      · rw [List.drop_eq_nil_of_le (by omega)]
        rfl
theorem pr_rr : ∀ (n : Nat) (r acc : Bs) (i : Int), r.length < n → 0 ≤ i →
    (∃ m, pr acc i r = .inr (acc ++ m) ∧ rr acc r = .inr (acc ++ m) ∧ hexL m = r) ∨ (∃ j, pr acc i r = .inl j ∧ i ≤ j ∧ j ≤ i + r.length ∧ (rr acc r = .inl () ∨ r.length % 2 = 1))
  | 0, _, _, _, h, _ => by omega
  | n + 1, [], acc, i, _, _ => .inl ⟨[], by rw [List.append_nil]; rfl, by rw [List.append_nil]; rfl, rfl⟩
  | n + 1, [x], acc, i, _, _ => .inr ⟨i, rfl, Int.le_refl i, by simp; omega, .inr rfl⟩
  | n + 1, x :: y :: r, acc, i, h, h0 => by
    simp only [pr, rr, List.length_cons] at h ⊢
    rcases hv_cases x with hx | ⟨a, hx, ha⟩
    · rw [if_pos hx, if_pos hx]
      exact .inr ⟨i, rfl, Int.le_refl i, by omega, .inl rfl⟩
    · rw [if_neg (show ¬hv x < 0 by omega), if_neg (show ¬hv x < 0 by omega)]
      rcases hv_cases y with hy | ⟨b, hy, hb⟩
      · rw [if_pos hy, if_pos hy]
        exact .inr ⟨i, rfl, Int.le_refl i, by omega, .inl rfl⟩
      · rw [if_neg (show ¬hv y < 0 by omega), if_neg (show ¬hv y < 0 by omega)]
        rcases pr_rr n r (acc ++ [byH (hv x) (hv y)]) (i + 2) (by omega) (by omega) with ⟨m, h1, h2, h3⟩ | ⟨j, h1, h2, h3, h4⟩
        · refine .inl ⟨byH (hv x) (hv y) :: m, by rw [h1, List.append_assoc]; rfl, by rw [h2, List.append_assoc]; rfl, ?_⟩
          rw [show hexL (byH (hv x) (hv y) :: m) = [hexAt ((byH (hv x) (hv y)).toNat / 16), hexAt ((byH (hv x) (hv y)).toNat % 16)] ++ hexL m from by simp [hexL], h3, hx, hy]
          have e : (byH (a : Int) (b : Int)).toNat = 16 * a + b := by
            rw [show byH (a : Int) (b : Int) = UInt8.ofNat (16 * a + b) from rfl, UInt8.toNat_ofNat_of_lt' (by show _ < 256; omega)]
          rw [e, show (16 * a + b) / 16 = a from by omega, show (16 * a + b) % 16 = b from by omega, (hv_lt hx).2, (hv_lt hy).2]
          rfl
        · exact .inr ⟨j, h1, by omega, by omega, h4.imp id (by omega)⟩
theorem pr_hex : ∀ (m acc : Bs) (i : Int), pr acc i (hexL m) = .inr (acc ++ m)
  | [], acc, i => by rw [List.append_nil]; rfl
  | x :: m, acc, i => by
    have hx : x.toNat < 256 := x.toNat_lt
    rw [show hexL (x :: m) = hexAt (x.toNat / 16) :: hexAt (x.toNat % 16) :: hexL m from by simp [hexL]]
    simp only [pr]
    rw [hv_hex (show x.toNat / 16 < 16 by omega), hv_hex (show x.toNat % 16 < 16 by omega), if_neg (by omega), if_neg (by omega), pr_hex m]
    have e : byH ((x.toNat / 16 : Nat) : Int) ((x.toNat % 16 : Nat) : Int) = x := by
      apply UInt8.toNat_inj.1
      rw [show byH ((x.toNat / 16 : Nat) : Int) ((x.toNat % 16 : Nat) : Int) = UInt8.ofNat (16 * (x.toNat / 16) + x.toNat % 16) from rfl, UInt8.toNat_ofNat_of_lt' (by show _ < 256; omega)]
      omega
    rw [e, List.append_assoc]
    rfl
theorem hexL_length : ∀ (l : Bs), (hexL l).length = 2 * l.length
  | [] => rfl
  | x :: l => by
    have := hexL_length l
    rw [show hexL (x :: l) = hexAt (x.toNat / 16) :: hexAt (x.toNat % 16) :: hexL l from by simp [hexL]]
    simp only [List.length_cons, this]
    omega
def res1 : Int ⊕ Bs → Bs × (Int × Int)
  | .inl i => ([], 11, i)
  | .inr l => (l, 0, 0)
theorem parse_val {N : Nat} {s : Bs} (hN : s.length + 2 < N) (hs : s.length < 1000000) : F_dump_ParseHex N s = some (res1 (pr [] 0 s)) := by
  unfold F_dump_ParseHex
  rw [show F_dump_ParseHex_l0 N N (s, 0, []) = some (pr [] 0 s) from pr_loop N N s [] 0 (by omega) (by simp; omega) hs (by omega)]
  cases pr [] 0 s <;> rfl
theorem rparse_val {k : Nat} {s : Bs} (hN : s.length + 2 < k) (hs : s.length < 1000000) : F_cref29_ParseHex (k + 17) s = some (match rr [] s with | .inl _ => ([], false) | .inr l => (l, decide (s.length % 2 = 0))) := by
  unfold F_cref29_ParseHex
  rw [show F_cref29_ParseHex_l0 (k + 17) (k + 17) (s, 0, []) = some (match rr [] s with | .inl u => .inl u | .inr l => .inr (s, l)) from rr_loop k (k + 17) s [] 0 (by omega) (by simp; omega) hs (by omega)]
  cases rr [] s with
  | inl _ => rfl
  | inr l =>
    show some (l, (Int.tmod (s.length : Int) 2 == 0)) = some (l, decide (s.length % 2 = 0))
    rw [Int.tmod_eq_emod_of_nonneg (by omega)]
    congr 2
    rcases Nat.mod_two_eq_zero_or_one s.length with h | h
    · rw [decide_eq_true h, beq_iff_eq]; omega
    · rw [decide_eq_false (by omega), beq_eq_false_iff_ne]; omega
theorem hexF_val {l : Bs} (h : l.length < 1000000) : F_Hex l = some (hexL l) := by
  unfold F_Hex
  rw [show Nat.ble l.length 70368744177664 = true from Nat.ble_eq_true_of_le (by omega)]
  rfl
theorem hex_true (k : Nat) (hk : 10000 < k) (b s : Bs) : F_claw29_DumpHex (k + 17) b s = some true := by
  unfold F_claw29_DumpHex F_awakeD
  simp only [Option.bind_some, Bool.not_true, cond_false]
  by_cases hb : (b.length : Int) > 2000
  · rw [decide_eq_true hb]; rfl
  rw [decide_eq_false hb]
  by_cases hs : (s.length : Int) > 2000
  · rw [decide_eq_true hs]; rfl
  rw [decide_eq_false hs]
  simp only [cond_false]
  have lh := hexL_length b
  rw [hexF_val (by omega)]
  simp only [Option.bind_some]
  rw [parse_val (by omega) (by omega), pr_hex b [] 0, List.nil_append]
  simp only [Option.bind_some, res1]
  rw [parse_val (by omega) (by omega)]
  simp only [Option.bind_some]
  rw [rparse_val (by omega) (by omega)]
  simp only [Option.bind_some]
  rw [lh, show wmul .i64 2 (b.length : Int) = ((2 * b.length : Nat) : Int) from by show IntKind.i64.wrap (2 * (b.length : Int)) = _; rw [Go.IntWalk.i64_in _ (by omega)]; omega]
  simp only [bne_self_eq_false, cond_false, F_cbase_Bytes, Option.bind_some, beq_self_eq_true, Bool.not_true, Bool.and_self]
  rcases pr_rr (s.length + 1) s [] 0 (by omega) (by omega) with ⟨m, h1, h2, h3⟩ | ⟨j, h1, h2, h3, h4⟩
  · have hl := hexL_length m
    rw [h3] at hl
    rw [h1, h2, List.nil_append]
    simp only [res1]
    rw [decide_eq_true (show s.length % 2 = 0 by omega)]
    simp only [F_cbase_Within, beq_self_eq_true, Bool.not_true, cond_false, cond_true, Option.bind_some]
    rw [hexF_val (by omega), h3]
    simp only [Option.bind_some, beq_self_eq_true]
  · rw [h1]
    have hr : ∃ d, (match rr [] s with | .inl _ => (([] : Bs), false) | .inr l => (l, decide (s.length % 2 = 0))) = (d, false) := by
      rcases h4 with h4 | h4
      · rw [h4]; exact ⟨_, rfl⟩
      · cases rr [] s with
        | inl _ => exact ⟨_, rfl⟩
        | inr l => exact ⟨l, by rw [decide_eq_false (by omega)]⟩
    obtain ⟨d, hd⟩ := hr
    rw [hd]
    have w : F_cbase_Within ((11 : Int), j) (s.length : Int) = some true := by
      show (bif decide (j ≥ 0) then some (decide (j ≤ (s.length : Int))) else some false : Option Bool) = _
      rw [decide_eq_true (show j ≥ 0 by omega), decide_eq_true (show j ≤ (s.length : Int) by omega)]
      rfl
    show (bif !(((11 : Int) == 0) == false) then some false else (F_cbase_Within ((11 : Int), j) (s.length : Int)).bind _ : Option Bool) = some true
    rw [w]
    rfl
end Go.Fw
namespace Go.Proofs.Tryz
open Go Go.Fw
def tTC : TC := .pair (.int .i64) (.pair (.int .i64) (.pair (.int .i64) (.pair (.int .i64) (.pair (.int .i64) (.int .i64)))))
theorem law_dates (t : tTC.Den) : PureOK prog 3 [.agg (tTC.cells t)] (.bool true) := by
  obtain ⟨_, _, _, h⟩ := c_claw29_DumpDates 5
  obtain ⟨v, h1, _, h3⟩ := h t true (dates_true 0 t)
  have e : v = .bool true := by
    have h1 : some ((SV.bool true, ([] : List DV))) = some (v, []) := h1
    cases h1; rfl
  subst e
  exact h3 _ rfl _ (by simp only [VRs, VR]; exact ⟨_, _, rfl, ⟨_, rfl, _, _, rfl, rfl, _, _, rfl, rfl, _, _, rfl, rfl, _, _, rfl, rfl, _, _, rfl, rfl, _, _, rfl, rfl, rfl⟩, rfl⟩)
theorem law_hex (b s : List UInt8) (f : Bool) : PureOK prog 4 [.list (flatE byteE b) b.length f, .str s] (.bool true) := by
  obtain ⟨_, _, _, h⟩ := c_claw29_DumpHex 10018
  obtain ⟨v, h1, _, h3⟩ := h (b, s) true (hex_true 10001 (by decide) b s)
  have e : v = .bool true := by
    have h1 : some ((SV.bool true, ([] : List DV))) = some (v, []) := h1
    cases h1; rfl
  subst e
  exact h3 _ rfl _ (by simp only [VRs, VR]; exact ⟨_, _, rfl, ⟨f, rfl, fun h => (by cases h)⟩, _, _, rfl, rfl, rfl⟩)
end Go.Proofs.Tryz
namespace Go.Proofs.Tryz
open Go Go.Fw Go.RowKit Go.ChangeShapes Go.WideShapes
set_option maxRecDepth 100000
theorem u23 : ∃ fs, prog.underlying 23 = some (.struct fs) := by
  have h : (match prog.underlying 23 with | some (.struct _) => true | _ => false) = true := by kernel_rfl
  split at h
  · rename_i fs hfs
    exact ⟨fs, hfs⟩
  · cases h
theorem u9 : prog.underlying 9 = some .string := by kernel_rfl
section
variable {H : Type} {enc : TypeId × Value → H} {W : World} {base b0 : Nat} {sp : Nat → Bool} {held : Bool}
theorem open_dates {v0 : Value} {d0 : DataW H} {q0 : List MemPlace} (k0 : Value.okWide prog W .any b0 23 v0) (h0 : DataW.Trod enc prog W base sp held 23 v0 d0 q0) :
    ∃ t : tTC.Den, Reps (snap G0 W) [.agg (tTC.cells t)] [v0] := by
  obtain ⟨fs, hfs⟩ := u23
  obtain ⟨n0, e0⟩ := h0
  obtain ⟨cs, rfl, _⟩ := okWide_struct hfs k0
  obtain ⟨y, r1, _, _⟩ := open_tc (P := prog) (enc := enc) G0 20 tTC 23 (by kernel_rfl) n0 _ _ e0
  refine ⟨y, ?_⟩
  simp only [Reps]
  refine ⟨_, _, rfl, ?_, rfl⟩
  simp only [Rep]
  exact ⟨cs, rfl, r1⟩
theorem open_hex {v0 v1 : Value} {d0 d1 : DataW H} {q0 q1 : List MemPlace} (k0 : Value.okWide prog W .any b0 27 v0) (k1 : Value.okWide prog W .any b0 9 v1) (h0 : DataW.Trod enc prog W base sp held 27 v0 d0 q0) (h1 : DataW.Trod enc prog W base sp held 9 v1 d1 q1) :
    ∃ b s : List UInt8, Reps (snap G0 W) [.list (flatE byteE b) b.length false, .str s] [v0, v1] := by
  obtain ⟨n0, e0⟩ := h0
  obtain ⟨n1, e1⟩ := h1
  obtain ⟨a, l, c, rfl⟩ := okWide_slice us_cl k0
  obtain ⟨x, rfl⟩ := okWide_string u9 k1
  obtain ⟨b, r0, _, _⟩ := open_tc (P := prog) (enc := enc) G0 20 (.sl .byte) 27 (by kernel_rfl) n0 _ _ e0
  obtain ⟨s, r1, _, _⟩ := open_tc (P := prog) (enc := enc) G0 20 .str 9 (by kernel_rfl) n1 _ _ e1
  refine ⟨b, s, ?_⟩
  have t0 : Reps (snap G0 W) [.list (flatE byteE b) b.length false] [.slice a l c] := r0
  have t1 : Reps (snap G0 W) [.str s] [.string x] := r1
  simp only [Reps] at t0 t1 ⊢
  obtain ⟨v, r, e, hv, rfl⟩ := t0
  cases e
  exact ⟨_, _, rfl, hv, t1⟩
end
theorem globs_n : prog.globals.size = 8 := by kernel_rfl
theorem globs_all : ((List.range 8).all fun g => match globOf prog g with | none => true | some _ => Nat.beq g 6 || Nat.beq g 7) = true := by kernel_rfl
theorem globs {g : Nat} {cs : List D} (h : globOf prog g = some cs) : cs = [.anyi] ∧ (g = 6 ∨ g = 7) := by
  constructor
  · unfold globOf globTab at h
    obtain ⟨v, _, h⟩ := Option.bind_eq_some_iff.1 h
    split at h
    · cases h; rfl
    · split at h
      · cases h; rfl
      · cases h
  · have hg : g < 8 := by
      rw [← globs_n]
      unfold globOf at h
      obtain ⟨v, hv, _⟩ := Option.bind_eq_some_iff.1 h
      exact (Array.getElem?_eq_some_iff.1 hv).1
    have ha := List.all_eq_true.1 globs_all g (List.mem_range.2 hg)
    rw [h] at ha
    simp only [Bool.or_eq_true] at ha
    rcases ha with ha | ha
    · exact .inl (Nat.eq_of_beq_eq_true ha)
    · exact .inr (Nat.eq_of_beq_eq_true ha)
theorem var_heap {W : World} {n : String} {g : Nat} {l : Array Value} (hg : prog.globalNamed n = some g) (h : W.var? prog n = some l) : ∃ t f, W.heap[g]? = some (.cells l t f) := by
  unfold World.var? at h
  rw [hg] at h
  simp only [Option.bind_some] at h
  split at h
  · rename_i cs t f hc
    cases h
    exact ⟨t, f, hc⟩
  · cases h
theorem var_cell {W : World} {n : String} {g : Nat} {x : Value} (hg : prog.globalNamed n = some g) (h : W.var? prog n = some #[x]) : g < W.heap.size ∧ W.cell? ⟨g, 0, none⟩ = some x := by
  obtain ⟨t, f, hc⟩ := var_heap hg h
  refine ⟨lt_of_some hc, ?_⟩
  unfold World.cell?
  rw [hc]
  rfl
theorem glob_ok {W : World} {t1 t2 : TypeId} {x1 x2 : Value} (hp : Lib.TabIs prog W "internal/strconv.uint64pow10" .u64 Lib.pow10Tab) (h1 : W.var? prog "strconv.ErrSyntax" = some #[.iface t1 x1]) (h2 : W.var? prog "strconv.ErrRange" = some #[.iface t2 x2]) : GlobOk prog (snap G0 W) W := by
  refine ⟨fun g cs h => ?_, ⟨fun g hg => var_heap hg hp⟩⟩
  obtain ⟨rfl, hg⟩ := globs h
  have key : ∃ t x, g < W.heap.size ∧ W.cell? ⟨g, 0, none⟩ = some (.iface t x) := by
    rcases hg with rfl | rfl
    · exact ⟨t1, x1, var_cell (by kernel_rfl) h1⟩
    · exact ⟨t2, x2, var_cell (by kernel_rfl) h2⟩
  obtain ⟨t, x, k1, k2⟩ := key
  refine ⟨k1, ?_⟩
  simp only [Rep]
  exact ⟨g, 0, rfl, ⟨_, k2, by simp only [Rep]; exact ⟨t, x, rfl⟩⟩, trivial⟩
end Go.Proofs.Tryz
