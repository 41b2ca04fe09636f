/- A framework for proofs about Go programs in this model: part M. Everything is proved; no condition is added. -/
import Derived.Shelf.Strings.Builder1
import Derived.Shelf.Strings.Builder2
import Derived.Shelf.Strings.OnBuilder
import Derived.Shelf.LaysM
import Derived.Shelf.LaysC
import Derived.Shelf.Pu.ParseUintPublic10
import Derived.Shelf.Pu.ErrVarParseUint
import Derived.Test.YtnckoelcmkdeeaaGreatDoorProg
set_option linter.unusedVariables false
set_option linter.unusedSimpArgs false
/- the library contracts that are needed, at this program (what the shelf's tools printed, in plain words) -/
namespace Go.Proofs
open Go.Shelf
def Tryz.lays156_ren : Go.Shelf.Ren := ⟨fun | 156 => 351 | 165 => 435 | 166 => 436 | 169 => 437 | 240 => 493 | 241 => 494 | 276 => 525 | 277 => 526 | n => n, fun | 31 => 71 | 9 => 9 | 3 => 3 | 4 => 4 | 0 => 0 | 20 => 20 | 72 => 551 | 76 => 553 | 70 => 549 | 37 => 22 | 75 => 527 | 127 => 596 | 164 => 623 | 5 => 5 | 80 => 555 | n => n, fun | n => n⟩
theorem Tryz.lays156 : Go.Proofs.Lays.n156 Tryz.prog Tryz.lays156_ren := {
  mixed := by kernel_rfl
  f156 := Tryz.func351.trans (congrArg some (by kernel_rfl))
  f165 := Tryz.func435.trans (congrArg some (by kernel_rfl))
  f166 := Tryz.func436.trans (congrArg some (by kernel_rfl))
  f169 := Tryz.func437.trans (congrArg some (by kernel_rfl))
  f240 := Tryz.func493.trans (congrArg some (by kernel_rfl))
  f241 := Tryz.func494.trans (congrArg some (by kernel_rfl))
  f276 := Tryz.func525.trans (congrArg some (by kernel_rfl))
  f277 := Tryz.func526.trans (congrArg some (by kernel_rfl))
  t0 := Tryz.underlying0
  a0 := Tryz.isAgg0
  z0 := Tryz.sizeOf0
  v0 := Tryz.zeroValue0
  t3 := Tryz.underlying3
  a3 := Tryz.isAgg3
  z3 := Tryz.sizeOf3
  v3 := Tryz.zeroValue3
  t4 := Tryz.underlying4
  a4 := Tryz.isAgg4
  z4 := Tryz.sizeOf4
  v4 := Tryz.zeroValue4
  t9 := Tryz.underlying9
  a9 := Tryz.isAgg9
  z9 := Tryz.sizeOf9
  v9 := Tryz.zeroValue9
  t20 := Tryz.underlying20
  a20 := Tryz.isAgg20
  z20 := Tryz.sizeOf20
  v20 := Tryz.zeroValue20
  t31 := Tryz.underlying71
  a31 := Tryz.isAgg71
  z31 := Tryz.sizeOf71
  v31 := Tryz.zeroValue71
  t37 := Tryz.underlying22
  a37 := Tryz.isAgg22
  z37 := Tryz.sizeOf22
  v37 := Tryz.zeroValue22
  t70 := Tryz.underlying549
  a70 := Tryz.isAgg549
  z70 := Tryz.sizeOf549
  v70 := Tryz.zeroValue549
  t72 := Tryz.underlying551
  a72 := Tryz.isAgg551
  z72 := Tryz.sizeOf551
  v72 := Tryz.zeroValue551
  t75 := Tryz.underlying527
  a75 := Tryz.isAgg527
  z75 := Tryz.sizeOf527
  v75 := Tryz.zeroValue527
  t76 := Tryz.underlying553
  a76 := Tryz.isAgg553
  z76 := Tryz.sizeOf553
  v76 := Tryz.zeroValue553
  t127 := Tryz.underlying596
  a127 := Tryz.isAgg596
  z127 := Tryz.sizeOf596
  v127 := Tryz.zeroValue596
  t164 := Tryz.underlying623
  a164 := Tryz.isAgg623
  z164 := Tryz.sizeOf623
  v164 := Tryz.zeroValue623 }
theorem Tryz.Builder_Extra_156 : Builder.Extra Tryz.prog Tryz.lays156_ren := {
  sizeBuilder := by kernel_rfl
  liesBuilder := by kernel_rfl
  t5 := Tryz.underlying5
  a5 := Tryz.isAgg5
  z5 := Tryz.sizeOf5
  v5 := Tryz.zeroValue5
  infoByte := by kernel_rfl
  cellsByte := by kernel_rfl
  sizeByte := by kernel_rfl
  neB5 := by decide }
open Go.RowKit in
/-- No element: the empty string; the world is as it was. (Whatever the slice's address and capacity: a nil slice too.) (LAID: no walk: one application.) -/
theorem Tryz.strings_Join_none (a : Option Addr) (c : Nat) (sep : ByteArray) (w : World) :
    Calls Tryz.prog 351 #[.slice a 0 c, .string sep] w fun e w' => e = .returned (.string ⟨#[]⟩) ∧ w' = w := Any.strings_Join_none Tryz.lays156 Tryz.Builder_Extra_156 a c sep w
open Go.RowKit in
/-- strings.Join: "Join concatenates the elements of its first argument to create a single string. The separator string sep is placed between elements in the resulting string.": HOWEVER MANY ELEMENTS. Below the heap's end the world is as it was. (LAID: no walk: one application.) -/
theorem Tryz.strings_Join (bk o c : Nat) (xs : List ByteArray) (sep : ByteArray) (w : World) (hcells : ∀ (j : Nat) x, xs[j]? = some x → w.cell? ⟨bk, o + j, none⟩ = some (.string x)) (hbk : bk < w.heap.size) (hN : xs.length ≤ 140737488355328) (hcap : xs.length ≤ c) (hlen : (Lib.join (xs.map (·.data.toList)) sep.data.toList).length ≤ 140737488355328) :
    Calls Tryz.prog 351 #[.slice (some ⟨bk, o, none⟩) xs.length c, .string sep] w fun e w' => e = .returned (.string ⟨(Lib.join (xs.map (·.data.toList)) sep.data.toList).toArray⟩) ∧ Below w.heap.size w w' := Any.strings_Join Tryz.lays156 Tryz.Builder_Extra_156 bk o c xs sep w hcells hbk hN hcap hlen
def Tryz.laysPu14_ren : Go.Shelf.Ren := ⟨fun | 14 => 396 | 16 => 462 | 17 => 463 | 19 => 506 | 20 => 507 | 21 => 508 | 22 => 509 | 23 => 510 | 24 => 511 | 25 => 542 | 27 => 544 | 26 => 543 | 28 => 559 | 29 => 565 | 30 => 489 | 31 => 490 | 32 => 491 | 33 => 492 | 35 => 521 | 34 => 520 | 36 => 522 | 37 => 523 | 38 => 524 | 39 => 547 | 40 => 548 | n => n, fun | 9 => 9 | 3 => 3 | 22 => 346 | 24 => 527 | 25 => 528 | 4 => 4 | 34 => 610 | 5 => 5 | 36 => 347 | 37 => 22 | 0 => 0 | 39 => 612 | 21 => 21 | 44 => 637 | 47 => 596 | 50 => 649 | 48 => 647 | 2 => 2 | 52 => 591 | 55 => 594 | 59 => 620 | 60 => 348 | 20 => 20 | 61 => 621 | 65 => 651 | 66 => 652 | 67 => 555 | n => n, fun | 0 => 1 | 1 => 2 | 2 => 0 | 3 => 6 | 4 => 7 | n => n⟩
theorem Tryz.laysPu14 : Go.Proofs.LaysPu.n14 Tryz.prog Tryz.laysPu14_ren := {
  mixed := by kernel_rfl
  f14 := Tryz.func396.trans (congrArg some (by kernel_rfl))
  f16 := Tryz.func462.trans (congrArg some (by kernel_rfl))
  f17 := Tryz.func463.trans (congrArg some (by kernel_rfl))
  f19 := Tryz.func506.trans (congrArg some (by kernel_rfl))
  f20 := Tryz.func507.trans (congrArg some (by kernel_rfl))
  f21 := Tryz.func508.trans (congrArg some (by kernel_rfl))
  f22 := Tryz.func509.trans (congrArg some (by kernel_rfl))
  f23 := Tryz.func510.trans (congrArg some (by kernel_rfl))
  f24 := Tryz.func511.trans (congrArg some (by kernel_rfl))
  f25 := Tryz.func542.trans (congrArg some (by kernel_rfl))
  f26 := Tryz.func543.trans (congrArg some (by kernel_rfl))
  f27 := Tryz.func544.trans (congrArg some (by kernel_rfl))
  f28 := Tryz.func559.trans (congrArg some (by kernel_rfl))
  f29 := Tryz.func565.trans (congrArg some (by kernel_rfl))
  f30 := Tryz.func489.trans (congrArg some (by kernel_rfl))
  f31 := Tryz.func490.trans (congrArg some (by kernel_rfl))
  f32 := Tryz.func491.trans (congrArg some (by kernel_rfl))
  f33 := Tryz.func492.trans (congrArg some (by kernel_rfl))
  f34 := Tryz.func520.trans (congrArg some (by kernel_rfl))
  f35 := Tryz.func521.trans (congrArg some (by kernel_rfl))
  f36 := Tryz.func522.trans (congrArg some (by kernel_rfl))
  f37 := Tryz.func523.trans (congrArg some (by kernel_rfl))
  f38 := Tryz.func524.trans (congrArg some (by kernel_rfl))
  f39 := Tryz.func547.trans (congrArg some (by kernel_rfl))
  f40 := Tryz.func548.trans (congrArg some (by kernel_rfl))
  t0 := Tryz.underlying0
  a0 := Tryz.isAgg0
  z0 := Tryz.sizeOf0
  v0 := Tryz.zeroValue0
  i0 := by kernel_rfl
  t2 := Tryz.underlying2
  a2 := Tryz.isAgg2
  z2 := Tryz.sizeOf2
  v2 := Tryz.zeroValue2
  i2 := by kernel_rfl
  t3 := Tryz.underlying3
  a3 := Tryz.isAgg3
  z3 := Tryz.sizeOf3
  v3 := Tryz.zeroValue3
  i3 := by kernel_rfl
  t4 := Tryz.underlying4
  a4 := Tryz.isAgg4
  z4 := Tryz.sizeOf4
  v4 := Tryz.zeroValue4
  i4 := by kernel_rfl
  t5 := Tryz.underlying5
  a5 := Tryz.isAgg5
  z5 := Tryz.sizeOf5
  v5 := Tryz.zeroValue5
  i5 := by kernel_rfl
  t9 := Tryz.underlying9
  a9 := Tryz.isAgg9
  z9 := Tryz.sizeOf9
  v9 := Tryz.zeroValue9
  i9 := by kernel_rfl
  t20 := Tryz.underlying20
  a20 := Tryz.isAgg20
  z20 := Tryz.sizeOf20
  v20 := Tryz.zeroValue20
  i20 := by kernel_rfl
  t21 := Tryz.underlying21
  a21 := Tryz.isAgg21
  z21 := Tryz.sizeOf21
  v21 := Tryz.zeroValue21
  i21 := by kernel_rfl
  t22 := Tryz.underlying346
  a22 := Tryz.isAgg346
  z22 := Tryz.sizeOf346
  v22 := Tryz.zeroValue346
  i22 := by kernel_rfl
  t24 := Tryz.underlying527
  a24 := Tryz.isAgg527
  z24 := Tryz.sizeOf527
  v24 := Tryz.zeroValue527
  i24 := by kernel_rfl
  t25 := Tryz.underlying528
  a25 := Tryz.isAgg528
  z25 := Tryz.sizeOf528
  v25 := Tryz.zeroValue528
  i25 := by kernel_rfl
  t34 := Tryz.underlying610
  a34 := Tryz.isAgg610
  z34 := Tryz.sizeOf610
  v34 := Tryz.zeroValue610
  i34 := by kernel_rfl
  c34 := by kernel_rfl
  t36 := Tryz.underlying347
  a36 := Tryz.isAgg347
  z36 := Tryz.sizeOf347
  v36 := Tryz.zeroValue347
  i36 := by kernel_rfl
  t37 := Tryz.underlying22
  a37 := Tryz.isAgg22
  z37 := Tryz.sizeOf22
  v37 := Tryz.zeroValue22
  i37 := by kernel_rfl
  t39 := Tryz.underlying612
  a39 := Tryz.isAgg612
  z39 := Tryz.sizeOf612
  v39 := Tryz.zeroValue612
  i39 := by kernel_rfl
  t44 := Tryz.underlying637
  a44 := Tryz.isAgg637
  z44 := Tryz.sizeOf637
  v44 := Tryz.zeroValue637
  i44 := by kernel_rfl
  t47 := Tryz.underlying596
  a47 := Tryz.isAgg596
  z47 := Tryz.sizeOf596
  v47 := Tryz.zeroValue596
  i47 := by kernel_rfl
  t48 := Tryz.underlying647
  a48 := Tryz.isAgg647
  z48 := Tryz.sizeOf647
  v48 := Tryz.zeroValue647
  i48 := by kernel_rfl
  t50 := Tryz.underlying649
  a50 := Tryz.isAgg649
  z50 := Tryz.sizeOf649
  v50 := Tryz.zeroValue649
  i50 := by kernel_rfl
  t52 := Tryz.underlying591
  a52 := Tryz.isAgg591
  z52 := Tryz.sizeOf591
  v52 := Tryz.zeroValue591
  i52 := by kernel_rfl
  t55 := Tryz.underlying594
  a55 := Tryz.isAgg594
  z55 := Tryz.sizeOf594
  v55 := Tryz.zeroValue594
  i55 := by kernel_rfl
  t59 := Tryz.underlying620
  a59 := Tryz.isAgg620
  z59 := Tryz.sizeOf620
  v59 := Tryz.zeroValue620
  i59 := by kernel_rfl
  t60 := Tryz.underlying348
  a60 := Tryz.isAgg348
  z60 := Tryz.sizeOf348
  v60 := Tryz.zeroValue348
  i60 := by kernel_rfl
  t61 := Tryz.underlying621
  a61 := Tryz.isAgg621
  z61 := Tryz.sizeOf621
  t65 := Tryz.underlying651
  a65 := Tryz.isAgg651
  z65 := Tryz.sizeOf651
  v65 := Tryz.zeroValue651
  i65 := by kernel_rfl
  t66 := Tryz.underlying652
  a66 := Tryz.isAgg652
  z66 := Tryz.sizeOf652
  v66 := Tryz.zeroValue652
  i66 := by kernel_rfl
  t67 := Tryz.underlying555
  a67 := Tryz.isAgg555
  z67 := Tryz.sizeOf555
  v67 := Tryz.zeroValue555
  i67 := by kernel_rfl
  g0 := by kernel_rfl
  m0 := by kernel_rfl
  g1 := by kernel_rfl
  m1 := by kernel_rfl
  g2 := by kernel_rfl
  m2 := by kernel_rfl
  g3 := by kernel_rfl
  m3 := by kernel_rfl
  g4 := by kernel_rfl
  m4 := by kernel_rfl }
open Go.RowKit in
/-- strconv.ParseUint(s, 10, 32), AT EVERY STRING THAT IS NO ROW OF DECIMAL DIGITS (a sign is a fault): 0, AND AN ERROR THAT IS NOT nil: a *NumError in a new block N: {Func: "ParseUint", Num: s's bytes, Err: what the variable ErrSyntax holds}. Of what was there nothing has turned. (LAID: no walk: one application.) -/
theorem Tryz.strconv_ParseUint_10_at32_syntax (s : ByteArray) (hlim : s.size ≤ 281474976710656) (h : Lib.parseUintB 32 s.data.toList = Lib.parseUintB 32 []) (ev : Value) (w : World) (hv : w.cell? ⟨1, 0, none⟩ = some ev) (hev : ev = .nilIface ∨ ∃ te pe, ev = .iface te pe) :
    Calls Tryz.prog 396 #[.string s, .int .i64 10, .int .i64 32] w fun e w' => ∃ N, e = .returned (.tuple #[.int .u64 0, .iface 612 (.pointer (some ⟨N, 0, none⟩))]) ∧ w.heap.size ≤ N ∧ w'.heap[N]? = some (.cells #[.string ⟨#[80, 97, 114, 115, 101, 85, 105, 110, 116]⟩, .string s, ev] 637 (0, 0)) ∧ Below w.heap.size w w' := Any.strconv_ParseUint_10_at32_syntax Tryz.laysPu14 s hlim (h.trans rfl) ev w hv hev
end Go.Proofs
