/- A framework for proofs about Go programs in this model: part J. Everything is proved; no condition is added. -/
import Derived.Test.YtgliijeioigckaaGreatDoorProg
import Derived.Shelf.Strings.Builder1
import Derived.Shelf.Strings.Builder2
import Derived.Shelf.Strings.OnBuilder
import Derived.Shelf.Strings.BuilderF
import Derived.Shelf.Strings.BuilderK
import Derived.Shelf.Strings.Builder2Cap
import Derived.Shelf.LaysM
import Derived.Shelf.Strconv.Itoa3
import Derived.Shelf.Strings.Repeat
import Derived.Shelf.Strings.BuilderCap
import Derived.Test.YtgliijeioigckaaGreatDoorFwD
set_option linter.unusedVariables false
set_option linter.unusedSimpArgs false
namespace Go.Proofs.Tryz
open Go Go.Fw

def t_ext : Tr (ExK) := (.node (.node .nil 130 ExK.indexByte .nil) 639 ExK.count .nil)
theorem k_ext : TrOk (tyExt Go.Proofs.Tryz.prog) t_ext := by unfold TrOk; kernel_rfl
def t_ld : Tr (Nat × Bool) := (.node (.node (.node (.node (.node (.node (.node .nil 3 (1, false) .nil) 4 (1, false) (.node .nil 5 (1, false) .nil)) 9 (1, false) (.node (.node .nil 21 (1, false) .nil) 23 (6, true) (.node .nil 27 (1, false) .nil))) 29 (1, false) (.node (.node (.node .nil 31 (2, true) .nil) 41 (1, false) (.node .nil 43 (1, false) .nil)) 45 (1, false) (.node (.node .nil 47 (5, true) .nil) 52 (1, false) .nil))) 54 (2, true) (.node (.node (.node (.node .nil 56 (2, true) .nil) 58 (1, false) (.node .nil 60 (1, false) .nil)) 62 (2, true) (.node (.node .nil 64 (4, true) .nil) 65 (1, false) (.node .nil 67 (29, true) .nil))) 71 (33, true) (.node (.node (.node .nil 74 (1, false) .nil) 78 (1, false) (.node .nil 108 (1, false) .nil)) 112 (1, false) (.node (.node .nil 114 (19, true) .nil) 116 (23, true) .nil)))) 122 (1, false) (.node (.node (.node (.node (.node .nil 124 (8, true) .nil) 130 (1, false) (.node .nil 139 (5, true) .nil)) 170 (1, false) (.node (.node .nil 175 (1, false) .nil) 182 (1, false) (.node .nil 184 (8, true) .nil))) 186 (3, true) (.node (.node (.node .nil 200 (1, false) .nil) 203 (1, false) (.node .nil 222 (1, false) .nil)) 228 (6, true) (.node (.node .nil 234 (1, false) .nil) 265 (1, false) .nil))) 267 (1, false) (.node (.node (.node (.node .nil 270 (1, false) .nil) 280 (3, true) (.node .nil 283 (11, true) .nil)) 285 (1, false) (.node (.node .nil 287 (4, true) .nil) 289 (3, true) (.node .nil 291 (4, true) .nil))) 292 (1, false) (.node (.node (.node .nil 293 (1, false) .nil) 295 (2, true) (.node .nil 296 (1, false) .nil)) 298 (7, true) (.node (.node .nil 299 (1, false) .nil) 300 (1, false) .nil))))) 302 (38, true) (.node (.node (.node (.node (.node (.node .nil 347 (2, true) .nil) 364 (1, false) (.node .nil 365 (1, false) .nil)) 366 (1, false) (.node (.node .nil 368 (1, false) .nil) 370 (1, false) (.node .nil 372 (3, true) .nil))) 373 (1, false) (.node (.node (.node .nil 375 (3, true) .nil) 377 (1, false) (.node .nil 379 (1, false) .nil)) 381 (3, true) (.node (.node .nil 383 (1, false) .nil) 385 (1, false) .nil))) 387 (3, true) (.node (.node (.node (.node .nil 389 (1, false) .nil) 391 (1, false) (.node .nil 397 (1, false) .nil)) 399 (1, false) (.node (.node .nil 403 (1, false) .nil) 407 (1, false) (.node .nil 409 (1, false) .nil))) 413 (1, false) (.node (.node (.node .nil 415 (1, false) .nil) 419 (1, false) (.node .nil 421 (1, false) .nil)) 425 (1, false) (.node (.node .nil 427 (1, false) .nil) 431 (1, false) .nil)))) 433 (1, false) (.node (.node (.node (.node (.node .nil 437 (1, false) .nil) 439 (1, false) (.node .nil 443 (1, false) .nil)) 451 (20, true) (.node (.node .nil 505 (9, true) .nil) 516 (4, true) (.node .nil 522 (1, false) .nil))) 523 (1, false) (.node (.node (.node .nil 525 (2, true) .nil) 528 (10, true) (.node .nil 530 (1, false) .nil)) 531 (1, false) (.node (.node .nil 533 (2, true) .nil) 536 (2, true) .nil))) 550 (2, true) (.node (.node (.node (.node .nil 555 (10, true) .nil) 564 (1, false) (.node .nil 566 (2, true) .nil)) 567 (2, true) (.node (.node .nil 572 (1, false) .nil) 577 (2, true) .nil)) 583 (2, true) (.node (.node (.node .nil 606 (1, false) .nil) 608 (2, true) (.node .nil 649 (32, true) .nil)) 650 (64, true) (.node (.node .nil 695 (2, true) .nil) 696 (32, true) .nil))))))
theorem k_ld : TrOk (tyLd Go.Proofs.Tryz.prog) t_ld := by unfold TrOk; kernel_rfl
def t_fld : Tr (Nat) := (.node (.node (.node (.node (.node (.node (.node (.node .nil 1507328 0 .nil) 1507329 1 (.node .nil 1507330 2 .nil)) 1507331 3 (.node (.node .nil 1507332 4 .nil) 1507333 5 .nil)) 2031616 0 (.node (.node (.node .nil 2031617 1 .nil) 3080192 0 .nil) 3080193 1 (.node (.node .nil 3080194 2 .nil) 3080195 3 .nil))) 3080196 4 (.node (.node (.node (.node .nil 3538944 0 .nil) 3538945 1 .nil) 3670016 0 (.node (.node .nil 3670017 1 .nil) 4063232 0 .nil)) 4063233 1 (.node (.node (.node .nil 4194304 0 .nil) 4194305 2 .nil) 4390912 0 (.node (.node .nil 4390913 1 .nil) 4390914 2 .nil)))) 4390915 4 (.node (.node (.node (.node (.node .nil 4390916 5 .nil) 4390917 11 .nil) 4390918 17 (.node (.node .nil 4390919 18 .nil) 4390920 22 .nil)) 4390921 23 (.node (.node (.node .nil 4390922 25 .nil) 4390923 26 .nil) 4390924 28 (.node (.node .nil 4653056 0 .nil) 4653057 29 .nil))) 4653058 31 (.node (.node (.node (.node .nil 4980736 0 .nil) 4980737 1 .nil) 6225920 0 (.node (.node .nil 6225921 1 .nil) 7471104 0 .nil)) 7471105 1 (.node (.node (.node .nil 7471106 3 .nil) 7471107 4 .nil) 7471108 10 (.node (.node .nil 7471109 11 .nil) 7471110 17 .nil))))) 7471111 18 (.node (.node (.node (.node (.node (.node .nil 7602176 0 .nil) 7602177 19 .nil) 7602178 21 (.node (.node .nil 8126465 1 .nil) 8126466 2 .nil)) 8126467 7 (.node (.node (.node .nil 9109504 0 .nil) 9109505 1 .nil) 9109506 2 (.node (.node .nil 9109507 3 .nil) 9109508 4 .nil))) 12058624 0 (.node (.node (.node (.node .nil 12058625 1 .nil) 12058626 7 .nil) 12189696 0 (.node (.node .nil 12189697 1 .nil) 12189698 2 .nil)) 14811136 0 (.node (.node (.node .nil 14811137 1 .nil) 14811138 2 .nil) 14942208 0 (.node (.node .nil 14942209 1 .nil) 14942210 2 .nil)))) 14942211 3 (.node (.node (.node (.node (.node .nil 14942212 4 .nil) 14942213 5 .nil) 17104896 0 (.node (.node .nil 17104897 1 .nil) 17104898 2 .nil)) 18350080 0 (.node (.node (.node .nil 18808832 0 .nil) 18808833 1 .nil) 18808834 2 (.node (.node .nil 18808835 3 .nil) 18939904 0 .nil))) 18939905 1 (.node (.node (.node (.node .nil 18939906 2 .nil) 19070976 0 .nil) 19070977 1 (.node (.node .nil 19070978 2 .nil) 19070979 3 .nil)) 19333120 0 (.node (.node (.node .nil 19333121 1 .nil) 19529728 0 .nil) 19529729 1 (.node (.node .nil 19529730 2 .nil) 19529731 3 .nil)))))) 19529732 4 (.node (.node (.node (.node (.node (.node (.node .nil 19529733 5 .nil) 19529734 6 .nil) 19791872 0 (.node (.node .nil 19791873 1 .nil) 19791875 3 .nil)) 19791876 4 (.node (.node (.node .nil 19791877 5 .nil) 19791878 6 .nil) 19791879 7 (.node (.node .nil 19791880 11 .nil) 19791881 14 .nil))) 19791882 18 (.node (.node (.node (.node .nil 19791883 19 .nil) 19791884 20 .nil) 19791885 22 (.node (.node .nil 19791886 23 .nil) 19791887 30 .nil)) 19791888 31 (.node (.node (.node .nil 19791889 32 .nil) 22740992 0 .nil) 22740993 1 (.node (.node .nil 24379392 0 .nil) 24379394 2 .nil)))) 24576000 0 (.node (.node (.node (.node (.node .nil 24576002 2 .nil) 24969216 0 .nil) 24969218 2 (.node (.node .nil 25362432 0 .nil) 25362434 2 .nil)) 25755648 0 (.node (.node (.node .nil 25755650 2 .nil) 25886720 0 .nil) 25886722 2 (.node (.node .nil 26279936 0 .nil) 26279938 2 .nil))) 26542080 0 (.node (.node (.node (.node .nil 26542082 2 .nil) 26935296 0 .nil) 26935298 2 (.node (.node .nil 27328512 0 .nil) 27328514 2 .nil)) 27721728 0 (.node (.node (.node .nil 27721730 2 .nil) 28114944 0 .nil) 28114946 2 (.node (.node .nil 28508160 0 .nil) 28508162 2 .nil))))) 28901376 0 (.node (.node (.node (.node (.node (.node .nil 28901378 2 .nil) 29229056 0 .nil) 29229058 2 (.node (.node .nil 32505856 0 .nil) 32505857 1 .nil)) 33095680 0 (.node (.node (.node .nil 33095681 1 .nil) 33095682 2 .nil) 33095683 3 (.node (.node .nil 33095684 4 .nil) 33095685 5 .nil))) 33095686 7 (.node (.node (.node (.node .nil 33685504 0 .nil) 33685505 1 .nil) 33816576 0 (.node (.node .nil 33816577 1 .nil) 33816578 2 .nil)) 33816579 3 (.node (.node (.node .nil 34406400 0 .nil) 34406401 1 .nil) 34603008 0 (.node (.node .nil 34603009 1 .nil) 34930688 0 .nil)))) 34930689 1 (.node (.node (.node (.node (.node .nil 35127296 0 .nil) 35127297 1 .nil) 36044800 0 (.node (.node .nil 36044801 1 .nil) 36372480 0 .nil)) 36372481 2 (.node (.node (.node .nil 36372482 3 .nil) 36372483 4 .nil) 37093376 0 (.node (.node .nil 37093377 1 .nil) 37158912 0 .nil))) 37158913 1 (.node (.node (.node (.node .nil 37814272 0 .nil) 37814273 1 .nil) 38076416 0 (.node (.node .nil 38207488 0 .nil) 38207489 1 .nil)) 39845888 0 (.node (.node (.node .nil 39845889 1 .nil) 40960000 0 .nil) 40960001 1 (.node (.node .nil 45547520 0 .nil) 45547521 1 .nil)))))))
theorem k_fld : TrOk (fun k => tyFld Go.Proofs.Tryz.prog (k / 65536) (k % 65536)) t_fld := by unfold TrOk; kernel_rfl
def t_fldV : Tr (Nat × Nat × Bool) := (.node (.node (.node .nil 2031616 (0, (1, false)) .nil) 18350080 (0, (1, false)) .nil) 18350081 (1, (1, false)) (.node (.node .nil 18350082 (2, (1, false)) .nil) 39845889 (1, (1, false)) .nil))
theorem k_fldV : TrOk (fun k => tyFldV Go.Proofs.Tryz.prog (k / 65536) (k % 65536)) t_fldV := by unfold TrOk; kernel_rfl
def t_zero : Tr (List D) := (.node (.node (.node (.node (.node (.node .nil 3 ((D.int IntKind.i64 0) :: []) .nil) 23 ((D.int IntKind.i64 0) :: ((D.int IntKind.i64 0) :: ((D.int IntKind.i64 0) :: ((D.int IntKind.i64 0) :: ((D.int IntKind.i64 0) :: ((D.int IntKind.i64 0) :: [])))))) (.node .nil 27 ((D.list [] 0 true) :: []) .nil)) 29 ((D.int IntKind.i64 0) :: []) (.node (.node .nil 31 ((D.int IntKind.i64 0) :: ((D.int IntKind.i64 0) :: [])) .nil) 41 ((D.list [] 0 true) :: []) (.node .nil 47 ((D.int IntKind.i64 0) :: ((D.int IntKind.i64 0) :: ((D.bool false) :: ((D.list [] 0 true) :: ((D.list [] 0 true) :: []))))) .nil))) 52 (D.nilf :: []) (.node (.node (.node .nil 54 ((D.str []) :: ((D.list [] 0 true) :: [])) .nil) 56 ((D.str []) :: ((D.list [] 0 true) :: [])) (.node .nil 62 ((D.list [] 0 true) :: ((D.int IntKind.i64 0) :: [])) .nil)) 64 ((D.str []) :: ((D.list [] 0 true) :: ((D.list [] 0 true) :: ((D.int IntKind.i64 0) :: [])))) (.node (.node .nil 67 ((D.int IntKind.i64 0) :: ((D.list [] 0 true) :: ((D.str []) :: ((D.list [] 0 true) :: ((D.list [] 0 true) :: ((D.int IntKind.i64 0) :: ((D.int IntKind.i64 0) :: ((D.int IntKind.i64 0) :: ((D.int IntKind.i64 0) :: ((D.int IntKind.i64 0) :: ((D.int IntKind.i64 0) :: ((D.int IntKind.i64 0) :: ((D.int IntKind.i64 0) :: ((D.int IntKind.i64 0) :: ((D.int IntKind.i64 0) :: ((D.int IntKind.i64 0) :: ((D.int IntKind.i64 0) :: ((D.list [] 0 true) :: ((D.str []) :: ((D.list [] 0 true) :: ((D.list [] 0 true) :: ((D.int IntKind.i64 0) :: ((D.bool false) :: ((D.list [] 0 true) :: ((D.int IntKind.i64 0) :: ((D.bool false) :: ((D.list [] 0 true) :: ((D.int IntKind.i64 0) :: ((D.list [] 0 true) :: []))))))))))))))))))))))))))))) .nil) 71 ((D.int IntKind.i64 0) :: ((D.list [] 0 true) :: ((D.str []) :: ((D.list [] 0 true) :: ((D.list [] 0 true) :: ((D.int IntKind.i64 0) :: ((D.int IntKind.i64 0) :: ((D.int IntKind.i64 0) :: ((D.int IntKind.i64 0) :: ((D.int IntKind.i64 0) :: ((D.int IntKind.i64 0) :: ((D.int IntKind.i64 0) :: ((D.int IntKind.i64 0) :: ((D.int IntKind.i64 0) :: ((D.int IntKind.i64 0) :: ((D.int IntKind.i64 0) :: ((D.int IntKind.i64 0) :: ((D.list [] 0 true) :: ((D.str []) :: ((D.list [] 0 true) :: ((D.list [] 0 true) :: ((D.int IntKind.i64 0) :: ((D.bool false) :: ((D.list [] 0 true) :: ((D.int IntKind.i64 0) :: ((D.bool false) :: ((D.list [] 0 true) :: ((D.int IntKind.i64 0) :: ((D.list [] 0 true) :: ((D.str []) :: ((D.list [] 0 true) :: ((D.list [] 0 true) :: ((D.int IntKind.i64 0) :: []))))))))))))))))))))))))))))))))) .nil))) 76 (D.nilp :: ((D.list [] 0 true) :: [])) (.node (.node (.node (.node .nil 108 ((D.list [] 0 true) :: []) .nil) 114 ((D.int IntKind.i64 0) :: ((D.str []) :: ((D.list [] 0 true) :: ((D.list [] 0 true) :: ((D.int IntKind.i64 0) :: ((D.int IntKind.i64 0) :: ((D.int IntKind.i64 0) :: ((D.int IntKind.i64 0) :: ((D.int IntKind.i64 0) :: ((D.int IntKind.i64 0) :: ((D.bool false) :: ((D.int IntKind.i64 0) :: ((D.int IntKind.i64 0) :: ((D.int IntKind.i64 0) :: ((D.int IntKind.i64 0) :: ((D.int IntKind.i64 0) :: ((D.int IntKind.i64 0) :: ((D.list [] 0 true) :: ((D.list [] 0 true) :: []))))))))))))))))))) (.node .nil 116 ((D.int IntKind.i64 0) :: ((D.str []) :: ((D.list [] 0 true) :: ((D.list [] 0 true) :: ((D.int IntKind.i64 0) :: ((D.int IntKind.i64 0) :: ((D.int IntKind.i64 0) :: ((D.int IntKind.i64 0) :: ((D.int IntKind.i64 0) :: ((D.int IntKind.i64 0) :: ((D.bool false) :: ((D.int IntKind.i64 0) :: ((D.int IntKind.i64 0) :: ((D.int IntKind.i64 0) :: ((D.int IntKind.i64 0) :: ((D.int IntKind.i64 0) :: ((D.int IntKind.i64 0) :: ((D.list [] 0 true) :: ((D.list [] 0 true) :: ((D.str []) :: ((D.list [] 0 true) :: ((D.list [] 0 true) :: ((D.int IntKind.i64 0) :: []))))))))))))))))))))))) .nil)) 124 ((D.int IntKind.i64 0) :: ((D.int IntKind.i64 0) :: ((D.int IntKind.i64 0) :: ((D.int IntKind.i64 0) :: ((D.bool false) :: ((D.list [] 0 true) :: ((D.list [] 0 true) :: ((D.list [] 0 true) :: [])))))))) (.node (.node .nil 139 ((D.int IntKind.i64 0) :: ((D.int IntKind.i64 0) :: ((D.bool false) :: ((D.int IntKind.i64 0) :: ((D.int IntKind.i64 0) :: []))))) .nil) 170 ((D.list [] 0 true) :: []) .nil)) 184 ((D.list [] 0 true) :: ((D.int IntKind.i64 0) :: ((D.int IntKind.i64 0) :: ((D.int IntKind.i64 0) :: ((D.int IntKind.i64 0) :: ((D.int IntKind.i64 0) :: ((D.int IntKind.i64 0) :: ((D.list [] 0 true) :: [])))))))) (.node (.node (.node .nil 186 ((D.str []) :: ((D.bool false) :: ((D.list [] 0 true) :: []))) .nil) 228 ((D.int IntKind.i64 0) :: ((D.int IntKind.i64 0) :: ((D.bool false) :: ((D.int IntKind.i64 0) :: ((D.int IntKind.i64 0) :: ((D.int IntKind.i64 0) :: [])))))) (.node .nil 280 ((D.str []) :: ((D.str []) :: (D.nili :: []))) .nil)) 283 ((D.str []) :: ((D.str []) :: ((D.str []) :: ((D.str []) :: ((D.str []) :: ((D.str []) :: ((D.str []) :: ((D.str []) :: ((D.str []) :: ((D.str []) :: ((D.str []) :: []))))))))))) (.node (.node .nil 287 ((D.bool false) :: ((D.list [] 0 true) :: ((D.list [] 0 true) :: ((D.list [] 0 true) :: [])))) .nil) 289 ((D.bool false) :: ((D.bool false) :: ((D.int IntKind.i64 0) :: []))) .nil)))) 291 ((D.bool false) :: ((D.int IntKind.i64 0) :: ((D.bool false) :: ((D.int IntKind.i64 0) :: [])))) (.node (.node (.node (.node (.node .nil 292 ((D.list [] 0 true) :: []) .nil) 293 ((D.list [] 0 true) :: []) (.node .nil 295 ((D.list [] 0 true) :: ((D.list [] 0 true) :: [])) .nil)) 298 ((D.list [] 0 true) :: ((D.list [] 0 true) :: ((D.bool false) :: ((D.bool false) :: ((D.bool false) :: ((D.bool false) :: ((D.int IntKind.i64 0) :: []))))))) (.node (.node .nil 302 ((D.int IntKind.i64 0) :: ((D.str []) :: ((D.bool false) :: ((D.list [] 0 true) :: ((D.int IntKind.i64 0) :: ((D.list [] 0 true) :: ((D.list [] 0 true) :: ((D.bool false) :: ((D.list [] 0 true) :: ((D.list [] 0 true) :: ((D.list [] 0 true) :: ((D.bool false) :: ((D.bool false) :: ((D.int IntKind.i64 0) :: ((D.bool false) :: ((D.int IntKind.i64 0) :: ((D.bool false) :: ((D.int IntKind.i64 0) :: ((D.list [] 0 true) :: ((D.list [] 0 true) :: ((D.list [] 0 true) :: ((D.list [] 0 true) :: ((D.list [] 0 true) :: ((D.list [] 0 true) :: ((D.list [] 0 true) :: ((D.bool false) :: ((D.bool false) :: ((D.bool false) :: ((D.bool false) :: ((D.int IntKind.i64 0) :: ((D.list [] 0 true) :: ((D.list [] 0 true) :: ((D.int IntKind.i64 0) :: ((D.int IntKind.i64 0) :: ((D.int IntKind.i64 0) :: ((D.int IntKind.i64 0) :: ((D.int IntKind.i64 0) :: ((D.int IntKind.i64 0) :: [])))))))))))))))))))))))))))))))))))))) .nil) 309 ((D.int IntKind.u8 0) :: ((D.int IntKind.u8 0) :: ((D.int IntKind.u8 0) :: ((D.int IntKind.u8 0) :: ((D.int IntKind.u8 0) :: ((D.int IntKind.u8 0) :: ((D.int IntKind.u8 0) :: ((D.int IntKind.u8 0) :: ((D.int IntKind.u8 0) :: ((D.int IntKind.u8 0) :: ((D.int IntKind.u8 0) :: ((D.int IntKind.u8 0) :: ((D.int IntKind.u8 0) :: ((D.int IntKind.u8 0) :: ((D.int IntKind.u8 0) :: ((D.int IntKind.u8 0) :: ((D.int IntKind.u8 0) :: ((D.int IntKind.u8 0) :: ((D.int IntKind.u8 0) :: ((D.int IntKind.u8 0) :: ((D.int IntKind.u8 0) :: ((D.int IntKind.u8 0) :: ((D.int IntKind.u8 0) :: ((D.int IntKind.u8 0) :: [])))))))))))))))))))))))) (.node .nil 347 ((D.int IntKind.i64 0) :: ((D.str []) :: [])) .nil))) 372 (D.nilf :: (D.nilf :: (D.nilf :: []))) (.node (.node (.node .nil 375 (D.nilf :: (D.nilf :: (D.nilf :: []))) .nil) 381 (D.nilf :: (D.nilf :: (D.nilf :: []))) (.node .nil 387 (D.nilf :: (D.nilf :: (D.nilf :: []))) .nil)) 452 ((D.int IntKind.u8 0) :: ((D.int IntKind.u8 0) :: ((D.int IntKind.u8 0) :: ((D.int IntKind.u8 0) :: ((D.int IntKind.u8 0) :: ((D.int IntKind.u8 0) :: ((D.int IntKind.u8 0) :: ((D.int IntKind.u8 0) :: ((D.int IntKind.u8 0) :: ((D.int IntKind.u8 0) :: ((D.int IntKind.u8 0) :: ((D.int IntKind.u8 0) :: ((D.int IntKind.u8 0) :: ((D.int IntKind.u8 0) :: ((D.int IntKind.u8 0) :: ((D.int IntKind.u8 0) :: ((D.int IntKind.u8 0) :: ((D.int IntKind.u8 0) :: ((D.int IntKind.u8 0) :: ((D.int IntKind.u8 0) :: ((D.int IntKind.u8 0) :: ((D.int IntKind.u8 0) :: ((D.int IntKind.u8 0) :: ((D.int IntKind.u8 0) :: ((D.int IntKind.u8 0) :: ((D.int IntKind.u8 0) :: ((D.int IntKind.u8 0) :: ((D.int IntKind.u8 0) :: ((D.int IntKind.u8 0) :: ((D.int IntKind.u8 0) :: ((D.int IntKind.u8 0) :: ((D.int IntKind.u8 0) :: ((D.int IntKind.u8 0) :: ((D.int IntKind.u8 0) :: ((D.int IntKind.u8 0) :: ((D.int IntKind.u8 0) :: ((D.int IntKind.u8 0) :: ((D.int IntKind.u8 0) :: ((D.int IntKind.u8 0) :: ((D.int IntKind.u8 0) :: ((D.int IntKind.u8 0) :: ((D.int IntKind.u8 0) :: ((D.int IntKind.u8 0) :: ((D.int IntKind.u8 0) :: ((D.int IntKind.u8 0) :: ((D.int IntKind.u8 0) :: ((D.int IntKind.u8 0) :: ((D.int IntKind.u8 0) :: ((D.int IntKind.u8 0) :: ((D.int IntKind.u8 0) :: ((D.int IntKind.u8 0) :: ((D.int IntKind.u8 0) :: ((D.int IntKind.u8 0) :: ((D.int IntKind.u8 0) :: ((D.int IntKind.u8 0) :: ((D.int IntKind.u8 0) :: ((D.int IntKind.u8 0) :: ((D.int IntKind.u8 0) :: ((D.int IntKind.u8 0) :: ((D.int IntKind.u8 0) :: ((D.int IntKind.u8 0) :: ((D.int IntKind.u8 0) :: ((D.int IntKind.u8 0) :: ((D.int IntKind.u8 0) :: ((D.int IntKind.u8 0) :: []))))))))))))))))))))))))))))))))))))))))))))))))))))))))))))))))) (.node (.node .nil 505 ((D.int IntKind.i64 0) :: ((D.str []) :: ((D.str []) :: ((D.list [] 0 true) :: ((D.list [] 0 true) :: ((D.int IntKind.i64 0) :: ((D.str []) :: ((D.int IntKind.i64 0) :: ((D.str []) :: []))))))))) .nil) 514 ((D.list [] 0 true) :: ((D.int IntKind.i64 0) :: [])) .nil))) 516 ((D.list [] 0 true) :: ((D.list [] 0 true) :: ((D.int IntKind.i64 0) :: ((D.list [] 0 true) :: [])))) (.node (.node (.node (.node .nil 525 (D.nilf :: (D.nilf :: [])) .nil) 528 ((D.str []) :: ((D.int IntKind.i64 0) :: ((D.str []) :: ((D.str []) :: ((D.list [] 0 true) :: ((D.list [] 0 true) :: ((D.int IntKind.i64 0) :: ((D.str []) :: ((D.int IntKind.i64 0) :: ((D.str []) :: [])))))))))) (.node .nil 533 (D.nilf :: (D.nilf :: [])) .nil)) 536 ((D.str []) :: ((D.list [] 0 true) :: [])) (.node (.node .nil 550 ((D.list [] 0 true) :: ((D.list [] 0 true) :: [])) .nil) 555 ((D.list [] 0 true) :: ((D.list [] 0 true) :: ((D.int IntKind.i64 0) :: ((D.list [] 0 true) :: ((D.bool false) :: ((D.bool false) :: ((D.bool false) :: ((D.bool false) :: ((D.bool false) :: ((D.bool false) :: [])))))))))) .nil)) 566 ((D.str []) :: ((D.list [] 0 true) :: [])) (.node (.node (.node .nil 567 ((D.str []) :: ((D.list [] 0 true) :: [])) .nil) 577 ((D.str []) :: ((D.str []) :: [])) (.node .nil 583 ((D.list [] 0 true) :: ((D.list [] 0 true) :: [])) .nil)) 606 (D.nilf :: []) (.node (.node .nil 608 (D.nilf :: ((D.int IntKind.i64 0) :: [])) .nil) 695 ((D.int IntKind.u8 0) :: ((D.int IntKind.u8 0) :: [])) .nil)))))
theorem k_zero : TrOk (tyZero Go.Proofs.Tryz.prog) t_zero := by unfold TrOk; kernel_rfl
def t_build : Tr (List D × BKind) := (.node (.node (.node (.node (.node (.node (.node .nil 23 (((D.int IntKind.i64 0) :: ((D.int IntKind.i64 0) :: ((D.int IntKind.i64 0) :: ((D.int IntKind.i64 0) :: ((D.int IntKind.i64 0) :: ((D.int IntKind.i64 0) :: [])))))), (BKind.struct ((0, 1) :: ((1, 1) :: ((2, 1) :: ((3, 1) :: ((4, 1) :: ((5, 1) :: [])))))))) .nil) 31 (((D.int IntKind.i64 0) :: ((D.int IntKind.i64 0) :: [])), (BKind.struct ((0, 1) :: ((1, 1) :: [])))) .nil) 47 (((D.int IntKind.i64 0) :: ((D.int IntKind.i64 0) :: ((D.bool false) :: ((D.list [] 0 true) :: ((D.list [] 0 true) :: []))))), (BKind.struct ((0, 1) :: ((1, 1) :: ((2, 1) :: ((3, 1) :: ((4, 1) :: []))))))) (.node .nil 54 (((D.str []) :: ((D.list [] 0 true) :: [])), (BKind.struct ((0, 1) :: ((1, 1) :: [])))) .nil)) 56 (((D.str []) :: ((D.list [] 0 true) :: [])), (BKind.struct ((0, 1) :: ((1, 1) :: [])))) (.node (.node .nil 62 (((D.list [] 0 true) :: ((D.int IntKind.i64 0) :: [])), (BKind.struct ((0, 1) :: ((1, 1) :: [])))) .nil) 64 (((D.str []) :: ((D.list [] 0 true) :: ((D.list [] 0 true) :: ((D.int IntKind.i64 0) :: [])))), (BKind.struct ((0, 2) :: ((2, 2) :: [])))) (.node .nil 67 (((D.int IntKind.i64 0) :: ((D.list [] 0 true) :: ((D.str []) :: ((D.list [] 0 true) :: ((D.list [] 0 true) :: ((D.int IntKind.i64 0) :: ((D.int IntKind.i64 0) :: ((D.int IntKind.i64 0) :: ((D.int IntKind.i64 0) :: ((D.int IntKind.i64 0) :: ((D.int IntKind.i64 0) :: ((D.int IntKind.i64 0) :: ((D.int IntKind.i64 0) :: ((D.int IntKind.i64 0) :: ((D.int IntKind.i64 0) :: ((D.int IntKind.i64 0) :: ((D.int IntKind.i64 0) :: ((D.list [] 0 true) :: ((D.str []) :: ((D.list [] 0 true) :: ((D.list [] 0 true) :: ((D.int IntKind.i64 0) :: ((D.bool false) :: ((D.list [] 0 true) :: ((D.int IntKind.i64 0) :: ((D.bool false) :: ((D.list [] 0 true) :: ((D.int IntKind.i64 0) :: ((D.list [] 0 true) :: []))))))))))))))))))))))))))))), (BKind.struct ((0, 1) :: ((1, 1) :: ((2, 2) :: ((4, 1) :: ((5, 6) :: ((11, 6) :: ((17, 1) :: ((18, 4) :: ((22, 1) :: ((23, 2) :: ((25, 1) :: ((26, 2) :: ((28, 1) :: []))))))))))))))) .nil))) 71 (((D.int IntKind.i64 0) :: ((D.list [] 0 true) :: ((D.str []) :: ((D.list [] 0 true) :: ((D.list [] 0 true) :: ((D.int IntKind.i64 0) :: ((D.int IntKind.i64 0) :: ((D.int IntKind.i64 0) :: ((D.int IntKind.i64 0) :: ((D.int IntKind.i64 0) :: ((D.int IntKind.i64 0) :: ((D.int IntKind.i64 0) :: ((D.int IntKind.i64 0) :: ((D.int IntKind.i64 0) :: ((D.int IntKind.i64 0) :: ((D.int IntKind.i64 0) :: ((D.int IntKind.i64 0) :: ((D.list [] 0 true) :: ((D.str []) :: ((D.list [] 0 true) :: ((D.list [] 0 true) :: ((D.int IntKind.i64 0) :: ((D.bool false) :: ((D.list [] 0 true) :: ((D.int IntKind.i64 0) :: ((D.bool false) :: ((D.list [] 0 true) :: ((D.int IntKind.i64 0) :: ((D.list [] 0 true) :: ((D.str []) :: ((D.list [] 0 true) :: ((D.list [] 0 true) :: ((D.int IntKind.i64 0) :: []))))))))))))))))))))))))))))))))), (BKind.struct ((0, 29) :: ((29, 2) :: ((31, 2) :: []))))) (.node (.node (.node .nil 95 (((D.str []) :: ((D.int IntKind.i64 0) :: [])), (BKind.struct ((0, 1) :: ((1, 1) :: [])))) .nil) 114 (((D.int IntKind.i64 0) :: ((D.str []) :: ((D.list [] 0 true) :: ((D.list [] 0 true) :: ((D.int IntKind.i64 0) :: ((D.int IntKind.i64 0) :: ((D.int IntKind.i64 0) :: ((D.int IntKind.i64 0) :: ((D.int IntKind.i64 0) :: ((D.int IntKind.i64 0) :: ((D.bool false) :: ((D.int IntKind.i64 0) :: ((D.int IntKind.i64 0) :: ((D.int IntKind.i64 0) :: ((D.int IntKind.i64 0) :: ((D.int IntKind.i64 0) :: ((D.int IntKind.i64 0) :: ((D.list [] 0 true) :: ((D.list [] 0 true) :: []))))))))))))))))))), (BKind.struct ((0, 1) :: ((1, 2) :: ((3, 1) :: ((4, 6) :: ((10, 1) :: ((11, 6) :: ((17, 1) :: ((18, 1) :: [])))))))))) (.node .nil 116 (((D.int IntKind.i64 0) :: ((D.str []) :: ((D.list [] 0 true) :: ((D.list [] 0 true) :: ((D.int IntKind.i64 0) :: ((D.int IntKind.i64 0) :: ((D.int IntKind.i64 0) :: ((D.int IntKind.i64 0) :: ((D.int IntKind.i64 0) :: ((D.int IntKind.i64 0) :: ((D.bool false) :: ((D.int IntKind.i64 0) :: ((D.int IntKind.i64 0) :: ((D.int IntKind.i64 0) :: ((D.int IntKind.i64 0) :: ((D.int IntKind.i64 0) :: ((D.int IntKind.i64 0) :: ((D.list [] 0 true) :: ((D.list [] 0 true) :: ((D.str []) :: ((D.list [] 0 true) :: ((D.list [] 0 true) :: ((D.int IntKind.i64 0) :: []))))))))))))))))))))))), (BKind.struct ((0, 19) :: ((19, 2) :: ((21, 2) :: []))))) .nil)) 124 (((D.int IntKind.i64 0) :: ((D.int IntKind.i64 0) :: ((D.int IntKind.i64 0) :: ((D.int IntKind.i64 0) :: ((D.bool false) :: ((D.list [] 0 true) :: ((D.list [] 0 true) :: ((D.list [] 0 true) :: [])))))))), (BKind.struct ((0, 1) :: ((1, 1) :: ((2, 5) :: ((7, 1) :: [])))))) (.node (.node .nil 139 (((D.int IntKind.i64 0) :: ((D.int IntKind.i64 0) :: ((D.bool false) :: ((D.int IntKind.i64 0) :: ((D.int IntKind.i64 0) :: []))))), (BKind.struct ((0, 1) :: ((1, 1) :: ((2, 1) :: ((3, 1) :: ((4, 1) :: []))))))) .nil) 186 (((D.str []) :: ((D.bool false) :: ((D.list [] 0 true) :: []))), (BKind.struct ((0, 1) :: ((1, 1) :: ((2, 1) :: []))))) (.node .nil 192 (((D.int IntKind.i64 0) :: ((D.int IntKind.i64 0) :: ((D.int IntKind.i64 0) :: ((D.int IntKind.i64 0) :: ((D.int IntKind.i64 0) :: ((D.int IntKind.i64 0) :: ((D.int IntKind.i64 0) :: ((D.int IntKind.i64 0) :: ((D.int IntKind.i64 0) :: ((D.int IntKind.i64 0) :: ((D.int IntKind.i64 0) :: ((D.int IntKind.i64 0) :: [])))))))))))), (BKind.array 1)) .nil)))) 226 (((D.list [] 0 true) :: ((D.list [] 0 true) :: ((D.int IntKind.i64 0) :: ((D.int IntKind.i64 0) :: [])))), (BKind.struct ((0, 1) :: ((1, 1) :: ((2, 2) :: []))))) (.node (.node (.node (.node (.node .nil 228 (((D.int IntKind.i64 0) :: ((D.int IntKind.i64 0) :: ((D.bool false) :: ((D.int IntKind.i64 0) :: ((D.int IntKind.i64 0) :: ((D.int IntKind.i64 0) :: [])))))), (BKind.struct ((0, 1) :: ((1, 1) :: ((2, 1) :: ((3, 1) :: ((4, 1) :: ((5, 1) :: [])))))))) .nil) 261 (((D.list [] 0 true) :: ((D.list [] 0 true) :: ((D.int IntKind.i64 0) :: ((D.int IntKind.i64 0) :: [])))), (BKind.struct ((0, 1) :: ((1, 1) :: ((2, 2) :: []))))) .nil) 280 (((D.str []) :: ((D.str []) :: (D.nili :: []))), (BKind.struct ((0, 1) :: ((1, 1) :: ((2, 1) :: []))))) (.node .nil 283 (((D.str []) :: ((D.str []) :: ((D.str []) :: ((D.str []) :: ((D.str []) :: ((D.str []) :: ((D.str []) :: ((D.str []) :: ((D.str []) :: ((D.str []) :: ((D.str []) :: []))))))))))), (BKind.array 1)) .nil)) 287 (((D.bool false) :: ((D.list [] 0 true) :: ((D.list [] 0 true) :: ((D.list [] 0 true) :: [])))), (BKind.struct ((0, 1) :: ((1, 1) :: ((2, 1) :: ((3, 1) :: [])))))) (.node (.node .nil 289 (((D.bool false) :: ((D.bool false) :: ((D.int IntKind.i64 0) :: []))), (BKind.struct ((0, 1) :: ((1, 1) :: ((2, 1) :: []))))) .nil) 291 (((D.bool false) :: ((D.int IntKind.i64 0) :: ((D.bool false) :: ((D.int IntKind.i64 0) :: [])))), (BKind.struct ((0, 1) :: ((1, 1) :: ((2, 1) :: ((3, 1) :: [])))))) (.node .nil 295 (((D.list [] 0 true) :: ((D.list [] 0 true) :: [])), (BKind.struct ((0, 1) :: ((1, 1) :: [])))) .nil))) 298 (((D.list [] 0 true) :: ((D.list [] 0 true) :: ((D.bool false) :: ((D.bool false) :: ((D.bool false) :: ((D.bool false) :: ((D.int IntKind.i64 0) :: []))))))), (BKind.struct ((0, 1) :: ((1, 1) :: ((2, 1) :: ((3, 1) :: ((4, 1) :: ((5, 1) :: ((6, 1) :: []))))))))) (.node (.node (.node .nil 302 (((D.int IntKind.i64 0) :: ((D.str []) :: ((D.bool false) :: ((D.list [] 0 true) :: ((D.int IntKind.i64 0) :: ((D.list [] 0 true) :: ((D.list [] 0 true) :: ((D.bool false) :: ((D.list [] 0 true) :: ((D.list [] 0 true) :: ((D.list [] 0 true) :: ((D.bool false) :: ((D.bool false) :: ((D.int IntKind.i64 0) :: ((D.bool false) :: ((D.int IntKind.i64 0) :: ((D.bool false) :: ((D.int IntKind.i64 0) :: ((D.list [] 0 true) :: ((D.list [] 0 true) :: ((D.list [] 0 true) :: ((D.list [] 0 true) :: ((D.list [] 0 true) :: ((D.list [] 0 true) :: ((D.list [] 0 true) :: ((D.bool false) :: ((D.bool false) :: ((D.bool false) :: ((D.bool false) :: ((D.int IntKind.i64 0) :: ((D.list [] 0 true) :: ((D.list [] 0 true) :: ((D.int IntKind.i64 0) :: ((D.int IntKind.i64 0) :: ((D.int IntKind.i64 0) :: ((D.int IntKind.i64 0) :: ((D.int IntKind.i64 0) :: ((D.int IntKind.i64 0) :: [])))))))))))))))))))))))))))))))))))))), (BKind.struct ((0, 1) :: ((1, 1) :: ((2, 1) :: ((3, 1) :: ((4, 1) :: ((5, 1) :: ((6, 1) :: ((7, 4) :: ((11, 3) :: ((14, 4) :: ((18, 1) :: ((19, 1) :: ((20, 2) :: ((22, 1) :: ((23, 7) :: ((30, 1) :: ((31, 1) :: ((32, 6) :: [])))))))))))))))))))) .nil) 347 (((D.int IntKind.i64 0) :: ((D.str []) :: [])), (BKind.struct ((0, 1) :: ((1, 1) :: [])))) (.node .nil 372 ((D.nilf :: (D.nilf :: (D.nilf :: []))), (BKind.struct ((0, 1) :: ((1, 1) :: ((2, 1) :: []))))) .nil)) 375 ((D.nilf :: (D.nilf :: (D.nilf :: []))), (BKind.struct ((0, 1) :: ((1, 1) :: ((2, 1) :: []))))) (.node (.node .nil 381 ((D.nilf :: (D.nilf :: (D.nilf :: []))), (BKind.struct ((0, 1) :: ((1, 1) :: ((2, 1) :: []))))) .nil) 387 ((D.nilf :: (D.nilf :: (D.nilf :: []))), (BKind.struct ((0, 1) :: ((1, 1) :: ((2, 1) :: []))))) (.node .nil 393 ((D.nilf :: (D.nilf :: (D.nilf :: []))), (BKind.struct ((0, 1) :: ((1, 1) :: ((2, 1) :: []))))) .nil))))) 395 ((D.nilf :: (D.nilf :: (D.nilf :: []))), (BKind.struct ((0, 1) :: ((1, 1) :: ((2, 1) :: []))))) (.node (.node (.node (.node (.node (.node .nil 401 ((D.nilf :: (D.nilf :: (D.nilf :: []))), (BKind.struct ((0, 1) :: ((1, 1) :: ((2, 1) :: []))))) .nil) 405 ((D.nilf :: (D.nilf :: (D.nilf :: []))), (BKind.struct ((0, 1) :: ((1, 1) :: ((2, 1) :: []))))) .nil) 411 ((D.nilf :: (D.nilf :: (D.nilf :: []))), (BKind.struct ((0, 1) :: ((1, 1) :: ((2, 1) :: []))))) (.node .nil 417 ((D.nilf :: (D.nilf :: (D.nilf :: []))), (BKind.struct ((0, 1) :: ((1, 1) :: ((2, 1) :: []))))) .nil)) 423 ((D.nilf :: (D.nilf :: (D.nilf :: []))), (BKind.struct ((0, 1) :: ((1, 1) :: ((2, 1) :: []))))) (.node (.node .nil 429 ((D.nilf :: (D.nilf :: (D.nilf :: []))), (BKind.struct ((0, 1) :: ((1, 1) :: ((2, 1) :: []))))) .nil) 435 ((D.nilf :: (D.nilf :: (D.nilf :: []))), (BKind.struct ((0, 1) :: ((1, 1) :: ((2, 1) :: []))))) (.node .nil 441 ((D.nilf :: (D.nilf :: (D.nilf :: []))), (BKind.struct ((0, 1) :: ((1, 1) :: ((2, 1) :: []))))) .nil))) 446 ((D.nilf :: (D.nilf :: (D.nilf :: []))), (BKind.struct ((0, 1) :: ((1, 1) :: ((2, 1) :: []))))) (.node (.node (.node .nil 451 (((D.int IntKind.u64 0) :: ((D.int IntKind.u64 0) :: ((D.int IntKind.u64 0) :: ((D.int IntKind.u64 0) :: ((D.int IntKind.u64 0) :: ((D.int IntKind.u64 0) :: ((D.int IntKind.u64 0) :: ((D.int IntKind.u64 0) :: ((D.int IntKind.u64 0) :: ((D.int IntKind.u64 0) :: ((D.int IntKind.u64 0) :: ((D.int IntKind.u64 0) :: ((D.int IntKind.u64 0) :: ((D.int IntKind.u64 0) :: ((D.int IntKind.u64 0) :: ((D.int IntKind.u64 0) :: ((D.int IntKind.u64 0) :: ((D.int IntKind.u64 0) :: ((D.int IntKind.u64 0) :: ((D.int IntKind.u64 0) :: [])))))))))))))))))))), (BKind.array 1)) .nil) 496 (((D.int IntKind.i64 0) :: ((D.bool false) :: [])), (BKind.struct ((0, 1) :: ((1, 1) :: [])))) (.node .nil 505 (((D.int IntKind.i64 0) :: ((D.str []) :: ((D.str []) :: ((D.list [] 0 true) :: ((D.list [] 0 true) :: ((D.int IntKind.i64 0) :: ((D.str []) :: ((D.int IntKind.i64 0) :: ((D.str []) :: []))))))))), (BKind.struct ((0, 1) :: ((1, 1) :: ((2, 1) :: ((3, 1) :: ((4, 1) :: ((5, 2) :: ((7, 2) :: []))))))))) .nil)) 516 (((D.list [] 0 true) :: ((D.list [] 0 true) :: ((D.int IntKind.i64 0) :: ((D.list [] 0 true) :: [])))), (BKind.struct ((0, 1) :: ((1, 1) :: ((2, 1) :: ((3, 1) :: [])))))) (.node (.node .nil 525 ((D.nilf :: (D.nilf :: [])), (BKind.struct ((0, 1) :: ((1, 1) :: [])))) .nil) 528 (((D.str []) :: ((D.int IntKind.i64 0) :: ((D.str []) :: ((D.str []) :: ((D.list [] 0 true) :: ((D.list [] 0 true) :: ((D.int IntKind.i64 0) :: ((D.str []) :: ((D.int IntKind.i64 0) :: ((D.str []) :: [])))))))))), (BKind.struct ((0, 1) :: ((1, 9) :: [])))) (.node .nil 533 ((D.nilf :: (D.nilf :: [])), (BKind.struct ((0, 1) :: ((1, 1) :: [])))) .nil)))) 536 (((D.str []) :: ((D.list [] 0 true) :: [])), (BKind.struct ((0, 1) :: ((1, 1) :: [])))) (.node (.node (.node (.node .nil 550 (((D.list [] 0 true) :: ((D.list [] 0 true) :: [])), (BKind.struct ((0, 1) :: ((1, 1) :: [])))) .nil) 555 (((D.list [] 0 true) :: ((D.list [] 0 true) :: ((D.int IntKind.i64 0) :: ((D.list [] 0 true) :: ((D.bool false) :: ((D.bool false) :: ((D.bool false) :: ((D.bool false) :: ((D.bool false) :: ((D.bool false) :: [])))))))))), (BKind.struct ((0, 2) :: ((2, 1) :: ((3, 1) :: ((4, 6) :: [])))))) (.node .nil 566 (((D.str []) :: ((D.list [] 0 true) :: [])), (BKind.struct ((0, 1) :: ((1, 1) :: [])))) .nil)) 567 (((D.str []) :: ((D.list [] 0 true) :: [])), (BKind.struct ((0, 1) :: ((1, 1) :: [])))) (.node (.node .nil 577 (((D.str []) :: ((D.str []) :: [])), (BKind.struct ((0, 1) :: ((1, 1) :: [])))) .nil) 581 (((D.list [] 0 true) :: []), (BKind.struct ((0, 1) :: []))) (.node .nil 583 (((D.list [] 0 true) :: ((D.list [] 0 true) :: [])), (BKind.struct ((0, 1) :: ((1, 1) :: [])))) .nil))) 608 ((D.nilf :: ((D.int IntKind.i64 0) :: [])), (BKind.struct ((0, 1) :: ((1, 1) :: [])))) (.node (.node (.node .nil 625 (((D.int IntKind.i64 0) :: ((D.list [] 0 true) :: [])), (BKind.struct ((0, 1) :: ((1, 1) :: [])))) .nil) 649 (((D.int IntKind.u8 0) :: ((D.int IntKind.u8 0) :: ((D.int IntKind.u8 0) :: ((D.int IntKind.u8 0) :: ((D.int IntKind.u8 0) :: ((D.int IntKind.u8 0) :: ((D.int IntKind.u8 0) :: ((D.int IntKind.u8 0) :: ((D.int IntKind.u8 0) :: ((D.int IntKind.u8 0) :: ((D.int IntKind.u8 0) :: ((D.int IntKind.u8 0) :: ((D.int IntKind.u8 0) :: ((D.int IntKind.u8 0) :: ((D.int IntKind.u8 0) :: ((D.int IntKind.u8 0) :: ((D.int IntKind.u8 0) :: ((D.int IntKind.u8 0) :: ((D.int IntKind.u8 0) :: ((D.int IntKind.u8 0) :: ((D.int IntKind.u8 0) :: ((D.int IntKind.u8 0) :: ((D.int IntKind.u8 0) :: ((D.int IntKind.u8 0) :: ((D.int IntKind.u8 0) :: ((D.int IntKind.u8 0) :: ((D.int IntKind.u8 0) :: ((D.int IntKind.u8 0) :: ((D.int IntKind.u8 0) :: ((D.int IntKind.u8 0) :: ((D.int IntKind.u8 0) :: ((D.int IntKind.u8 0) :: [])))))))))))))))))))))))))))))))), (BKind.array 1)) (.node .nil 650 (((D.int IntKind.u8 0) :: ((D.int IntKind.u8 0) :: ((D.int IntKind.u8 0) :: ((D.int IntKind.u8 0) :: ((D.int IntKind.u8 0) :: ((D.int IntKind.u8 0) :: ((D.int IntKind.u8 0) :: ((D.int IntKind.u8 0) :: ((D.int IntKind.u8 0) :: ((D.int IntKind.u8 0) :: ((D.int IntKind.u8 0) :: ((D.int IntKind.u8 0) :: ((D.int IntKind.u8 0) :: ((D.int IntKind.u8 0) :: ((D.int IntKind.u8 0) :: ((D.int IntKind.u8 0) :: ((D.int IntKind.u8 0) :: ((D.int IntKind.u8 0) :: ((D.int IntKind.u8 0) :: ((D.int IntKind.u8 0) :: ((D.int IntKind.u8 0) :: ((D.int IntKind.u8 0) :: ((D.int IntKind.u8 0) :: ((D.int IntKind.u8 0) :: ((D.int IntKind.u8 0) :: ((D.int IntKind.u8 0) :: ((D.int IntKind.u8 0) :: ((D.int IntKind.u8 0) :: ((D.int IntKind.u8 0) :: ((D.int IntKind.u8 0) :: ((D.int IntKind.u8 0) :: ((D.int IntKind.u8 0) :: ((D.int IntKind.u8 0) :: ((D.int IntKind.u8 0) :: ((D.int IntKind.u8 0) :: ((D.int IntKind.u8 0) :: ((D.int IntKind.u8 0) :: ((D.int IntKind.u8 0) :: ((D.int IntKind.u8 0) :: ((D.int IntKind.u8 0) :: ((D.int IntKind.u8 0) :: ((D.int IntKind.u8 0) :: ((D.int IntKind.u8 0) :: ((D.int IntKind.u8 0) :: ((D.int IntKind.u8 0) :: ((D.int IntKind.u8 0) :: ((D.int IntKind.u8 0) :: ((D.int IntKind.u8 0) :: ((D.int IntKind.u8 0) :: ((D.int IntKind.u8 0) :: ((D.int IntKind.u8 0) :: ((D.int IntKind.u8 0) :: ((D.int IntKind.u8 0) :: ((D.int IntKind.u8 0) :: ((D.int IntKind.u8 0) :: ((D.int IntKind.u8 0) :: ((D.int IntKind.u8 0) :: ((D.int IntKind.u8 0) :: ((D.int IntKind.u8 0) :: ((D.int IntKind.u8 0) :: ((D.int IntKind.u8 0) :: ((D.int IntKind.u8 0) :: ((D.int IntKind.u8 0) :: ((D.int IntKind.u8 0) :: [])))))))))))))))))))))))))))))))))))))))))))))))))))))))))))))))), (BKind.array 1)) .nil)) 695 (((D.int IntKind.u8 0) :: ((D.int IntKind.u8 0) :: [])), (BKind.struct ((0, 1) :: ((1, 1) :: [])))) (.node (.node .nil 696 (((D.int IntKind.u8 0) :: ((D.int IntKind.u8 0) :: ((D.int IntKind.u8 0) :: ((D.int IntKind.u8 0) :: ((D.int IntKind.u8 0) :: ((D.int IntKind.u8 0) :: ((D.int IntKind.u8 0) :: ((D.int IntKind.u8 0) :: ((D.int IntKind.u8 0) :: ((D.int IntKind.u8 0) :: ((D.int IntKind.u8 0) :: ((D.int IntKind.u8 0) :: ((D.int IntKind.u8 0) :: ((D.int IntKind.u8 0) :: ((D.int IntKind.u8 0) :: ((D.int IntKind.u8 0) :: ((D.int IntKind.u8 0) :: ((D.int IntKind.u8 0) :: ((D.int IntKind.u8 0) :: ((D.int IntKind.u8 0) :: ((D.int IntKind.u8 0) :: ((D.int IntKind.u8 0) :: ((D.int IntKind.u8 0) :: ((D.int IntKind.u8 0) :: ((D.int IntKind.u8 0) :: ((D.int IntKind.u8 0) :: ((D.int IntKind.u8 0) :: ((D.int IntKind.u8 0) :: ((D.int IntKind.u8 0) :: ((D.int IntKind.u8 0) :: ((D.int IntKind.u8 0) :: ((D.int IntKind.u8 0) :: [])))))))))))))))))))))))))))))))), (BKind.array 2)) .nil) 719 (((D.str []) :: ((D.str []) :: (D.nili :: []))), (BKind.struct ((0, 1) :: ((1, 1) :: ((2, 1) :: []))))) (.node .nil 723 (((D.str []) :: []), (BKind.struct ((0, 1) :: []))) .nil))))))
theorem k_build : TrOk (tyBuild Go.Proofs.Tryz.prog) t_build := by unfold TrOk; kernel_rfl
def t_bs : Tr (List D × Nat) := (.node (.node (.node (.node (.node .nil 27 (((D.int IntKind.u8 0) :: []), 1) .nil) 41 (((D.str []) :: []), 1) (.node .nil 45 (((D.int IntKind.i64 0) :: ((D.int IntKind.i64 0) :: ((D.bool false) :: ((D.list [] 0 true) :: ((D.list [] 0 true) :: []))))), 5) .nil)) 58 (((D.str []) :: ((D.list [] 0 true) :: [])), 2) (.node (.node .nil 60 (((D.list [] 0 true) :: []), 1) .nil) 65 (((D.str []) :: ((D.bool false) :: ((D.list [] 0 true) :: []))), 3) .nil)) 108 (((D.list [] 0 true) :: []), 1) (.node (.node (.node .nil 112 (((D.list [] 0 true) :: ((D.int IntKind.i64 0) :: ((D.int IntKind.i64 0) :: ((D.int IntKind.i64 0) :: ((D.int IntKind.i64 0) :: ((D.int IntKind.i64 0) :: ((D.int IntKind.i64 0) :: ((D.list [] 0 true) :: [])))))))), 8) .nil) 122 (((D.int IntKind.i64 0) :: ((D.int IntKind.i64 0) :: ((D.int IntKind.i64 0) :: ((D.int IntKind.i64 0) :: ((D.bool false) :: ((D.list [] 0 true) :: ((D.list [] 0 true) :: ((D.list [] 0 true) :: [])))))))), 8) (.node .nil 170 (((D.str []) :: []), 1) .nil)) 222 (((D.int IntKind.i64 0) :: ((D.int IntKind.i64 0) :: ((D.bool false) :: ((D.int IntKind.i64 0) :: ((D.int IntKind.i64 0) :: ((D.int IntKind.i64 0) :: [])))))), 6) (.node (.node .nil 285 (((D.int IntKind.i64 0) :: ((D.str []) :: ((D.str []) :: ((D.list [] 0 true) :: ((D.list [] 0 true) :: ((D.int IntKind.i64 0) :: ((D.str []) :: ((D.int IntKind.i64 0) :: ((D.str []) :: []))))))))), 9) .nil) 292 (((D.str []) :: ((D.list [] 0 true) :: [])), 2) .nil))) 293 (((D.str []) :: ((D.str []) :: [])), 2) (.node (.node (.node (.node .nil 296 (((D.list [] 0 true) :: ((D.list [] 0 true) :: ((D.int IntKind.i64 0) :: ((D.list [] 0 true) :: [])))), 4) .nil) 299 (((D.str []) :: ((D.int IntKind.i64 0) :: ((D.str []) :: ((D.str []) :: ((D.list [] 0 true) :: ((D.list [] 0 true) :: ((D.int IntKind.i64 0) :: ((D.str []) :: ((D.int IntKind.i64 0) :: ((D.str []) :: [])))))))))), 10) (.node .nil 300 (((D.str []) :: ((D.list [] 0 true) :: [])), 2) .nil)) 325 (((D.int IntKind.u32 0) :: []), 1) (.node (.node .nil 338 (((D.int IntKind.i64 0) :: ((D.str []) :: ((D.bool false) :: ((D.list [] 0 true) :: ((D.int IntKind.i64 0) :: ((D.list [] 0 true) :: ((D.list [] 0 true) :: ((D.bool false) :: ((D.list [] 0 true) :: ((D.list [] 0 true) :: ((D.list [] 0 true) :: ((D.bool false) :: ((D.bool false) :: ((D.int IntKind.i64 0) :: ((D.bool false) :: ((D.int IntKind.i64 0) :: ((D.bool false) :: ((D.int IntKind.i64 0) :: ((D.list [] 0 true) :: ((D.list [] 0 true) :: ((D.list [] 0 true) :: ((D.list [] 0 true) :: ((D.list [] 0 true) :: ((D.list [] 0 true) :: ((D.list [] 0 true) :: ((D.bool false) :: ((D.bool false) :: ((D.bool false) :: ((D.bool false) :: ((D.int IntKind.i64 0) :: ((D.list [] 0 true) :: ((D.list [] 0 true) :: ((D.int IntKind.i64 0) :: ((D.int IntKind.i64 0) :: ((D.int IntKind.i64 0) :: ((D.int IntKind.i64 0) :: ((D.int IntKind.i64 0) :: ((D.int IntKind.i64 0) :: [])))))))))))))))))))))))))))))))))))))), 38) .nil) 341 (((D.int IntKind.u64 0) :: []), 1) .nil)) 350 (((D.int IntKind.i64 0) :: []), 1) (.node (.node (.node .nil 560 (((D.list [] 0 true) :: []), 1) .nil) 564 (((D.str []) :: ((D.list [] 0 true) :: [])), 2) .nil) 585 (((D.bool false) :: []), 1) (.node (.node .nil 617 ((D.nilp :: []), 1) .nil) 675 (((D.int IntKind.i64 0) :: ((D.str []) :: [])), 2) .nil))))
theorem k_bs : TrOk (tyBS Go.Proofs.Tryz.prog) t_bs := by unfold TrOk; kernel_rfl
def t_msl : Tr (Nat × Nat) := (.node (.node .nil 27 (1, 1) .nil) 41 (1, 16) .nil)
theorem k_msl : TrOk (tySl Go.Proofs.Tryz.prog) t_msl := by unfold TrOk; kernel_rfl
def t_eq : Tr (EK) := (.node (.node (.node (.node .nil 2 EK.prim .nil) 3 EK.prim (.node .nil 4 EK.bool .nil)) 5 EK.prim (.node (.node .nil 9 EK.prim .nil) 12 EK.prim (.node .nil 21 EK.prim .nil))) 23 (EK.flat (LK.i :: (LK.i :: (LK.i :: (LK.i :: (LK.i :: (LK.i :: []))))))) (.node (.node (.node .nil 29 EK.prim .nil) 31 (EK.flat (LK.i :: (LK.i :: []))) (.node .nil 74 EK.ptr .nil)) 78 EK.iface (.node (.node .nil 200 EK.prim .nil) 203 EK.prim (.node .nil 347 (EK.flat (LK.i :: (LK.s :: []))) .nil))))
theorem k_eq : TrOk (tyEq Go.Proofs.Tryz.prog) t_eq := by unfold TrOk; kernel_rfl
def t_conv : Tr (CK) := (.node (.node (.node (.node (.node .nil 131077 (CK.int IntKind.u8) .nil) 131275 (CK.int IntKind.u64) (.node .nil 196613 (CK.int IntKind.u8) .nil)) 196688 (CK.int IntKind.u64) (.node (.node .nil 196811 (CK.int IntKind.u64) .nil) 327682 (CK.int IntKind.i64) .nil)) 327683 (CK.int IntKind.i64) (.node (.node (.node .nil 327692 (CK.int IntKind.u64) .nil) 327701 (CK.int IntKind.i32) (.node .nil 327880 (CK.int IntKind.u32) .nil)) 327883 (CK.int IntKind.u64) (.node (.node .nil 328168 (CK.int IntKind.i8) .nil) 589851 CK.toBytes .nil))) 1376261 (CK.int IntKind.u8) (.node (.node (.node (.node .nil 1376456 (CK.int IntKind.u32) .nil) 1769481 CK.toStr (.node .nil 5242883 (CK.int IntKind.i64) .nil)) 5243080 (CK.int IntKind.u32) (.node (.node .nil 13107205 (CK.int IntKind.u8) .nil) 13107221 (CK.int IntKind.i32) .nil)) 13107280 (CK.int IntKind.u64) (.node (.node (.node .nil 13107403 (CK.int IntKind.u64) .nil) 13303811 (CK.int IntKind.i64) .nil) 13303813 (CK.int IntKind.u8) (.node (.node .nil 13304008 (CK.int IntKind.u32) .nil) 31981570 (CK.int IntKind.i64) .nil))))
theorem k_conv : TrOk (fun k => tyConv Go.Proofs.Tryz.prog (k / 65536) (k % 65536)) t_conv := by unfold TrOk; kernel_rfl
def t_conc : Tr (Unit) := (.node (.node (.node (.node (.node .nil 9 () .nil) 372 () .nil) 375 () (.node .nil 381 () .nil)) 387 () (.node (.node (.node .nil 393 () .nil) 395 () .nil) 401 () (.node .nil 405 () .nil))) 411 () (.node (.node (.node (.node .nil 417 () .nil) 423 () .nil) 429 () (.node .nil 435 () .nil)) 441 () (.node (.node (.node .nil 446 () .nil) 708 () .nil) 710 () (.node .nil 721 () .nil))))
theorem k_conc : TrOk (tyConc Go.Proofs.Tryz.prog) t_conc := by unfold TrOk; kernel_rfl
def t_sli : Tr (SK) := (.node (.node (.node (.node .nil 9 SK.string .nil) 27 (SK.slice 1) .nil) 41 (SK.slice 1) (.node .nil 108 (SK.slice 1) .nil)) 222 (SK.slice 6) (.node (.node (.node .nil 309 (SK.array 24 1) .nil) 325 (SK.slice 1) .nil) 341 (SK.slice 1) (.node .nil 452 (SK.array 65 1) .nil)))
theorem k_sli : TrOk (tySlice Go.Proofs.Tryz.prog) t_sli := by unfold TrOk; kernel_rfl
def t_idx : Tr (IK) := (.node (.node (.node (.node (.node (.node .nil 27 (IK.slice 1) .nil) 41 (IK.slice 1) .nil) 45 (IK.slice 5) (.node .nil 57 (IK.slice 2) .nil)) 58 (IK.slice 2) (.node (.node .nil 60 (IK.slice 1) .nil) 65 (IK.slice 3) (.node .nil 108 (IK.slice 1) .nil))) 112 (IK.slice 8) (.node (.node (.node .nil 222 (IK.slice 6) .nil) 283 (IK.array 11 1) (.node .nil 285 (IK.slice 9) .nil)) 292 (IK.slice 2) (.node (.node .nil 293 (IK.slice 2) .nil) 296 (IK.slice 4) (.node .nil 299 (IK.slice 10) .nil)))) 300 (IK.slice 2) (.node (.node (.node (.node (.node .nil 309 (IK.array 24 1) .nil) 325 (IK.slice 1) .nil) 341 (IK.slice 1) (.node .nil 350 (IK.slice 1) .nil)) 451 (IK.array 20 1) (.node (.node .nil 452 (IK.array 65 1) .nil) 553 (IK.array 6 1) (.node .nil 560 (IK.slice 1) .nil))) 564 (IK.slice 2) (.node (.node (.node .nil 585 (IK.slice 1) .nil) 617 (IK.slice 1) (.node .nil 649 (IK.array 32 1) .nil)) 650 (IK.array 64 1) (.node (.node .nil 675 (IK.slice 2) .nil) 693 (IK.array 256 1) (.node .nil 696 (IK.array 16 2) .nil)))))
theorem k_idx : TrOk (tyIdx Go.Proofs.Tryz.prog) t_idx := by unfold TrOk; kernel_rfl
def t_idxV : Tr (IVK) := (.node (.node .nil 9 IVK.string .nil) 192 (IVK.array 12 1 false) (.node .nil 557 IVK.string .nil))
theorem k_idxV : TrOk (tyIdxV Go.Proofs.Tryz.prog) t_idxV := by unfold TrOk; kernel_rfl
def t_map : Tr (LK × D) := (.node (.node (.node .nil 281 (LK.i, (D.agg ((D.str []) :: ((D.str []) :: (D.nili :: []))))) .nil) 344 (LK.s, (D.str [])) .nil) 359 (LK.s, (D.bool false)) (.node (.node .nil 610 (LK.i, (D.agg (D.nilf :: ((D.int IntKind.i64 0) :: [])))) .nil) 621 (LK.i, D.nilf) .nil))
theorem k_map : TrOk (tyMap Go.Proofs.Tryz.prog) t_map := by unfold TrOk; kernel_rfl
def t_len : Tr (LKind) := (.node (.node (.node (.node (.node .nil 9 LKind.string .nil) 27 LKind.slice (.node .nil 41 LKind.slice .nil)) 45 LKind.slice (.node (.node .nil 57 LKind.slice .nil) 58 LKind.slice .nil)) 60 LKind.slice (.node (.node (.node .nil 65 LKind.slice .nil) 108 LKind.slice (.node .nil 112 LKind.slice .nil)) 222 LKind.slice (.node (.node .nil 285 LKind.slice .nil) 292 LKind.slice .nil))) 293 LKind.slice (.node (.node (.node (.node .nil 296 LKind.slice .nil) 299 LKind.slice (.node .nil 300 LKind.slice .nil)) 325 LKind.slice (.node (.node .nil 341 LKind.slice .nil) 350 LKind.slice .nil)) 557 LKind.string (.node (.node (.node .nil 560 LKind.slice .nil) 564 LKind.slice .nil) 585 LKind.slice (.node (.node .nil 617 LKind.slice .nil) 675 LKind.slice .nil))))
theorem k_len : TrOk (tyLen Go.Proofs.Tryz.prog) t_len := by unfold TrOk; kernel_rfl
def t_app : Tr (Nat × Nat) := (.node (.node (.node (.node (.node .nil 1769481 (1, 1) .nil) 1769499 (1, 1) .nil) 2687017 (1, 16) (.node (.node .nil 2949165 (5, 72) .nil) 3801146 (2, 40) .nil)) 3932220 (1, 24) (.node (.node (.node .nil 4259905 (3, 48) .nil) 7077996 (1, 24) .nil) 7340144 (8, 96) (.node (.node .nil 7995514 (8, 112) .nil) 11141290 (1, 16) .nil))) 14549214 (6, 48) (.node (.node (.node (.node .nil 18678045 (9, 136) .nil) 19136804 (2, 40) .nil) 19202341 (2, 32) (.node (.node .nil 19398952 (4, 80) .nil) 19595563 (10, 152) .nil)) 19661100 (2, 40) (.node (.node (.node .nil 21299525 (1, 4) .nil) 22151506 (38, 520) .nil) 22348117 (1, 8) (.node (.node .nil 22937950 (1, 8) .nil) 36962868 (2, 40) .nil))))
theorem k_app : TrOk (fun k => tyApp Go.Proofs.Tryz.prog (k / 65536) (k % 65536)) t_app := by unfold TrOk; kernel_rfl
def t_meth : List (Nat × String × Nat) := [(372, "cretula/dispatch.decode", 663), (375, "cretula/dispatch.decode", 666), (381, "cretula/dispatch.decode", 669), (387, "cretula/dispatch.decode", 672), (393, "cretula/dispatch.decode", 675), (395, "cretula/dispatch.decode", 678), (401, "cretula/dispatch.decode", 681), (405, "cretula/dispatch.decode", 684), (411, "cretula/dispatch.decode", 687), (417, "cretula/dispatch.decode", 690), (423, "cretula/dispatch.decode", 693), (429, "cretula/dispatch.decode", 696), (435, "cretula/dispatch.decode", 699), (441, "cretula/dispatch.decode", 702), (446, "cretula/dispatch.decode", 705)]
theorem k_meth : (t_meth.map fun p => tyMeth Go.Proofs.Tryz.prog p.1 p.2.1) = t_meth.map fun p => some p.2.2 := by kernel_rfl
def T : Tys := ⟨t_ld, t_fld, t_fldV, t_zero, t_build, t_bs, t_msl, t_eq, t_conv, t_conc, t_sli, t_idx, t_idxV, t_map, t_len, t_app, t_meth, t_ext⟩
theorem tok : TOk T Go.Proofs.Tryz.prog := ⟨k_ld, k_fld, k_fldV, k_zero, k_build, k_bs, k_msl, k_eq, k_conv, k_conc, k_sli, k_idx, k_idxV, k_map, k_len, k_app, k_meth, k_ext⟩
end Go.Proofs.Tryz
namespace Go.Proofs
open Go.Shelf
def Tryz.lays169_ren : Go.Shelf.Ren := ⟨fun | 169 => 30 | n => n, fun | 70 => 74 | 9 => 9 | 0 => 0 | 72 => 76 | 37 => 27 | 127 => 121 | 3 => 3 | 5 => 5 | n => n, fun | n => n⟩
theorem Tryz.lays169 : Go.Proofs.Lays.n169 Tryz.prog Tryz.lays169_ren := {
  mixed := by kernel_rfl
  f169 := Tryz.func30.trans (congrArg some (by kernel_rfl))
  t0 := Tryz.underlying0
  a0 := Tryz.isAgg0
  z0 := Tryz.sizeOf0
  v0 := Tryz.zeroValue0
  t3 := Tryz.underlying3
  a3 := Tryz.isAgg3
  z3 := Tryz.sizeOf3
  v3 := Tryz.zeroValue3
  t9 := Tryz.underlying9
  a9 := Tryz.isAgg9
  z9 := Tryz.sizeOf9
  v9 := Tryz.zeroValue9
  t37 := Tryz.underlying27
  a37 := Tryz.isAgg27
  z37 := Tryz.sizeOf27
  v37 := Tryz.zeroValue27
  t70 := Tryz.underlying74
  a70 := Tryz.isAgg74
  z70 := Tryz.sizeOf74
  v70 := Tryz.zeroValue74
  t72 := Tryz.underlying76
  a72 := Tryz.isAgg76
  z72 := Tryz.sizeOf76
  v72 := Tryz.zeroValue76
  t127 := Tryz.underlying121
  a127 := Tryz.isAgg121
  z127 := Tryz.sizeOf121
  v127 := Tryz.zeroValue121 }
theorem Tryz.Builder_Extra_169 : Builder.Extra Tryz.prog Tryz.lays169_ren := {
  sizeBuilder := by kernel_rfl
  liesBuilder := by kernel_rfl
  t5 := Tryz.underlying5
  a5 := Tryz.isAgg5
  z5 := Tryz.sizeOf5
  v5 := Tryz.zeroValue5
  infoByte := by kernel_rfl
  cellsByte := by kernel_rfl
  sizeByte := by kernel_rfl
  neB5 := by decide }
def Tryz.lays156_ren : Go.Shelf.Ren := ⟨fun | 156 => 63 | 165 => 71 | 166 => 72 | 169 => 30 | 240 => 60 | 241 => 138 | 276 => 129 | 277 => 214 | n => n, fun | 31 => 41 | 9 => 9 | 3 => 3 | 4 => 4 | 0 => 0 | 20 => 20 | 72 => 76 | 76 => 135 | 70 => 74 | 37 => 27 | 75 => 78 | 127 => 121 | 164 => 194 | 5 => 5 | 80 => 81 | n => n, fun | n => n⟩
theorem Tryz.lays156 : Go.Proofs.Lays.n156 Tryz.prog Tryz.lays156_ren := {
  mixed := by kernel_rfl
  f156 := Tryz.func63.trans (congrArg some (by kernel_rfl))
  f165 := Tryz.func71.trans (congrArg some (by kernel_rfl))
  f166 := Tryz.func72.trans (congrArg some (by kernel_rfl))
  f169 := Tryz.func30.trans (congrArg some (by kernel_rfl))
  f240 := Tryz.func60.trans (congrArg some (by kernel_rfl))
  f241 := Tryz.func138.trans (congrArg some (by kernel_rfl))
  f276 := Tryz.func129.trans (congrArg some (by kernel_rfl))
  f277 := Tryz.func214.trans (congrArg some (by kernel_rfl))
  t0 := Tryz.underlying0
  a0 := Tryz.isAgg0
  z0 := Tryz.sizeOf0
  v0 := Tryz.zeroValue0
  t3 := Tryz.underlying3
  a3 := Tryz.isAgg3
  z3 := Tryz.sizeOf3
  v3 := Tryz.zeroValue3
  t4 := Tryz.underlying4
  a4 := Tryz.isAgg4
  z4 := Tryz.sizeOf4
  v4 := Tryz.zeroValue4
  t9 := Tryz.underlying9
  a9 := Tryz.isAgg9
  z9 := Tryz.sizeOf9
  v9 := Tryz.zeroValue9
  t20 := Tryz.underlying20
  a20 := Tryz.isAgg20
  z20 := Tryz.sizeOf20
  v20 := Tryz.zeroValue20
  t31 := Tryz.underlying41
  a31 := Tryz.isAgg41
  z31 := Tryz.sizeOf41
  v31 := Tryz.zeroValue41
  t37 := Tryz.underlying27
  a37 := Tryz.isAgg27
  z37 := Tryz.sizeOf27
  v37 := Tryz.zeroValue27
  t70 := Tryz.underlying74
  a70 := Tryz.isAgg74
  z70 := Tryz.sizeOf74
  v70 := Tryz.zeroValue74
  t72 := Tryz.underlying76
  a72 := Tryz.isAgg76
  z72 := Tryz.sizeOf76
  v72 := Tryz.zeroValue76
  t75 := Tryz.underlying78
  a75 := Tryz.isAgg78
  z75 := Tryz.sizeOf78
  v75 := Tryz.zeroValue78
  t76 := Tryz.underlying135
  a76 := Tryz.isAgg135
  z76 := Tryz.sizeOf135
  v76 := Tryz.zeroValue135
  t127 := Tryz.underlying121
  a127 := Tryz.isAgg121
  z127 := Tryz.sizeOf121
  v127 := Tryz.zeroValue121
  t164 := Tryz.underlying194
  a164 := Tryz.isAgg194
  z164 := Tryz.sizeOf194
  v164 := Tryz.zeroValue194 }
theorem Tryz.Builder_Extra_156 : Builder.Extra Tryz.prog Tryz.lays156_ren := {
  sizeBuilder := by kernel_rfl
  liesBuilder := by kernel_rfl
  t5 := Tryz.underlying5
  a5 := Tryz.isAgg5
  z5 := Tryz.sizeOf5
  v5 := Tryz.zeroValue5
  infoByte := by kernel_rfl
  cellsByte := by kernel_rfl
  sizeByte := by kernel_rfl
  neB5 := by decide }
open Go.RowKit in
theorem Tryz.strings_Join_none (a : Option Addr) (c : Nat) (sep : ByteArray) (w : World) :
    Calls Tryz.prog 63 #[.slice a 0 c, .string sep] w fun e w' => e = .returned (.string ⟨#[]⟩) ∧ w' = w := Any.strings_Join_none Tryz.lays156 Tryz.Builder_Extra_156 a c sep w
open Go.RowKit in
theorem Tryz.strings_Join (bk o c : Nat) (xs : List ByteArray) (sep : ByteArray) (w : World) (hcells : ∀ (j : Nat) x, xs[j]? = some x → w.cell? ⟨bk, o + j, none⟩ = some (.string x)) (hbk : bk < w.heap.size) (hN : xs.length ≤ 140737488355328) (hcap : xs.length ≤ c) (hlen : (Lib.join (xs.map (·.data.toList)) sep.data.toList).length ≤ 140737488355328) :
    Calls Tryz.prog 63 #[.slice (some ⟨bk, o, none⟩) xs.length c, .string sep] w fun e w' => e = .returned (.string ⟨(Lib.join (xs.map (·.data.toList)) sep.data.toList).toArray⟩) ∧ Below w.heap.size w w' := Any.strings_Join Tryz.lays156 Tryz.Builder_Extra_156 bk o c xs sep w hcells hbk hN hcap hlen
open Go.RowKit in
theorem Tryz.Builder_String_any_k (B b : Nat) (l : List UInt8) (w : World) (h : Lib.IsBuilderF 76 5 B b (Lib.byteCells l) w) (hBw : B ≤ w.heap.size) :
    Calls Tryz.prog 30 #[.pointer (some ⟨b, 0, none⟩)] w fun e w' => e = .returned (.string ⟨l.toArray⟩) ∧ (Lib.IsBuilderF 76 5 B b (Lib.byteCells l) w' ∧ Below B w w' ∧ Lib.OthersKept 5 (some b) w w') := Any.Builder_String_any_k Tryz.lays169 Tryz.Builder_Extra_169 B b l w h hBw
def Tryz.laysM171_ren : Go.Shelf.Ren := ⟨fun | 171 => 40 | 243 => 75 | 246 => 139 | 283 => 215 | 284 => 216 | 285 => 217 | 286 => 218 | 129 => 317 | 317 => 316 | 318 => 318 | 319 => 319 | 320 => 320 | 337 => 426 | 338 => 427 | n => n, fun | 3 => 3 | 9 => 9 | 2 => 2 | 4 => 4 | 171 => 309 | 0 => 0 | 53 => 203 | 37 => 27 | 5 => 5 | 173 => 312 | 212 => 451 | 51 => 200 | 20 => 20 | 213 => 452 | 46 => 80 | 232 => 649 | 233 => 650 | n => n, fun | 17 => 1 | 18 => 2 | 19 => 3 | n => n⟩
theorem Tryz.laysM171 : Go.Proofs.LaysM.n171 Tryz.prog Tryz.laysM171_ren := {
  mixed := by kernel_rfl
  f129 := Tryz.func317.trans (congrArg some (by kernel_rfl))
  f171 := Tryz.func40.trans (congrArg some (by kernel_rfl))
  f243 := Tryz.func75.trans (congrArg some (by kernel_rfl))
  f246 := Tryz.func139.trans (congrArg some (by kernel_rfl))
  f283 := Tryz.func215.trans (congrArg some (by kernel_rfl))
  f284 := Tryz.func216.trans (congrArg some (by kernel_rfl))
  f285 := Tryz.func217.trans (congrArg some (by kernel_rfl))
  f286 := Tryz.func218.trans (congrArg some (by kernel_rfl))
  f317 := Tryz.func316.trans (congrArg some (by kernel_rfl))
  f318 := Tryz.func318.trans (congrArg some (by kernel_rfl))
  f319 := Tryz.func319.trans (congrArg some (by kernel_rfl))
  f320 := Tryz.func320.trans (congrArg some (by kernel_rfl))
  f337 := Tryz.func426.trans (congrArg some (by kernel_rfl))
  f338 := Tryz.func427.trans (congrArg some (by kernel_rfl))
  t0 := Tryz.underlying0
  a0 := Tryz.isAgg0
  z0 := Tryz.sizeOf0
  v0 := Tryz.zeroValue0
  t2 := Tryz.underlying2
  a2 := Tryz.isAgg2
  z2 := Tryz.sizeOf2
  v2 := Tryz.zeroValue2
  t3 := Tryz.underlying3
  a3 := Tryz.isAgg3
  z3 := Tryz.sizeOf3
  v3 := Tryz.zeroValue3
  t4 := Tryz.underlying4
  a4 := Tryz.isAgg4
  z4 := Tryz.sizeOf4
  v4 := Tryz.zeroValue4
  t5 := Tryz.underlying5
  a5 := Tryz.isAgg5
  z5 := Tryz.sizeOf5
  v5 := Tryz.zeroValue5
  t9 := Tryz.underlying9
  a9 := Tryz.isAgg9
  z9 := Tryz.sizeOf9
  v9 := Tryz.zeroValue9
  t20 := Tryz.underlying20
  a20 := Tryz.isAgg20
  z20 := Tryz.sizeOf20
  v20 := Tryz.zeroValue20
  t37 := Tryz.underlying27
  a37 := Tryz.isAgg27
  z37 := Tryz.sizeOf27
  v37 := Tryz.zeroValue27
  t46 := Tryz.underlying80
  a46 := Tryz.isAgg80
  z46 := Tryz.sizeOf80
  v46 := Tryz.zeroValue80
  t51 := Tryz.underlying200
  a51 := Tryz.isAgg200
  z51 := Tryz.sizeOf200
  v51 := Tryz.zeroValue200
  t53 := Tryz.underlying203
  a53 := Tryz.isAgg203
  z53 := Tryz.sizeOf203
  v53 := Tryz.zeroValue203
  t171 := Tryz.underlying309
  a171 := Tryz.isAgg309
  z171 := Tryz.sizeOf309
  v171 := Tryz.zeroValue309
  t173 := Tryz.underlying312
  a173 := Tryz.isAgg312
  z173 := Tryz.sizeOf312
  v173 := Tryz.zeroValue312
  t212 := Tryz.underlying451
  a212 := Tryz.isAgg451
  z212 := Tryz.sizeOf451
  v212 := Tryz.zeroValue451
  t213 := Tryz.underlying452
  a213 := Tryz.isAgg452
  z213 := Tryz.sizeOf452
  t232 := Tryz.underlying649
  a232 := Tryz.isAgg649
  z232 := Tryz.sizeOf649
  v232 := Tryz.zeroValue649
  t233 := Tryz.underlying650
  a233 := Tryz.isAgg650
  z233 := Tryz.sizeOf650
  v233 := Tryz.zeroValue650
  g17 := by kernel_rfl
  g18 := by kernel_rfl
  g19 := by kernel_rfl
  i0 := by kernel_rfl
  i2 := by kernel_rfl
  i3 := by kernel_rfl
  i4 := by kernel_rfl
  i5 := by kernel_rfl
  i9 := by kernel_rfl
  i20 := by kernel_rfl
  i37 := by kernel_rfl
  i46 := by kernel_rfl
  i51 := by kernel_rfl
  i53 := by kernel_rfl
  i171 := by kernel_rfl
  i173 := by kernel_rfl
  i212 := by kernel_rfl
  i232 := by kernel_rfl
  i233 := by kernel_rfl
  m17 := by kernel_rfl
  m18 := by kernel_rfl
  m19 := by kernel_rfl }
open Go.RowKit Go.Sort Go.Lib in
theorem Tryz.strconv_Itoa (n : Int) (h0 : -9223372036854775808 ≤ n) (h1 : n ≤ 9223372036854775807) (w : World) (htab : Lib.TabIs Tryz.prog w "internal/strconv.uint64pow10" .u64 Lib.pow10Tab) :
    Calls Tryz.prog 40 #[.int .i64 n] w fun e w' => e = .returned (.string ⟨(Lib.itoa n).toArray⟩) ∧ ∃ k os, w' = grow (w.drewN k) os := Any.strconv_Itoa Tryz.laysM171 n h0 h1 w htab
def Tryz.lays105_ren : Go.Shelf.Ren := ⟨fun | 105 => 38 | 212 => 69 | 99 => 70 | 165 => 71 | 166 => 72 | 170 => 73 | 169 => 30 | 263 => 135 | 264 => 136 | 206 => 137 | 240 => 60 | 241 => 138 | 276 => 129 | 277 => 214 | n => n, fun | 9 => 9 | 3 => 3 | 4 => 4 | 20 => 20 | 0 => 0 | 46 => 80 | 109 => 131 | 5 => 5 | 72 => 76 | 76 => 135 | 51 => 200 | 146 => 201 | 53 => 203 | 148 => 204 | 70 => 74 | 37 => 27 | 75 => 78 | 127 => 121 | 164 => 194 | 80 => 81 | n => n, fun | n => n⟩
theorem Tryz.lays105 : Go.Proofs.Lays.n105 Tryz.prog Tryz.lays105_ren := {
  mixed := by kernel_rfl
  f99 := Tryz.func70.trans (congrArg some (by kernel_rfl))
  f105 := Tryz.func38.trans (congrArg some (by kernel_rfl))
  f165 := Tryz.func71.trans (congrArg some (by kernel_rfl))
  f166 := Tryz.func72.trans (congrArg some (by kernel_rfl))
  f169 := Tryz.func30.trans (congrArg some (by kernel_rfl))
  f170 := Tryz.func73.trans (congrArg some (by kernel_rfl))
  f206 := Tryz.func137.trans (congrArg some (by kernel_rfl))
  f212 := Tryz.func69.trans (congrArg some (by kernel_rfl))
  f240 := Tryz.func60.trans (congrArg some (by kernel_rfl))
  f241 := Tryz.func138.trans (congrArg some (by kernel_rfl))
  f263 := Tryz.func135.trans (congrArg some (by kernel_rfl))
  f264 := Tryz.func136.trans (congrArg some (by kernel_rfl))
  f276 := Tryz.func129.trans (congrArg some (by kernel_rfl))
  f277 := Tryz.func214.trans (congrArg some (by kernel_rfl))
  t0 := Tryz.underlying0
  a0 := Tryz.isAgg0
  z0 := Tryz.sizeOf0
  v0 := Tryz.zeroValue0
  t3 := Tryz.underlying3
  a3 := Tryz.isAgg3
  z3 := Tryz.sizeOf3
  v3 := Tryz.zeroValue3
  t4 := Tryz.underlying4
  a4 := Tryz.isAgg4
  z4 := Tryz.sizeOf4
  v4 := Tryz.zeroValue4
  t5 := Tryz.underlying5
  a5 := Tryz.isAgg5
  z5 := Tryz.sizeOf5
  v5 := Tryz.zeroValue5
  t9 := Tryz.underlying9
  a9 := Tryz.isAgg9
  z9 := Tryz.sizeOf9
  v9 := Tryz.zeroValue9
  t20 := Tryz.underlying20
  a20 := Tryz.isAgg20
  z20 := Tryz.sizeOf20
  v20 := Tryz.zeroValue20
  t37 := Tryz.underlying27
  a37 := Tryz.isAgg27
  z37 := Tryz.sizeOf27
  v37 := Tryz.zeroValue27
  t46 := Tryz.underlying80
  a46 := Tryz.isAgg80
  z46 := Tryz.sizeOf80
  v46 := Tryz.zeroValue80
  t51 := Tryz.underlying200
  a51 := Tryz.isAgg200
  z51 := Tryz.sizeOf200
  v51 := Tryz.zeroValue200
  t53 := Tryz.underlying203
  a53 := Tryz.isAgg203
  z53 := Tryz.sizeOf203
  v53 := Tryz.zeroValue203
  t70 := Tryz.underlying74
  a70 := Tryz.isAgg74
  z70 := Tryz.sizeOf74
  v70 := Tryz.zeroValue74
  t72 := Tryz.underlying76
  a72 := Tryz.isAgg76
  z72 := Tryz.sizeOf76
  v72 := Tryz.zeroValue76
  t75 := Tryz.underlying78
  a75 := Tryz.isAgg78
  z75 := Tryz.sizeOf78
  v75 := Tryz.zeroValue78
  t76 := Tryz.underlying135
  a76 := Tryz.isAgg135
  z76 := Tryz.sizeOf135
  v76 := Tryz.zeroValue135
  t109 := Tryz.underlying131
  a109 := Tryz.isAgg131
  z109 := Tryz.sizeOf131
  v109 := Tryz.zeroValue131
  t127 := Tryz.underlying121
  a127 := Tryz.isAgg121
  z127 := Tryz.sizeOf121
  v127 := Tryz.zeroValue121
  t146 := Tryz.underlying201
  a146 := Tryz.isAgg201
  z146 := Tryz.sizeOf201
  v146 := Tryz.zeroValue201
  t148 := Tryz.underlying204
  a148 := Tryz.isAgg204
  z148 := Tryz.sizeOf204
  v148 := Tryz.zeroValue204
  t164 := Tryz.underlying194
  a164 := Tryz.isAgg194
  z164 := Tryz.sizeOf194
  v164 := Tryz.zeroValue194 }
theorem Tryz.Builder_Extra_105 : Builder.Extra Tryz.prog Tryz.lays105_ren := {
  sizeBuilder := by kernel_rfl
  liesBuilder := by kernel_rfl
  t5 := Tryz.underlying5
  a5 := Tryz.isAgg5
  z5 := Tryz.sizeOf5
  v5 := Tryz.zeroValue5
  infoByte := by kernel_rfl
  cellsByte := by kernel_rfl
  sizeByte := by kernel_rfl
  neB5 := by decide }
open Go.RowKit Go.Lib in
theorem Tryz.strings_Repeat (s : ByteArray) (c : Nat) (w : World) (hc : c ≤ 9223372036854775807) (hlen : s.size * c ≤ 140737488355328) :
    Calls Tryz.prog 38 #[.string s, .int .i64 c] w fun e w' => e = .returned (.string ⟨(Lib.repeatL s.data.toList c).toArray⟩) ∧ Below w.heap.size w w' := Any.strings_Repeat Tryz.lays105 Tryz.Builder_Extra_105 s c w hc hlen
end Go.Proofs
