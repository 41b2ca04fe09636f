/- A framework for proofs about Go programs in this model: part J. Everything is proved; no condition is added. -/
import Derived.Test.YtgliijeioigckaaGreatDoorProg
import Derived.Shelf.Strings.Builder1
import Derived.Shelf.Strings.Builder2
import Derived.Shelf.Strings.OnBuilder
import Derived.Shelf.Strings.BuilderF
import Derived.Shelf.Strings.BuilderK
import Derived.Shelf.Strings.Builder2Cap
import Derived.Shelf.LaysM
import Derived.Shelf.Strconv.Itoa3
import Derived.Shelf.Strings.Repeat
import Derived.Shelf.Strings.BuilderCap
import Derived.Test.YtgliijeioigckaaGreatDoorFwC
set_option linter.unusedVariables false
set_option linter.unusedSimpArgs false
namespace Go.Fw
abbrev tL{α:Type}(k:Nat) (v:α):Tr α:= .node .nil k v .nil
abbrev tN{α:Type}(l:Tr α) (k:Nat) (v:α) (r:Tr α):Tr α:= .node l k v r
abbrev zI:D:= .int .i64 0
abbrev zL:D:= .list [] 0 true
abbrev zS:D:= .str []
abbrev zB:D:= .bool false
end Go.Fw
namespace Go.Proofs.Tryz
open Go Go.Fw
def t_ext:Tr (ExK):=tN (tL 130 ExK.indexByte) 639 ExK.count .nil
theorem k_ext:TrOk (tyExt prog) t_ext:=by unfold TrOk;kernel_rfl
def t_ld:Tr (Nat×Bool):=tN (tN (tN (tN (tN (tN (tL 3 (1,false)) 4 (1,false) (tL 5 (1,false))) 9 (1,false) (tN (tL 21 (1,false)) 23 (6,true) (tL 27 (1,false)))) 29 (1,false) (tN (tN (tL 31 (2,true)) 41 (1,false) (tL 43 (1,false))) 45 (1,false) (tN (tL 47 (5,true)) 52 (1,false) .nil))) 54 (2,true) (tN (tN (tN (tL 56 (2,true)) 58 (1,false) (tL 60 (1,false))) 62 (2,true) (tN (tL 64 (4,true)) 65 (1,false) (tL 67 (29,true)))) 71 (33,true) (tN (tN (tL 74 (1,false)) 78 (1,false) (tL 108 (1,false))) 112 (1,false) (tN (tL 114 (19,true)) 116 (23,true) .nil)))) 122 (1,false) (tN (tN (tN (tN (tL 124 (8,true)) 130 (1,false) (tL 139 (5,true))) 170 (1,false) (tN (tL 175 (1,false)) 182 (1,false) (tL 184 (8,true)))) 186 (3,true) (tN (tN (tL 200 (1,false)) 203 (1,false) (tL 222 (1,false))) 228 (6,true) (tN (tL 234 (1,false)) 265 (1,false) .nil))) 267 (1,false) (tN (tN (tN (tL 270 (1,false)) 280 (3,true) (tL 283 (11,true))) 285 (1,false) (tN (tL 287 (4,true)) 289 (3,true) (tL 291 (4,true)))) 292 (1,false) (tN (tN (tL 293 (1,false)) 295 (2,true) (tL 296 (1,false))) 298 (7,true) (tN (tL 299 (1,false)) 300 (1,false) .nil))))) 302 (38,true) (tN (tN (tN (tN (tN (tL 347 (2,true)) 364 (1,false) (tL 365 (1,false))) 366 (1,false) (tN (tL 368 (1,false)) 370 (1,false) (tL 372 (3,true)))) 373 (1,false) (tN (tN (tL 375 (3,true)) 377 (1,false) (tL 379 (1,false))) 381 (3,true) (tN (tL 383 (1,false)) 385 (1,false) .nil))) 387 (3,true) (tN (tN (tN (tL 389 (1,false)) 391 (1,false) (tL 397 (1,false))) 399 (1,false) (tN (tL 403 (1,false)) 407 (1,false) (tL 409 (1,false)))) 413 (1,false) (tN (tN (tL 415 (1,false)) 419 (1,false) (tL 421 (1,false))) 425 (1,false) (tN (tL 427 (1,false)) 431 (1,false) .nil)))) 433 (1,false) (tN (tN (tN (tN (tL 437 (1,false)) 439 (1,false) (tL 443 (1,false))) 451 (20,true) (tN (tL 505 (9,true)) 516 (4,true) (tL 522 (1,false)))) 523 (1,false) (tN (tN (tL 525 (2,true)) 528 (10,true) (tL 530 (1,false))) 531 (1,false) (tN (tL 533 (2,true)) 536 (2,true) .nil))) 550 (2,true) (tN (tN (tN (tL 555 (10,true)) 564 (1,false) (tL 566 (2,true))) 567 (2,true) (tN (tL 572 (1,false)) 577 (2,true) .nil)) 583 (2,true) (tN (tN (tL 606 (1,false)) 608 (2,true) (tL 649 (32,true))) 650 (64,true) (tN (tL 695 (2,true)) 696 (32,true) .nil)))))
theorem k_ld:TrOk (tyLd prog) t_ld:=by unfold TrOk;kernel_rfl
def t_fld:Tr (Nat):=tN (tN (tN (tN (tN (tN (tN (tL 1507328 0) 1507329 1 (tL 1507330 2)) 1507331 3 (tN (tL 1507332 4) 1507333 5 .nil)) 2031616 0 (tN (tN (tL 2031617 1) 3080192 0 .nil) 3080193 1 (tN (tL 3080194 2) 3080195 3 .nil))) 3080196 4 (tN (tN (tN (tL 3538944 0) 3538945 1 .nil) 3670016 0 (tN (tL 3670017 1) 4063232 0 .nil)) 4063233 1 (tN (tN (tL 4194304 0) 4194305 2 .nil) 4390912 0 (tN (tL 4390913 1) 4390914 2 .nil)))) 4390915 4 (tN (tN (tN (tN (tL 4390916 5) 4390917 11 .nil) 4390918 17 (tN (tL 4390919 18) 4390920 22 .nil)) 4390921 23 (tN (tN (tL 4390922 25) 4390923 26 .nil) 4390924 28 (tN (tL 4653056 0) 4653057 29 .nil))) 4653058 31 (tN (tN (tN (tL 4980736 0) 4980737 1 .nil) 6225920 0 (tN (tL 6225921 1) 7471104 0 .nil)) 7471105 1 (tN (tN (tL 7471106 3) 7471107 4 .nil) 7471108 10 (tN (tL 7471109 11) 7471110 17 .nil))))) 7471111 18 (tN (tN (tN (tN (tN (tL 7602176 0) 7602177 19 .nil) 7602178 21 (tN (tL 8126465 1) 8126466 2 .nil)) 8126467 7 (tN (tN (tL 9109504 0) 9109505 1 .nil) 9109506 2 (tN (tL 9109507 3) 9109508 4 .nil))) 12058624 0 (tN (tN (tN (tL 12058625 1) 12058626 7 .nil) 12189696 0 (tN (tL 12189697 1) 12189698 2 .nil)) 14811136 0 (tN (tN (tL 14811137 1) 14811138 2 .nil) 14942208 0 (tN (tL 14942209 1) 14942210 2 .nil)))) 14942211 3 (tN (tN (tN (tN (tL 14942212 4) 14942213 5 .nil) 17104896 0 (tN (tL 17104897 1) 17104898 2 .nil)) 18350080 0 (tN (tN (tL 18808832 0) 18808833 1 .nil) 18808834 2 (tN (tL 18808835 3) 18939904 0 .nil))) 18939905 1 (tN (tN (tN (tL 18939906 2) 19070976 0 .nil) 19070977 1 (tN (tL 19070978 2) 19070979 3 .nil)) 19333120 0 (tN (tN (tL 19333121 1) 19529728 0 .nil) 19529729 1 (tN (tL 19529730 2) 19529731 3 .nil)))))) 19529732 4 (tN (tN (tN (tN (tN (tN (tL 19529733 5) 19529734 6 .nil) 19791872 0 (tN (tL 19791873 1) 19791875 3 .nil)) 19791876 4 (tN (tN (tL 19791877 5) 19791878 6 .nil) 19791879 7 (tN (tL 19791880 11) 19791881 14 .nil))) 19791882 18 (tN (tN (tN (tL 19791883 19) 19791884 20 .nil) 19791885 22 (tN (tL 19791886 23) 19791887 30 .nil)) 19791888 31 (tN (tN (tL 19791889 32) 22740992 0 .nil) 22740993 1 (tN (tL 24379392 0) 24379394 2 .nil)))) 24576000 0 (tN (tN (tN (tN (tL 24576002 2) 24969216 0 .nil) 24969218 2 (tN (tL 25362432 0) 25362434 2 .nil)) 25755648 0 (tN (tN (tL 25755650 2) 25886720 0 .nil) 25886722 2 (tN (tL 26279936 0) 26279938 2 .nil))) 26542080 0 (tN (tN (tN (tL 26542082 2) 26935296 0 .nil) 26935298 2 (tN (tL 27328512 0) 27328514 2 .nil)) 27721728 0 (tN (tN (tL 27721730 2) 28114944 0 .nil) 28114946 2 (tN (tL 28508160 0) 28508162 2 .nil))))) 28901376 0 (tN (tN (tN (tN (tN (tL 28901378 2) 29229056 0 .nil) 29229058 2 (tN (tL 32505856 0) 32505857 1 .nil)) 33095680 0 (tN (tN (tL 33095681 1) 33095682 2 .nil) 33095683 3 (tN (tL 33095684 4) 33095685 5 .nil))) 33095686 7 (tN (tN (tN (tL 33685504 0) 33685505 1 .nil) 33816576 0 (tN (tL 33816577 1) 33816578 2 .nil)) 33816579 3 (tN (tN (tL 34406400 0) 34406401 1 .nil) 34603008 0 (tN (tL 34603009 1) 34930688 0 .nil)))) 34930689 1 (tN (tN (tN (tN (tL 35127296 0) 35127297 1 .nil) 36044800 0 (tN (tL 36044801 1) 36372480 0 .nil)) 36372481 2 (tN (tN (tL 36372482 3) 36372483 4 .nil) 37093376 0 (tN (tL 37093377 1) 37158912 0 .nil))) 37158913 1 (tN (tN (tN (tL 37814272 0) 37814273 1 .nil) 38076416 0 (tN (tL 38207488 0) 38207489 1 .nil)) 39845888 0 (tN (tN (tL 39845889 1) 40960000 0 .nil) 40960001 1 (tN (tL 45547520 0) 45547521 1 .nil))))))
theorem k_fld:TrOk (fun k=>tyFld prog (k / 65536) (k % 65536)) t_fld:=by unfold TrOk;kernel_rfl
def t_fldV:Tr (Nat×Nat×Bool):=tN (tN (tL 2031616 (0,(1,false))) 18350080 (0,(1,false)) .nil) 18350081 (1,(1,false)) (tN (tL 18350082 (2,(1,false))) 39845889 (1,(1,false)) .nil)
theorem k_fldV:TrOk (fun k=>tyFldV prog (k / 65536) (k % 65536)) t_fldV:=by unfold TrOk;kernel_rfl
def t_zero:Tr (List D):=tN (tN (tN (tN (tN (tL 3 [zI]) 23 [zI,zI,zI,zI,zI,zI] (tL 27 [zL])) 29 [zI] (tN (tL 31 [zI,zI]) 41 [zL] (tL 47 [zI,zI,zB,zL,zL]))) 52 [D.nilf] (tN (tN (tL 54 [zS,zL]) 56 [zS,zL] (tL 62 [zL,zI])) 64 [zS,zL,zL,zI] (tN (tL 67 [zI,zL,zS,zL,zL,zI,zI,zI,zI,zI,zI,zI,zI,zI,zI,zI,zI,zL,zS,zL,zL,zI,zB,zL,zI,zB,zL,zI,zL]) 71 [zI,zL,zS,zL,zL,zI,zI,zI,zI,zI,zI,zI,zI,zI,zI,zI,zI,zL,zS,zL,zL,zI,zB,zL,zI,zB,zL,zI,zL,zS,zL,zL,zI] .nil))) 76 [D.nilp,zL] (tN (tN (tN (tL 108 [zL]) 114 [zI,zS,zL,zL,zI,zI,zI,zI,zI,zI,zB,zI,zI,zI,zI,zI,zI,zL,zL] (tL 116 [zI,zS,zL,zL,zI,zI,zI,zI,zI,zI,zB,zI,zI,zI,zI,zI,zI,zL,zL,zS,zL,zL,zI])) 124 [zI,zI,zI,zI,zB,zL,zL,zL] (tN (tL 139 [zI,zI,zB,zI,zI]) 170 [zL] .nil)) 184 [zL,zI,zI,zI,zI,zI,zI,zL] (tN (tN (tL 186 [zS,zB,zL]) 228 [zI,zI,zB,zI,zI,zI] (tL 280 [zS,zS,D.nili])) 283 [zS,zS,zS,zS,zS,zS,zS,zS,zS,zS,zS] (tN (tL 287 [zB,zL,zL,zL]) 289 [zB,zB,zI] .nil)))) 291 [zB,zI,zB,zI] (tN (tN (tN (tN (tL 292 [zL]) 293 [zL] (tL 295 [zL,zL])) 298 [zL,zL,zB,zB,zB,zB,zI] (tN (tL 302 [zI,zS,zB,zL,zI,zL,zL,zB,zL,zL,zL,zB,zB,zI,zB,zI,zB,zI,zL,zL,zL,zL,zL,zL,zL,zB,zB,zB,zB,zI,zL,zL,zI,zI,zI,zI,zI,zI]) 309 [D.int IntKind.u8 0,D.int IntKind.u8 0,D.int IntKind.u8 0,D.int IntKind.u8 0,D.int IntKind.u8 0,D.int IntKind.u8 0,D.int IntKind.u8 0,D.int IntKind.u8 0,D.int IntKind.u8 0,D.int IntKind.u8 0,D.int IntKind.u8 0,D.int IntKind.u8 0,D.int IntKind.u8 0,D.int IntKind.u8 0,D.int IntKind.u8 0,D.int IntKind.u8 0,D.int IntKind.u8 0,D.int IntKind.u8 0,D.int IntKind.u8 0,D.int IntKind.u8 0,D.int IntKind.u8 0,D.int IntKind.u8 0,D.int IntKind.u8 0,D.int IntKind.u8 0] (tL 347 [zI,zS]))) 372 [D.nilf,D.nilf,D.nilf] (tN (tN (tL 375 [D.nilf,D.nilf,D.nilf]) 381 [D.nilf,D.nilf,D.nilf] (tL 387 [D.nilf,D.nilf,D.nilf])) 452 [D.int IntKind.u8 0,D.int IntKind.u8 0,D.int IntKind.u8 0,D.int IntKind.u8 0,D.int IntKind.u8 0,D.int IntKind.u8 0,D.int IntKind.u8 0,D.int IntKind.u8 0,D.int IntKind.u8 0,D.int IntKind.u8 0,D.int IntKind.u8 0,D.int IntKind.u8 0,D.int IntKind.u8 0,D.int IntKind.u8 0,D.int IntKind.u8 0,D.int IntKind.u8 0,D.int IntKind.u8 0,D.int IntKind.u8 0,D.int IntKind.u8 0,D.int IntKind.u8 0,D.int IntKind.u8 0,D.int IntKind.u8 0,D.int IntKind.u8 0,D.int IntKind.u8 0,D.int IntKind.u8 0,D.int IntKind.u8 0,D.int IntKind.u8 0,D.int IntKind.u8 0,D.int IntKind.u8 0,D.int IntKind.u8 0,D.int IntKind.u8 0,D.int IntKind.u8 0,D.int IntKind.u8 0,D.int IntKind.u8 0,D.int IntKind.u8 0,D.int IntKind.u8 0,D.int IntKind.u8 0,D.int IntKind.u8 0,D.int IntKind.u8 0,D.int IntKind.u8 0,D.int IntKind.u8 0,D.int IntKind.u8 0,D.int IntKind.u8 0,D.int IntKind.u8 0,D.int IntKind.u8 0,D.int IntKind.u8 0,D.int IntKind.u8 0,D.int IntKind.u8 0,D.int IntKind.u8 0,D.int IntKind.u8 0,D.int IntKind.u8 0,D.int IntKind.u8 0,D.int IntKind.u8 0,D.int IntKind.u8 0,D.int IntKind.u8 0,D.int IntKind.u8 0,D.int IntKind.u8 0,D.int IntKind.u8 0,D.int IntKind.u8 0,D.int IntKind.u8 0,D.int IntKind.u8 0,D.int IntKind.u8 0,D.int IntKind.u8 0,D.int IntKind.u8 0,D.int IntKind.u8 0] (tN (tL 505 [zI,zS,zS,zL,zL,zI,zS,zI,zS]) 514 [zL,zI] .nil))) 516 [zL,zL,zI,zL] (tN (tN (tN (tL 525 [D.nilf,D.nilf]) 528 [zS,zI,zS,zS,zL,zL,zI,zS,zI,zS] (tL 533 [D.nilf,D.nilf])) 536 [zS,zL] (tN (tL 550 [zL,zL]) 555 [zL,zL,zI,zL,zB,zB,zB,zB,zB,zB] .nil)) 566 [zS,zL] (tN (tN (tL 567 [zS,zL]) 577 [zS,zS] (tL 583 [zL,zL])) 606 [D.nilf] (tN (tL 608 [D.nilf,zI]) 695 [D.int IntKind.u8 0,D.int IntKind.u8 0] .nil))))
theorem k_zero:TrOk (tyZero prog) t_zero:=by unfold TrOk;kernel_rfl
def t_build:Tr (List D×BKind):=tN (tN (tN (tN (tN (tN (tL 23 ([zI,zI,zI,zI,zI,zI],BKind.struct [(0,1),(1,1),(2,1),(3,1),(4,1),(5,1)])) 31 ([zI,zI],BKind.struct [(0,1),(1,1)]) .nil) 47 ([zI,zI,zB,zL,zL],BKind.struct [(0,1),(1,1),(2,1),(3,1),(4,1)]) (tL 54 ([zS,zL],BKind.struct [(0,1),(1,1)]))) 56 ([zS,zL],BKind.struct [(0,1),(1,1)]) (tN (tL 62 ([zL,zI],BKind.struct [(0,1),(1,1)])) 64 ([zS,zL,zL,zI],BKind.struct [(0,2),(2,2)]) (tL 67 ([zI,zL,zS,zL,zL,zI,zI,zI,zI,zI,zI,zI,zI,zI,zI,zI,zI,zL,zS,zL,zL,zI,zB,zL,zI,zB,zL,zI,zL],BKind.struct [(0,1),(1,1),(2,2),(4,1),(5,6),(11,6),(17,1),(18,4),(22,1),(23,2),(25,1),(26,2),(28,1)])))) 71 ([zI,zL,zS,zL,zL,zI,zI,zI,zI,zI,zI,zI,zI,zI,zI,zI,zI,zL,zS,zL,zL,zI,zB,zL,zI,zB,zL,zI,zL,zS,zL,zL,zI],BKind.struct [(0,29),(29,2),(31,2)]) (tN (tN (tL 95 ([zS,zI],BKind.struct [(0,1),(1,1)])) 114 ([zI,zS,zL,zL,zI,zI,zI,zI,zI,zI,zB,zI,zI,zI,zI,zI,zI,zL,zL],BKind.struct [(0,1),(1,2),(3,1),(4,6),(10,1),(11,6),(17,1),(18,1)]) (tL 116 ([zI,zS,zL,zL,zI,zI,zI,zI,zI,zI,zB,zI,zI,zI,zI,zI,zI,zL,zL,zS,zL,zL,zI],BKind.struct [(0,19),(19,2),(21,2)]))) 124 ([zI,zI,zI,zI,zB,zL,zL,zL],BKind.struct [(0,1),(1,1),(2,5),(7,1)]) (tN (tL 139 ([zI,zI,zB,zI,zI],BKind.struct [(0,1),(1,1),(2,1),(3,1),(4,1)])) 186 ([zS,zB,zL],BKind.struct [(0,1),(1,1),(2,1)]) (tL 192 ([zI,zI,zI,zI,zI,zI,zI,zI,zI,zI,zI,zI],BKind.array 1))))) 226 ([zL,zL,zI,zI],BKind.struct [(0,1),(1,1),(2,2)]) (tN (tN (tN (tN (tL 228 ([zI,zI,zB,zI,zI,zI],BKind.struct [(0,1),(1,1),(2,1),(3,1),(4,1),(5,1)])) 261 ([zL,zL,zI,zI],BKind.struct [(0,1),(1,1),(2,2)]) .nil) 280 ([zS,zS,D.nili],BKind.struct [(0,1),(1,1),(2,1)]) (tL 283 ([zS,zS,zS,zS,zS,zS,zS,zS,zS,zS,zS],BKind.array 1))) 287 ([zB,zL,zL,zL],BKind.struct [(0,1),(1,1),(2,1),(3,1)]) (tN (tL 289 ([zB,zB,zI],BKind.struct [(0,1),(1,1),(2,1)])) 291 ([zB,zI,zB,zI],BKind.struct [(0,1),(1,1),(2,1),(3,1)]) (tL 295 ([zL,zL],BKind.struct [(0,1),(1,1)])))) 298 ([zL,zL,zB,zB,zB,zB,zI],BKind.struct [(0,1),(1,1),(2,1),(3,1),(4,1),(5,1),(6,1)]) (tN (tN (tL 302 ([zI,zS,zB,zL,zI,zL,zL,zB,zL,zL,zL,zB,zB,zI,zB,zI,zB,zI,zL,zL,zL,zL,zL,zL,zL,zB,zB,zB,zB,zI,zL,zL,zI,zI,zI,zI,zI,zI],BKind.struct [(0,1),(1,1),(2,1),(3,1),(4,1),(5,1),(6,1),(7,4),(11,3),(14,4),(18,1),(19,1),(20,2),(22,1),(23,7),(30,1),(31,1),(32,6)])) 347 ([zI,zS],BKind.struct [(0,1),(1,1)]) (tL 372 ([D.nilf,D.nilf,D.nilf],BKind.struct [(0,1),(1,1),(2,1)]))) 375 ([D.nilf,D.nilf,D.nilf],BKind.struct [(0,1),(1,1),(2,1)]) (tN (tL 381 ([D.nilf,D.nilf,D.nilf],BKind.struct [(0,1),(1,1),(2,1)])) 387 ([D.nilf,D.nilf,D.nilf],BKind.struct [(0,1),(1,1),(2,1)]) (tL 393 ([D.nilf,D.nilf,D.nilf],BKind.struct [(0,1),(1,1),(2,1)])))))) 395 ([D.nilf,D.nilf,D.nilf],BKind.struct [(0,1),(1,1),(2,1)]) (tN (tN (tN (tN (tN (tL 401 ([D.nilf,D.nilf,D.nilf],BKind.struct [(0,1),(1,1),(2,1)])) 405 ([D.nilf,D.nilf,D.nilf],BKind.struct [(0,1),(1,1),(2,1)]) .nil) 411 ([D.nilf,D.nilf,D.nilf],BKind.struct [(0,1),(1,1),(2,1)]) (tL 417 ([D.nilf,D.nilf,D.nilf],BKind.struct [(0,1),(1,1),(2,1)]))) 423 ([D.nilf,D.nilf,D.nilf],BKind.struct [(0,1),(1,1),(2,1)]) (tN (tL 429 ([D.nilf,D.nilf,D.nilf],BKind.struct [(0,1),(1,1),(2,1)])) 435 ([D.nilf,D.nilf,D.nilf],BKind.struct [(0,1),(1,1),(2,1)]) (tL 441 ([D.nilf,D.nilf,D.nilf],BKind.struct [(0,1),(1,1),(2,1)])))) 446 ([D.nilf,D.nilf,D.nilf],BKind.struct [(0,1),(1,1),(2,1)]) (tN (tN (tL 451 ([D.int IntKind.u64 0,D.int IntKind.u64 0,D.int IntKind.u64 0,D.int IntKind.u64 0,D.int IntKind.u64 0,D.int IntKind.u64 0,D.int IntKind.u64 0,D.int IntKind.u64 0,D.int IntKind.u64 0,D.int IntKind.u64 0,D.int IntKind.u64 0,D.int IntKind.u64 0,D.int IntKind.u64 0,D.int IntKind.u64 0,D.int IntKind.u64 0,D.int IntKind.u64 0,D.int IntKind.u64 0,D.int IntKind.u64 0,D.int IntKind.u64 0,D.int IntKind.u64 0],BKind.array 1)) 496 ([zI,zB],BKind.struct [(0,1),(1,1)]) (tL 505 ([zI,zS,zS,zL,zL,zI,zS,zI,zS],BKind.struct [(0,1),(1,1),(2,1),(3,1),(4,1),(5,2),(7,2)]))) 516 ([zL,zL,zI,zL],BKind.struct [(0,1),(1,1),(2,1),(3,1)]) (tN (tL 525 ([D.nilf,D.nilf],BKind.struct [(0,1),(1,1)])) 528 ([zS,zI,zS,zS,zL,zL,zI,zS,zI,zS],BKind.struct [(0,1),(1,9)]) (tL 533 ([D.nilf,D.nilf],BKind.struct [(0,1),(1,1)]))))) 536 ([zS,zL],BKind.struct [(0,1),(1,1)]) (tN (tN (tN (tL 550 ([zL,zL],BKind.struct [(0,1),(1,1)])) 555 ([zL,zL,zI,zL,zB,zB,zB,zB,zB,zB],BKind.struct [(0,2),(2,1),(3,1),(4,6)]) (tL 566 ([zS,zL],BKind.struct [(0,1),(1,1)]))) 567 ([zS,zL],BKind.struct [(0,1),(1,1)]) (tN (tL 577 ([zS,zS],BKind.struct [(0,1),(1,1)])) 581 ([zL],BKind.struct [(0,1)]) (tL 583 ([zL,zL],BKind.struct [(0,1),(1,1)])))) 608 ([D.nilf,zI],BKind.struct [(0,1),(1,1)]) (tN (tN (tL 625 ([zI,zL],BKind.struct [(0,1),(1,1)])) 649 ([D.int IntKind.u8 0,D.int IntKind.u8 0,D.int IntKind.u8 0,D.int IntKind.u8 0,D.int IntKind.u8 0,D.int IntKind.u8 0,D.int IntKind.u8 0,D.int IntKind.u8 0,D.int IntKind.u8 0,D.int IntKind.u8 0,D.int IntKind.u8 0,D.int IntKind.u8 0,D.int IntKind.u8 0,D.int IntKind.u8 0,D.int IntKind.u8 0,D.int IntKind.u8 0,D.int IntKind.u8 0,D.int IntKind.u8 0,D.int IntKind.u8 0,D.int IntKind.u8 0,D.int IntKind.u8 0,D.int IntKind.u8 0,D.int IntKind.u8 0,D.int IntKind.u8 0,D.int IntKind.u8 0,D.int IntKind.u8 0,D.int IntKind.u8 0,D.int IntKind.u8 0,D.int IntKind.u8 0,D.int IntKind.u8 0,D.int IntKind.u8 0,D.int IntKind.u8 0],BKind.array 1) (tL 650 ([D.int IntKind.u8 0,D.int IntKind.u8 0,D.int IntKind.u8 0,D.int IntKind.u8 0,D.int IntKind.u8 0,D.int IntKind.u8 0,D.int IntKind.u8 0,D.int IntKind.u8 0,D.int IntKind.u8 0,D.int IntKind.u8 0,D.int IntKind.u8 0,D.int IntKind.u8 0,D.int IntKind.u8 0,D.int IntKind.u8 0,D.int IntKind.u8 0,D.int IntKind.u8 0,D.int IntKind.u8 0,D.int IntKind.u8 0,D.int IntKind.u8 0,D.int IntKind.u8 0,D.int IntKind.u8 0,D.int IntKind.u8 0,D.int IntKind.u8 0,D.int IntKind.u8 0,D.int IntKind.u8 0,D.int IntKind.u8 0,D.int IntKind.u8 0,D.int IntKind.u8 0,D.int IntKind.u8 0,D.int IntKind.u8 0,D.int IntKind.u8 0,D.int IntKind.u8 0,D.int IntKind.u8 0,D.int IntKind.u8 0,D.int IntKind.u8 0,D.int IntKind.u8 0,D.int IntKind.u8 0,D.int IntKind.u8 0,D.int IntKind.u8 0,D.int IntKind.u8 0,D.int IntKind.u8 0,D.int IntKind.u8 0,D.int IntKind.u8 0,D.int IntKind.u8 0,D.int IntKind.u8 0,D.int IntKind.u8 0,D.int IntKind.u8 0,D.int IntKind.u8 0,D.int IntKind.u8 0,D.int IntKind.u8 0,D.int IntKind.u8 0,D.int IntKind.u8 0,D.int IntKind.u8 0,D.int IntKind.u8 0,D.int IntKind.u8 0,D.int IntKind.u8 0,D.int IntKind.u8 0,D.int IntKind.u8 0,D.int IntKind.u8 0,D.int IntKind.u8 0,D.int IntKind.u8 0,D.int IntKind.u8 0,D.int IntKind.u8 0,D.int IntKind.u8 0],BKind.array 1))) 695 ([D.int IntKind.u8 0,D.int IntKind.u8 0],BKind.struct [(0,1),(1,1)]) (tN (tL 696 ([D.int IntKind.u8 0,D.int IntKind.u8 0,D.int IntKind.u8 0,D.int IntKind.u8 0,D.int IntKind.u8 0,D.int IntKind.u8 0,D.int IntKind.u8 0,D.int IntKind.u8 0,D.int IntKind.u8 0,D.int IntKind.u8 0,D.int IntKind.u8 0,D.int IntKind.u8 0,D.int IntKind.u8 0,D.int IntKind.u8 0,D.int IntKind.u8 0,D.int IntKind.u8 0,D.int IntKind.u8 0,D.int IntKind.u8 0,D.int IntKind.u8 0,D.int IntKind.u8 0,D.int IntKind.u8 0,D.int IntKind.u8 0,D.int IntKind.u8 0,D.int IntKind.u8 0,D.int IntKind.u8 0,D.int IntKind.u8 0,D.int IntKind.u8 0,D.int IntKind.u8 0,D.int IntKind.u8 0,D.int IntKind.u8 0,D.int IntKind.u8 0,D.int IntKind.u8 0],BKind.array 2)) 719 ([zS,zS,D.nili],BKind.struct [(0,1),(1,1),(2,1)]) (tL 723 ([zS],BKind.struct [(0,1)]))))))
theorem k_build:TrOk (tyBuild prog) t_build:=by unfold TrOk;kernel_rfl
def t_bs:Tr (List D×Nat):=tN (tN (tN (tN (tL 27 ([D.int IntKind.u8 0],1)) 41 ([zS],1) (tL 45 ([zI,zI,zB,zL,zL],5))) 58 ([zS,zL],2) (tN (tL 60 ([zL],1)) 65 ([zS,zB,zL],3) .nil)) 108 ([zL],1) (tN (tN (tL 112 ([zL,zI,zI,zI,zI,zI,zI,zL],8)) 122 ([zI,zI,zI,zI,zB,zL,zL,zL],8) (tL 170 ([zS],1))) 222 ([zI,zI,zB,zI,zI,zI],6) (tN (tL 285 ([zI,zS,zS,zL,zL,zI,zS,zI,zS],9)) 292 ([zS,zL],2) .nil))) 293 ([zS,zS],2) (tN (tN (tN (tL 296 ([zL,zL,zI,zL],4)) 299 ([zS,zI,zS,zS,zL,zL,zI,zS,zI,zS],10) (tL 300 ([zS,zL],2))) 325 ([D.int IntKind.u32 0],1) (tN (tL 338 ([zI,zS,zB,zL,zI,zL,zL,zB,zL,zL,zL,zB,zB,zI,zB,zI,zB,zI,zL,zL,zL,zL,zL,zL,zL,zB,zB,zB,zB,zI,zL,zL,zI,zI,zI,zI,zI,zI],38)) 341 ([D.int IntKind.u64 0],1) .nil)) 350 ([zI],1) (tN (tN (tL 560 ([zL],1)) 564 ([zS,zL],2) .nil) 585 ([zB],1) (tN (tL 617 ([D.nilp],1)) 675 ([zI,zS],2) .nil)))
theorem k_bs:TrOk (tyBS prog) t_bs:=by unfold TrOk;kernel_rfl
def t_msl:Tr (Nat×Nat):=tN (tL 27 (1,1)) 41 (1,16) .nil
theorem k_msl:TrOk (tySl prog) t_msl:=by unfold TrOk;kernel_rfl
def t_eq:Tr (EK):=tN (tN (tN (tL 2 EK.prim) 3 EK.prim (tL 4 EK.bool)) 5 EK.prim (tN (tL 9 EK.prim) 12 EK.prim (tL 21 EK.prim))) 23 (EK.flat [LK.i,LK.i,LK.i,LK.i,LK.i,LK.i]) (tN (tN (tL 29 EK.prim) 31 (EK.flat [LK.i,LK.i]) (tL 74 EK.ptr)) 78 EK.iface (tN (tL 200 EK.prim) 203 EK.prim (tL 347 (EK.flat [LK.i,LK.s]))))
theorem k_eq:TrOk (tyEq prog) t_eq:=by unfold TrOk;kernel_rfl
def t_conv:Tr (CK):=tN (tN (tN (tN (tL 131077 (CK.int IntKind.u8)) 131275 (CK.int IntKind.u64) (tL 196613 (CK.int IntKind.u8))) 196688 (CK.int IntKind.u64) (tN (tL 196811 (CK.int IntKind.u64)) 327682 (CK.int IntKind.i64) .nil)) 327683 (CK.int IntKind.i64) (tN (tN (tL 327692 (CK.int IntKind.u64)) 327701 (CK.int IntKind.i32) (tL 327880 (CK.int IntKind.u32))) 327883 (CK.int IntKind.u64) (tN (tL 328168 (CK.int IntKind.i8)) 589851 CK.toBytes .nil))) 1376261 (CK.int IntKind.u8) (tN (tN (tN (tL 1376456 (CK.int IntKind.u32)) 1769481 CK.toStr (tL 5242883 (CK.int IntKind.i64))) 5243080 (CK.int IntKind.u32) (tN (tL 13107205 (CK.int IntKind.u8)) 13107221 (CK.int IntKind.i32) .nil)) 13107280 (CK.int IntKind.u64) (tN (tN (tL 13107403 (CK.int IntKind.u64)) 13303811 (CK.int IntKind.i64) .nil) 13303813 (CK.int IntKind.u8) (tN (tL 13304008 (CK.int IntKind.u32)) 31981570 (CK.int IntKind.i64) .nil)))
theorem k_conv:TrOk (fun k=>tyConv prog (k / 65536) (k % 65536)) t_conv:=by unfold TrOk;kernel_rfl
def t_conc:Tr (Unit):=tN (tN (tN (tN (tL 9 ()) 372 () .nil) 375 () (tL 381 ())) 387 () (tN (tN (tL 393 ()) 395 () .nil) 401 () (tL 405 ()))) 411 () (tN (tN (tN (tL 417 ()) 423 () .nil) 429 () (tL 435 ())) 441 () (tN (tN (tL 446 ()) 708 () .nil) 710 () (tL 721 ())))
theorem k_conc:TrOk (tyConc prog) t_conc:=by unfold TrOk;kernel_rfl
def t_sli:Tr (SK):=tN (tN (tN (tL 9 SK.string) 27 (SK.slice 1) .nil) 41 (SK.slice 1) (tL 108 (SK.slice 1))) 222 (SK.slice 6) (tN (tN (tL 309 (SK.array 24 1)) 325 (SK.slice 1) .nil) 341 (SK.slice 1) (tL 452 (SK.array 65 1)))
theorem k_sli:TrOk (tySlice prog) t_sli:=by unfold TrOk;kernel_rfl
def t_idx:Tr (IK):=tN (tN (tN (tN (tN (tL 27 (IK.slice 1)) 41 (IK.slice 1) .nil) 45 (IK.slice 5) (tL 57 (IK.slice 2))) 58 (IK.slice 2) (tN (tL 60 (IK.slice 1)) 65 (IK.slice 3) (tL 108 (IK.slice 1)))) 112 (IK.slice 8) (tN (tN (tL 222 (IK.slice 6)) 283 (IK.array 11 1) (tL 285 (IK.slice 9))) 292 (IK.slice 2) (tN (tL 293 (IK.slice 2)) 296 (IK.slice 4) (tL 299 (IK.slice 10))))) 300 (IK.slice 2) (tN (tN (tN (tN (tL 309 (IK.array 24 1)) 325 (IK.slice 1) .nil) 341 (IK.slice 1) (tL 350 (IK.slice 1))) 451 (IK.array 20 1) (tN (tL 452 (IK.array 65 1)) 553 (IK.array 6 1) (tL 560 (IK.slice 1)))) 564 (IK.slice 2) (tN (tN (tL 585 (IK.slice 1)) 617 (IK.slice 1) (tL 649 (IK.array 32 1))) 650 (IK.array 64 1) (tN (tL 675 (IK.slice 2)) 693 (IK.array 256 1) (tL 696 (IK.array 16 2)))))
theorem k_idx:TrOk (tyIdx prog) t_idx:=by unfold TrOk;kernel_rfl
def t_idxV:Tr (IVK):=tN (tL 9 IVK.string) 192 (IVK.array 12 1 false) (tL 557 IVK.string)
theorem k_idxV:TrOk (tyIdxV prog) t_idxV:=by unfold TrOk;kernel_rfl
def t_map:Tr (LK×D):=tN (tN (tL 281 (LK.i,D.agg [zS,zS,D.nili])) 344 (LK.s,zS) .nil) 359 (LK.s,zB) (tN (tL 610 (LK.i,D.agg [D.nilf,zI])) 621 (LK.i,D.nilf) .nil)
theorem k_map:TrOk (tyMap prog) t_map:=by unfold TrOk;kernel_rfl
def t_len:Tr (LKind):=tN (tN (tN (tN (tL 9 LKind.string) 27 LKind.slice (tL 41 LKind.slice)) 45 LKind.slice (tN (tL 57 LKind.slice) 58 LKind.slice .nil)) 60 LKind.slice (tN (tN (tL 65 LKind.slice) 108 LKind.slice (tL 112 LKind.slice)) 222 LKind.slice (tN (tL 285 LKind.slice) 292 LKind.slice .nil))) 293 LKind.slice (tN (tN (tN (tL 296 LKind.slice) 299 LKind.slice (tL 300 LKind.slice)) 325 LKind.slice (tN (tL 341 LKind.slice) 350 LKind.slice .nil)) 557 LKind.string (tN (tN (tL 560 LKind.slice) 564 LKind.slice .nil) 585 LKind.slice (tN (tL 617 LKind.slice) 675 LKind.slice .nil)))
theorem k_len:TrOk (tyLen prog) t_len:=by unfold TrOk;kernel_rfl
def t_app:Tr (Nat×Nat):=tN (tN (tN (tN (tL 1769481 (1,1)) 1769499 (1,1) .nil) 2687017 (1,16) (tN (tL 2949165 (5,72)) 3801146 (2,40) .nil)) 3932220 (1,24) (tN (tN (tL 4259905 (3,48)) 7077996 (1,24) .nil) 7340144 (8,96) (tN (tL 7995514 (8,112)) 11141290 (1,16) .nil))) 14549214 (6,48) (tN (tN (tN (tL 18678045 (9,136)) 19136804 (2,40) .nil) 19202341 (2,32) (tN (tL 19398952 (4,80)) 19595563 (10,152) .nil)) 19661100 (2,40) (tN (tN (tL 21299525 (1,4)) 22151506 (38,520) .nil) 22348117 (1,8) (tN (tL 22937950 (1,8)) 36962868 (2,40) .nil)))
theorem k_app:TrOk (fun k=>tyApp prog (k / 65536) (k % 65536)) t_app:=by unfold TrOk;kernel_rfl
def t_meth:List (Nat×String×Nat):=[(372,"cretula/dispatch.decode",663),(375,"cretula/dispatch.decode",666),(381,"cretula/dispatch.decode",669),(387,"cretula/dispatch.decode",672),(393,"cretula/dispatch.decode",675),(395,"cretula/dispatch.decode",678),(401,"cretula/dispatch.decode",681),(405,"cretula/dispatch.decode",684),(411,"cretula/dispatch.decode",687),(417,"cretula/dispatch.decode",690),(423,"cretula/dispatch.decode",693),(429,"cretula/dispatch.decode",696),(435,"cretula/dispatch.decode",699),(441,"cretula/dispatch.decode",702),(446,"cretula/dispatch.decode",705)]
theorem k_meth:(t_meth.map fun p=>tyMeth prog p.1 p.2.1)=t_meth.map fun p=>some p.2.2:=by kernel_rfl
def T:Tys:=⟨t_ld,t_fld,t_fldV,t_zero,t_build,t_bs,t_msl,t_eq,t_conv,t_conc,t_sli,t_idx,t_idxV,t_map,t_len,t_app,t_meth,t_ext⟩
theorem tok:TOk T prog:=⟨k_ld,k_fld,k_fldV,k_zero,k_build,k_bs,k_msl,k_eq,k_conv,k_conc,k_sli,k_idx,k_idxV,k_map,k_len,k_app,k_meth,k_ext⟩
end Go.Proofs.Tryz
namespace Go.Proofs
open Go.Shelf
def Tryz.lays169_ren:Go.Shelf.Ren:=⟨fun|169=>30|n=>n,fun|70=>74|9=>9|0=>0|72=>76|37=>27|127=>121|3=>3|5=>5|n=>n,fun|n=>n⟩
theorem Tryz.lays169:Go.Proofs.Lays.n169 Tryz.prog Tryz.lays169_ren:={
 mixed:=by kernel_rfl
 f169:=Tryz.func30.trans (congrArg some (by kernel_rfl))
 t0:=Tryz.underlying0
 a0:=Tryz.isAgg0
 z0:=Tryz.sizeOf0
 v0:=Tryz.zeroValue0
 t3:=Tryz.underlying3
 a3:=Tryz.isAgg3
 z3:=Tryz.sizeOf3
 v3:=Tryz.zeroValue3
 t9:=Tryz.underlying9
 a9:=Tryz.isAgg9
 z9:=Tryz.sizeOf9
 v9:=Tryz.zeroValue9
 t37:=Tryz.underlying27
 a37:=Tryz.isAgg27
 z37:=Tryz.sizeOf27
 v37:=Tryz.zeroValue27
 t70:=Tryz.underlying74
 a70:=Tryz.isAgg74
 z70:=Tryz.sizeOf74
 v70:=Tryz.zeroValue74
 t72:=Tryz.underlying76
 a72:=Tryz.isAgg76
 z72:=Tryz.sizeOf76
 v72:=Tryz.zeroValue76
 t127:=Tryz.underlying121
 a127:=Tryz.isAgg121
 z127:=Tryz.sizeOf121
 v127:=Tryz.zeroValue121}
theorem Tryz.Builder_Extra_169:Builder.Extra Tryz.prog Tryz.lays169_ren:={
 sizeBuilder:=by kernel_rfl
 liesBuilder:=by kernel_rfl
 t5:=Tryz.underlying5
 a5:=Tryz.isAgg5
 z5:=Tryz.sizeOf5
 v5:=Tryz.zeroValue5
 infoByte:=by kernel_rfl
 cellsByte:=by kernel_rfl
 sizeByte:=by kernel_rfl
 neB5:=by decide}
def Tryz.lays156_ren:Go.Shelf.Ren:=⟨fun|156=>63|165=>71|166=>72|169=>30|240=>60|241=>138|276=>129|277=>214|n=>n,fun|31=>41|9=>9|3=>3|4=>4|0=>0|20=>20|72=>76|76=>135|70=>74|37=>27|75=>78|127=>121|164=>194|5=>5|80=>81|n=>n,fun|n=>n⟩
theorem Tryz.lays156:Go.Proofs.Lays.n156 Tryz.prog Tryz.lays156_ren:={
 mixed:=by kernel_rfl
 f156:=Tryz.func63.trans (congrArg some (by kernel_rfl))
 f165:=Tryz.func71.trans (congrArg some (by kernel_rfl))
 f166:=Tryz.func72.trans (congrArg some (by kernel_rfl))
 f169:=Tryz.func30.trans (congrArg some (by kernel_rfl))
 f240:=Tryz.func60.trans (congrArg some (by kernel_rfl))
 f241:=Tryz.func138.trans (congrArg some (by kernel_rfl))
 f276:=Tryz.func129.trans (congrArg some (by kernel_rfl))
 f277:=Tryz.func214.trans (congrArg some (by kernel_rfl))
 t0:=Tryz.underlying0
 a0:=Tryz.isAgg0
 z0:=Tryz.sizeOf0
 v0:=Tryz.zeroValue0
 t3:=Tryz.underlying3
 a3:=Tryz.isAgg3
 z3:=Tryz.sizeOf3
 v3:=Tryz.zeroValue3
 t4:=Tryz.underlying4
 a4:=Tryz.isAgg4
 z4:=Tryz.sizeOf4
 v4:=Tryz.zeroValue4
 t9:=Tryz.underlying9
 a9:=Tryz.isAgg9
 z9:=Tryz.sizeOf9
 v9:=Tryz.zeroValue9
 t20:=Tryz.underlying20
 a20:=Tryz.isAgg20
 z20:=Tryz.sizeOf20
 v20:=Tryz.zeroValue20
 t31:=Tryz.underlying41
 a31:=Tryz.isAgg41
 z31:=Tryz.sizeOf41
 v31:=Tryz.zeroValue41
 t37:=Tryz.underlying27
 a37:=Tryz.isAgg27
 z37:=Tryz.sizeOf27
 v37:=Tryz.zeroValue27
 t70:=Tryz.underlying74
 a70:=Tryz.isAgg74
 z70:=Tryz.sizeOf74
 v70:=Tryz.zeroValue74
 t72:=Tryz.underlying76
 a72:=Tryz.isAgg76
 z72:=Tryz.sizeOf76
 v72:=Tryz.zeroValue76
 t75:=Tryz.underlying78
 a75:=Tryz.isAgg78
 z75:=Tryz.sizeOf78
 v75:=Tryz.zeroValue78
 t76:=Tryz.underlying135
 a76:=Tryz.isAgg135
 z76:=Tryz.sizeOf135
 v76:=Tryz.zeroValue135
 t127:=Tryz.underlying121
 a127:=Tryz.isAgg121
 z127:=Tryz.sizeOf121
 v127:=Tryz.zeroValue121
 t164:=Tryz.underlying194
 a164:=Tryz.isAgg194
 z164:=Tryz.sizeOf194
 v164:=Tryz.zeroValue194}
theorem Tryz.Builder_Extra_156:Builder.Extra Tryz.prog Tryz.lays156_ren:={
 sizeBuilder:=by kernel_rfl
 liesBuilder:=by kernel_rfl
 t5:=Tryz.underlying5
 a5:=Tryz.isAgg5
 z5:=Tryz.sizeOf5
 v5:=Tryz.zeroValue5
 infoByte:=by kernel_rfl
 cellsByte:=by kernel_rfl
 sizeByte:=by kernel_rfl
 neB5:=by decide}
open Go.RowKit in
theorem Tryz.strings_Join_none(a:Option Addr) (c:Nat) (sep:ByteArray) (w:World):
 Calls Tryz.prog 63 #[.slice a 0 c,.string sep] w fun e w' =>e= .returned (.string ⟨#[]⟩)∧w' =w:=Any.strings_Join_none Tryz.lays156 Tryz.Builder_Extra_156 a c sep w
open Go.RowKit in
theorem Tryz.strings_Join(bk o c:Nat) (xs:List ByteArray) (sep:ByteArray) (w:World) (hcells:∀(j:Nat) x,xs[j]? =some x→w.cell? ⟨bk,o+j,none⟩=some (.string x)) (hbk:bk<w.heap.size) (hN:xs.length≤140737488355328) (hcap:xs.length≤c) (hlen:(Lib.join (xs.map (·.data.toList)) sep.data.toList).length≤140737488355328):
 Calls Tryz.prog 63 #[.slice (some ⟨bk,o,none⟩) xs.length c,.string sep] w fun e w' =>e= .returned (.string ⟨(Lib.join (xs.map (·.data.toList)) sep.data.toList).toArray⟩)∧Below w.heap.size w w' :=Any.strings_Join Tryz.lays156 Tryz.Builder_Extra_156 bk o c xs sep w hcells hbk hN hcap hlen
open Go.RowKit in
theorem Tryz.Builder_String_any_k(B b:Nat) (l:List UInt8) (w:World) (h:Lib.IsBuilderF 76 5 B b (Lib.byteCells l) w) (hBw:B≤w.heap.size):
 Calls Tryz.prog 30 #[.pointer (some ⟨b,0,none⟩)] w fun e w' =>e= .returned (.string ⟨l.toArray⟩)∧(Lib.IsBuilderF 76 5 B b (Lib.byteCells l) w'∧Below B w w'∧Lib.OthersKept 5 (some b) w w'):=Any.Builder_String_any_k Tryz.lays169 Tryz.Builder_Extra_169 B b l w h hBw
def Tryz.laysM171_ren:Go.Shelf.Ren:=⟨fun|171=>40|243=>75|246=>139|283=>215|284=>216|285=>217|286=>218|129=>317|317=>316|318=>318|319=>319|320=>320|337=>426|338=>427|n=>n,fun|3=>3|9=>9|2=>2|4=>4|171=>309|0=>0|53=>203|37=>27|5=>5|173=>312|212=>451|51=>200|20=>20|213=>452|46=>80|232=>649|233=>650|n=>n,fun|17=>1|18=>2|19=>3|n=>n⟩
theorem Tryz.laysM171:Go.Proofs.LaysM.n171 Tryz.prog Tryz.laysM171_ren:={
 mixed:=by kernel_rfl
 f129:=Tryz.func317.trans (congrArg some (by kernel_rfl))
 f171:=Tryz.func40.trans (congrArg some (by kernel_rfl))
 f243:=Tryz.func75.trans (congrArg some (by kernel_rfl))
 f246:=Tryz.func139.trans (congrArg some (by kernel_rfl))
 f283:=Tryz.func215.trans (congrArg some (by kernel_rfl))
 f284:=Tryz.func216.trans (congrArg some (by kernel_rfl))
 f285:=Tryz.func217.trans (congrArg some (by kernel_rfl))
 f286:=Tryz.func218.trans (congrArg some (by kernel_rfl))
 f317:=Tryz.func316.trans (congrArg some (by kernel_rfl))
 f318:=Tryz.func318.trans (congrArg some (by kernel_rfl))
 f319:=Tryz.func319.trans (congrArg some (by kernel_rfl))
 f320:=Tryz.func320.trans (congrArg some (by kernel_rfl))
 f337:=Tryz.func426.trans (congrArg some (by kernel_rfl))
 f338:=Tryz.func427.trans (congrArg some (by kernel_rfl))
 t0:=Tryz.underlying0
 a0:=Tryz.isAgg0
 z0:=Tryz.sizeOf0
 v0:=Tryz.zeroValue0
 t2:=Tryz.underlying2
 a2:=Tryz.isAgg2
 z2:=Tryz.sizeOf2
 v2:=Tryz.zeroValue2
 t3:=Tryz.underlying3
 a3:=Tryz.isAgg3
 z3:=Tryz.sizeOf3
 v3:=Tryz.zeroValue3
 t4:=Tryz.underlying4
 a4:=Tryz.isAgg4
 z4:=Tryz.sizeOf4
 v4:=Tryz.zeroValue4
 t5:=Tryz.underlying5
 a5:=Tryz.isAgg5
 z5:=Tryz.sizeOf5
 v5:=Tryz.zeroValue5
 t9:=Tryz.underlying9
 a9:=Tryz.isAgg9
 z9:=Tryz.sizeOf9
 v9:=Tryz.zeroValue9
 t20:=Tryz.underlying20
 a20:=Tryz.isAgg20
 z20:=Tryz.sizeOf20
 v20:=Tryz.zeroValue20
 t37:=Tryz.underlying27
 a37:=Tryz.isAgg27
 z37:=Tryz.sizeOf27
 v37:=Tryz.zeroValue27
 t46:=Tryz.underlying80
 a46:=Tryz.isAgg80
 z46:=Tryz.sizeOf80
 v46:=Tryz.zeroValue80
 t51:=Tryz.underlying200
 a51:=Tryz.isAgg200
 z51:=Tryz.sizeOf200
 v51:=Tryz.zeroValue200
 t53:=Tryz.underlying203
 a53:=Tryz.isAgg203
 z53:=Tryz.sizeOf203
 v53:=Tryz.zeroValue203
 t171:=Tryz.underlying309
 a171:=Tryz.isAgg309
 z171:=Tryz.sizeOf309
 v171:=Tryz.zeroValue309
 t173:=Tryz.underlying312
 a173:=Tryz.isAgg312
 z173:=Tryz.sizeOf312
 v173:=Tryz.zeroValue312
 t212:=Tryz.underlying451
 a212:=Tryz.isAgg451
 z212:=Tryz.sizeOf451
 v212:=Tryz.zeroValue451
 t213:=Tryz.underlying452
 a213:=Tryz.isAgg452
 z213:=Tryz.sizeOf452
 t232:=Tryz.underlying649
 a232:=Tryz.isAgg649
 z232:=Tryz.sizeOf649
 v232:=Tryz.zeroValue649
 t233:=Tryz.underlying650
 a233:=Tryz.isAgg650
 z233:=Tryz.sizeOf650
 v233:=Tryz.zeroValue650
 g17:=by kernel_rfl
 g18:=by kernel_rfl
 g19:=by kernel_rfl
 i0:=by kernel_rfl
 i2:=by kernel_rfl
 i3:=by kernel_rfl
 i4:=by kernel_rfl
 i5:=by kernel_rfl
 i9:=by kernel_rfl
 i20:=by kernel_rfl
 i37:=by kernel_rfl
 i46:=by kernel_rfl
 i51:=by kernel_rfl
 i53:=by kernel_rfl
 i171:=by kernel_rfl
 i173:=by kernel_rfl
 i212:=by kernel_rfl
 i232:=by kernel_rfl
 i233:=by kernel_rfl
 m17:=by kernel_rfl
 m18:=by kernel_rfl
 m19:=by kernel_rfl}
open Go.RowKit Go.Sort Go.Lib in
theorem Tryz.strconv_Itoa(n:Int) (h0: -9223372036854775808≤n) (h1:n≤9223372036854775807) (w:World) (htab:Lib.TabIs Tryz.prog w "internal/strconv.uint64pow10" .u64 Lib.pow10Tab):
 Calls Tryz.prog 40 #[.int .i64 n] w fun e w' =>e= .returned (.string ⟨(Lib.itoa n).toArray⟩)∧∃k os,w' =grow (w.drewN k) os:=Any.strconv_Itoa Tryz.laysM171 n h0 h1 w htab
def Tryz.lays105_ren:Go.Shelf.Ren:=⟨fun|105=>38|212=>69|99=>70|165=>71|166=>72|170=>73|169=>30|263=>135|264=>136|206=>137|240=>60|241=>138|276=>129|277=>214|n=>n,fun|9=>9|3=>3|4=>4|20=>20|0=>0|46=>80|109=>131|5=>5|72=>76|76=>135|51=>200|146=>201|53=>203|148=>204|70=>74|37=>27|75=>78|127=>121|164=>194|80=>81|n=>n,fun|n=>n⟩
theorem Tryz.lays105:Go.Proofs.Lays.n105 Tryz.prog Tryz.lays105_ren:={
 mixed:=by kernel_rfl
 f99:=Tryz.func70.trans (congrArg some (by kernel_rfl))
 f105:=Tryz.func38.trans (congrArg some (by kernel_rfl))
 f165:=Tryz.func71.trans (congrArg some (by kernel_rfl))
 f166:=Tryz.func72.trans (congrArg some (by kernel_rfl))
 f169:=Tryz.func30.trans (congrArg some (by kernel_rfl))
 f170:=Tryz.func73.trans (congrArg some (by kernel_rfl))
 f206:=Tryz.func137.trans (congrArg some (by kernel_rfl))
 f212:=Tryz.func69.trans (congrArg some (by kernel_rfl))
 f240:=Tryz.func60.trans (congrArg some (by kernel_rfl))
 f241:=Tryz.func138.trans (congrArg some (by kernel_rfl))
 f263:=Tryz.func135.trans (congrArg some (by kernel_rfl))
 f264:=Tryz.func136.trans (congrArg some (by kernel_rfl))
 f276:=Tryz.func129.trans (congrArg some (by kernel_rfl))
 f277:=Tryz.func214.trans (congrArg some (by kernel_rfl))
 t0:=Tryz.underlying0
 a0:=Tryz.isAgg0
 z0:=Tryz.sizeOf0
 v0:=Tryz.zeroValue0
 t3:=Tryz.underlying3
 a3:=Tryz.isAgg3
 z3:=Tryz.sizeOf3
 v3:=Tryz.zeroValue3
 t4:=Tryz.underlying4
 a4:=Tryz.isAgg4
 z4:=Tryz.sizeOf4
 v4:=Tryz.zeroValue4
 t5:=Tryz.underlying5
 a5:=Tryz.isAgg5
 z5:=Tryz.sizeOf5
 v5:=Tryz.zeroValue5
 t9:=Tryz.underlying9
 a9:=Tryz.isAgg9
 z9:=Tryz.sizeOf9
 v9:=Tryz.zeroValue9
 t20:=Tryz.underlying20
 a20:=Tryz.isAgg20
 z20:=Tryz.sizeOf20
 v20:=Tryz.zeroValue20
 t37:=Tryz.underlying27
 a37:=Tryz.isAgg27
 z37:=Tryz.sizeOf27
 v37:=Tryz.zeroValue27
 t46:=Tryz.underlying80
 a46:=Tryz.isAgg80
 z46:=Tryz.sizeOf80
 v46:=Tryz.zeroValue80
 t51:=Tryz.underlying200
 a51:=Tryz.isAgg200
 z51:=Tryz.sizeOf200
 v51:=Tryz.zeroValue200
 t53:=Tryz.underlying203
 a53:=Tryz.isAgg203
 z53:=Tryz.sizeOf203
 v53:=Tryz.zeroValue203
 t70:=Tryz.underlying74
 a70:=Tryz.isAgg74
 z70:=Tryz.sizeOf74
 v70:=Tryz.zeroValue74
 t72:=Tryz.underlying76
 a72:=Tryz.isAgg76
 z72:=Tryz.sizeOf76
 v72:=Tryz.zeroValue76
 t75:=Tryz.underlying78
 a75:=Tryz.isAgg78
 z75:=Tryz.sizeOf78
 v75:=Tryz.zeroValue78
 t76:=Tryz.underlying135
 a76:=Tryz.isAgg135
 z76:=Tryz.sizeOf135
 v76:=Tryz.zeroValue135
 t109:=Tryz.underlying131
 a109:=Tryz.isAgg131
 z109:=Tryz.sizeOf131
 v109:=Tryz.zeroValue131
 t127:=Tryz.underlying121
 a127:=Tryz.isAgg121
 z127:=Tryz.sizeOf121
 v127:=Tryz.zeroValue121
 t146:=Tryz.underlying201
 a146:=Tryz.isAgg201
 z146:=Tryz.sizeOf201
 v146:=Tryz.zeroValue201
 t148:=Tryz.underlying204
 a148:=Tryz.isAgg204
 z148:=Tryz.sizeOf204
 v148:=Tryz.zeroValue204
 t164:=Tryz.underlying194
 a164:=Tryz.isAgg194
 z164:=Tryz.sizeOf194
 v164:=Tryz.zeroValue194}
theorem Tryz.Builder_Extra_105:Builder.Extra Tryz.prog Tryz.lays105_ren:={
 sizeBuilder:=by kernel_rfl
 liesBuilder:=by kernel_rfl
 t5:=Tryz.underlying5
 a5:=Tryz.isAgg5
 z5:=Tryz.sizeOf5
 v5:=Tryz.zeroValue5
 infoByte:=by kernel_rfl
 cellsByte:=by kernel_rfl
 sizeByte:=by kernel_rfl
 neB5:=by decide}
open Go.RowKit Go.Lib in
theorem Tryz.strings_Repeat(s:ByteArray) (c:Nat) (w:World) (hc:c≤9223372036854775807) (hlen:s.size*c≤140737488355328):
 Calls Tryz.prog 38 #[.string s,.int .i64 c] w fun e w' =>e= .returned (.string ⟨(Lib.repeatL s.data.toList c).toArray⟩)∧Below w.heap.size w w' :=Any.strings_Repeat Tryz.lays105 Tryz.Builder_Extra_105 s c w hc hlen
end Go.Proofs
