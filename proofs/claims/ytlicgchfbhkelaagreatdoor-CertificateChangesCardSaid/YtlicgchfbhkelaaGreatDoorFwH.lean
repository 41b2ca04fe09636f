/- A framework for proofs about Go programs in this model: part H. Everything is proved; no condition is added. -/
import Derived.Test.YtlicgchfbhkelaaGreatDoorProg
import Derived.Lib.Join
import Derived.Lib.ParseIntB
import Derived.Shelf.Strings.Builder1
import Derived.Shelf.Strings.Builder2
import Derived.Shelf.Strings.OnBuilder
import Derived.Shelf.Small.Utf8
import Derived.Shelf.Small.Strs
import Derived.Shelf.Strings.BuilderF
import Derived.Shelf.Strings.BuilderK
import Derived.Shelf.Strings.BuilderRune
import Derived.Shelf.Utf8.AppendRune
import Derived.Shelf.Utf8.AppendRunePlain
import Derived.Shelf.Utf8.RuneCount
import Derived.Shelf.Strconv.Itoa0
import Derived.Shelf.Strconv.Itoa1
import Derived.Shelf.LaysM
import Derived.Shelf.Strconv.Itoa2
import Derived.Shelf.Strconv.Itoa3
import Derived.Shelf.Strconv.Clone
import Derived.Shelf.Strconv.SyntaxError
import Derived.Shelf.LaysC
import Derived.Shelf.Strconv.ToError
import Derived.Shelf.Strconv.Lower
import Derived.Shelf.Strconv.ParseUint10
import Derived.Shelf.Strconv.ParseUint10Empty
import Derived.Shelf.Strconv.ParseUint10Any
import Derived.Shelf.Strconv.RangeError
import Derived.Shelf.Strconv.ToErrorRange
import Derived.Shelf.Strconv.ParseUintEmpty
import Derived.Shelf.Strconv.ParseUint10b64
import Derived.Shelf.Strconv.ParseUint10b32
import Derived.Shelf.Strconv.ParseUint10b16
import Derived.Shelf.Strconv.ParseUint10b8
import Derived.Shelf.Strconv.ParseUint10At
import Derived.Ground.MpProg
import Derived.Shelf.Pu.ParseUintPublic10
import Derived.Shelf.Pu.ErrVarParseUint
import Derived.Shelf.Strings.Search1
import Derived.Shelf.Strings.Search2
import Derived.Shelf.Strings.Search3
import Derived.Shelf.Strings.Count
import Derived.Shelf.Strings.Shaped
import Derived.Shelf.Strings.Split
import Derived.Shelf.Strings.SplitShaped
import Derived.Shelf.Unicode.Decode
import Derived.Shelf.Strings.Runes
import Derived.Shelf.Strings.RuneCount
import Derived.Shelf.Strings.Explode
import Derived.Shelf.Unicode.DecodeSlow
import Derived.Shelf.Unicode.DecodeAny
import Derived.Lib.Walk
import Derived.Lib.ItoaMem
import Derived.WalkKit
import Derived.BigCall
import Derived.BigGuard
import Derived.Lib.AppendIntMem
import Derived.Lib.Split
import Derived.Lib.SplitLaws
import Derived.Lib.AtoiErrMem
import Derived.Laws.Runes
import Derived.Laws.RangeString
import Derived.Scope
import Derived.Shelf.RegionOpenPlain
import Derived.Lib.ValidU
import Derived.Lib.Small
import Derived.Shelf.Unicode.ValidAny
import Derived.Test.YtlicgchfbhkelaaGreatDoorFwG
set_option linter.unusedVariables false
set_option linter.unusedSimpArgs false
set_option linter.defProp false
namespace Go.Fw
abbrev tL{α:Type}(k:Nat)(v:α):Tr α:=.node .nil k v .nil
abbrev tN{α:Type}(l:Tr α)(k:Nat)(v:α)(r:Tr α):Tr α:=.node l k v r
abbrev zI:D:=.int .i64 0
abbrev zL:D:=.list [] 0 true
abbrev zS:D:=.str []
abbrev zB:D:=.bool false
end Go.Fw
namespace Go.Proofs.Tryz
open Go Go.Fw
def adQ:Tr (ExK):=tN (tL 335 ExK.count) 374 ExK.indexByte .nil
def ai3:cg (Rb prog) adQ:=by unfold cg;kernel_rfl
def ahr:Tr (Nat×Bool):=tN (tN (tN (tN (tN (tN (tL 3 (1,false)) 4 (1,false) (tL 5 (1,false))) 9 (1,false) (tN (tL 21 (1,false)) 22 (1,false) .nil)) 24 (2,true) (tN (tN (tL 26 (1,false)) 28 (6,true) (tL 30 (2,true))) 32 (4,true) (tN (tL 33 (1,false)) 35 (29,true) .nil))) 37 (33,true) (tN (tN (tN (tL 41 (1,false)) 45 (2,true) (tL 56 (1,false))) 59 (1,false) (tN (tL 78 (2,true)) 80 (1,false) .nil)) 96 (1,false) (tN (tN (tL 102 (6,true)) 109 (1,false) .nil) 128 (1,false) (tN (tL 130 (5,true)) 143 (3,true) .nil)))) 159 (1,false) (tN (tN (tN (tN (tL 170 (1,false)) 175 (1,false) (tL 177 (1,false))) 180 (1,false) (tN (tL 182 (8,true)) 189 (1,false) .nil)) 190 (1,false) (tN (tN (tL 192 (4,true)) 194 (3,true) .nil) 196 (4,true) (tN (tL 197 (1,false)) 198 (1,false) .nil))) 200 (2,true) (tN (tN (tN (tL 201 (1,false)) 203 (7,true) (tL 204 (1,false))) 205 (1,false) (tN (tL 207 (38,true)) 233 (5,true) .nil)) 242 (3,true) (tN (tN (tL 251 (1,false)) 257 (1,false) .nil) 272 (1,false) (tN (tL 273 (1,false)) 274 (1,false) .nil))))) 276 (1,false) (tN (tN (tN (tN (tN (tL 278 (1,false)) 280 (3,true) (tL 283 (3,true))) 285 (1,false) (tN (tL 287 (1,false)) 289 (3,true) .nil)) 291 (1,false) (tN (tN (tL 293 (1,false)) 295 (3,true) (tL 297 (1,false))) 299 (1,false) (tN (tL 302 (1,false)) 306 (1,false) .nil))) 308 (1,false) (tN (tN (tN (tL 312 (1,false)) 316 (1,false) (tL 318 (1,false))) 322 (1,false) (tN (tL 324 (1,false)) 328 (1,false) .nil)) 330 (1,false) (tN (tN (tL 334 (1,false)) 336 (1,false) .nil) 340 (1,false) (tN (tL 342 (1,false)) 346 (1,false) .nil)))) 348 (1,false) (tN (tN (tN (tN (tL 352 (1,false)) 354 (1,false) (tL 372 (2,true))) 374 (9,true) (tN (tL 384 (4,true)) 388 (1,false) .nil)) 389 (1,false) (tN (tN (tL 391 (2,true)) 394 (10,true) .nil) 396 (1,false) (tN (tL 397 (1,false)) 399 (2,true) .nil))) 402 (2,true) (tN (tN (tN (tL 418 (2,true)) 423 (10,true) (tL 432 (1,false))) 434 (2,true) (tN (tL 436 (2,true)) 441 (1,false) .nil)) 446 (2,true) (tN (tN (tL 452 (2,true)) 522 (11,true) .nil) 534 (1,false) (tN (tL 536 (2,true)) 548 (2,true) .nil)))))
def akC:cg (uL prog) ahr:=by unfold cg;kernel_rfl
def adR:Tr (Nat):=tN (tN (tN (tN (tN (tN (tN (tL 1572864 0) 1572865 1 .nil) 1835008 0 (tN (tL 1835009 1) 1835010 2 .nil)) 1835011 3 (tN (tN (tL 1835012 4) 1835013 5 .nil) 1966080 0 (tL 1966081 1))) 2097152 0 (tN (tN (tN (tL 2097153 2) 2293760 0 .nil) 2293761 1 (tN (tL 2293762 2) 2293763 4 .nil)) 2293764 5 (tN (tN (tL 2293765 11) 2293766 17 .nil) 2293767 18 (tL 2293768 22)))) 2293769 23 (tN (tN (tN (tN (tL 2293770 25) 2293771 26 .nil) 2293772 28 (tN (tL 2424832 0) 2424833 29 .nil)) 2424834 31 (tN (tN (tL 2949120 0) 2949121 1 .nil) 3801088 0 (tL 3801089 1))) 5111808 0 (tN (tN (tN (tL 5111809 1) 6553600 0 .nil) 6553601 1 (tN (tL 6553602 2) 6684672 0 .nil)) 6684673 1 (tN (tN (tL 6684674 2) 6684675 3 .nil) 6684676 4 (tL 6684677 5))))) 8519683 3 (tN (tN (tN (tN (tN (tL 8519684 4) 9371648 0 .nil) 9371649 1 (tN (tL 9371650 2) 9961472 0 .nil)) 9961473 1 (tN (tN (tL 11927553 1) 11927554 2 .nil) 11927555 7 (tL 12582912 0))) 12582913 1 (tN (tN (tN (tL 12582914 2) 12582915 3 .nil) 12713984 0 (tN (tL 12713985 1) 12713986 2 .nil)) 12845056 0 (tN (tN (tL 12845057 1) 12845058 2 .nil) 12845059 3 (tL 13107200 0)))) 13107201 1 (tN (tN (tN (tN (tL 13303808 0) 13303809 1 .nil) 13303810 2 (tN (tL 13303811 3) 13303812 4 .nil)) 13303813 5 (tN (tN (tL 13303814 6) 13565952 0 .nil) 13565953 1 (tL 13565955 3))) 13565956 4 (tN (tN (tN (tL 13565957 5) 13565958 6 .nil) 13565959 7 (tL 13565960 11)) 13565961 14 (tN (tN (tL 13565962 18) 13565963 19 .nil) 13565964 20 (tL 13565965 22)))))) 13565966 23 (tN (tN (tN (tN (tN (tN (tL 13565967 30) 13565968 31 .nil) 13565969 32 (tN (tL 15269888 0) 15269889 1 .nil)) 15269890 2 (tN (tN (tL 15269891 3) 15269892 4 .nil) 15859712 0 (tL 16973824 0))) 16973825 1 (tN (tN (tN (tL 18350080 0) 18350082 2 .nil) 18546688 0 (tN (tL 18546690 2) 18939904 0 .nil)) 18939906 2 (tN (tN (tL 19333120 0) 19333122 2 .nil) 19726336 0 (tL 19726338 2)))) 19922944 0 (tN (tN (tN (tN (tL 19922946 2) 20316160 0 .nil) 20316162 2 (tN (tL 20578304 0) 20578306 2 .nil)) 20971520 0 (tN (tN (tL 20971522 2) 21364736 0 .nil) 21364738 2 (tL 21757952 0))) 21757954 2 (tN (tN (tN (tL 22151168 0) 22151170 2 .nil) 22544384 0 (tL 22544386 2)) 22937600 0 (tN (tN (tL 22937602 2) 23330816 0 .nil) 23330818 2 (tL 24379392 0))))) 24379393 1 (tN (tN (tN (tN (tN (tL 24510464 0) 24510465 1 .nil) 24510466 2 (tN (tL 24510467 3) 24510468 4 .nil)) 24510469 5 (tN (tN (tL 24510470 7) 25034752 0 .nil) 25034753 1 (tL 25165824 0))) 25165825 1 (tN (tN (tN (tL 25165826 2) 25165827 3 .nil) 25624576 0 (tN (tL 25624577 1) 25821184 0 .nil)) 25821185 1 (tN (tN (tL 26148864 0) 26148865 1 .nil) 26345472 0 (tL 26345473 1)))) 27394048 0 (tN (tN (tN (tN (tL 27394049 1) 27721728 0 .nil) 27721729 2 (tN (tL 27721730 3) 27721731 4 .nil)) 28442624 0 (tN (tN (tL 28442625 1) 28573696 0 .nil) 28573697 1 (tL 29229056 0))) 29229057 1 (tN (tN (tN (tL 29491200 0) 29622272 0 .nil) 29622273 1 (tL 31522816 0)) 31522817 1 (tN (tN (tL 35127296 0) 35127297 1 .nil) 35913728 0 (tL 35913729 1))))))
def ai4:cg (λk=>Rk prog (k / 65536) (k % 65536)) adR:=by unfold cg;kernel_rfl
def ZJ:Tr (Nat×Nat×Bool):=tN (tL 2949120 (0,(1,false))) 15859714 (2,(1,false)) (tL 35127297 (1,(1,false)))
def ahs:cg (λk=>Nn prog (k / 65536) (k % 65536)) ZJ:=by unfold cg;kernel_rfl
def ZK:Tr (List D):=tN (tN (tN (tN (tN (tL 3 [zI]) 22 [zL] (tL 24 [zS,zL])) 28 [zI,zI,zI,zI,zI,zI] (tN (tL 30 [zL,zI]) 32 [zS,zL,zL,zI] .nil)) 35 [zI,zL,zS,zL,zL,zI,zI,zI,zI,zI,zI,zI,zI,zI,zI,zI,zI,zL,zS,zL,zL,zI,zB,zL,zI,zB,zL,zI,zL] (tN (tN (tL 37 [zI,zL,zS,zL,zL,zI,zI,zI,zI,zI,zI,zI,zI,zI,zI,zI,zI,zL,zS,zL,zL,zI,zB,zL,zI,zB,zL,zI,zL,zS,zL,zL,zI]) 41 [zI] (tL 45 [zI,zI])) 56 [zL] (tN (tL 58 [zL,zI]) 59 [D.nilf] .nil))) 78 [zS,zL] (tN (tN (tN (tL 102 [zI,zI,zB,zI,zI,zI]) 130 [zI,zI,zB,zL,zL] (tL 143 [zS,zB,zL])) 159 [D.nilf] (tN (tL 182 [zI,zI,zI,zI,zB,zL,zL,zL]) 192 [zB,zL,zL,zL] .nil)) 194 [zB,zB,zI] (tN (tN (tL 196 [zB,zI,zB,zI]) 197 [zL] (tL 198 [zL])) 200 [zL,zL] (tN (tL 203 [zL,zL,zB,zB,zB,zB,zI]) 207 [zI,zS,zB,zL,zI,zL,zL,zB,zL,zL,zL,zB,zB,zI,zB,zI,zB,zI,zL,zL,zL,zL,zL,zL,zL,zB,zB,zB,zB,zI,zL,zL,zI,zI,zI,zI,zI,zI] .nil)))) 233 [zI,zI,zB,zI,zI] (tN (tN (tN (tN (tL 242 [zS,zS,D.nili]) 259 [D.nilp,zL] (tL 280 [D.nilf,D.nilf,D.nilf])) 283 [D.nilf,D.nilf,D.nilf] (tN (tL 289 [D.nilf,D.nilf,D.nilf]) 295 [D.nilf,D.nilf,D.nilf] .nil)) 364 [D.int IntKind.u8 0,D.int IntKind.u8 0,D.int IntKind.u8 0,D.int IntKind.u8 0,D.int IntKind.u8 0,D.int IntKind.u8 0,D.int IntKind.u8 0,D.int IntKind.u8 0,D.int IntKind.u8 0,D.int IntKind.u8 0,D.int IntKind.u8 0,D.int IntKind.u8 0,D.int IntKind.u8 0,D.int IntKind.u8 0,D.int IntKind.u8 0,D.int IntKind.u8 0,D.int IntKind.u8 0,D.int IntKind.u8 0,D.int IntKind.u8 0,D.int IntKind.u8 0,D.int IntKind.u8 0,D.int IntKind.u8 0,D.int IntKind.u8 0,D.int IntKind.u8 0] (tN (tN (tL 372 [zI,zS]) 374 [zI,zS,zS,zL,zL,zI,zS,zI,zS] (tL 382 [zL,zI])) 384 [zL,zL,zI,zL] (tN (tL 391 [D.nilf,D.nilf]) 394 [zS,zI,zS,zS,zL,zL,zI,zS,zI,zS] .nil))) 399 [D.nilf,D.nilf] (tN (tN (tN (tL 402 [zS,zL]) 418 [zL,zL] (tL 423 [zL,zL,zI,zL,zB,zB,zB,zB,zB,zB])) 434 [zS,zL] (tN (tL 436 [zS,zL]) 446 [zS,zS] .nil)) 452 [zL,zL] (tN (tN (tL 469 [D.int IntKind.u8 0,D.int IntKind.u8 0,D.int IntKind.u8 0,D.int IntKind.u8 0,D.int IntKind.u8 0,D.int IntKind.u8 0,D.int IntKind.u8 0,D.int IntKind.u8 0,D.int IntKind.u8 0,D.int IntKind.u8 0,D.int IntKind.u8 0,D.int IntKind.u8 0,D.int IntKind.u8 0,D.int IntKind.u8 0,D.int IntKind.u8 0,D.int IntKind.u8 0,D.int IntKind.u8 0,D.int IntKind.u8 0,D.int IntKind.u8 0,D.int IntKind.u8 0,D.int IntKind.u8 0,D.int IntKind.u8 0,D.int IntKind.u8 0,D.int IntKind.u8 0,D.int IntKind.u8 0,D.int IntKind.u8 0,D.int IntKind.u8 0,D.int IntKind.u8 0,D.int IntKind.u8 0,D.int IntKind.u8 0,D.int IntKind.u8 0,D.int IntKind.u8 0,D.int IntKind.u8 0,D.int IntKind.u8 0,D.int IntKind.u8 0,D.int IntKind.u8 0,D.int IntKind.u8 0,D.int IntKind.u8 0,D.int IntKind.u8 0,D.int IntKind.u8 0,D.int IntKind.u8 0,D.int IntKind.u8 0,D.int IntKind.u8 0,D.int IntKind.u8 0,D.int IntKind.u8 0,D.int IntKind.u8 0,D.int IntKind.u8 0,D.int IntKind.u8 0,D.int IntKind.u8 0,D.int IntKind.u8 0,D.int IntKind.u8 0,D.int IntKind.u8 0,D.int IntKind.u8 0,D.int IntKind.u8 0,D.int IntKind.u8 0,D.int IntKind.u8 0,D.int IntKind.u8 0,D.int IntKind.u8 0,D.int IntKind.u8 0,D.int IntKind.u8 0,D.int IntKind.u8 0,D.int IntKind.u8 0,D.int IntKind.u8 0,D.int IntKind.u8 0,D.int IntKind.u8 0]) 522 [zS,zS,zS,zS,zS,zS,zS,zS,zS,zS,zS] .nil) 534 [D.nilf] (tN (tL 536 [D.nilf,zI]) 548 [D.int IntKind.u8 0,D.int IntKind.u8 0] .nil))))
def aht:cg (mZ prog) ZK:=by unfold cg;kernel_rfl
def VU:Tr (List D×aS):=tN (tN (tN (tN (tN (tL 24 ([zS,zL],aS.struct [(0,1),(1,1)])) 28 ([zI,zI,zI,zI,zI,zI],aS.struct [(0,1),(1,1),(2,1),(3,1),(4,1),(5,1)]) (tL 30 ([zL,zI],aS.struct [(0,1),(1,1)]))) 32 ([zS,zL,zL,zI],aS.struct [(0,2),(2,2)]) (tN (tL 35 ([zI,zL,zS,zL,zL,zI,zI,zI,zI,zI,zI,zI,zI,zI,zI,zI,zI,zL,zS,zL,zL,zI,zB,zL,zI,zB,zL,zI,zL],aS.struct [(0,1),(1,1),(2,2),(4,1),(5,6),(11,6),(17,1),(18,4),(22,1),(23,2),(25,1),(26,2),(28,1)])) 37 ([zI,zL,zS,zL,zL,zI,zI,zI,zI,zI,zI,zI,zI,zI,zI,zI,zI,zL,zS,zL,zL,zI,zB,zL,zI,zB,zL,zI,zL,zS,zL,zL,zI],aS.struct [(0,29),(29,2),(31,2)]) .nil)) 45 ([zI,zI],aS.struct [(0,1),(1,1)]) (tN (tN (tL 78 ([zS,zL],aS.struct [(0,1),(1,1)])) 100 ([zL,zL,zI,zI],aS.struct [(0,1),(1,1),(2,2)]) (tL 102 ([zI,zI,zB,zI,zI,zI],aS.struct [(0,1),(1,1),(2,1),(3,1),(4,1),(5,1)]))) 130 ([zI,zI,zB,zL,zL],aS.struct [(0,1),(1,1),(2,1),(3,1),(4,1)]) (tN (tL 143 ([zS,zB,zL],aS.struct [(0,1),(1,1),(2,1)])) 152 ([zI,zB],aS.struct [(0,1),(1,1)]) .nil))) 182 ([zI,zI,zI,zI,zB,zL,zL,zL],aS.struct [(0,1),(1,1),(2,5),(7,1)]) (tN (tN (tN (tL 192 ([zB,zL,zL,zL],aS.struct [(0,1),(1,1),(2,1),(3,1)])) 194 ([zB,zB,zI],aS.struct [(0,1),(1,1),(2,1)]) (tL 196 ([zB,zI,zB,zI],aS.struct [(0,1),(1,1),(2,1),(3,1)]))) 200 ([zL,zL],aS.struct [(0,1),(1,1)]) (tN (tL 203 ([zL,zL,zB,zB,zB,zB,zI],aS.struct [(0,1),(1,1),(2,1),(3,1),(4,1),(5,1),(6,1)])) 207 ([zI,zS,zB,zL,zI,zL,zL,zB,zL,zL,zL,zB,zB,zI,zB,zI,zB,zI,zL,zL,zL,zL,zL,zL,zL,zB,zB,zB,zB,zI,zL,zL,zI,zI,zI,zI,zI,zI],aS.struct [(0,1),(1,1),(2,1),(3,1),(4,1),(5,1),(6,1),(7,4),(11,3),(14,4),(18,1),(19,1),(20,2),(22,1),(23,7),(30,1),(31,1),(32,6)]) .nil)) 233 ([zI,zI,zB,zI,zI],aS.struct [(0,1),(1,1),(2,1),(3,1),(4,1)]) (tN (tN (tL 242 ([zS,zS,D.nili],aS.struct [(0,1),(1,1),(2,1)])) 270 ([zI,zI,zI,zI,zI,zI,zI,zI,zI,zI,zI,zI],aS.array 1) (tL 280 ([D.nilf,D.nilf,D.nilf],aS.struct [(0,1),(1,1),(2,1)]))) 283 ([D.nilf,D.nilf,D.nilf],aS.struct [(0,1),(1,1),(2,1)]) (tN (tL 289 ([D.nilf,D.nilf,D.nilf],aS.struct [(0,1),(1,1),(2,1)])) 295 ([D.nilf,D.nilf,D.nilf],aS.struct [(0,1),(1,1),(2,1)]) .nil)))) 301 ([D.nilf,D.nilf,D.nilf],aS.struct [(0,1),(1,1),(2,1)]) (tN (tN (tN (tN (tL 304 ([D.nilf,D.nilf,D.nilf],aS.struct [(0,1),(1,1),(2,1)])) 310 ([D.nilf,D.nilf,D.nilf],aS.struct [(0,1),(1,1),(2,1)]) (tL 314 ([D.nilf,D.nilf,D.nilf],aS.struct [(0,1),(1,1),(2,1)]))) 320 ([D.nilf,D.nilf,D.nilf],aS.struct [(0,1),(1,1),(2,1)]) (tN (tL 326 ([D.nilf,D.nilf,D.nilf],aS.struct [(0,1),(1,1),(2,1)])) 332 ([D.nilf,D.nilf,D.nilf],aS.struct [(0,1),(1,1),(2,1)]) .nil)) 338 ([D.nilf,D.nilf,D.nilf],aS.struct [(0,1),(1,1),(2,1)]) (tN (tN (tL 344 ([D.nilf,D.nilf,D.nilf],aS.struct [(0,1),(1,1),(2,1)])) 350 ([D.nilf,D.nilf,D.nilf],aS.struct [(0,1),(1,1),(2,1)]) (tL 356 ([D.nilf,D.nilf,D.nilf],aS.struct [(0,1),(1,1),(2,1)]))) 372 ([zI,zS],aS.struct [(0,1),(1,1)]) (tN (tL 374 ([zI,zS,zS,zL,zL,zI,zS,zI,zS],aS.struct [(0,1),(1,1),(2,1),(3,1),(4,1),(5,2),(7,2)])) 384 ([zL,zL,zI,zL],aS.struct [(0,1),(1,1),(2,1),(3,1)]) .nil))) 391 ([D.nilf,D.nilf],aS.struct [(0,1),(1,1)]) (tN (tN (tN (tL 394 ([zS,zI,zS,zS,zL,zL,zI,zS,zI,zS],aS.struct [(0,1),(1,9)])) 399 ([D.nilf,D.nilf],aS.struct [(0,1),(1,1)]) (tL 402 ([zS,zL],aS.struct [(0,1),(1,1)]))) 418 ([zL,zL],aS.struct [(0,1),(1,1)]) (tN (tL 423 ([zL,zL,zI,zL,zB,zB,zB,zB,zB,zB],aS.struct [(0,2),(2,1),(3,1),(4,6)])) 450 ([zL],aS.struct [(0,1)]) .nil)) 452 ([zL,zL],aS.struct [(0,1),(1,1)]) (tN (tN (tL 481 ([zI,zL],aS.struct [(0,1),(1,1)])) 513 ([zS,zS,D.nili],aS.struct [(0,1),(1,1),(2,1)]) .nil) 522 ([zS,zS,zS,zS,zS,zS,zS,zS,zS,zS,zS],aS.array 1) (tN (tL 530 ([zS],aS.struct [(0,1)])) 536 ([D.nilf,zI],aS.struct [(0,1),(1,1)]) .nil))))
def afj:cg (JO prog) VU:=by unfold cg;kernel_rfl
def ahu:Tr (List D×Nat):=tN (tN (tN (tN (tL 22 ([D.int IntKind.u8 0],1)) 26 ([zL],1) (tL 33 ([zS,zB,zL],3))) 56 ([zL],1) (tN (tL 80 ([zS,zL],2)) 96 ([zI,zI,zB,zI,zI,zI],6) .nil)) 128 ([zI,zI,zB,zL,zL],5) (tN (tN (tL 147 ([zI,zS,zB,zL,zI,zL,zL,zB,zL,zL,zL,zB,zB,zI,zB,zI,zB,zI,zL,zL,zL,zL,zL,zL,zL,zB,zB,zB,zB,zI,zL,zL,zI,zI,zI,zI,zI,zI],38)) 174 ([D.int IntKind.u64 0],1) .nil) 178 ([D.int IntKind.u32 0],1) (tN (tL 180 ([zI,zI,zI,zI,zB,zL,zL,zL],8)) 189 ([zS],1) .nil))) 190 ([zI,zS,zS,zL,zL,zI,zS,zI,zS],9) (tN (tN (tN (tL 197 ([zS,zL],2)) 198 ([zS,zS],2) .nil) 201 ([zL,zL,zI,zL],4) (tN (tL 204 ([zS,zI,zS,zS,zL,zL,zI,zS,zI,zS],10)) 205 ([zS,zL],2) .nil)) 359 ([zI],1) (tN (tN (tL 362 ([D.nilp],1)) 428 ([zL],1) .nil) 432 ([zS,zL],2) (tN (tL 454 ([zB],1)) 518 ([zI,zS],2) .nil)))
def akD:cg (IV prog) ahu:=by unfold cg;kernel_rfl
def adS:Tr (Nat×Nat):=tN (tL 22 (1,1)) 189 (1,16) .nil
def ai5:cg (wO prog) adS:=by unfold cg;kernel_rfl
def ahv:Tr (EK):=tN (tN (tN (tL 3 EK.prim) 4 EK.bool (tL 5 EK.prim)) 9 EK.prim (tN (tL 12 EK.prim) 21 EK.prim (tL 28 (EK.flat [LK.i,LK.i,LK.i,LK.i,LK.i,LK.i])))) 41 EK.prim (tN (tN (tL 45 (EK.flat [LK.i,LK.i])) 175 EK.prim (tL 177 EK.prim)) 251 EK.iface (tN (tL 257 EK.ptr) 372 (EK.flat [LK.i,LK.s]) .nil))
def Pq:cg (OY prog) ahv:=by unfold cg;kernel_rfl
def ZL:Tr (CK):=tN (tN (tN (tN (tL 131077 (CK.int IntKind.u8)) 131247 (CK.int IntKind.u64) (tL 196613 (CK.int IntKind.u8))) 196783 (CK.int IntKind.u64) (tN (tL 196784 (CK.int IntKind.u64)) 327682 (CK.int IntKind.i64) .nil)) 327683 (CK.int IntKind.i64) (tN (tN (tL 327692 (CK.int IntKind.u64)) 327701 (CK.int IntKind.i32) .nil) 327855 (CK.int IntKind.u64) (tN (tL 327857 (CK.int IntKind.u32)) 327901 (CK.int IntKind.i8) .nil))) 589846 CK.toBytes (tN (tN (tN (tL 1376261 (CK.int IntKind.u8)) 1376433 (CK.int IntKind.u32) (tL 1441801 CK.toStr)) 2490371 (CK.int IntKind.i64) (tN (tL 11468803 (CK.int IntKind.i64)) 11468805 (CK.int IntKind.u8) .nil)) 11468977 (CK.int IntKind.u32) (tN (tN (tL 11534513 (CK.int IntKind.u32)) 11599877 (CK.int IntKind.u8) .nil) 11599893 (CK.int IntKind.i32) (tN (tL 11600047 (CK.int IntKind.u64)) 14483458 (CK.int IntKind.i64) .nil)))
def ahw:cg (λk=>Np prog (k / 65536) (k % 65536)) ZL:=by unfold cg;kernel_rfl
def ZM:Tr (Unit):=tN (tN (tN (tN (tL 9 ()) 280 () .nil) 283 () (tL 289 ())) 295 () (tN (tN (tL 301 ()) 304 () .nil) 310 () (tL 314 ()))) 320 () (tN (tN (tN (tL 326 ()) 332 () .nil) 338 () (tL 344 ())) 350 () (tN (tN (tL 356 ()) 461 () .nil) 463 () (tL 528 ())))
def ahx:cg (RI prog) ZM:=by unfold cg;kernel_rfl
def adT:Tr (SK):=tN (tN (tN (tL 9 SK.string) 22 (SK.slice 1) .nil) 56 (SK.slice 1) (tL 96 (SK.slice 6))) 174 (SK.slice 1) (tN (tN (tL 178 (SK.slice 1)) 189 (SK.slice 1) .nil) 364 (SK.array 24 1) (tL 469 (SK.array 65 1)))
def ai6:cg (zU prog) adT:=by unfold cg;kernel_rfl
def adU:Tr (IK):=tN (tN (tN (tN (tL 22 (IK.slice 1)) 26 (IK.slice 1) (tL 33 (IK.slice 3))) 56 (IK.slice 1) (tN (tL 80 (IK.slice 2)) 96 (IK.slice 6) (tL 174 (IK.slice 1)))) 178 (IK.slice 1) (tN (tN (tL 189 (IK.slice 1)) 190 (IK.slice 9) (tL 197 (IK.slice 2))) 198 (IK.slice 2) (tN (tL 201 (IK.slice 4)) 204 (IK.slice 10) (tL 205 (IK.slice 2))))) 359 (IK.slice 1) (tN (tN (tN (tL 362 (IK.slice 1)) 364 (IK.array 24 1) (tL 421 (IK.array 6 1))) 428 (IK.slice 1) (tN (tL 432 (IK.slice 2)) 454 (IK.slice 1) (tL 468 (IK.array 20 1)))) 469 (IK.array 65 1) (tN (tN (tL 518 (IK.slice 2)) 522 (IK.array 11 1) (tL 531 (IK.array 32 1))) 532 (IK.array 64 1) (tN (tL 546 (IK.array 256 1)) 549 (IK.array 16 2) .nil)))
def ai7:cg (Ra prog) adU:=by unfold cg;kernel_rfl
def ZN:Tr (IVK):=tN (tL 9 IVK.string) 270 (IVK.array 12 1 false) (tL 425 IVK.string)
def ahy:cg (MJ prog) ZN:=by unfold cg;kernel_rfl
def adV:Tr (LK×D):=tN (tN (tL 212 (LK.s,zB)) 243 (LK.i,D.agg [zS,zS,D.nili]) .nil) 477 (LK.i,D.nilf) (tL 537 (LK.i,D.agg [D.nilf,zI]))
def ai8:cg (zF prog) adV:=by unfold cg;kernel_rfl
def adW:Tr (eE):=tN (tN (tN (tN (tL 9 eE.string) 22 eE.slice .nil) 26 eE.slice (tN (tL 33 eE.slice) 56 eE.slice .nil)) 80 eE.slice (tN (tN (tL 96 eE.slice) 174 eE.slice .nil) 178 eE.slice (tN (tL 189 eE.slice) 190 eE.slice .nil))) 197 eE.slice (tN (tN (tN (tL 198 eE.slice) 201 eE.slice .nil) 204 eE.slice (tN (tL 205 eE.slice) 359 eE.slice .nil)) 362 eE.slice (tN (tN (tL 425 eE.string) 428 eE.slice .nil) 432 eE.slice (tN (tL 454 eE.slice) 518 eE.slice .nil)))
def ai9:cg (Rm prog) adW:=by unfold cg;kernel_rfl
def adX:Tr (Nat×Nat):=tN (tN (tN (tN (tL 1441801 (1,1)) 1441814 (1,1) .nil) 1703962 (1,24) (tN (tL 2162721 (3,48)) 3670072 (1,24) .nil)) 5242960 (2,40) (tN (tN (tL 6291552 (6,48)) 8388736 (5,72) .nil) 9633939 (38,520) (tL 11403438 (1,8)))) 11665586 (1,4) (tN (tN (tN (tL 11796660 (8,112)) 12386493 (1,16) .nil) 12452030 (9,136) (tN (tL 12910789 (2,40)) 12976326 (2,32) .nil)) 13172937 (4,80) (tN (tN (tL 13369548 (10,152)) 13435085 (2,40) .nil) 23527783 (1,8) (tL 28311984 (2,40))))
def Kb:cg (λk=>CG prog (k / 65536) (k % 65536)) adX:=by unfold cg;kernel_rfl
def T8:List (Nat×String×Nat):=[(280,"cretula/dispatch.decode",412),(283,"cretula/dispatch.decode",415),(289,"cretula/dispatch.decode",418),(295,"cretula/dispatch.decode",421),(301,"cretula/dispatch.decode",424),(304,"cretula/dispatch.decode",427),(310,"cretula/dispatch.decode",430),(314,"cretula/dispatch.decode",433),(320,"cretula/dispatch.decode",436),(326,"cretula/dispatch.decode",439),(332,"cretula/dispatch.decode",442),(338,"cretula/dispatch.decode",445),(344,"cretula/dispatch.decode",448),(350,"cretula/dispatch.decode",451),(356,"cretula/dispatch.decode",454)]
def ahz:(T8.map λp=>H2 prog p.1 p.2.1)=T8.map λp=>some p.2.2:=krq
def T:Tys:=⟨ahr,adR,ZJ,ZK,VU,ahu,adS,ahv,ZL,ZM,adT,adU,ZN,adV,adW,adX,T8,adQ⟩
def tok:TOk T prog:=⟨akC,ai4,ahs,aht,afj,akD,ai5,Pq,ahw,ahx,ai6,ai7,ahy,ai8,ai9,Kb,ahz,ai3⟩
end Go.Proofs.Tryz

namespace Go.Fw
open Go.RowKit
def iU{G:Gh}{w h:World}(d:me G w)(c:Below w.heap.size w h):FW G G w h where
 le:=.refl G
 below:=c
 blk:=rfl
 imm b o v hi:=by
  have a:=d.imm b o v hi;rw[c.cell (p:=⟨b,o,none⟩) (ed a)];exact a
 mimm b es hm:=by
  obtain⟨a,e⟩:=d.mimm b es hm;exact⟨(c.block b (bB a)).trans a,e⟩
 siz b n hs:=by
  obtain⟨k,i,f,g,j⟩:=d.siz b n hs;exact⟨k,i,f,(c.block b (bB g)).trans g,j⟩
 imm_new _ _ _:=rfl
 mimm_new _ _:=rfl
def Eo:Nat:=140737488355328
def fE(xs:List (List UInt8))(a:List UInt8):Option (List UInt8):=
 bif Nat.ble xs.length Eo&&Nat.ble (Lib.join xs a).length Eo then some (Lib.join xs a) else none
def Sy:Ctr:=⟨[.hole (.sl .str),.hole .str],.hole .str,λ(x:List (List UInt8)×List UInt8)=>fE x.1 x.2⟩
def Nj{G:Gh}{w:World}(e:me G w){b:Nat}:∀{xs:List (List UInt8)}{o:Nat},Cells G b o (bH uW xs)->∀(j:Nat) x,xs[j]?=some x->w.cell? ⟨b,o+j,none⟩=some (.string ⟨x.toArray⟩)
 |[],_,_,j,x,a=>by simp at a
 |y::c,o,h,j,x,a=>by
  rw[show bH uW (y::c)=.str y::bH uW c from uW.fcons y c]at h;simp only[Cells]at h;obtain⟨⟨v,f,d⟩,g⟩:=h;cases j with
  |zero=>
   simp at a;subst a;simp only[Rep]at d;rw[anx,e.imm _ _ _ f,d]
  |succ j=>
   have:=Nj e g j x (by simpa using a);rw[show o+(j+1)=o+1+j from omq];exact this
def abt{P:Program}{f:FuncId}(I:fI P f)
 (F:∀(a:Option Addr)(c:Nat)(d:ByteArray)(w:World),Calls P f #[.slice a 0 c,.string d] w λe p=>e=.returned (.string ⟨#[]⟩)/\p=w)
 (h:∀(bk o c:Nat)(xs:List ByteArray)(d:ByteArray)(w:World),(∀(j:Nat) x,xs[j]?=some x->w.cell? ⟨bk,o+j,none⟩=some (.string x))->bk<w.heap.size->xs.length<=140737488355328->xs.length<=c->
   (Lib.join (xs.map (·.data.toList)) d.data.toList).length<=140737488355328->
   Calls P f #[.slice (some ⟨bk,o,none⟩) xs.length c,.string d] w λe p=>e=.returned (.string ⟨(Lib.join (xs.map (·.data.toList)) d.data.toList).toArray⟩)/\Below w.heap.size w p):cD P f Sy:=by
 refine⟨I,rfl,rfl,?_⟩;rintro⟨xs,d⟩ y i;have i:fE xs d=some y:=i;unfold fE at i;cases m:(Nat.ble xs.length Eo&&Nat.ble (Lib.join xs d).length Eo) with
 |false=>rw[m]at i;cases i
 |true=>
  rw[m]at i;cases i;simp only[akY]at m;have K:=alb m.1;have J:=alb m.2;refine⟨.str (Lib.join xs d),rfl,λ_ _=>by simp only[SV.can,VR],?_⟩;intro Y u R n;cases u;simp only[VRs]at n;obtain⟨Q,_,rfl,⟨S,rfl,_⟩,d2,_,rfl,rfl,rfl⟩:=n;intro G w E r T A;simp only[af]at A;obtain⟨W,_,rfl,C,X,_,rfl,D,rfl⟩:=A;simp only[Rep]at C D;subst D;obtain⟨a,k,rfl,N,U,V,O⟩:=C;cases xs with
  |nil=>
   refine(F a k ⟨d.toArray⟩ w).mono ?_;rintro e p ⟨rfl,rfl⟩;refine⟨_,G,rfl,iU r (amh _ _),?_⟩;simp only[SV.can,Rep];rfl
  |cons x xs=>
   rcases O with⟨b,o,rfl,q⟩|q
   ·have g:=Nj r (xs:=x::xs) q;have t:∀l:List (List UInt8),(l.map λs:List UInt8=>(⟨s.toArray⟩:ByteArray)).map (·.data.toList)=l:=by
     intro l;induction l with
     |nil=>rfl
     |cons a l M=>rw[alc,alc,M]
    have v:=t (x::xs);have:=h b o k ((x::xs).map λs=>⟨s.toArray⟩) ⟨d.toArray⟩ w (λj z B=>by
     rw[al4]at B;obtain⟨s,L,rfl⟩:=amK.1 B;exact g j s L) (ed (g 0 x rfl)) (by rw[alQ];exact K) (by rw[alQ];exact N) (by rw[v];exact J)
    rw[v,alQ]at this;refine Calls.mono this ?_;rintro e p ⟨rfl,H⟩;refine⟨_,G,rfl,iU r H,?_⟩;simp only[SV.can,Rep]
   ·rw[show TC.flat .str (x::xs)=.str x::bH uW xs from uW.fcons x xs]at q;cases q
def abu{P:Program}{G:Gh}{w:World}(i:me G w)(f:GlobOk P G w){g:Nat}(j:mX P g=some [.anyi]):∃ev,w.cell? ⟨g,0,none⟩=some ev/\∃l k,ev=.iface l k:=by
 have h:=(f.1 g _ j).2;simp only[Rep]at h;obtain⟨b,o,a,c⟩:=h;simp only[Value.pointer.injEq,ak1,Addr.mk.injEq]at a;obtain⟨rfl,a,_⟩:=a;simp only[Cells]at c;obtain⟨⟨v,e,d⟩,_⟩:=c;simp only[Rep]at d;have:o=0:=omq;subst this;exact⟨v,i.imm _ _ _ e,d⟩
def YD{P:Program}{f:FuncId}{te:TypeId}{g k:Nat}{s:List UInt8}(m:mX P g=some [.anyi])
 (h:∀(ev:Value)(w:World),w.cell? ⟨g,0,none⟩=some ev->(ev=.nilIface∨∃te o,ev=.iface te o)->
   Calls P f #[.string ⟨s.toArray⟩,.int .i64 10,.int .i64 32] w λe d=>∃N,e=.returned (.tuple #[.int .u64 k,.iface te (.pointer (some ⟨N,0,none⟩))])/\Below w.heap.size w d):
 cq P f [.str s,.int .i64 10,.int .i64 32] (.tuple [.int .u64 k,.anyi]):=by
 intro G w c a i b;simp only[af,Rep]at b;obtain⟨_,_,rfl,rfl,_,_,rfl,rfl,_,_,rfl,rfl,rfl⟩:=b;obtain⟨ev,l,n⟩:=abu a i m;refine(h ev w l (.inr n)).mono ?_;rintro e d ⟨N,rfl,j⟩;refine⟨_,G,rfl,iU a j,?_⟩;simp only[Rep,af];exact⟨_,rfl,_,_,rfl,rfl,_,_,rfl,⟨_,_,rfl⟩,rfl⟩
def aex{P:Program}{f:FuncId}{k:Nat}{s:List UInt8}
 (h:∀w:World,Calls P f #[.string ⟨s.toArray⟩,.int .i64 10,.int .i64 32] w λe c=>e=.returned (.tuple #[.int .u64 k,.nilIface])/\Below w.heap.size w c):
 cq P f [.str s,.int .i64 10,.int .i64 32] (.tuple [.int .u64 k,.nili]):=by
 intro G w b d i a;simp only[af,Rep]at a;obtain⟨_,_,rfl,rfl,_,_,rfl,rfl,_,_,rfl,rfl,rfl⟩:=a;refine(h w).mono ?_;rintro e c ⟨rfl,g⟩;refine⟨_,G,rfl,iU d g,?_⟩;simp only[Rep,af];exact⟨_,rfl,_,_,rfl,rfl,_,_,rfl,rfl,rfl⟩
end Go.Fw
def amD:=@Go.Proofs.Tryz.underlying5
def amS:=@Go.Proofs.Tryz.zeroValue5
def amU:=@Go.Proofs.Tryz.underlying9
def am9:=@Go.Proofs.Tryz.underlying3
def ana:=@Go.Proofs.Tryz.underlying4
def anl:=@Go.Proofs.Tryz.zeroValue3
def anm:=@Go.Proofs.Tryz.zeroValue9
def ann:=@Go.Proofs.Tryz.zeroValue4
def ans:=@Go.Proofs.Tryz.sizeOf5
def anz:=@Go.Proofs.Tryz.underlying21
def anA:=@Go.Proofs.Tryz.isAgg5
def anF:=@Go.Proofs.Tryz.zeroValue21
def anL:=@Go.Proofs.Tryz.sizeOf3
def anM:=@Go.Proofs.Tryz.sizeOf9
def anN:=@Go.Proofs.Tryz.sizeOf4
def anW:=@Go.Proofs.Tryz.isAgg3
def anX:=@Go.Proofs.Tryz.isAgg9
def anY:=@Go.Proofs.Tryz.isAgg4
def an6:=@Go.Proofs.Tryz.sizeOf21
def aod:=@Go.Proofs.Tryz.underlying364
def aok:=@Go.Proofs.Tryz.isAgg21
def aom:=@Go.Proofs.Tryz.underlying22
def aow:=@Go.Proofs.Tryz.underlying0
def aoF:=@Go.Proofs.Tryz.zeroValue0
namespace Go.Proofs
open Go.Shelf
def Tryz.lays169_ren:Go.Shelf.Ren:=⟨λ|169=>147|n=>n,λ|70=>257|9=>9|0=>0|72=>259|37=>22|127=>369|3=>3|5=>5|n=>n,λ|n=>n⟩
def Tryz.lays169:Go.Proofs.Lays.n169 Tryz.prog Tryz.lays169_ren:=by constructor<;>first|kernel_rfl|(intro w;kernel_rfl)
def Tryz.Builder_Extra_169:Builder.Extra Tryz.prog Tryz.lays169_ren:={
 sizeBuilder:=by kernel_rfl
 liesBuilder:=by kernel_rfl
 t5:=amD
 a5:=anA
 z5:=ans
 v5:=amS
 infoByte:=by kernel_rfl
 cellsByte:=by kernel_rfl
 sizeByte:=by kernel_rfl
 neB5:=by decide}
def Tryz.lays156_ren:Go.Shelf.Ren:=⟨λ|156=>129|165=>145|166=>146|169=>147|240=>216|241=>217|276=>291|277=>292|n=>n,λ|31=>189|9=>9|3=>3|4=>4|0=>0|20=>20|72=>259|76=>261|70=>257|37=>22|75=>251|127=>369|164=>471|5=>5|80=>263|n=>n,λ|n=>n⟩
def Tryz.lays156:Go.Proofs.Lays.n156 Tryz.prog Tryz.lays156_ren:=by constructor<;>first|kernel_rfl|(intro w;kernel_rfl)
def Tryz.Builder_Extra_156:Builder.Extra Tryz.prog Tryz.lays156_ren:={
 sizeBuilder:=by kernel_rfl
 liesBuilder:=by kernel_rfl
 t5:=amD
 a5:=anA
 z5:=ans
 v5:=amS
 infoByte:=by kernel_rfl
 cellsByte:=by kernel_rfl
 sizeByte:=by kernel_rfl
 neB5:=by decide}
open Go.RowKit in
def Tryz.strings_Join_none(a:Option Addr)(c:Nat)(b:ByteArray)(w:World):
 Calls Tryz.prog 129 #[.slice a 0 c,.string b] w λe d=>e=.returned (.string ⟨#[]⟩)/\d=w:=Any.strings_Join_none Tryz.lays156 Tryz.Builder_Extra_156 a c b w
open Go.RowKit in
def Tryz.strings_Join(bk o c:Nat)(xs:List ByteArray)(b:ByteArray)(w:World)(a:∀(j:Nat) x,xs[j]?=some x->w.cell? ⟨bk,o+j,none⟩=some (.string x))(g:bk<w.heap.size)(h:xs.length<=140737488355328)(d:xs.length<=c)(f:(Lib.join (xs.map (·.data.toList)) b.data.toList).length<=140737488355328):
 Calls Tryz.prog 129 #[.slice (some ⟨bk,o,none⟩) xs.length c,.string b] w λe i=>e=.returned (.string ⟨(Lib.join (xs.map (·.data.toList)) b.data.toList).toArray⟩)/\Below w.heap.size w i:=Any.strings_Join Tryz.lays156 Tryz.Builder_Extra_156 bk o c xs b w a g h d f
def Tryz.lays119_ren:Go.Shelf.Ren:=⟨λ|119=>382|n=>n,λ|21=>21|4=>4|n=>n,λ|n=>n⟩
def Tryz.lays119:Go.Proofs.Lays.n119 Tryz.prog Tryz.lays119_ren:=by constructor<;>first|kernel_rfl|(intro w;kernel_rfl)
def Tryz.utf8_ValidRune(r:Int)(w:World):
 Calls Tryz.prog 382 #[.int .i32 r] w λe a=>e=.returned (.bool (Lib.validRune r))/\a=w:=Any.utf8_ValidRune Tryz.lays119 r w
def Tryz.lays137_ren:Go.Shelf.Ren:=⟨λ|137=>393|217=>362|266=>374|n=>n,λ|9=>9|5=>5|3=>3|n=>n,λ|n=>n⟩
def Tryz.lays137:Go.Proofs.Lays.n137 Tryz.prog Tryz.lays137_ren:=by constructor<;>first|kernel_rfl|(intro w;kernel_rfl)
open Go.RowKit in
def Tryz.strings_IndexByte(s:ByteArray)(c:Int)(w:World):
 Calls Tryz.prog 393 #[.string s,.int .u8 c] w λe a=>e=.returned (.int .i64 (Lib.indexByte s.data.toList c.toNat.toUInt8))/\a=w:=Any.strings_IndexByte Tryz.lays137 s c w
open Go.RowKit in
def Tryz.Builder_String_any_k(B b:Nat)(l:List UInt8)(w:World)(h:Lib.IsBuilderF 259 5 B b (Lib.byteCells l) w)(a:B<=w.heap.size):
 Calls Tryz.prog 147 #[.pointer (some ⟨b,0,none⟩)] w λe c=>e=.returned (.string ⟨l.toArray⟩)/\(Lib.IsBuilderF 259 5 B b (Lib.byteCells l) c/\Below B w c/\Lib.OthersKept 5 (some b) w c):=Any.Builder_String_any_k Tryz.lays169 Tryz.Builder_Extra_169 B b l w h a
def Tryz.lays283_ren:Go.Shelf.Ren:=⟨λ|283=>212|n=>n,λ|3=>3|9=>9|4=>4|n=>n,λ|n=>n⟩
def Tryz.lays283:Go.Proofs.Lays.n283 Tryz.prog Tryz.lays283_ren:=by constructor<;>first|kernel_rfl|(intro w;kernel_rfl)
open Go.Lib in
def Tryz.internal_strconv_small(i:Nat)(h:i<100)(w:World):
 Calls Tryz.prog 212 #[.int .i64 i] w λe a=>e=.returned (.string ⟨(Lib.decDigits i).toArray⟩)/\a=w:=Any.internal_strconv_small Tryz.lays283 i h w
def Tryz.laysM284_ren:Go.Shelf.Ren:=⟨λ|284=>213|129=>287|317=>286|318=>288|n=>n,λ|53=>175|3=>3|212=>468|0=>0|4=>4|46=>176|5=>5|9=>9|n=>n,λ|17=>0|n=>n⟩
def Tryz.laysM284:Go.Proofs.LaysM.n284 Tryz.prog Tryz.laysM284_ren:={
 mixed:=by kernel_rfl
 f129:=Tryz.func287.trans (congrArg some (by kernel_rfl))
 f284:=Tryz.func213.trans (congrArg some (by kernel_rfl))
 f317:=Tryz.func286.trans (congrArg some (by kernel_rfl))
 f318:=Tryz.func288.trans (congrArg some (by kernel_rfl))
 t0:=aow
 a0:=Tryz.isAgg0
 z0:=Tryz.sizeOf0
 v0:=aoF
 t3:=am9
 a3:=anW
 z3:=anL
 v3:=anl
 t4:=ana
 a4:=anY
 z4:=anN
 v4:=ann
 t5:=amD
 a5:=anA
 z5:=ans
 v5:=amS
 t9:=amU
 a9:=anX
 z9:=anM
 v9:=anm
 t46:=Tryz.underlying176
 a46:=Tryz.isAgg176
 z46:=Tryz.sizeOf176
 v46:=Tryz.zeroValue176
 t53:=Tryz.underlying175
 a53:=Tryz.isAgg175
 z53:=Tryz.sizeOf175
 v53:=Tryz.zeroValue175
 t212:=Tryz.underlying468
 a212:=Tryz.isAgg468
 z212:=Tryz.sizeOf468
 v212:=Tryz.zeroValue468
 g17:=by kernel_rfl
 i0:=by kernel_rfl
 i3:=by kernel_rfl
 i4:=by kernel_rfl
 i5:=by kernel_rfl
 i9:=by kernel_rfl
 i46:=by kernel_rfl
 i53:=by kernel_rfl
 i212:=by kernel_rfl
 m17:=by kernel_rfl}
open Go.Lib in
def Tryz.internal_strconv_numDigits(u:Nat)(b:1<=u)(c:u<18446744073709551616)(w:World)(a:Lib.TabIs Tryz.prog w "internal/strconv.uint64pow10" .u64 Lib.pow10Tab):
 Calls Tryz.prog 213 #[.int .u64 u] w λe d=>e=.returned (.int .i64 (Lib.nDigits u))/\d=w:=Any.internal_strconv_numDigits Tryz.laysM284 u b c w a
def Tryz.lays285_ren:Go.Shelf.Ren:=⟨λ|285=>214|n=>n,λ|37=>22|53=>175|3=>3|4=>4|51=>177|9=>9|5=>5|0=>0|n=>n,λ|n=>n⟩
def Tryz.lays285:Go.Proofs.Lays.n285 Tryz.prog Tryz.lays285_ren:=by constructor<;>first|kernel_rfl|(intro w;kernel_rfl)
open Go.RowKit Go.Sort Go.Lib in
def Tryz.internal_strconv_formatBase10(blk off a:Nat)(u:Nat)(d:Array UInt8)(w:World)(hH:Holds (λ(b:UInt8)=>Value.int .u8 (b.toNat:Int)) w blk off d)(h:u<10 ^ d.size)(c:u<18446744073709551616)(f:d.size<4611686018427387904):
 Calls Tryz.prog 214 #[.slice (some ⟨blk,off,none⟩) d.size a,.int .u64 u] w λe i=>
  e=.returned (.tuple #[])/\∃(n v':Nat)(g:Array UInt8),i=(putRow (λ(b:UInt8)=>Value.int .u8 (b.toNat:Int)) w blk off g).drewN n/\FmtInv d.size u 0 v' g:=Any.internal_strconv_formatBase10 Tryz.lays285 blk off a u d w hH h c f
def Tryz.laysPu14_ren:Go.Shelf.Ren:=⟨λ|14=>141|16=>209|17=>210|19=>280|20=>281|21=>282|22=>283|23=>284|24=>285|25=>337|27=>339|26=>338|28=>366|29=>376|30=>212|31=>213|32=>214|33=>215|35=>287|34=>286|36=>288|37=>289|38=>290|39=>340|40=>341|n=>n,λ|9=>9|3=>3|22=>175|24=>251|25=>252|4=>4|34=>461|5=>5|36=>176|37=>22|0=>0|39=>463|21=>21|44=>513|47=>369|50=>530|48=>528|2=>2|52=>364|55=>367|59=>468|60=>177|20=>20|61=>469|65=>531|66=>532|67=>263|n=>n,λ|0=>1|1=>2|2=>0|3=>4|4=>5|n=>n⟩
def Tryz.laysPu14:Go.Proofs.LaysPu.n14 Tryz.prog Tryz.laysPu14_ren:={
 mixed:=by kernel_rfl
 f14:=Tryz.func141.trans (congrArg some (by kernel_rfl))
 f16:=Tryz.func209.trans (congrArg some (by kernel_rfl))
 f17:=Tryz.func210.trans (congrArg some (by kernel_rfl))
 f19:=Tryz.func280.trans (congrArg some (by kernel_rfl))
 f20:=Tryz.func281.trans (congrArg some (by kernel_rfl))
 f21:=Tryz.func282.trans (congrArg some (by kernel_rfl))
 f22:=Tryz.func283.trans (congrArg some (by kernel_rfl))
 f23:=Tryz.func284.trans (congrArg some (by kernel_rfl))
 f24:=Tryz.func285.trans (congrArg some (by kernel_rfl))
 f25:=Tryz.func337.trans (congrArg some (by kernel_rfl))
 f26:=Tryz.func338.trans (congrArg some (by kernel_rfl))
 f27:=Tryz.func339.trans (congrArg some (by kernel_rfl))
 f28:=Tryz.func366.trans (congrArg some (by kernel_rfl))
 f29:=Tryz.func376.trans (congrArg some (by kernel_rfl))
 f30:=Tryz.func212.trans (congrArg some (by kernel_rfl))
 f31:=Tryz.func213.trans (congrArg some (by kernel_rfl))
 f32:=Tryz.func214.trans (congrArg some (by kernel_rfl))
 f33:=Tryz.func215.trans (congrArg some (by kernel_rfl))
 f34:=Tryz.func286.trans (congrArg some (by kernel_rfl))
 f35:=Tryz.func287.trans (congrArg some (by kernel_rfl))
 f36:=Tryz.func288.trans (congrArg some (by kernel_rfl))
 f37:=Tryz.func289.trans (congrArg some (by kernel_rfl))
 f38:=Tryz.func290.trans (congrArg some (by kernel_rfl))
 f39:=Tryz.func340.trans (congrArg some (by kernel_rfl))
 f40:=Tryz.func341.trans (congrArg some (by kernel_rfl))
 t0:=aow
 a0:=Tryz.isAgg0
 z0:=Tryz.sizeOf0
 v0:=aoF
 i0:=by kernel_rfl
 t2:=Tryz.underlying2
 a2:=Tryz.isAgg2
 z2:=Tryz.sizeOf2
 v2:=Tryz.zeroValue2
 i2:=by kernel_rfl
 t3:=am9
 a3:=anW
 z3:=anL
 v3:=anl
 i3:=by kernel_rfl
 t4:=ana
 a4:=anY
 z4:=anN
 v4:=ann
 i4:=by kernel_rfl
 t5:=amD
 a5:=anA
 z5:=ans
 v5:=amS
 i5:=by kernel_rfl
 t9:=amU
 a9:=anX
 z9:=anM
 v9:=anm
 i9:=by kernel_rfl
 t20:=Tryz.underlying20
 a20:=Tryz.isAgg20
 z20:=Tryz.sizeOf20
 v20:=Tryz.zeroValue20
 i20:=by kernel_rfl
 t21:=anz
 a21:=aok
 z21:=an6
 v21:=anF
 i21:=by kernel_rfl
 t22:=Tryz.underlying175
 a22:=Tryz.isAgg175
 z22:=Tryz.sizeOf175
 v22:=Tryz.zeroValue175
 i22:=by kernel_rfl
 t24:=Tryz.underlying251
 a24:=Tryz.isAgg251
 z24:=Tryz.sizeOf251
 v24:=Tryz.zeroValue251
 i24:=by kernel_rfl
 t25:=Tryz.underlying252
 a25:=Tryz.isAgg252
 z25:=Tryz.sizeOf252
 v25:=Tryz.zeroValue252
 i25:=by kernel_rfl
 t34:=Tryz.underlying461
 a34:=Tryz.isAgg461
 z34:=Tryz.sizeOf461
 v34:=Tryz.zeroValue461
 i34:=by kernel_rfl
 c34:=by kernel_rfl
 t36:=Tryz.underlying176
 a36:=Tryz.isAgg176
 z36:=Tryz.sizeOf176
 v36:=Tryz.zeroValue176
 i36:=by kernel_rfl
 t37:=aom
 a37:=Tryz.isAgg22
 z37:=Tryz.sizeOf22
 v37:=Tryz.zeroValue22
 i37:=by kernel_rfl
 t39:=Tryz.underlying463
 a39:=Tryz.isAgg463
 z39:=Tryz.sizeOf463
 v39:=Tryz.zeroValue463
 i39:=by kernel_rfl
 t44:=Tryz.underlying513
 a44:=Tryz.isAgg513
 z44:=Tryz.sizeOf513
 v44:=Tryz.zeroValue513
 i44:=by kernel_rfl
 t47:=Tryz.underlying369
 a47:=Tryz.isAgg369
 z47:=Tryz.sizeOf369
 v47:=Tryz.zeroValue369
 i47:=by kernel_rfl
 t48:=Tryz.underlying528
 a48:=Tryz.isAgg528
 z48:=Tryz.sizeOf528
 v48:=Tryz.zeroValue528
 i48:=by kernel_rfl
 t50:=Tryz.underlying530
 a50:=Tryz.isAgg530
 z50:=Tryz.sizeOf530
 v50:=Tryz.zeroValue530
 i50:=by kernel_rfl
 t52:=aod
 a52:=Tryz.isAgg364
 z52:=Tryz.sizeOf364
 v52:=Tryz.zeroValue364
 i52:=by kernel_rfl
 t55:=Tryz.underlying367
 a55:=Tryz.isAgg367
 z55:=Tryz.sizeOf367
 v55:=Tryz.zeroValue367
 i55:=by kernel_rfl
 t59:=Tryz.underlying468
 a59:=Tryz.isAgg468
 z59:=Tryz.sizeOf468
 v59:=Tryz.zeroValue468
 i59:=by kernel_rfl
 t60:=Tryz.underlying177
 a60:=Tryz.isAgg177
 z60:=Tryz.sizeOf177
 v60:=Tryz.zeroValue177
 i60:=by kernel_rfl
 t61:=Tryz.underlying469
 a61:=Tryz.isAgg469
 z61:=Tryz.sizeOf469
 t65:=Tryz.underlying531
 a65:=Tryz.isAgg531
 z65:=Tryz.sizeOf531
 v65:=Tryz.zeroValue531
 i65:=by kernel_rfl
 t66:=Tryz.underlying532
 a66:=Tryz.isAgg532
 z66:=Tryz.sizeOf532
 v66:=Tryz.zeroValue532
 i66:=by kernel_rfl
 t67:=Tryz.underlying263
 a67:=Tryz.isAgg263
 z67:=Tryz.sizeOf263
 v67:=Tryz.zeroValue263
 i67:=by kernel_rfl
 g0:=by kernel_rfl
 m0:=by kernel_rfl
 g1:=by kernel_rfl
 m1:=by kernel_rfl
 g2:=by kernel_rfl
 m2:=by kernel_rfl
 g3:=by kernel_rfl
 m3:=by kernel_rfl
 g4:=by kernel_rfl
 m4:=by kernel_rfl}
open Go.RowKit in
def Tryz.strconv_ParseUint_10_at32_ok(s:ByteArray)(a:s.size<=9223372036854775806)(u:Nat)(h:Lib.parseUintB 32 s.data.toList=.ok u)(w:World):
 Calls Tryz.prog 141 #[.string s,.int .i64 10,.int .i64 32] w λe b=>e=.returned (.tuple #[.int .u64 u,.nilIface])/\(b=w∨b=Lib.bytesWorld w 5 s):=Any.strconv_ParseUint_10_at32_ok Tryz.laysPu14 s a u h w
open Go.RowKit in
def Tryz.strconv_ParseUint_10_at32_syntax(s:ByteArray)(a:s.size<=281474976710656)(h:Lib.parseUintB 32 s.data.toList=Lib.parseUintB 32 [])(ev:Value)(w:World)(d:w.cell? ⟨1,0,none⟩=some ev)(b:ev=.nilIface∨∃g f,ev=.iface g f):
 Calls Tryz.prog 141 #[.string s,.int .i64 10,.int .i64 32] w λe c=>∃N,e=.returned (.tuple #[.int .u64 0,.iface 463 (.pointer (some ⟨N,0,none⟩))])/\w.heap.size<=N/\c.heap[N]?=some (.cells #[.string ⟨#[80,97,114,115,101,85,105,110,116]⟩,.string s,ev] 513 (0,0))/\Below w.heap.size w c:=Any.strconv_ParseUint_10_at32_syntax Tryz.laysPu14 s a h ev w d b
open Go.RowKit in
def Tryz.strconv_ParseUint_10_at32_range(s:ByteArray)(a:s.size<=281474976710656)(h:Lib.parseUintB 32 s.data.toList=.range)(ev:Value)(w:World)(d:w.cell? ⟨2,0,none⟩=some ev)(b:ev=.nilIface∨∃g f,ev=.iface g f):
 Calls Tryz.prog 141 #[.string s,.int .i64 10,.int .i64 32] w λe c=>∃N,e=.returned (.tuple #[.int .u64 4294967295,.iface 463 (.pointer (some ⟨N,0,none⟩))])/\w.heap.size<=N/\c.heap[N]?=some (.cells #[.string ⟨#[80,97,114,115,101,85,105,110,116]⟩,.string s,ev] 513 (0,0))/\Below w.heap.size w c:=Any.strconv_ParseUint_10_at32_range Tryz.laysPu14 s a h ev w d b
def Tryz.lays143_ren:Go.Shelf.Ren:=⟨λ|143=>279|219=>336|217=>362|225=>363|224=>364|267=>365|266=>374|314=>375|n=>n,λ|9=>9|3=>3|4=>4|5=>5|46=>176|146=>550|51=>177|n=>n,λ|1=>3|n=>n⟩
def Tryz.lays143:Go.Proofs.Lays.n143 Tryz.prog Tryz.lays143_ren:=by constructor<;>first|kernel_rfl|(intro w;kernel_rfl)
open Go.RowKit Go.Lib in
def Tryz.strings_Index_one(s:ByteArray)(c:UInt8)(w:World):
 Calls Tryz.prog 279 #[.string s,.string ⟨#[c]⟩] w λe a=>e=.returned (.int .i64 (Lib.indexByte s.data.toList c))/\a=w:=Any.strings_Index_one Tryz.lays143 s c w
open Go.RowKit Go.Lib in
def Tryz.strings_Index(s sub:ByteArray)(m:Int)(w:World)(b:s.size<4294967281)(a:w.cell? ⟨3,0,none⟩=some (.int .i64 m)):
 Calls Tryz.prog 279 #[.string s,.string sub] w λe c=>e=.returned (.int .i64 (Lib.index s.data.toList sub.data.toList))/\c=w:=Any.strings_Index Tryz.lays143 s sub m w b a
def Tryz.lays146_ren:Go.Shelf.Ren:=⟨λ|146=>140|221=>208|268=>277|138=>278|143=>279|195=>333|197=>334|218=>335|219=>336|260=>361|217=>362|225=>363|224=>364|267=>365|266=>374|314=>375|n=>n,λ|9=>9|31=>189|3=>3|4=>4|0=>0|105=>508|21=>21|5=>5|46=>176|119=>546|139=>549|138=>548|146=>550|51=>177|n=>n,λ|1=>3|3=>6|4=>7|n=>n⟩
def Tryz.lays146:Go.Proofs.Lays.n146 Tryz.prog Tryz.lays146_ren:=by constructor<;>first|kernel_rfl|(intro w;kernel_rfl)
open Go.RowKit Go.Lib in
def Tryz.strings_Split(s a:ByteArray)(m:Int)(w:World)(d:s.size<4294967281)(c:w.cell? ⟨3,0,none⟩=some (.int .i64 m))(b:1<=a.size):
 Calls Tryz.prog 140 #[.string s,.string a] w λe f=>
  e=.returned (.slice (some ⟨w.heap.size,0,none⟩) (Lib.countB s a+1) (Lib.countB s a+1))/\f=w.alloc (.cells ((Lib.splitB a 0 (Lib.countB s a) s).map Value.string).toArray 9):=Any.strings_Split Tryz.lays146 (by kernel_rfl) s a m w d c b
def Tryz.lays151_ren:Go.Shelf.Ren:=⟨λ|151=>379|152=>389|137=>393|119=>382|224=>364|225=>363|217=>362|266=>374|n=>n,λ|9=>9|21=>21|4=>4|3=>3|5=>5|0=>0|46=>176|n=>n,λ|n=>n⟩
def Tryz.lays151:Go.Proofs.Lays.n151 Tryz.prog Tryz.lays151_ren:=by constructor<;>first|kernel_rfl|(intro w;kernel_rfl)
open Go.RowKit Go.Lib in
def Tryz.strings_ContainsRune_ascii(s:ByteArray)(r:Int)(w:World)(a:0<=r)(b:r<128):
 Calls Tryz.prog 379 #[.string s,.int .i32 r] w λe c=>e=.returned (.bool (decide (0<=Lib.indexByte s.data.toList r.toNat.toUInt8)))/\c=w:=Any.strings_ContainsRune_ascii Tryz.lays151 s r w a b
end Go.Proofs
def anu:=@Go.Proofs.enters_of
def anZ:=@Array.size_replicate
def aoB:=@Go.Lib.decDigits_length
namespace Go.Proofs
open Go.Shelf Go.RowKit Go.Sort Go.Lib
def Tryz.holds_zero0(w:World)(T:TypeId)(nd:Nat)(d:nd<=24):Holds (λ(b:UInt8)=>Value.int .u8 (b.toNat:Int)) (w.alloc (.cells zeros24 T)) w.heap.size 0 (Array.replicate nd (0:UInt8)):=λj a=>by
 have c:j<nd:=by simpa using a
 refine⟨?_,World.frozen?_alloc_new _ _ _ _⟩;rw[World.cell?_alloc_new,zeros24_at _ (by omega),getElem!_pos _ j a];simp
def Tryz.fin_pos0(w:World)(o:Obj)(c:Array UInt8)(k:Nat):∃d,(putRow (λ(b:UInt8)=>Value.int .u8 (b.toNat:Int)) (w.alloc o) w.heap.size 0 c).drewN k=grow (w.drewN k) d:=by
 rw[alloc_eq_grow];obtain⟨a,_,e⟩:=putRow_grow_new (λ(b:UInt8)=>Value.int .u8 (b.toNat:Int)) w #[o] w.heap.size 0 c (Nat.le_refl _);exact⟨a,by rw[e];rfl⟩
set_option maxHeartbeats 6400000 in
set_option maxRecDepth 100000 in
def Tryz.formatUint(u:Nat)(c:u<18446744073709551616)(w:World)(l:Lib.TabIs Tryz.prog w "internal/strconv.uint64pow10" .u64 Lib.pow10Tab):
 Calls Tryz.prog 144 #[.int .u64 u,.int .i64 10] w λe n=>e=.returned (.string ⟨(Lib.decDigits u).toArray⟩)/\∃k s,n=grow (w.drewN k) s:=by
 have mixed:Tryz.prog.follows .mixedOrders=true:=by kernel_rfl
 have Z:=am9;have T:=anW;have z3:=anL;have v3:=anl;have t9:=amU;have X:=anX;have z9:=anM;have v9:=anm;have t4:=ana;have U:=anY;have z4:=anN;have v4:=ann;have A:=aod;have t:=Tryz.isAgg364;have C:=Tryz.sizeOf364;have B:=Tryz.zeroValue364;have Y:=aow;have S:=Tryz.isAgg0;have z0:=Tryz.sizeOf0;have v0:=aoF;have M:=Tryz.underlying175;have E:=Tryz.isAgg175;have R:=Tryz.sizeOf175;have O:=Tryz.zeroValue175;have L:=aom;have D:=Tryz.isAgg22;have Q:=Tryz.sizeOf22;have N:=Tryz.zeroValue22;have t5:=amD;have V:=anA;have z5:=ans;have v5:=amS;have v:∀a w,(callFunc 212 a).run Tryz.prog w=.ok (.enter 212 a) w:=anu Tryz.func212 (by kernel_rfl) rfl;have x:∀a w,(callFunc 213 a).run Tryz.prog w=.ok (.enter 213 a) w:=anu Tryz.func213 (by kernel_rfl) rfl;have y:∀a w,(callFunc 214 a).run Tryz.prog w=.ok (.enter 214 a) w:=anu Tryz.func214 (by kernel_rfl) rfl;by_cases J:u<100
 ·have K:IntKind.i64.wrap (u:Int)=(u:Int):=by rw[IntKind.wrap_i64];omega
  have I:(u:Int)<100:=by omega
  go_enter Tryz.func144,(show Tryz.f144.ntmps=32 from rfl)
  go_wp2_with (go_at_fn 212;refine(Tryz.internal_strconv_small u J _).mono ?_;rintro e n ⟨rfl,rfl⟩)
  go_ret
  exact⟨rfl,0,#[],by simp[World.drewN_zero]⟩
 ·have m:1<=u:=by omega
  have r:Lib.nDigits u<=20:=by have:=Lib.numDigits_eq u m c;split at this<;>omega
  have H:¬(u:Int)<100:=by omega
  have i:Tryz.prog.arrayLen 364=24:=by simp[Program.arrayLen,aod]
  have z:∀W,(Instr.sliceAt 364 (.pointer (some ⟨w.heap.size,0,none⟩)) none (some (.int .i64 (Lib.nDigits u:Int))) none).run Tryz.prog W=.ok (.slice (some ⟨w.heap.size,0,none⟩) (Lib.nDigits u) 24) W:=λW=>by
   rw[run_sliceAt_array_h W 364 ⟨w.heap.size,0,none⟩ (by simp[Program.arrayLen,Program.elem,aod]) .i64 (Lib.nDigits u:Int) (by omega) (by rw[i];omega)]
   go_simp
  have f:=Tryz.holds_zero0 w 364 (Lib.nDigits u) (by omega);have d:=Tryz.internal_strconv_formatBase10 w.heap.size 0 24 u (Array.replicate (Lib.nDigits u) 0) (w.alloc (.cells Lib.zeros24 364)) f (by rw[anZ];exact Lib.lt_pow_nDigits u) c (by rw[anZ];omega);rw[anZ]at d;have o:=Lib.hid f;clear f i
  go_enter Tryz.func144,(show Tryz.f144.ntmps=32 from rfl)
  go_wp2_with (first
   |(go_at_fn 213;refine(Tryz.internal_strconv_numDigits u m c _ (Lib.tabIs_alloc l _)).mono ?_;rintro e n ⟨rfl,rfl⟩))
  go_at_fn 214
  refine d.mono ?_;rintro e n ⟨rfl,k,v',g,rfl,p⟩;have G:(convert 22 9 (.slice (some ⟨w.heap.size,0,none⟩) (Lib.nDigits u) 24)).run Tryz.prog ((putRow (λ(b:UInt8)=>Value.int .u8 (b.toNat:Int)) (w.alloc (.cells Lib.zeros24 364)) w.heap.size 0 g).drewN k)=.ok (.string ⟨(Lib.decDigits u).toArray⟩) ((putRow (λ(b:UInt8)=>Value.int .u8 (b.toNat:Int)) (w.alloc (.cells Lib.zeros24 364)) w.heap.size 0 g).drewN k):=by
   have h:=run_convert_bytes_back (P:=Tryz.prog) ((putRow (λ(b:UInt8)=>Value.int .u8 (b.toNat:Int)) (w.alloc (.cells Lib.zeros24 364)) w.heap.size 0 g).drewN k) 22 9 5 ⟨w.heap.size,0,none⟩ 24 (Lib.decDigits u) aom amD amU (λj q=>by
    rw[Lib.row_is_numeral p j q,Lib.add_plain,World.cell?_drewN];exact cell?_putRow (λ(b:UInt8)=>Value.int .u8 (b.toNat:Int)) _ w.heap.size 0 _ g o.out (by rw[p.size,anZ]) j (by rw[p.size];rw[aoB]at q;exact q))
   rw[aoB]at h;exact h
  go_wp2
  go_ret
  obtain⟨s,F⟩:=Tryz.fin_pos0 w (.cells Lib.zeros24 364) g k;exact⟨rfl,k,s,F⟩
end Go.Proofs
namespace Go.Fw
open Go.RowKit
def fF(u:Int):Option (List UInt8):=match u with
 |.ofNat n=>bif Nat.blt n 18446744073709551616 then some (Lib.decDigits n) else none
 |.negSucc _=>none
def Sz:Ctr:=⟨[.hole (.int .u64),.ilit .i64 10],.hole .str,λ(x:Int)=>fF x⟩
def aey{P:Program}{w:World}{g:Nat}(a:P.globalNamed "internal/strconv.uint64pow10" =some g)(h:SE P w):Lib.TabIs P w "internal/strconv.uint64pow10" .u64 Lib.pow10Tab:=by
 obtain⟨t,f,b⟩:=h.pow g a;unfold Lib.TabIs World.var?;rw[a];simp[b]
def abv{P:Program}{f:FuncId}{g:Nat}(v:fI P f)(z:P.globalNamed "internal/strconv.uint64pow10" =some g)
 (h:∀(u:Nat)(_:u<18446744073709551616)(w:World)(_:Lib.TabIs P w "internal/strconv.uint64pow10" .u64 Lib.pow10Tab),
   Calls P f #[.int .u64 u,.int .i64 10] w λe r=>e=.returned (.string ⟨(Lib.decDigits u).toArray⟩)/\∃k m,r=Sort.grow (w.drewN k) m):cD P f Sz:=by
 refine⟨v,rfl,rfl,?_⟩;intro x y a;have a:fF x=some y:=a;cases x with
 |negSucc n=>cases a
 |ofNat n=>
  unfold fF at a;cases c:Nat.blt n 18446744073709551616 with
  |false=>simp[c]at a
  |true=>
   dsimp only at a;rw[c]at a;cases a;have A:n<18446744073709551616:=by
    have:=alb c;omega
   refine⟨.str (Lib.decDigits n),rfl,λ_ _=>by simp only[SV.can,VR],?_⟩;intro F d C b;cases d;simp only[VRs]at b;obtain⟨B,_,rfl,i,d2,_,rfl,j,rfl⟩:=b;intro G w q t s l;simp only[VR]at i j;subst i j;simp only[af]at l;obtain⟨D,_,rfl,o,E,_,rfl,p,rfl⟩:=l;simp only[Rep]at o p;subst o p;refine(h n A w (aey z s.2)).mono ?_;rintro e r ⟨rfl,k,m,rfl⟩;refine⟨_,G,rfl,iU t (Lib.below_grow _ _ (ak7 _) _ _),?_⟩;simp only[SV.can,Rep]
end Go.Fw
def ala:=@cond_true
namespace Go.Fw
open Go.RowKit
def zy:Nat:=281474976710656
def ju(s:List UInt8):Option (Int⊕Int):=bif Nat.ble s.length zy then match Lib.parseUintB 32 s with
 |.ok u=>some (.inl (Int.ofNat u))
 |.range=>some (.inr 4294967295)
 |_=>some (.inr 0)
 else none
def SA:qU:=⟨[.hole .str,.ilit .i64 10,.ilit .i64 32],[.tup [.hole (.int .u64),.raw .nili],.tup [.hole (.int .u64),.raw .anyi]],λ(x:List UInt8)=>ju x⟩
def aez{P:Program}{f:FuncId}{te:TypeId}{g1 g2:Nat}(t:fI P f)(k:mX P g1=some [.anyi])(l:mX P g2=some [.anyi])
 (ok:∀(s:List UInt8)(u:Nat),s.length<=zy->Lib.parseUintB 32 s=.ok u->∀w:World,Calls P f #[.string ⟨s.toArray⟩,.int .i64 10,.int .i64 32] w λe c=>e=.returned (.tuple #[.int .u64 u,.nilIface])/\Below w.heap.size w c)
 (rg:∀s:List UInt8,s.length<=zy->Lib.parseUintB 32 s=.range->∀(ev:Value)(w:World),w.cell? ⟨g2,0,none⟩=some ev->(ev=.nilIface∨∃te p,ev=.iface te p)->
   Calls P f #[.string ⟨s.toArray⟩,.int .i64 10,.int .i64 32] w λe c=>∃N,e=.returned (.tuple #[.int .u64 (4294967295:Nat),.iface te (.pointer (some ⟨N,0,none⟩))])/\Below w.heap.size w c)
 (x:∀s:List UInt8,s.length<=zy->(∀u,Lib.parseUintB 32 s≠.ok u)->Lib.parseUintB 32 s≠.range->∀(ev:Value)(w:World),w.cell? ⟨g1,0,none⟩=some ev->(ev=.nilIface∨∃te p,ev=.iface te p)->
   Calls P f #[.string ⟨s.toArray⟩,.int .i64 10,.int .i64 32] w λe c=>∃N,e=.returned (.tuple #[.int .u64 (0:Nat),.iface te (.pointer (some ⟨N,0,none⟩))])/\Below w.heap.size w c):xX P f SA:=by
 have tail:∀{s:List UInt8}{v:D},cq P f [.str s,.int .i64 10,.int .i64 32] v->∀q,PV.puts (λ_=>0) SA.ap (eH (PV.tcss SA.ap) (s:List UInt8))=some (q,[])->∀i,VRs [] [] q i->cq P f i v:=by
  intro s v h q o i b;cases o;simp only[VRs]at b;obtain⟨z,_,rfl,d,d2,_,rfl,g,A,_,rfl,r,rfl⟩:=b;simp only[kV,VR]at d g r;subst d g r;exact h
 refine⟨t,rfl,?_⟩;intro s y a;have a:ju s=some y:=a;unfold ju at a;cases j:Nat.ble s.length zy with
 |false=>rw[j]at a;cases a
 |true=>
  rw[j]at a;have m:=alb j;rw[ala]at a;split at a
  ·rename_i u n;cases a;exact⟨0,_,[⟨.int .u64,(Int.ofNat u:Int)⟩],.tup [.int .u64 (Int.ofNat u),.raw .nili],rfl,λ_ _=>rfl,rfl,λ_ _=>by simp only[SV.can,SV.cans,VR,VRs,am2];exact⟨_,rfl,_,_,rfl,rfl,_,_,rfl,rfl,rfl⟩,tail (aex (ok s u m n))⟩
  ·rename_i n;cases a;exact⟨1,_,[⟨.int .u64,(4294967295:Int)⟩],.tup [.int .u64 4294967295,.raw .anyi],rfl,λ_ _=>rfl,rfl,λ_ _=>by simp only[SV.can,SV.cans,VR,VRs,am2];exact⟨_,rfl,_,_,rfl,rfl,_,_,rfl,rfl,rfl⟩,tail (YD l (rg s m n))⟩
  ·rename_i d g;cases a;exact⟨1,_,[⟨.int .u64,(0:Int)⟩],.tup [.int .u64 0,.raw .anyi],rfl,λ_ _=>rfl,rfl,λ_ _=>by simp only[SV.can,SV.cans,VR,VRs,am2];exact⟨_,rfl,_,_,rfl,rfl,_,_,rfl,rfl,rfl⟩,tail (YD k (x s m d g))⟩
end Go.Fw
namespace Go.Fw
open Go.RowKit
def Gh.strs(G:Gh)(n:Nat)(l:List ByteArray):Gh:={G with imm:=λb o=>if b=n then(l[o]?).map Value.string else G.imm b o}
def Nk{G:Gh}{n:Nat}{l:List ByteArray}:∀{xs:List ByteArray}{o:Nat},(∀j x,xs[j]?=some x->l[o+j]?=some x)->Cells (G.strs n l) n o (bH uW (xs.map λb=>b.data.toList))
 |[],_,_=>trivial
 |x::xs,o,h=>by
  rw[alc,show ∀(y:List UInt8) a,bH uW (y::a)=.str y::bH uW a from λy a=>uW.fcons y a];refine⟨⟨.string x,?_,?_⟩,Nk λj y c=> ?_⟩
  ·show(if n=n then _ else _)=_;rw[ali rfl,show l[o]?=some x from h 0 x rfl];rfl
  ·simp only[Rep]
  ·rw[show o+1+j=o+(j+1) from omq];exact h (j+1) y c
def YE{G:Gh}{w:World}{l:List ByteArray}{t:TypeId}(d:me G w):FW G (G.strs w.heap.size l) w (w.alloc (.cells (l.map Value.string).toArray t)) where
 le:=⟨λb o v h=>by
  have:=ed (d.imm b o v h);show(if b=_ then _ else _)=_;rw[alJ (by have a:b<w.heap.size:=this;omega)];exact h,λ_ _ h=>h,λ_ _ _ h=>h,λ_ _ h=>h⟩
 below:=Below.alloc (amh _ _) (ak7 _) _
 blk:=rfl
 imm b o v h:=by
  have a:(if b=w.heap.size then(l[o]?).map Value.string else G.imm b o)=some v:=h;clear h;by_cases e:b=w.heap.size
  ·rw[ali e]at a;rw[e];rw[World.cell?_alloc_new];rw[List.getElem?_toArray,al4];exact a
  ·rw[alJ e]at a;have c:=d.imm b o v a;rw[(Below.alloc (amh w.heap.size w) (ak7 _) _).cell (p:=⟨b,o,none⟩) (ed c)];exact c
 mimm b es hm:=by
  obtain⟨c,g⟩:=d.mimm b es hm;exact⟨((Below.alloc (amh w.heap.size w) (ak7 _) _).block b (bB c)).trans c,g⟩
 siz b n hs:=by
  obtain⟨k,j,f,i,a⟩:=d.siz b n hs;exact⟨k,j,f,((Below.alloc (amh w.heap.size w) (ak7 _) _).block b (bB i)).trans i,a⟩
 imm_new b o h:=alJ omq
 mimm_new _ _:=rfl
def dD(s a:List UInt8):Option (List (List UInt8)):=bif Nat.blt s.length 4294967281&&Nat.blt 0 a.length then some (Lib.split s a) else none
def OT:Ctr:=⟨[.hole .str,.hole .str],.hole (.sl .str),λ(x:List UInt8×List UInt8)=>dD x.1 x.2⟩
def YF{P:Program}{f:FuncId}{g:Nat}{t:TypeId}(E:fI P f)(F:P.globalNamed "internal/bytealg.MaxLen" =some g)
 (h:∀(s a:ByteArray)(m:Int)(w:World),s.size<4294967281->w.cell? ⟨g,0,none⟩=some (.int .i64 m)->1<=a.size->
   Calls P f #[.string s,.string a] w λe B=>e=.returned (.slice (some ⟨w.heap.size,0,none⟩) (Lib.countB s a+1) (Lib.countB s a+1))/\B=w.alloc (.cells ((Lib.splitB a 0 (Lib.countB s a) s).map Value.string).toArray t)):cD P f OT:=by
 refine⟨E,rfl,rfl,?_⟩;rintro⟨s,a⟩ y b;have b:dD s a=some y:=b;unfold dD at b;cases c:(Nat.blt s.length 4294967281&&Nat.blt 0 a.length) with
 |false=>rw[c]at b;cases b
 |true=>
  rw[c]at b;cases b;simp only[akY]at c;have I:s.length<4294967281:=alb c.1;have l:0<a.length:=alb c.2;refine⟨.sl .str (Lib.split s a) false,rfl,λ_ _=>by simp only[SV.can,VR];first|exact⟨_,rfl⟩|exact⟨_,rfl,by simp⟩,?_⟩;intro Q o K i;cases o;simp only[VRs]at i;obtain⟨J,_,rfl,p,d2,_,rfl,q,rfl⟩:=i;simp only[kV,VR]at p q;subst p q;intro G w A D C u;simp only[af]at u;obtain⟨N,_,rfl,v,O,_,rfl,z,rfl⟩:=u;simp only[Rep]at v z;subst v z;obtain⟨m,M,L,n⟩:=C.2.mx g F;have n:w.cell? ⟨g,0,none⟩=some (.int .i64 m):=by unfold World.cell?;simp only[n];rfl
  refine(h ⟨s.toArray⟩ ⟨a.toArray⟩ m w I n l).mono ?_;rintro e B ⟨rfl,rfl⟩;have k:(Lib.splitB ⟨a.toArray⟩ 0 (Lib.countB ⟨s.toArray⟩ ⟨a.toArray⟩) ⟨s.toArray⟩).length=Lib.countB ⟨s.toArray⟩ ⟨a.toArray⟩+1:=Lib.splitB_all ⟨a.toArray⟩ l 0 _ _ rfl;have r:Lib.countB ⟨s.toArray⟩ ⟨a.toArray⟩<=s.length:=Lib.countB_le ⟨a.toArray⟩ l s.length ⟨s.toArray⟩ (ak7 _);have d:(Lib.splitB ⟨a.toArray⟩ 0 (Lib.countB ⟨s.toArray⟩ ⟨a.toArray⟩) ⟨s.toArray⟩).map (·.data.toList)=Lib.split s a:=Lib.splitB_data _ 0 _ _;refine⟨_,_,rfl,YE D,?_⟩;simp only[SV.can,Rep];rw[<-d,alQ,k];refine⟨_,_,rfl,ak7 _,omq,λ_=>rfl,.inl ⟨_,0,rfl,?_⟩⟩;exact Nk λj x H=>by rw[alS];exact H
end Go.Fw
namespace Go.Proofs.Tryz
open Go Go.Fw Go.RowKit
def aeN:fI prog 129:=(eY (f:=129) (fn:=f129) krq).2
def ahi:cD prog 129 Sy:=abt aeN (λa c b w=>Tryz.strings_Join_none a c b w) (λbk o c i b w d e f g h=>Tryz.strings_Join bk o c i b w d e f g h)
def aeO:fI prog 144:=(eY (f:=144) (fn:=f144) krq).2
def aeP:(prog.globalNamed "internal/strconv.uint64pow10").isSome=true:=krq
def ahj:cD prog 144 Sz:=by
 obtain⟨g,a⟩:=amb.1 aeP;exact abv aeO a λu c w b=>Tryz.formatUint u c w b
def aeQ:fI prog 141:=(eY (f:=141) (fn:=f141) krq).2
def abZ:mX prog 1=some [.anyi]:=krq
def aeR:mX prog 2=some [.anyi]:=krq
def akp:xX prog 141 SA:=aez (te:=463) aeQ abZ aeR
 (λs u a b w=>(Tryz.strconv_ParseUint_10_at32_ok ⟨s.toArray⟩ (by have:s.length<=281474976710656:=a;show s.length<=_;omega) u b w).mono λ_ _ ⟨e,j⟩=>⟨e,by
   rcases j with rfl|rfl
   ·exact amh _ _
   ·exact Lib.bytesWorld_below _ _ _⟩)
 (λs a b ev w f d=>(Tryz.strconv_ParseUint_10_at32_range ⟨s.toArray⟩ a b ev w f d).mono λ_ _ ⟨N,e,_,_,c⟩=>⟨N,e,c⟩)
 (λs a h i ev w f d=>by
   have b:∀x,Lib.parseUintB 32 s=x->Calls prog 141 #[.string ⟨s.toArray⟩,.int .i64 10,.int .i64 32] w λe k=>∃N,e=.returned (.tuple #[.int .u64 (0:Nat),.iface 463 (.pointer (some ⟨N,0,none⟩))])/\Below w.heap.size w k:=by
    intro x g;cases x with
    |ok u=>exact absurd g (h u)
    |range=>exact absurd g i
    |_=>exact(Tryz.strconv_ParseUint_10_at32_syntax ⟨s.toArray⟩ a g ev w f d).mono λ_ _ ⟨N,e,_,_,c⟩=>⟨N,e,c⟩
   exact b _ rfl)
def aeS:fI prog 140:=(eY (f:=140) (fn:=f140) krq).2
def ab0:prog.globalNamed "internal/bytealg.MaxLen" =some 3:=krq
def aeT:cD prog 140 OT:=YF aeS ab0 λs a m w d c b=>Tryz.strings_Split s a m w d c b
end Go.Proofs.Tryz
namespace Go.Fw
open Go.RowKit
inductive SoK where
 |pure|mk|ins(k v:D)
structure pO where
 e:Env
 d:D
 k:SoK
def pO.key(r:pO):D:=match r.k with|.ins k _=>k|_=>.junk
def pO.val(r:pO):D:=match r.k with|.ins _ v=>v|_=>.junk
def rO:SoK->Bool
 |.ins _ _=>true
 |_=>false
section
variable {fl:Nat}{P:Program}{N:Nat}{ops:Array Oper}{τ0:Env}{σ0:Sto}{row:Nat→pO}{m0:Nat}
def GA(row:Nat->pO)(a:List Nat):aq:=.map (a.map λi=>(row i).key) (a.map λi=>(row i).val)
def jm(row:Nat->pO)(m0:Nat)(σ0:Sto)(L:Array Bool)(a:List Nat):Sto:=match L.getD m0 false with
 |true=>σ0++[GA row a]
 |false=>σ0
structure T6(P:Program)(N:Nat)(ops:Array Oper)(τ0:Env)(σ0:Sto)(row:Nat->pO)(m0:Nat):Prop where
 ng:pY ops=true
 plan:dR ops (bj ops.toList [])=true
 hm0:m0<ops.size
 mkI:∀i,i<ops.size->((row i).k=.mk↔i=m0)
 dlt:∀(i:Nat) o t,ops[i]?=some o->o.dst=some t->t<N
 dne:∀(i j:Nat) oi oj t,ops[i]?=some oi->ops[j]?=some oj->oi.dst=some t->oj.dst=some t->i=j
 env:∀(i:Nat) o,ops[i]?=some o->∀t v,get (row i).e t=some v->(∃(e:Edge)(oj:Oper),e∈o.after/\Region.binds .any e=true/\ops[e.on]?=some oj/\oj.dst=some t/\(row e.on).d=v)∨(get τ0 t=some v/\∀(j:Nat) oj,ops[j]?=some oj->oj.dst≠some t)
 pur:∀(i:Nat) o,ops[i]?=some o->(row i).k=.pure->AOp P N o (row i).e σ0 (λd s=>d=(row i).d/\s=σ0)/\∀ks vs,AOp P N o (row i).e (σ0++[.map ks vs]) (λd s=>d=(row i).d/\s=σ0++[.map ks vs])
 mkO:∀o,ops[m0]?=some o->AOp P N o (row m0).e σ0 λd s=>d=(row m0).d/\s=σ0++[.map [] []]
 ins:∀(i:Nat) o k v,ops[i]?=some o->(row i).k=.ins k v->(∃e∈o.after,Region.binds .any e=true/\e.on=m0)/\kJ k=true/\∀ks vs,(∀k'∈ks,kJ k'=true/\eX k'≠eX k)->AOp P N o (row i).e (σ0++[.map ks vs]) λd s=>d=(row i).d/\s=σ0++[.map (ks++[k]) (vs++[v])]
 kne:∀(i j:Nat),i<ops.size->j<ops.size->rO (row i).k=true->rO (row j).k=true->eX (row i).key=eX (row j).key->i=j
def acE(h:T6 P N ops τ0 σ0 row m0){Q:AEx->Env->Sto->Prop}
 {τf:Env}(hQ:∀(b:List Nat),b.Nodup->(∀i,i∈b↔(i<ops.size/\rO (row i).k=true))->Q .normal τf (σ0++[GA row b]))
 (k9:∀t d,get τf t=some d->(∃(j:Nat)(c:Oper),ops[j]?=some c/\c.dst=some t/\(row j).d=d)∨(get τ0 t=some d/\∀(j:Nat) c,ops[j]?=some c->c.dst≠some t)):Fh fl P N ops τ0 σ0 Q:=by
 intro B u G0 w0 a0 O m6 m7 U m8;have m5:∀(f:Nat)(L:Array Bool)(a:Act)(w:World),L.size=ops.size->tF ops L->L.toList.count false<=f->
  (∃(G:Gh)(b:List Nat),u.LeB fl G/\Rel B G (jm row m0 σ0 L b) w/\a.tmps.size=N/\a.defers=[]/\
    (∀(j:Nat) c t,ops[j]?=some c->L.getD j false=true->c.dst=some t->Rep G (row j).d (a.tmps.getD t undef))/\
    (∀t d,get τ0 t=some d->(∀(j:Nat) c,ops[j]?=some c->c.dst≠some t)->Rep G d (a.tmps.getD t undef))/\b.Nodup/\(∀i,i∈b↔(L.getD i false=true/\i<ops.size/\rO (row i).k=true)))->
  wpAny P .any ops (jH fl B u N Q) f L a w:=by
  intro f;have e9:∀(L:Array Bool)(a:Act)(w:World),L.size=ops.size->Region.ready .any ops L=[]->
   (∃(G:Gh)(b:List Nat),u.LeB fl G/\Rel B G (jm row m0 σ0 L b) w/\a.tmps.size=N/\a.defers=[]/\
     (∀(j:Nat) c t,ops[j]?=some c->L.getD j false=true->c.dst=some t->Rep G (row j).d (a.tmps.getD t undef))/\
     (∀t d,get τ0 t=some d->(∀(j:Nat) c,ops[j]?=some c->c.dst≠some t)->Rep G d (a.tmps.getD t undef))/\b.Nodup/\(∀i,i∈b↔(L.getD i false=true/\i<ops.size/\rO (row i).k=true)))->
   jH fl B u N Q .normal a w:=by
   rintro L a w Z hr ⟨G,b,k0,K,k2,k3,k4,k5,k6,k7⟩;have H:∀i,i<ops.size->L.getD i false=true:=by
    intro i hi;cases hb:L.getD i false with
    |true=>rfl
    |false=>
     have:L.getD i true=false:=by rw[JJ omq];exact hb
     obtain⟨j,l⟩:=zq h.plan Z i i (ak7 _) this;rw[hr]at l;cases l
   have e1:jm row m0 σ0 L b=σ0++[GA row b]:=by unfold jm;rw[H _ h.hm0]
   rw[e1]at K;refine⟨G,τf,_,k0,K,⟨k2,k3,λt d W=> ?_⟩,hQ b k6 (λi=> ?_)⟩
   ·rcases k9 t d W with⟨j,c,h1,n,rfl⟩|⟨h1,n⟩
    ·exact k4 j c t h1 (H j (alE.1 h1).1) n
    ·exact k5 t d h1 n
   ·rw[k7];exact⟨λx=>x.2,λx=>⟨H i x.1,x⟩⟩
  induction f with
  |zero=>
   intro L a w Z hd hc hJ;have hr:Region.ready .any ops L=[]:=by
    rw[ami];intro i hi;obtain⟨p7,_⟩:=amQ.1 hi;obtain⟨Y,hf⟩:=cA p7;have:=rS (Nat.le_zero.1 hc) i (by simpa using Y);simp[ak6,Y]at hf;simp[Y,hf]at this
   exact⟨hr,e9 L a w Z hr hJ⟩
  |succ f ih=>
   intro L a w Z hd hc hJ;refine⟨λhr=>e9 L a w Z hr hJ,λi hi=> ?_⟩;obtain⟨h1,o,n,h3⟩:=amQ.1 hi;obtain⟨X,A⟩:=cA h1;have C:i<ops.size:=omq;obtain⟨G,b,k0,K,k2,k3,k4,k5,k6,k7⟩:=hJ;have V:de G N (row i).e a:=by
    refine⟨k2,k3,λt v W=> ?_⟩;rcases h.env i o n t v W with⟨e,c,R,S,g3,g4,rfl⟩|⟨R,S⟩
    ·exact k4 e.on c t g3 (h3 e R S) g4
    ·exact k5 t v R S
   have j3:(L.setIfInBounds i true).toList.count false<=f:=by
    have h6:L.toList[i]?=some false:=by
     simp[ak6,X]at A;simp[X,A]
    have:=oE h6;rw[amY];omega
   have q:∀j,(L.setIfInBounds i true).getD j false=true↔(j=i∨L.getD j false=true):=λj=>cR X;have next:∀{I:Gh}{ord':List Nat}{v:Value}{w':World},G.Le I->Rel B I (jm row m0 σ0 (L.setIfInBounds i true) ord') w'->Rep I (row i).d v->ord'.Nodup->(∀j,j∈ord'↔((L.setIfInBounds i true).getD j false=true/\j<ops.size/\rO (row j).k=true))->
    wpAny P .any ops (jH fl B u N Q) f (L.setIfInBounds i true) (a.put o.dst v) w':=by
    intro I ord' v w' g m hv n9 n8;refine ih _ _ _ (by simpa using Z) (hd.step Z hi) j3 ⟨I,ord',k0.trans g.b,m,?_,?_,λj c t l T ht=> ?_,λt d W j7=> ?_,n9,n8⟩
    ·cases z:o.dst<;>simp[Act.put,k2]
    ·cases z:o.dst<;>simp[Act.put,k3]
    ·have o9:t<a.tmps.size:=by rw[k2];exact h.dlt j c t l ht
     rw[R0 o9];by_cases e:o.dst=some t
     ·rw[ali e];have:=h.dne i j o c t n l e ht;subst this;exact hv
     ·rw[alJ e];have r:j≠i:=λe'=>by subst e';rw[n]at l;cases l;exact e ht
      rcases (q j).1 T with rfl|T
      ·exact absurd rfl r
      ·exact Rep.mono g _ _ (k4 j c t l T ht)
    ·rw[H4 (j7 i o n)];exact Rep.mono g _ _ (k5 t d W j7)
   cases E:(row i).k with
   |pure=>
    have j5:i≠m0:=λe=>by have:=(h.mkI i C).2 e;rw[E]at this;cases this
    have o8:∀b,jm row m0 σ0 (L.setIfInBounds i true) b=jm row m0 σ0 L b:=λb=>by unfold jm;rw[amE false j5]
    have j9:∀j,j∈b↔((L.setIfInBounds i true).getD j false=true/\j<ops.size/\rO (row j).k=true):=λj=>by
     rw[k7,q];constructor
     ·exact λx=>⟨.inr x.1,x.2⟩
     ·rintro⟨rfl|x,y⟩
      ·rw[E]at y;cases y.2
      ·exact⟨x,y⟩
    obtain⟨p1,p2⟩:=h.pur i o n E;have o7:AOp P N o (row i).e (jm row m0 σ0 L b) λd s=>d=(row i).d/\s=jm row m0 σ0 L b:=by
     unfold jm;split
     ·exact p2 _ _
     ·exact p1
    refine B4 h.ng n (o7 B G w a K V _ _ ?_);rintro v w' I d s g m hd ⟨rfl,rfl⟩;exact next g (by rw[o8];exact m) hd k6 j9
   |mk=>
    have m9:i=m0:=(h.mkI i C).1 E;subst m9;have j8:∀j,L.getD j false=true->rO (row j).k=true->j<ops.size->False:=by
     intro j l r n5;cases k:(row j).k with
     |ins kk vv=>
      have F:ops[j]?=some ops[j]:=alo n5;obtain⟨⟨e,R,S,g3⟩,_⟩:=h.ins j _ kk vv F k;have:=hd j _ F l e R S;rw[g3,A]at this;cases this
     |pure=>rw[k]at r;cases r
     |mk=>rw[k]at r;cases r
    have j6:b=[]:=by
     rw[ami];intro j l;obtain⟨a1,a2,M⟩:=(k7 j).1 l;exact j8 j a1 M a2
    subst j6;have e1:jm row i σ0 L []=σ0:=by unfold jm;rw[A]
    rw[e1]at K;refine B4 h.ng n (h.mkO o n B G w a K V _ _ ?_);rintro v w' I d s g m z ⟨rfl,rfl⟩;have e2:jm row i σ0 (L.setIfInBounds i true) []=σ0++[.map [] []]:=by unfold jm;rw[(q i).2 (.inl rfl)];rfl
    refine next (ord':=[]) g (by rw[e2];exact m) z .nil λj=> ?_
    rw[q];constructor
    ·intro x;cases x
    ·rintro⟨rfl|x,y1,y2⟩
     ·rw[E]at y2;cases y2
     ·exact(j8 j x y2 y1).elim
   |ins kk vv=>
    obtain⟨⟨e,R,S,g3⟩,g4,g5⟩:=h.ins i o kk vv n E;have j4:L.getD m0 false=true:=by rw[<-g3];exact h3 e R S
    have j5:i≠m0:=λe=>by have:=(h.mkI i C).2 e;rw[E]at this;cases this
    have e1:jm row m0 σ0 L b=σ0++[GA row b]:=by unfold jm;rw[j4]
    rw[e1]at K;have J:(row i).key=kk:=by unfold pO.key;rw[E]
    have k8:(row i).val=vv:=by unfold pO.val;rw[E]
    have D:i ∉ b:=λx=>by have:=((k7 i).1 x).1;rw[A]at this;cases this
    have n7:∀k'∈b.map (λi=>(row i).key),kJ k'=true/\eX k'≠eX kk:=by
     intro k' n6;obtain⟨j,l,rfl⟩:=alW.1 n6;obtain⟨a1,a2,M⟩:=(k7 j).1 l;refine⟨?_,λee=> ?_⟩
     ·cases k:(row j).k with
      |ins k2 v2=>
       have F:ops[j]?=some ops[j]:=alo a2;have:=(h.ins j _ k2 v2 F k).2.1;unfold pO.key;rw[k];exact this
      |pure=>rw[k]at M;cases M
      |mk=>rw[k]at M;cases M
     ·have:=h.kne j i a2 C M (by rw[E];rfl) (by rw[ee,J]);subst this;exact D l
    refine B4 h.ng n (g5 _ _ n7 B G w a K V _ _ ?_);rintro v w' I d s g m z ⟨rfl,rfl⟩;have e2:jm row m0 σ0 (L.setIfInBounds i true) (b++[i])=σ0++[.map (b.map (λi=>(row i).key)++[kk]) (b.map (λi=>(row i).val)++[vv])]:=by
     unfold jm;rw[(q m0).2 (.inr j4)];simp only[GA,al9,alc,amj,J,k8]
    refine next (ord':=b++[i]) g (by rw[e2];exact m) z (List.nodup_append.2 ⟨k6,an9.2 ⟨by simp,.nil⟩,λx hx y hy=>by simp at hy;subst hy;exact λe=>D (e▸hx)⟩) λj=> ?_
    rw[q,alM,k7];constructor
    ·rintro(x|x)
     ·exact⟨.inr x.1,x.2⟩
     ·simp at x;subst x;exact⟨.inl rfl,C,by rw[E];rfl⟩
    ·rintro⟨rfl|x,y⟩
     ·exact .inr siq
     ·exact .inl ⟨x,y⟩
 refine m5 O _ a0 w0 siq (λj c F H=> ?_) (by simp;exact m8) ⟨G0,[],m6,?_,U.size,U.defers,λj c t l H _=> ?_,λt d W _=>U.slot t d W,.nil,λi=> ?_⟩
 all_goals
  have p:∀j,(Array.replicate ops.size false).getD j false=false:=by
   intro j;rcases alf j ops.size with h'|h'
   ·simp[ak6,h']
   ·simp[ak6,h']
 ·rw[p]at H;cases H
 ·unfold jm;rw[p];exact m7
 ·rw[p]at H;cases H
 ·rw[p];simp
end
def U9{G:Gh}{B d:List (D×D)}(h:B.Perm d):∀{l:List MapEntry},F2 G B l->∃g:List MapEntry,g.Perm l/\F2 G d g:=by
 induction h with
 |nil=>exact λh=>⟨_,.refl _,h⟩
 |cons p _ F=>
  intro l h;cases l with
  |nil=>obtain⟨a,_⟩:=h;simp[af]at a
  |cons e l=>
   obtain⟨a,b⟩:=h;simp only[alc,af]at a b;obtain⟨v,r,c,i,k⟩:=a;obtain⟨S,M,w,m,o⟩:=b;cases c;cases w;obtain⟨g,A,f⟩:=F ⟨k,o⟩;exact⟨e::g,A.cons e,by simp only[alc,af];exact⟨_,_,rfl,i,f.1⟩,by simp only[alc,af];exact⟨_,_,rfl,m,f.2⟩⟩
 |swap p q B=>
  intro l h;obtain⟨a,b⟩:=h
  match l,a,b with
  |[],a,_=>simp[af]at a
  |[_],a,_=>
   simp only[alc,amj,af]at a;obtain⟨_,_,E,_,_,_,c,_⟩:=a;cases E;cases c
  |e::C::l,a,b=>
   simp only[alc,af]at a b;obtain⟨v,r,c,i,R,L,t,j,k⟩:=a;obtain⟨u,s,w,m,Q,O,x,n,o⟩:=b;cases c;cases t;cases w;cases x;refine⟨C::e::l,.swap _ _ _,?_,?_⟩
   ·simp only[alc,af];exact⟨_,_,rfl,j,_,_,rfl,i,k⟩
   ·simp only[alc,af];exact⟨_,_,rfl,n,_,_,rfl,m,o⟩
 |trans _ _ y z=>
  intro l h;obtain⟨K,A,f⟩:=y h;obtain⟨H,I,J⟩:=z f;exact⟨H,I.trans A,J⟩
def T7{G:Gh}{ks vs a c:List D}{v:Value}(h:Rep G (.cmap ks vs) v)(o:a.length=c.length)(l:(ks.zip vs).Perm (a.zip c)):Rep G (.pmap a c) v:=by
 simp only[Rep]at h⊢;obtain⟨b,e,rfl,k,f,g⟩:=h;have i:ks.length=vs.length:=by rw[f.length,g.length];simp
 have d:F2 G (ks.zip vs) e.toList:=⟨by rw[aos omq];exact f,by rw[aot omq];exact g⟩;obtain⟨n,m,j⟩:=U9 l d;refine⟨b,e,n,rfl,k,m,?_,?_⟩
 ·have:=j.1;rw[aos omq]at this;exact this
 ·have:=j.2;rw[aot omq]at this;exact this
end Go.Fw
namespace Go.Fw
open Go.RowKit
noncomputable def I3(cx:Cx)(n fid N i lr:Nat):List Code->ax->ae->Option (ax×ae)
 |[],a,S=>some (a,S)
 |c::f,a,S=>xm cx n fid N i lr c a S λe b d=>match e with
  |.normal=>I3 cx n fid N i lr f b d
  |_=>none
def Qb{cx:Cx}(f:kU cx)(p:∀e∈cx.L,LOk cx.P e){n fid i lr:Nat}{fn:Func}{body d:Code}{Q:AEx->Env->Sto->Prop}{r:ax×ae}(s:cx.P.funcs[fid]?=some fn)(q:fn.body=some body)
 :∀(cs:List Code)(τ:ax)(S:ae)(τ':Env)(σ:Sto),(∀c∈cs,Mj c body)->I3 cx n fid fn.ntmps i lr cs τ S=some r->ER S σ τ τ'->StR S σ->
  (∀b a,ER r.2 a r.1 b->StR r.2 a->mz i S σ r.2 a->AWp i cx.P fn.ntmps d b a Q)->AWp i cx.P fn.ntmps (cs.foldr .seq d) τ' σ Q
 |[],τ,S,τ',σ,_,h,hE,hS,j=>by
  simp only[I3,ak1]at h;subst h;exact j τ' σ hE hS (.refl _ _ _)
 |c::cs,τ,S,τ',σ,hsub,h,hE,hS,j=>by
  simp only[I3]at h;refine cV (((BA f p n) _ fid i lr c τ S _ r fn body s q (hsub c (alG ..)) h τ' σ hE hS).1.mono ?_);rintro e b a ⟨o,t,x,y,A,g⟩;cases e with
  |normal=>exact Qb f p s q cs o t b a (λc z=>hsub c (alj _ z)) g x y λm k u v w=>j m k u v (A.trans w)
  |exit id=>cases g
  |goto l=>cases g
  |ret=>cases g
def pI:Code->Code
 |.seq a _=>a
 |c=>c
def iA:Code->Code
 |.seq _ b=>b
 |c=>c
def ahc(P:Program)(f:FuncId):Code:=((P.funcs[f]?).bind (·.body)).getD .skip
def NE:Code->Array Oper
 |.region _ ops _=>ops
 |_=> #[]
def Vs:∀{τ:Env}{t:Nat}{d:D},get τ t=some d->(t,d)∈τ
 |[],_,_,h=>by simp[get]at h
 |(i,x)::r,t,d,h=>by
  simp only[get]at h;split at h
  ·rename_i e;subst e;cases h;exact alG ..
  ·exact alj _ (Vs h)
def Za(ops:Array Oper):List Nat:=ops.toList.filterMap (·.dst)
def Xa(ops:Array Oper)(τ0:Env)(a:Nat->pO)(o:Oper):Env->Bool
 |[]=>true
 |(t,v)::r=>((o.after.toList.any λe=>Region.binds .any e&&match ops[e.on]? with
    |some b=>(match b.dst with|some c=>Nat.beq c t|none=>false)&&D.beq (a e.on).d v
    |none=>false)||(match get τ0 t with|some d=>D.beq d v|none=>false)&& !(C5 t (Za ops)))&&Xa ops τ0 a o r
variable{Z:Nat->pO}
def Vt{ops:Array Oper}{τ0:Env}{o:Oper}:∀{e:Env},Xa ops τ0 Z o e=true->∀t v,(t,v)∈e->(∃(e:Edge)(a:Oper),e∈o.after/\Region.binds .any e=true/\ops[e.on]?=some a/\a.dst=some t/\(Z e.on).d=v)∨(get τ0 t=some v/\∀(j:Nat) a,ops[j]?=some a->a.dst≠some t)
 |[],_,_,_,h=>by simp at h
 |(q,s)::r,g,t,v,h=>by
  simp only[Xa,akY]at g;rcases alr.1 h with e|h
  ·cases e;simp only[amI,aoq,akY]at g;rcases g.1 with⟨e,c,f,b⟩|⟨c,f⟩
   ·split at b<;>try (cases b;done)
    rename_i a n;simp only[akY]at b;obtain⟨b,l⟩:=b;split at b<;>try (cases b;done)
    rename_i p i;have:=B3 b;subst this;exact .inl ⟨e,a,by simpa using c,f,n,i,D.beq_eq _ _ l⟩
   ·split at c<;>try (cases c;done)
    rename_i d k;rw[D.beq_eq _ _ c]at k;refine .inr ⟨k,λj a m i=> ?_⟩;have:C5 _ (Za ops)=true:=Lz.2 (List.mem_filterMap.2 ⟨a,alz (by rw[alK];exact m),i⟩);rw[this]at f;cases f
  ·exact Vt g.2 t v h
def abS(n:Nat)(f:Nat->Bool):Bool:=(List.range n).all f
def zZ{n:Nat}{f:Nat->Bool}(h:abS n f=true){i:Nat}(a:i<n):f i=true:=alv.1 h i (anD.2 a)
def Xb(N:Nat)(ops:Array Oper)(τ0:Env)(a:Nat->pO)(m0:Nat):Bool:=
 pY ops&&(dR ops (bj ops.toList [])&&(Nat.blt m0 ops.size&&(abS ops.size λi=>(match (a i).k with|.mk=>Nat.beq i m0|_=> !(Nat.beq i m0))&&(match ops[i]? with
  |some o=>(match o.dst with|some t=>Nat.blt t N|none=>true)&&(Xa ops τ0 a o (a i).e&&(match (a i).k with
   |.ins k _=>(o.after.toList.any λe=>Region.binds .any e&&Nat.beq e.on m0)&&kJ k
   |_=>true)&&(abS ops.size λj=>match ops[j]? with
    |some b=>(Nat.beq i j||(match o.dst,b.dst with|some t,some t'=> !(Nat.beq t t')|_,_=>true))&&(Nat.beq i j||(!(rO (a i).k&&rO (a j).k)|| !(decide (eX (a i).key=eX (a j).key))))
    |none=>false))
  |none=>false))))
def aeG{P:Program}{N:Nat}{ops:Array Oper}{τ0:Env}{a:Sto}{m0:Nat}(w:Xb N ops τ0 Z m0=true)
 (l:∀(i:Nat) o,ops[i]?=some o->match (Z i).k with
   |.pure=>AOp P N o (Z i).e a (λd s=>d=(Z i).d/\s=a)/\∀m q,AOp P N o (Z i).e (a++[.map m q]) (λd s=>d=(Z i).d/\s=a++[.map m q])
   |.mk=>AOp P N o (Z i).e a λd s=>d=(Z i).d/\s=a++[.map [] []]
   |.ins k v=>∀m q,(∀z∈m,kJ z=true/\eX z≠eX k)->AOp P N o (Z i).e (a++[.map m q]) λd s=>d=(Z i).d/\s=a++[.map (m++[k]) (q++[v])]):T6 P N ops τ0 a Z m0:=by
 unfold Xb at w;simp only[akY]at w;obtain⟨E,F,G,r⟩:=w;have f:∀(i:Nat) o,ops[i]?=some o->i<ops.size:=λi o h=>(alE.1 h).1;have u:∀(i:Nat) o,ops[i]?=some o->_:=λi o b=>zZ r (f i o b);refine⟨E,F,alb G,λi g=> ?_,λi o t b x=> ?_,λi j L M t g p x y=> ?_,λi o b t v H=> ?_,λi o b c=> ?_,λo b=> ?_,λi o k v b c=> ?_,λi j g p I J K=> ?_⟩
 ·have:=(zZ r g);simp only[akY]at this;have:=this.1;constructor
  ·intro c;rw[c]at this;exact B3 this
  ·intro e;subst e;cases c:(Z i).k<;>rw[c]at this<;>simp at this⊢
 ·have:=u i o b;simp only[akY]at this;have:=this.2;rw[b]at this;simp only[akY]at this;have:=this.1;rw[x]at this;exact alb this
 ·have:=u i L g;simp only[akY]at this;have:=this.2;rw[g]at this;simp only[akY]at this;have:=zZ this.2.2 (f j M p);rw[p]at this;simp only[akY,amI]at this;rcases this.1 with e|e
  ·exact B3 e
  ·rw[x,y]at e;simp at e
 ·have:=u i o b;simp only[akY]at this;have:=this.2;rw[b]at this;simp only[akY]at this;exact Vt this.2.1.1 t v (Vs H)
 ·have:=l i o b;rw[c]at this;exact this
 ·have:=l m0 o b;have c:(Z m0).k=.mk:=by
   have n:=zZ r (f m0 o b);simp only[akY]at n;have n:=n.1;cases c:(Z m0).k<;>rw[c]at n<;>simp at n⊢
  rw[c]at this;exact this
 ·have l:=l i o b;rw[c]at l;have:=u i o b;simp only[akY]at this;have:=this.2;rw[b]at this;simp only[akY]at this;have:=this.2.1.2;rw[c]at this;simp only[akY,aoq]at this;obtain⟨⟨e,A,B,C⟩,D⟩:=this;exact⟨⟨e,by simpa using A,B,B3 C⟩,D,l⟩
 ·have:=zZ r g;simp only[akY]at this;have:=this.2;rw[alo g]at this;simp only[akY]at this;have:=zZ this.2.2 p;rw[alo p]at this;simp only[akY,amI]at this;rcases this.2 with e|e|e
  ·exact B3 e
  ·rw[I,J]at e;cases e
  ·simp[K]at e
end Go.Fw
namespace Go.Proofs.Tryz
open Go Go.Fw Go.RowKit
noncomputable def hFm:Tr OH:=.node (.node .nil 24117253 .frz .nil) 24903685 .frz .nil
noncomputable def adE:Ctr:=⟨[.hole (.int .i32),.hole (.int .i32)],.func (.func 390) [] [.rc [.hole (.int .i32)] 0,.rc [.hole (.int .i32)] 0],λ(x:Int×Int)=>some (x.1,x.2)⟩
def Th:prog.follows .mixedOrders=true:=krq
def adF:cD prog 380 adE:=BC (cx:=⟨prog,T,.nil,hFm,[],[],[],[],.nil⟩) tok Th trivial trivial trivial trivial 380 _ krq krq (by intro x;kernel_rfl)
def btw(a b:Int):D:=.func (.func 390) [] [.rptr [.int .i32 a] 0,.rptr [.int .i32 b] 0]
def ahd(a b:Int):cq prog 380 [.int .i32 a,.int .i32 b] (btw a b):=by
 obtain⟨_,_,_,h⟩:=adF;obtain⟨v,c,_,d⟩:=h (a,b) (a,b) rfl;have e:v=.func (.func 390) [] [.rc [.int .i32 a] 0,.rc [.int .i32 b] 0]:=by
  have c:some ((SV.func (.func 390) [] [.rc [.int .i32 a] 0,.rc [.int .i32 b] 0],([]:List DV)))=some (v,[]):=c;cases c;rfl
 subst e;exact d [.int .i32 a,.int .i32 b] rfl _ (by simp only[VRs,VR];exact⟨_,_,rfl,rfl,_,_,rfl,rfl,rfl⟩)
noncomputable def abT:Cx:=⟨prog,T,.nil,hFm,[(380,adE)],[],[],[],.nil⟩
def aeH:kU abT:=⟨tok,Th,λf c h=>(by
 rcases alr.1 h with e|h
 ·cases e;exact adF
 ·cases h),λf c h=>(by cases h),λf c h=>(by cases h)⟩
noncomputable def lX:Code:=ahc prog 368
noncomputable def r4:Code:=pI (iA (iA (iA (iA lX))))
noncomputable def Dp:Array Oper:=NE r4
def dB:D:=btw 32 126
def q3:D:=.func (.func 381) [] [.rptr [dB] 0]
def q1:D:=.func (.func 378) [] []
def vd:D:=.func (.func 382) [] []
def fm(f:D)(n:Int):D:=.agg [f,.int .i64 n]
def Xc:Env:=[(1,q1),(2,.ptr 0 0 0),(3,q3)]
def aiM:List pO:=[⟨[],.map 1,.mk⟩,⟨[],fm vd 0,.pure⟩,⟨[(6,.map 1),(7,fm vd 0)],.junk,.ins (.int .i64 12) (fm vd 0)⟩,
 ⟨[(1,q1)],q1,.pure⟩,⟨[(8,q1)],fm q1 1,.pure⟩,⟨[(6,.map 1),(9,fm q1 1)],.junk,.ins (.int .i64 19) (fm q1 1)⟩,
 ⟨[(3,q3)],q3,.pure⟩,⟨[(10,q3)],fm q3 1,.pure⟩,⟨[(6,.map 1),(11,fm q3 1)],.junk,.ins (.int .i64 20) (fm q3 1)⟩,
 ⟨[],btw 0 127,.pure⟩,⟨[(12,btw 0 127)],fm (btw 0 127) 1,.pure⟩,⟨[(6,.map 1),(13,fm (btw 0 127) 1)],.junk,.ins (.int .i64 22) (fm (btw 0 127) 1)⟩,
 ⟨[(2,.ptr 0 0 0)],dB,.pure⟩,⟨[(14,dB)],fm dB 1,.pure⟩,⟨[(6,.map 1),(15,fm dB 1)],.junk,.ins (.int .i64 26) (fm dB 1)⟩,
 ⟨[],fm vd 4,.pure⟩,⟨[(6,.map 1),(16,fm vd 4)],.junk,.ins (.int .i64 28) (fm vd 4)⟩,
 ⟨[],fm (.func (.func 383) [] []) 2,.pure⟩,⟨[(6,.map 1),(17,fm (.func (.func 383) [] []) 2)],.junk,.ins (.int .i64 30) (fm (.func (.func 383) [] []) 2)⟩,
 ⟨[(6,.map 1)],.map 1,.pure⟩,⟨[(18,.map 1)],.map 1,.pure⟩]
def jw(i:Nat):pO:=aiM.getD i ⟨[],.junk,.pure⟩
def lF:List D:=[.int .i64 12,.int .i64 19,.int .i64 20,.int .i64 22,.int .i64 26,.int .i64 28,.int .i64 30]
def lG:List D:=[fm vd 0,fm q1 1,fm q3 1,fm (btw 0 127) 1,fm dB 1,fm vd 4,fm (.func (.func 383) [] []) 2]
def ahe:Xb 19 Dp Xc jw 0=true:=krq
def adG:Dp.size=21:=krq
def NF{k:D}(b:kJ k=true):∀(ks:List D)(i:Nat),(∀c∈ks,kJ c=true/\eX c≠eX k)->iE .i k ks i=some none
 |[],_,_=>rfl
 |c::ks,i,h=>by
  obtain⟨f,d⟩:=h c (alG ..);cases k<;>try (cases b;done)
  rename_i a n;cases a<;>try (cases b;done)
  cases c<;>try (cases f;done)
  rename_i a m;cases a<;>try (cases f;done)
  have d:n≠m:=λe=>d e.symm;simp only[iE,ig,al1,alu.2 d];exact NF b ks (i+1) λk b=>h k (alj _ b)
def wT{N:Nat}{o:Oper}{e:Env}{a:Sto}{ks vs:List D}{k v:D}{t:TypeId}{m x y:Operand}{z:D}(j:o.op=.insert t m x y)(l:lk T.map t=some (.i,z))(i:ev e m=some (.map a.length))(n:ev e x=some k)(p:ev e y=some v)
 (c:kJ k=true)(b:∀f∈ks,kJ f=true/\eX f≠eX k):AOp prog N o e (a++[.map ks vs]) λd s=>d=.junk/\s=a++[.map (ks++[k]) (vs++[v])]:=by
 refine aO tok ?_;rw[j];have g:k.isCell=true:=by cases k<;>first|rfl|cases c
 simp only[aop,Ol,l,i,n,p,SQ];have:(a++[aq.map ks vs])[a.length]?=some (.map ks vs):=by simp
 rw[this];simp only[NF c ks 0 b,ali g,amA];congr 2;refine amv λx=> ?_;rw[anh];by_cases e:a.length=x
 ·subst e;simp
 ·rw[alJ e];rcases alf x a.length with h|h
  ·rw[ak8 h,ak8 h]
  ·rw[alg soq,alg soq]
end Go.Proofs.Tryz
namespace Go.Proofs.Tryz
open Go Go.Fw Go.RowKit
set_option maxRecDepth 100000
noncomputable def oAt(i:Nat):Oper:=(Dp[i]?).getD default
def ahf{i:Nat}{o:Oper}(h:Dp[i]?=some o):o=oAt i:=by unfold oAt;rw[h];rfl
def adH(σ:Sto):AOp prog 19 (oAt 9) (jw 9).e σ λd s=>d=(jw 9).d/\s=σ:=by
 obtain⟨b,a⟩:=amb.1 (by kernel_rfl:(okF prog 380).isSome=true);exact pK tok (c:=⟨.value (.func 380),#[.const (.int .i32 0),.const (.int .i32 127)],#[21,21]⟩) (f:=380) (ds:=[.int .i32 0,.int .i32 127]) krq krq (qW.weak (bp.refl _)) (eY a).2 ((ahd 0 127).acall σ)
def aeI(fr:Nat):∀(i:Nat) o,Dp[i]?=some o->match (jw i).k with
 |.pure=>AOp prog 19 o (jw i).e [.cells [dB] fr 0] (λd s=>d=(jw i).d/\s=[.cells [dB] fr 0])/\∀b c,AOp prog 19 o (jw i).e ([.cells [dB] fr 0]++[.map b c]) (λd s=>d=(jw i).d/\s=[.cells [dB] fr 0]++[.map b c])
 |.mk=>AOp prog 19 o (jw i).e [.cells [dB] fr 0] λd s=>d=(jw i).d/\s=[.cells [dB] fr 0]++[.map [] []]
 |.ins k v=>∀b c,(∀g∈b,kJ g=true/\eX g≠eX k)->AOp prog 19 o (jw i).e ([.cells [dB] fr 0]++[.map b c]) λd s=>d=(jw i).d/\s=[.cells [dB] fr 0]++[.map (b++[k]) (c++[v])]:=by
 intro i o f;have h:i<21:=by rw[<-adG];exact(alE.1 f).1
 have e:=ahf f;subst e;clear f;have:i=0∨i=1∨i=2∨i=3∨i=4∨i=5∨i=6∨i=7∨i=8∨i=9∨i=10∨i=11∨i=12∨i=13∨i=14∨i=15∨i=16∨i=17∨i=18∨i=19∨i=20:=omq;rcases this with rfl|rfl|rfl|rfl|rfl|rfl|rfl|rfl|rfl|rfl|rfl|rfl|rfl|rfl|rfl|rfl|rfl|rfl|rfl|rfl|rfl
 ·exact aO tok krq
 ·exact⟨aO tok krq,λb c=>aO tok krq⟩
 ·exact λb c a=>wT (N:=19) (t:=537) (m:=.tmp 6) (x:=.const (.int .i64 12)) (y:=.tmp 7) (z:=fm .nilf 0) krq krq rfl rfl rfl rfl a
 ·exact⟨aO tok krq,λb c=>aO tok krq⟩
 ·exact⟨aO tok krq,λb c=>aO tok krq⟩
 ·exact λb c a=>wT (N:=19) (t:=537) (m:=.tmp 6) (x:=.const (.int .i64 19)) (y:=.tmp 9) (z:=fm .nilf 0) krq krq rfl rfl rfl rfl a
 ·exact⟨aO tok krq,λb c=>aO tok krq⟩
 ·exact⟨aO tok krq,λb c=>aO tok krq⟩
 ·exact λb c a=>wT (N:=19) (t:=537) (m:=.tmp 6) (x:=.const (.int .i64 20)) (y:=.tmp 11) (z:=fm .nilf 0) krq krq rfl rfl rfl rfl a
 ·exact⟨adH _,λb c=>adH _⟩
 ·exact⟨aO tok krq,λb c=>aO tok krq⟩
 ·exact λb c a=>wT (N:=19) (t:=537) (m:=.tmp 6) (x:=.const (.int .i64 22)) (y:=.tmp 13) (z:=fm .nilf 0) krq krq rfl rfl rfl rfl a
 ·exact⟨aO tok krq,λb c=>aO tok krq⟩
 ·exact⟨aO tok krq,λb c=>aO tok krq⟩
 ·exact λb c a=>wT (N:=19) (t:=537) (m:=.tmp 6) (x:=.const (.int .i64 26)) (y:=.tmp 15) (z:=fm .nilf 0) krq krq rfl rfl rfl rfl a
 ·exact⟨aO tok krq,λb c=>aO tok krq⟩
 ·exact λb c a=>wT (N:=19) (t:=537) (m:=.tmp 6) (x:=.const (.int .i64 28)) (y:=.tmp 16) (z:=fm .nilf 0) krq krq rfl rfl rfl rfl a
 ·exact⟨aO tok krq,λb c=>aO tok krq⟩
 ·exact λb c a=>wT (N:=19) (t:=537) (m:=.tmp 6) (x:=.const (.int .i64 30)) (y:=.tmp 17) (z:=fm .nilf 0) krq krq rfl rfl rfl rfl a
 ·exact⟨aO tok krq,λb c=>aO tok krq⟩
 ·exact⟨aO tok krq,λb c=>aO tok krq⟩
def aiN(fr:Nat):T6 prog 19 Dp Xc [.cells [dB] fr 0] jw 0:=aeG ahe (aeI fr)
def aiO{a:List Nat}(c:a.Nodup)(d:∀i,i∈a↔(i<Dp.size/\rO (jw i).k=true)):((a.map λi=>(jw i).key).zip (a.map λi=>(jw i).val)).Perm (lF.zip lG):=by
 have g:a.Perm [2,5,8,11,14,16,18]:=by
  refine(List.perm_ext_iff_of_nodup c deq).2 λi=> ?_;rw[d,adG];constructor
  ·rintro⟨b,f⟩;have:i=0∨i=1∨i=2∨i=3∨i=4∨i=5∨i=6∨i=7∨i=8∨i=9∨i=10∨i=11∨i=12∨i=13∨i=14∨i=15∨i=16∨i=17∨i=18∨i=19∨i=20:=omq;rcases this with rfl|rfl|rfl|rfl|rfl|rfl|rfl|rfl|rfl|rfl|rfl|rfl|rfl|rfl|rfl|rfl|rfl|rfl|rfl|rfl|rfl<;>first|(cases f;done)|simp
  ·intro b;simp at b;rcases b with rfl|rfl|rfl|rfl|rfl|rfl|rfl<;>exact⟨omq,rfl⟩
 have e:∀l:List Nat,(l.map λi=>(jw i).key).zip (l.map λi=>(jw i).val)=l.map λi=>((jw i).key,(jw i).val):=λl=>by
  induction l with
  |nil=>rfl
  |cons x l h=>simp[h]
 rw[e];exact g.map _
def aiP:lX=[pI lX,pI (iA lX),pI (iA (iA lX)),pI (iA (iA (iA lX)))].foldr .seq (.seq r4 .ret):=krq
def aiQ:r4=.region 4 Dp true:=krq
def st4:ax×ae:=([(3,.func (.func 381) [] [.rc [.func (.func 390) [] [.rc [.int .i32 32] 0,.rc [.int .i32 126] 0]] 0]),(5,.func (.func 381) [] [.rc [.func (.func 390) [] [.rc [.int .i32 32] 0,.rc [.int .i32 126] 0]] 0]),(2,.raw (.ptr 0 0 0)),(4,.func (.func 390) [] [.rc [.int .i32 32] 0,.rc [.int .i32 126] 0]),(1,.func (.func 378) [] []),(0,.raw .nilmap)],[.cells [.func (.func 390) [] [.rc [.int .i32 32] 0,.rc [.int .i32 126] 0]] true])
def ako:I3 abT 100 368 19 0 65535 [pI lX,pI (iA lX),pI (iA (iA lX)),pI (iA (iA (iA lX)))] [] []=some st4:=krq
end Go.Proofs.Tryz
namespace Go.Proofs.Tryz
open Go Go.Fw Go.RowKit
set_option maxRecDepth 100000
def Zb{S:ae}{σ:Sto}{a b:Int}{d:D}(h:VR S σ (.func (.func 390) [] [.rc [.int .i32 a] 0,.rc [.int .i32 b] 0]) d):d=btw a b:=by
 simp only[VR,VRs]at h;obtain⟨i,j,rfl,rfl,e,m,rfl,⟨k,rfl,x,o,rfl,rfl,rfl⟩,l,f,rfl,⟨c,rfl,n,g,rfl,rfl,rfl⟩,rfl⟩:=h;rfl
def adI:Dp[20]?=some (oAt 20)/\(oAt 20).dst=some 0:=⟨krq,krq⟩
def Ma:cq prog 368 [] (.pmap lF lG):=by
 obtain⟨fn,j⟩:=amb.1 (by kernel_rfl:(okF prog 368).isSome=true);obtain⟨K,_⟩:=eY j;have L:fn.ntmps=19:=by
  have:((okF prog 368).map (·.ntmps))=some 19:=krq;rw[j]at this;simpa using this
 have q:fn.body=some lX:=by
  have:((okF prog 368).bind (·.body))=some lX:=krq;rw[j]at this;simpa using this
 have hr:fn.results.toList=[.tmp 0]:=by
  have:((okF prog 368).map λf=>f.results.toList)=some [.tmp 0]:=krq;rw[j]at this;simpa using this
 refine HA (i:=0) rfl krq (tn (R:=λd' _=>d'=.pmap lF lG) tok K q siq ?_);rw[aiP];refine Qb (cx:=abT) (n:=100) (fid:=368) (lr:=65535) (fn:=fn) (body:=lX) (r:=st4) aeH (λe h=>by cases h) K q _ [] [] (env0 0 []) [] (λc N=> ?_) (by rw[L];exact ako) (λt v E=>by cases E) ⟨rfl,λl o p=>by simp at p⟩ ?_
 ·have:∀k:Nat,cI k c=[]:=by
   simp only[alr,ant,or_false]at N;have r0:pI lX=.region 0 (NE (pI lX)) false:=krq;have J:pI (iA lX)=.region 1 (NE (pI (iA lX))) false:=krq;have r2:pI (iA (iA lX))=.region 2 (NE (pI (iA (iA lX)))) false:=krq;have r3:pI (iA (iA (iA lX)))=.region 3 (NE (pI (iA (iA (iA lX))))) false:=krq;intro k;rcases N with rfl|rfl|rfl|rfl
   ·rw[r0];rfl
   ·rw[J];rfl
   ·rw[r2];rfl
   ·rw[r3];rfl
  intro k b q;rw[this]at q;cases q
 intro j3 u C M _;obtain⟨X,h1,O⟩:=C 1 (.func (.func 378) [] []) rfl;obtain⟨Y,h2,v2⟩:=C 2 (.raw (.ptr 0 0 0)) rfl;obtain⟨Z,h3,P⟩:=C 3 (.func (.func 381) [] [.rc [.func (.func 390) [] [.rc [.int .i32 32] 0,.rc [.int .i32 126] 0]] 0]) rfl;have e1:X=q1:=by
  simp only[VR,VRs]at O;obtain⟨_,_,rfl,rfl,rfl⟩:=O;rfl
 have e2:Y=.ptr 0 0 0:=by simpa only[VR] using v2
 have e3:Z=q3:=by
  rw[VR]at P;obtain⟨da,db,rfl,A,s⟩:=P;rw[VRs]at A;subst A;rw[VRs]at s;obtain⟨e,es,rfl,Q,S⟩:=s;rw[VRs]at S;subst S;rw[VR]at Q;obtain⟨ds,rfl,T⟩:=Q;rw[VRs]at T;obtain⟨e',e9,rfl,w6,U⟩:=T;rw[VRs]at U;subst U;rw[Zb w6];rfl
 subst e1 e2 e3;obtain⟨ob,m,x⟩:=M.obj 0 _ rfl;obtain⟨ds,z,rfl,_,w⟩:=x;rw[VRs]at w;obtain⟨e,es,rfl,A,s⟩:=w;rw[VRs]at s;subst s;have:=Zb A;subst this;have F:u=[.cells [dB] z 0]:=by
  have p:=M.len
  match u,p,m with
  |[y],_,m=>simp at m;rw[m];rfl
  |[],p,_=>cases p
  |_::_::_,p,_=>simp[st4]at p
 subst F;refine cV (AWp.mono ?_ (λe τ σ (x:e=.normal/\∃a:List Nat,a.Nodup/\(∀i,i∈a↔(i<Dp.size/\rO (jw i).k=true))/\τ=[(0,D.map 1)]/\σ=[.cells [dB] z 0]++[GA jw a])=> ?_))
 ·rw[aiQ,L];refine AWp.sub (τ':=Xc) ((acE (aiN z) (τf:=[(0,D.map 1)]) (λa H I=>⟨rfl,a,H,I,rfl,rfl⟩) (λt d g=> ?_)).awp Th) λt d g=> ?_
  ·simp only[Fw.get]at g;split at g
   ·rename_i e;subst e;cases g;exact .inl ⟨20,_,adI.1,adI.2,rfl⟩
   ·cases g
  ·simp only[Xc,Fw.get]at g;split at g
   ·rename_i e;subst e;cases g;exact h1
   ·split at g
    ·rename_i e;subst e;cases g;exact h2
    ·split at g
     ·rename_i e;subst e;cases g;exact h3
     ·cases g
 ·obtain⟨rfl,a,H,I,rfl,rfl⟩:=x;refine nT ⟨.inr rfl,.map 1,by rw[hr];rfl,.pmap lF lG,([aq.cells [dB] z 0]++[GA jw a]).set 1 .gone,rfl,λB G w v hR E=> ?_⟩;obtain⟨V,l1,W,J⟩:=H9 (l:=1) (ks:=a.map λi=>(jw i).key) (vs:=a.map λi=>(jw i).val) hR rfl E;exact⟨V,l1,W,T7 J rfl (aiO H I)⟩
end Go.Proofs.Tryz
def ak0:=@decide_eq_false
def ak3:=@decide_eq_true
def amH:=@Go.run_next_ascii
def amV:=@Go.rounds_succ
namespace Go.Proofs
open Go.Shelf Go.RowKit Go.Sort Go.Lib
def wS{x:UInt8}(d:128<=x.toNat){l:List UInt8}(h:(l.all λb=>decide (b.toNat<128))=true):Lib.indexByte l x= -1:=by
 induction l with
 |nil=>rfl
 |cons b l c=>
  simp only[List.all_cons,Bool.and_eq_true,decide_eq_true_eq]at h;have a:(b==x)=false:=by
   rw[beq_eq_false_iff_ne];intro e;subst e;omega
  unfold Lib.indexByte;rw[a,c h.2];rfl
def bZ:ByteArray:=⟨#[32,39,40,41,43,44,45,46,47,58,61,63]⟩
set_option maxHeartbeats 6400000 in
set_option maxRecDepth 100000 in
def Tryz.indexRune_bad(r:Int)(g: -2147483648<=r)(f:r<=2147483647)(h:r<0∨128<=r)(i:r≠65533)(j:Lib.validRune r=false)(w:World):
 Calls Tryz.prog 389 #[.string bZ,.int .i32 r] w λe c=>e=.returned (.int .i64 (-1))/\c=w:=by
 have mixed:Tryz.prog.follows .mixedOrders=true:=by kernel_rfl
 have t:=am9;have o:=anW;have C:=anL;have y:=anl;have x:=amU;have s:=anX;have F:=anM;have B:=anm;have u:=ana;have p:=anY;have D:=anN;have z:=ann;have l:=anz;have d:=aok;have n:=an6;have m:=anF;have v:=amD;have q:=anA;have E:=ans;have A:=amS;have b:∀a w,(callFunc 382 a).run Tryz.prog w=.ok (.enter 382 a) w:=enters_of Tryz.func382 (by kernel_rfl) rfl
 go_enter Tryz.func389,(show Tryz.f389.ntmps=187 from rfl)
 go_wp2_with (go_at_fn 382;refine(Tryz.utf8_ValidRune r _).mono ?_;rintro e c ⟨rfl,k⟩;rw[k,j])
 all_goals go_ret
 all_goals exact⟨rfl,rfl⟩
set_option maxHeartbeats 6400000 in
set_option maxRecDepth 100000 in
def Tryz.indexRune_high(r:Int)(z:128<=r)(u:r<=2147483647)(A:r≠65533)(B:Lib.validRune r=true)(k:Nat)(l:(Utf8.encode r).size=k+1)(v:0<k)(y:k<4)(x:UInt8)(m:(Utf8.encode r)[k]! =x)(f:128<=x.toNat)(w:World):
 Calls Tryz.prog 389 #[.string bZ,.int .i32 r] w λe b=>e=.returned (.int .i64 (-1))/\Below w.heap.size w b:=by
 have mixed:Tryz.prog.follows .mixedOrders=true:=by kernel_rfl
 have K:=am9;have G:=anW;have S:=anL;have O:=anl;have N:=amU;have J:=anX;have V:=anM;have R:=anm;have L:=ana;have H:=anY;have T:=anN;have P:=ann;have C:=anz;have s:=aok;have F:=an6;have D:=anF;have M:=amD;have I:=anA;have U:=ans;have Q:=amS;have o:∀a w,(callFunc 382 a).run Tryz.prog w=.ok (.enter 382 a) w:=enters_of Tryz.func382 (by kernel_rfl) rfl;have p:∀a w,(callFunc 393 a).run Tryz.prog w=.ok (.enter 393 a) w:=enters_of Tryz.func393 (by kernel_rfl) rfl;obtain⟨E,t⟩:∃E,Utf8.encode r=E:=⟨_,rfl⟩;rw[t]at l m;have n:k=1∨k=2∨k=3:=by omega
 go_enter Tryz.func389,(show Tryz.f389.ntmps=187 from rfl)
 go_wp2_with (go_at_fn 382;refine(Tryz.utf8_ValidRune r _).mono ?_;rintro e b ⟨rfl,d⟩;rw[d,B])
 refine wp_scope_straight ?_
 go_wp2
 refine wp_loop_rounds 1 ?_;rw[amV];have q:bZ.size=12:=rfl;rcases n with rfl|rfl|rfl
 ·have i:E.size=2:=l;have j:E[1]'(by omega)=x:=by rw[<-m];exact(getElem!_pos E 1 (by omega)).symm
  have h:bZ[1]'(by decide)=39:=rfl;have c:¬((39:Int)=(x.toNat:Int)):=by omega
  have g:Lib.indexByte (List.take 10 (List.drop 2 bZ.data.toList)) x= -1:=wS f (by decide)
  go_wp2
  refine wp_scope_straight ?_
  go_wp2
  go_region
  all_goals go_wp2
  go_region_with_o (go_at_fn 393;refine(Tryz.strings_IndexByte _ _ _).mono ?_;rintro e b ⟨rfl,d⟩;rw[d])
  all_goals go_wp2
  all_goals simp only[Exit.noGoto,Exit.inBlock,Exit.then]
  all_goals change bodyPost prog f389 (λe b=>e=.returned (.int .i64 (-1))/\Below w.heap.size w b) Exit.ret _ _
  all_goals go_ret
  all_goals exact⟨rfl,((Below.refl _ w).drew).drew⟩
 ·have i:E.size=3:=l;have j:E[2]'(by omega)=x:=by rw[<-m];exact(getElem!_pos E 2 (by omega)).symm
  have h:bZ[2]'(by decide)=40:=rfl;have c:¬((40:Int)=(x.toNat:Int)):=by omega
  have g:Lib.indexByte (List.take 9 (List.drop 3 bZ.data.toList)) x= -1:=wS f (by decide)
  go_wp2
  refine wp_scope_straight ?_
  go_wp2
  go_region
  all_goals go_wp2
  go_region_with_o (go_at_fn 393;refine(Tryz.strings_IndexByte _ _ _).mono ?_;rintro e b ⟨rfl,d⟩;rw[d])
  all_goals go_wp2
  all_goals simp only[Exit.noGoto,Exit.inBlock,Exit.then]
  all_goals change bodyPost prog f389 (λe b=>e=.returned (.int .i64 (-1))/\Below w.heap.size w b) Exit.ret _ _
  all_goals go_ret
  all_goals exact⟨rfl,((Below.refl _ w).drew).drew⟩
 ·have i:E.size=4:=l;have j:E[3]'(by omega)=x:=by rw[<-m];exact(getElem!_pos E 3 (by omega)).symm
  have h:bZ[3]'(by decide)=41:=rfl;have c:¬((41:Int)=(x.toNat:Int)):=by omega
  have g:Lib.indexByte (List.take 8 (List.drop 4 bZ.data.toList)) x= -1:=wS f (by decide)
  go_wp2
  refine wp_scope_straight ?_
  go_wp2
  go_region
  all_goals go_wp2
  go_region_with_o (go_at_fn 393;refine(Tryz.strings_IndexByte _ _ _).mono ?_;rintro e b ⟨rfl,d⟩;rw[d])
  all_goals go_wp2
  all_goals simp only[Exit.noGoto,Exit.inBlock,Exit.then]
  all_goals change bodyPost prog f389 (λe b=>e=.returned (.int .i64 (-1))/\Below w.heap.size w b) Exit.ret _ _
  all_goals go_ret
  all_goals exact⟨rfl,((Below.refl _ w).drew).drew⟩
set_option maxHeartbeats 6400000 in
set_option maxRecDepth 100000 in
def Tryz.indexRune_err(w:World):
 Calls Tryz.prog 389 #[.string bZ,.int .i32 65533] w λe s=>e=.returned (.int .i64 (-1))/\Below w.heap.size w s:=by
 have mixed:Tryz.prog.follows .mixedOrders=true:=by kernel_rfl
 have z:=am9;have u:=anW;have H:=anL;have D:=anl;have C:=amU;have y:=anX;have K:=anM;have G:=anm;have A:=ana;have v:=anY;have I:=anN;have E:=ann;have q:=anz;have f:=aok;have t:=an6;have r:=anF;have B:=amD;have x:=anA;have J:=ans;have F:=amS;have a:bZ.size=12:=rfl;have g:(Instr.next (.pointer (some ⟨w.heap.size,0,none⟩)) true 0).run Tryz.prog (w.iter bZ 0)=.ok (.tuple #[.bool true,.int .i64 0,.int .i32 32]) (w.iter bZ 1):=amH w bZ 0 0 (by decide) (by decide);have h:(Instr.next (.pointer (some ⟨w.heap.size,0,none⟩)) true 0).run Tryz.prog (w.iter bZ 1)=.ok (.tuple #[.bool true,.int .i64 1,.int .i32 39]) (w.iter bZ 2):=amH w bZ 1 0 (by decide) (by decide);have i:(Instr.next (.pointer (some ⟨w.heap.size,0,none⟩)) true 0).run Tryz.prog (w.iter bZ 2)=.ok (.tuple #[.bool true,.int .i64 2,.int .i32 40]) (w.iter bZ 3):=amH w bZ 2 0 (by decide) (by decide);have j:(Instr.next (.pointer (some ⟨w.heap.size,0,none⟩)) true 0).run Tryz.prog (w.iter bZ 3)=.ok (.tuple #[.bool true,.int .i64 3,.int .i32 41]) (w.iter bZ 4):=amH w bZ 3 0 (by decide) (by decide);have k:(Instr.next (.pointer (some ⟨w.heap.size,0,none⟩)) true 0).run Tryz.prog (w.iter bZ 4)=.ok (.tuple #[.bool true,.int .i64 4,.int .i32 43]) (w.iter bZ 5):=amH w bZ 4 0 (by decide) (by decide);have l:(Instr.next (.pointer (some ⟨w.heap.size,0,none⟩)) true 0).run Tryz.prog (w.iter bZ 5)=.ok (.tuple #[.bool true,.int .i64 5,.int .i32 44]) (w.iter bZ 6):=amH w bZ 5 0 (by decide) (by decide);have m:(Instr.next (.pointer (some ⟨w.heap.size,0,none⟩)) true 0).run Tryz.prog (w.iter bZ 6)=.ok (.tuple #[.bool true,.int .i64 6,.int .i32 45]) (w.iter bZ 7):=amH w bZ 6 0 (by decide) (by decide);have n:(Instr.next (.pointer (some ⟨w.heap.size,0,none⟩)) true 0).run Tryz.prog (w.iter bZ 7)=.ok (.tuple #[.bool true,.int .i64 7,.int .i32 46]) (w.iter bZ 8):=amH w bZ 7 0 (by decide) (by decide);have o:(Instr.next (.pointer (some ⟨w.heap.size,0,none⟩)) true 0).run Tryz.prog (w.iter bZ 8)=.ok (.tuple #[.bool true,.int .i64 8,.int .i32 47]) (w.iter bZ 9):=amH w bZ 8 0 (by decide) (by decide);have p:(Instr.next (.pointer (some ⟨w.heap.size,0,none⟩)) true 0).run Tryz.prog (w.iter bZ 9)=.ok (.tuple #[.bool true,.int .i64 9,.int .i32 58]) (w.iter bZ 10):=amH w bZ 9 0 (by decide) (by decide);have b:(Instr.next (.pointer (some ⟨w.heap.size,0,none⟩)) true 0).run Tryz.prog (w.iter bZ 10)=.ok (.tuple #[.bool true,.int .i64 10,.int .i32 61]) (w.iter bZ 11):=amH w bZ 10 0 (by decide) (by decide);have c:(Instr.next (.pointer (some ⟨w.heap.size,0,none⟩)) true 0).run Tryz.prog (w.iter bZ 11)=.ok (.tuple #[.bool true,.int .i64 11,.int .i32 63]) (w.iter bZ 12):=amH w bZ 11 0 (by decide) (by decide);have d:(Instr.next (.pointer (some ⟨w.heap.size,0,none⟩)) true 0).run Tryz.prog (w.iter bZ 12)=.ok (.tuple #[.bool false]) (w.iter bZ 12):=run_next_end w bZ 12 0 (by decide)
 go_enter Tryz.func389,(show Tryz.f389.ntmps=187 from rfl)
 go_wp2
 refine wp_loop_rounds 13 ?_;rw[amV]
 go_wp2
 rw[amV]
 go_wp2
 rw[amV]
 go_wp2
 rw[amV]
 go_wp2
 rw[amV]
 go_wp2
 rw[amV]
 go_wp2
 rw[amV]
 go_wp2
 rw[amV]
 go_wp2
 rw[amV]
 go_wp2
 rw[amV]
 go_wp2
 rw[amV]
 go_wp2
 rw[amV]
 go_wp2
 rw[amV]
 go_wp2
 go_ret
 exact⟨rfl,(Below.refl _ w).alloc (Nat.le_refl _) _⟩
def Tryz.indexRune_none(r:Int)(f: -2147483648<=r)(c:r<=2147483647)(h:r<0∨128<=r)(w:World):
 Calls Tryz.prog 389 #[.string bZ,.int .i32 r] w λe i=>e=.returned (.int .i64 (-1))/\Below w.heap.size w i:=by
 by_cases a:r=65533
 ·subst a;exact Tryz.indexRune_err w
 cases b:Lib.validRune r with
 |false=>exact(Tryz.indexRune_bad r f c h a b w).mono λe i ⟨j,k⟩=>⟨j,by rw[k];exact Below.refl _ _⟩
 |true=>
  have g:128<=r:=by
   rcases h with h|h
   ·exfalso;unfold Lib.validRune at b;simp at b;omega
   ·exact h
  have l:Utf8.valid r=true:=by
   rw[validRune_eq];unfold validRune;unfold Lib.validRune at b;simp at b⊢;omega
  obtain⟨n,o,m⟩:=encode_facts r l g;have d:(Utf8.encode r).size-1<(Utf8.encode r).size:=by omega
  exact Tryz.indexRune_high r g c a b ((Utf8.encode r).size-1) (by omega) (by omega) (by omega) _ rfl (by
   rw[getElem!_pos (Utf8.encode r) _ d];exact m d) w
def inP(r:Int):Bool:=decide (0<=r)&&(decide (r<128)&&decide (0<=Lib.indexByte bZ.data.toList r.toNat.toUInt8))
set_option maxHeartbeats 6400000 in
set_option maxRecDepth 100000 in
def Tryz.containsRune(r:Int)(f: -2147483648<=r)(d:r<=2147483647)(w:World):
 Calls Tryz.prog 379 #[.string bZ,.int .i32 r] w λe i=>e=.returned (.bool (inP r))/\Below w.heap.size w i:=by
 by_cases h:0<=r/\r<128
 ·refine(Tryz.strings_ContainsRune_ascii bZ r w h.1 h.2).mono λe i ⟨l,m⟩=>⟨?_,by rw[m];exact Below.refl _ _⟩;rw[l];unfold inP;rw[ak3 h.1,ak3 h.2];rfl
 ·have g:r<0∨128<=r:=by omega
  have b:inP r=false:=by
   unfold inP;rcases g with h|h
   ·rw[ak0 (by omega)];rfl
   ·rw[ak0 (p:=r<128) (by omega)];simp
  rw[b];have mixed:Tryz.prog.follows .mixedOrders=true:=by kernel_rfl
  have x:=am9;have t:=anW;have D:=anL;have A:=anl;have z:=amU;have v:=anX;have F:=anM;have C:=anm;have y:=ana;have u:=anY;have E:=anN;have B:=ann;have o:=anz;have k:=aok;have s:=an6;have q:=anF;have j:∀a w,(callFunc 389 a).run Tryz.prog w=.ok (.enter 389 a) w:=enters_of Tryz.func389 (by kernel_rfl) rfl;have c:=Tryz.indexRune_none r f d g w;clear b h g
  go_enter Tryz.func379,(show Tryz.f379.ntmps=9 from rfl)
  go_wp2_with (go_at_fn 389;refine c.mono ?_;rintro e i ⟨rfl,n⟩)
  go_ret
  exact⟨rfl,n⟩
end Go.Proofs
namespace Go.Fw
open Go.RowKit
def gm(s:List UInt8):Option Bool:=bif Nat.ble s.length ba then some (Lib.validD s) else none
def FT:Ctr:=⟨[.hole .str],.hole .bool,λ(x:List UInt8)=>gm x⟩
def SB{P:Program}{f:FuncId}{g3 g4:Nat}(t:fI P f)(o:P.globalNamed "unicode/utf8.first" =some g3)(p:P.globalNamed "unicode/utf8.acceptRanges" =some g4)
 (h:∀(s:ByteArray)(w:World)(_:s.size<=9223372036854775807)(_:Lib.Utf8Tabs g3 g4 w),Calls P f #[.string s] w λe m=>e=.returned (.bool (Lib.validD s.data.toList))/\Below w.heap.size w m):cD P f FT:=by
 refine⟨t,rfl,rfl,λ(x:List UInt8)(y:Bool) a=> ?_⟩;have a:gm x=some y:=a;unfold gm at a;cases d:Nat.ble x.length ba with
 |false=>rw[d]at a;cases a
 |true=>
  rw[d]at a;cases a;have u:x.length<=ba:=alb d;refine⟨.bool (Lib.validD x),rfl,λ_ _=>by simp only[SV.can,VR],?_⟩;intro A g z b;cases g;simp only[VRs]at b;obtain⟨n,_,rfl,c,rfl⟩:=b;intro G w l q j k;have c:n=.str x:=by simpa only[kV,VR] using c
  subst c;simp only[af]at k;obtain⟨v,_,rfl,i,rfl⟩:=k;have i:v=.string ⟨x.toArray⟩:=by simpa only[Rep] using i
  subst i;refine(h ⟨x.toArray⟩ w (by show x.toArray.size<=_;rw[amP];exact amo u deq) ⟨(j.2.fst g3 o).2,(j.2.acc g4 p).2⟩).mono ?_;rintro e m ⟨rfl,r⟩;refine⟨_,G,rfl,iU q r,?_⟩;show Rep G (.bool _) _;simp only[Rep]
def abw:List UInt8:=[32,39,40,41,43,44,45,46,47,58,61,63]
def inP(r:Int):Bool:=decide (0<=r)&&(decide (r<128)&&decide (0<=Lib.indexByte abw r.toNat.toUInt8))
def sf(r:Int):Option Bool:=bif decide (-2147483648<=r)&&decide (r<=2147483647) then some (inP r) else none
def abx:Ctr:=⟨[.slit [32,39,40,41,43,44,45,46,47,58,61,63],.hole (.int .i32)],.hole .bool,λ(x:Int)=>sf x⟩
def agS{P:Program}{f:FuncId}(s:fI P f)
 (h:∀(r:Int)(_: -2147483648<=r)(_:r<=2147483647)(w:World),Calls P f #[.string ⟨abw.toArray⟩,.int .i32 r] w λe n=>e=.returned (.bool (inP r))/\Below w.heap.size w n):cD P f abx:=by
 refine⟨s,rfl,rfl,λ(x:Int)(y:Bool) a=> ?_⟩;have a:sf x=some y:=a;unfold sf at a;cases b:(decide (-2147483648<=x)&&decide (x<=2147483647)) with
 |false=>rw[b]at a;cases a
 |true=>
  rw[b]at a;cases a;simp only[akY,alL]at b;refine⟨.bool (inP x),rfl,λ_ _=>by simp only[SV.can,VR],?_⟩;intro A j v c;cases j;simp only[VRs]at c;obtain⟨o,_,rfl,g,d2,_,rfl,i,rfl⟩:=c;intro G w m p z l;have g:o=.str [32,39,40,41,43,44,45,46,47,58,61,63]:=by simpa only[kV,VR] using g
  have i:d2=.int .i32 x:=by simpa only[kV,VR] using i
  subst g i;simp only[af]at l;obtain⟨t,_,rfl,d,u,_,rfl,k,rfl⟩:=l;have d:t=.string ⟨abw.toArray⟩:=by simp only[Rep]at d;exact d
  have k:u=.int .i32 x:=by simpa only[Rep] using k
  subst d k;refine(h x b.1 b.2 w).mono ?_;rintro e n ⟨rfl,q⟩;refine⟨_,G,rfl,iU p q,?_⟩;show Rep G (.bool _) _;simp only[Rep]
def vr0(r:Int):Option Bool:=some (Lib.validRune r)
def adC:∃f:Int->Option Bool,f=vr0:=⟨_,rfl⟩
noncomputable def FU:Int->Option Bool:=Classical.choose adC
def JL(r:Int):FU r=some (Lib.validRune r):=anE (ame adC) r
noncomputable def WL:Ctr:=⟨[.hole (.int .i32)],.hole .bool,λ(x:Int)=>FU x⟩
def agT{P:Program}{f:FuncId}(o:fI P f)
 (h:∀(r:Int)(w:World),Calls P f #[.int .i32 r] w λe k=>e=.returned (.bool (Lib.validRune r))/\Below w.heap.size w k):cD P f WL:=by
 refine⟨o,rfl,rfl,λ(x:Int)(y:Bool) b=> ?_⟩;have b:FU x=some y:=b;rw[JL]at b;cases b;refine⟨.bool (Lib.validRune x),rfl,λ_ _=>by simp only[SV.can,VR],?_⟩;intro t d q a;cases d;simp only[VRs]at a;obtain⟨l,_,rfl,c,rfl⟩:=a;intro G w j m s i;have c:l=.int .i32 x:=by simpa only[kV,VR] using c
 subst c;simp only[af]at i;obtain⟨p,_,rfl,g,rfl⟩:=i;have g:p=.int .i32 x:=by simpa only[Rep] using g
 subst g;refine(h x w).mono ?_;rintro e k ⟨rfl,n⟩;refine⟨_,G,rfl,iU m n,?_⟩;show Rep G (.bool _) _;simp only[Rep]
end Go.Fw
namespace Go.Proofs
open Go.Shelf Go.RowKit Go.Sort Go.Lib
def Tryz.lays196_ren:Go.Shelf.Ren:=⟨λ|196=>377|259=>388|n=>n,λ|9=>9|4=>4|3=>3|5=>5|12=>12|119=>546|0=>0|46=>176|139=>549|138=>548|53=>175|n=>n,λ|3=>6|4=>7|n=>n⟩
def Tryz.lays196:Go.Proofs.Lays.n196 Tryz.prog Tryz.lays196_ren:=by constructor<;>first|kernel_rfl|(intro w;kernel_rfl)
def Tryz.utf8_ValidString(s:ByteArray)(w:World)(b:s.size<=9223372036854775807)(a:Lib.Utf8Tabs 6 7 w):
 Calls Tryz.prog 377 #[.string s] w λe c=>e=.returned (.bool (Lib.validD s.data.toList))/\Below w.heap.size w c:=by
 have h:=Any.utf8_ValidString (ρ:=Tryz.lays196_ren) Tryz.lays196 s w b a;exact h
end Go.Proofs
namespace Go.Proofs.Tryz
open Go Go.Fw Go.RowKit
def aeU:fI prog 377:=(eY (f:=377) (fn:=f377) krq).2
def aeV:prog.globalNamed "unicode/utf8.first" =some 6:=krq
def ab1:prog.globalNamed "unicode/utf8.acceptRanges" =some 7:=krq
def qf:cD prog 377 FT:=SB aeU aeV ab1 λs w b a=>Tryz.utf8_ValidString s w b a
def aeW:fI prog 382:=(eY (f:=382) (fn:=f382) krq).2
def I4:cD prog 382 WL:=agT aeW λr w=>(Tryz.utf8_ValidRune r w).mono λ_ _ ⟨a,b⟩=>⟨a,by rw[b];exact amh _ _⟩
def aeX:fI prog 379:=(eY (f:=379) (fn:=f379) krq).2
def akq:cD prog 379 abx:=agS aeX λr b a w=>Tryz.containsRune r b a w
end Go.Proofs.Tryz
namespace Go.Fw
open Go
noncomputable section
def dJ(a:Int):Option Bool:=
 bif decide (a>=97) then(
 bif decide (a<=122) then(
 some true)
 else
 bif decide (a>=65) then(
 bif decide (a<=90) then(
 some true)
 else
 bif decide (a>=48) then(
 bif decide (a<=57) then(
 some true)
 else
 (sf a).bind λc1=>
 some c1)
 else
 (sf a).bind λb=>
 some b)
 else
 bif decide (a>=48) then(
 bif decide (a<=57) then(
 some true)
 else
 (sf a).bind λc=>
 some c)
 else
 (sf a).bind λd=>
 some d)
 else
 bif decide (a>=65) then(
 bif decide (a<=90) then(
 some true)
 else
 bif decide (a>=48) then(
 bif decide (a<=57) then(
 some true)
 else
 (sf a).bind λe=>
 some e)
 else
 (sf a).bind λf=>
 some f)
 else
 bif decide (a>=48) then(
 bif decide (a<=57) then(
 some true)
 else
 (sf a).bind λg=>
 some g)
 else
 (sf a).bind λh=>
 some h
def bh(a:Int)(a2:Int)(a3:Int):Option Bool:=
 bif decide (a>=a2) then(
 some (decide (a<=a3)))
 else
 some false
def cK(a:Int)(a2:Int)(a3:Int):Option Bool:=
 (bh a a2 a3).bind λc1=>
 bif c1 then(
 some true)
 else
 bif decide (a>=160) then(
 some (decide (a<=255)))
 else
 some false
def dK(a:Int):Option Bool:=
 (FU a).bind λc1=>
 bif c1 then(
 some (decide (a<=65535)))
 else
 some false
def gJ(N n:Nat):(Int×Bs×Int)->Option ((Bool)⊕(Unit)):=Nat.rec (λ_=>none) (λ_ L (d,b,a)=>
 bif decide (a<(b.length:Int)) then(
 bif decide (0<=a) then(
 (FU ((im b a).1)).bind λc=>
 bif (!c) then(
 some (Sum.inl false))
 else
 L (d,b,a+(im b a).2))
 else
 none)
 else
 some (Sum.inr ())) n
def ja(N n:Nat):(Int×Bs×Int)->Option ((Bool)⊕(Unit)):=Nat.rec (λ_=>none) (λ_ L (d,b,a)=>
 bif decide (a<(b.length:Int)) then(
 bif decide (0<=a) then(
 (dJ ((im b a).1)).bind λc=>
 bif (!c) then(
 some (Sum.inl false))
 else
 L (d,b,a+(im b a).2))
 else
 none)
 else
 some (Sum.inr ())) n
def jb(N n:Nat):(Int×Int×Int×Bs×Int)->Option ((Bool)⊕(Unit)):=Nat.rec (λ_=>none) (λ_ L (c,d,f,b,a)=>
 bif decide (a<(b.length:Int)) then(
 bif decide (0<=a) then(
 (cK ((im b a).1) c d).bind λe=>
 bif (!e) then(
 some (Sum.inl false))
 else
 L (c,d,f,b,a+(im b a).2))
 else
 none)
 else
 some (Sum.inr ())) n
def gK(N n:Nat):(Int×Int×Int×Bs×Int)->Option ((Bool)⊕(Unit)):=Nat.rec (λ_=>none) (λ_ L (c,d,f,b,a)=>
 bif decide (a<(b.length:Int)) then(
 bif decide (0<=a) then(
 (bh ((im b a).1) c d).bind λe=>
 bif (!e) then(
 some (Sum.inl false))
 else
 L (c,d,f,b,a+(im b a).2))
 else
 none)
 else
 some (Sum.inr ())) n
def jc(N n:Nat):(Int×Bs×Int)->Option ((Bool)⊕(Unit)):=Nat.rec (λ_=>none) (λ_ L (d,b,a)=>
 bif decide (a<(b.length:Int)) then(
 bif decide (0<=a) then(
 (dK ((im b a).1)).bind λc=>
 bif (!c) then(
 some (Sum.inl false))
 else
 L (d,b,a+(im b a).2))
 else
 none)
 else
 some (Sum.inr ())) n
def ip(N:Nat)(a:(Int×Bs)):Option Bool:=
 bif (a.1==12) then(
 (gm a.2).bind λc1=>
 bif (!c1) then(
 some false)
 else
 (gJ N N (0,a.2,0)).bind λu=>(match u with
 |Sum.inl s=>some s
 |Sum.inr _=>some true))
 else
 bif (a.1==19) then(
 (gm a.2).bind λt=>
 bif (!t) then(
 some false)
 else
 (ja N N (1,a.2,0)).bind λm=>(match m with
 |Sum.inl b=>some b
 |Sum.inr _=>some true))
 else
 bif (a.1==20) then(
 (gm a.2).bind λc=>
 bif (!c) then(
 some false)
 else
 (jb N N (32,126,1,a.2,0)).bind λn=>(match n with
 |Sum.inl d=>some d
 |Sum.inr _=>some true))
 else
 bif (a.1==22) then(
 (gm a.2).bind λe=>
 bif (!e) then(
 some false)
 else
 (gK N N (0,127,1,a.2,0)).bind λo=>(match o with
 |Sum.inl f=>some f
 |Sum.inr _=>some true))
 else
 bif (a.1==26) then(
 (gm a.2).bind λg=>
 bif (!g) then(
 some false)
 else
 (gK N N (32,126,1,a.2,0)).bind λp=>(match p with
 |Sum.inl h=>some h
 |Sum.inr _=>some true))
 else
 bif (a.1==28) then(
 (gm a.2).bind λi=>
 bif (!i) then(
 some false)
 else
 (gJ N N (4,a.2,0)).bind λq=>(match q with
 |Sum.inl j=>some j
 |Sum.inr _=>some true))
 else
 bif (a.1==30) then(
 (gm a.2).bind λk=>
 bif (!k) then(
 some false)
 else
 (jc N N (2,a.2,0)).bind λr=>(match r with
 |Sum.inl l=>some l
 |Sum.inr _=>some true))
 else
 some false
def gb(N n:Nat):(Int×Int×Int×Bs×Bs×Int)->Option (Int×Bs×Bs×Int):=Nat.rec (λ_=>none) (λ_ L (g,h,d,b,c,a)=>
 bif decide (d>=0) then(
 bif decide (0<=iB .i64 8 d) then(
 (toB (IntKind.wrap .u8 (wY .i32 h (iB .i64 8 d)))).bind λe=>
 (app 1 b [e]).bind λf=>
 L (g,h,aC .i64 d 1,f,c,a))
 else
 none)
 else
 some (g,b,c,a)) n
def bR(N n:Nat):(Int×Bs×Bs×Int)->Option Bs:=Nat.rec (λ_=>none) (λ_ L (d,e,b,a)=>
 bif decide (a<(b.length:Int)) then(
 bif decide (0<=a) then(
 (gb N N (d,(im b a).1,aC .i64 d 1,e,b,a+(im b a).2)).bind λ(f,g,h,c)=>
 L (f,g,h,c))
 else
 none)
 else
 some e) n
def aP(N:Nat)(a:(Int×Bs)):Option (Bs×Int):=
 (ip N a).bind λc1=>
 bif (!c1) then(
 some ([],8))
 else
 bif (a.1==12) then(
 (GY a.2).bind λi=>
 some (i,0))
 else
 bif (a.1==19) then(
 (bR N N (1,[],a.2,0)).bind λb=>
 some (b,0))
 else
 bif (a.1==20) then(
 (bR N N (1,[],a.2,0)).bind λc=>
 some (c,0))
 else
 bif (a.1==22) then(
 (bR N N (1,[],a.2,0)).bind λd=>
 some (d,0))
 else
 bif (a.1==26) then(
 (bR N N (1,[],a.2,0)).bind λe=>
 some (e,0))
 else
 bif (a.1==28) then(
 (bR N N (4,[],a.2,0)).bind λf=>
 some (f,0))
 else
 bif (a.1==30) then(
 (bR N N (2,[],a.2,0)).bind λg=>
 some (g,0))
 else
 (GY a.2).bind λh=>
 some (h,0)
end
end Go.Fw
