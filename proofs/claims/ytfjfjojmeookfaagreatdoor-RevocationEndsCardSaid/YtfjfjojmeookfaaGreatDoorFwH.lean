/- A framework for proofs about Go programs in this model: part H. Everything is proved; no condition is added. -/
import Derived.Test.YtfjfjojmeookfaaGreatDoorProg
import Derived.Lib.Join
import Derived.Lib.ParseIntB
import Derived.Shelf.Strings.Builder1
import Derived.Shelf.Strings.Builder2
import Derived.Shelf.Strings.OnBuilder
import Derived.Shelf.Small.Utf8
import Derived.Shelf.Small.Strs
import Derived.Shelf.Strings.BuilderF
import Derived.Shelf.Strings.BuilderK
import Derived.Shelf.Strings.BuilderRune
import Derived.Shelf.Utf8.AppendRune
import Derived.Shelf.Utf8.AppendRunePlain
import Derived.Shelf.Strconv.Itoa0
import Derived.Shelf.Strconv.Itoa1
import Derived.Shelf.LaysM
import Derived.Shelf.Strconv.Itoa2
import Derived.Shelf.Strconv.Itoa3
import Derived.Shelf.Strconv.Clone
import Derived.Shelf.Strconv.SyntaxError
import Derived.Shelf.LaysC
import Derived.Shelf.Strconv.ToError
import Derived.Shelf.Strconv.Lower
import Derived.Shelf.Strconv.ParseUint10
import Derived.Shelf.Strconv.ParseUint10Empty
import Derived.Shelf.Strconv.ParseUint10Any
import Derived.Shelf.Strconv.RangeError
import Derived.Shelf.Strconv.ToErrorRange
import Derived.Shelf.Strconv.ParseUintEmpty
import Derived.Shelf.Strconv.ParseUint10b64
import Derived.Shelf.Strconv.ParseUint10b32
import Derived.Shelf.Strconv.ParseUint10b16
import Derived.Shelf.Strconv.ParseUint10b8
import Derived.Shelf.Strconv.ParseUint10At
import Derived.Ground.MpProg
import Derived.Shelf.Pu.ParseUintPublic10
import Derived.Shelf.Pu.ErrVarParseUint
import Derived.Shelf.Strings.Search1
import Derived.Shelf.Strings.Search2
import Derived.Shelf.Strings.Search3
import Derived.Shelf.Strings.Count
import Derived.Shelf.Strings.Shaped
import Derived.Shelf.Strings.Split
import Derived.Shelf.Strings.SplitShaped
import Derived.Shelf.Unicode.Decode
import Derived.Shelf.Strings.Runes
import Derived.Shelf.Unicode.DecodeSlow
import Derived.Shelf.Unicode.DecodeAny
import Derived.Lib.Walk
import Derived.Lib.ItoaMem
import Derived.WalkKit
import Derived.BigCall
import Derived.BigGuard
import Derived.Lib.AppendIntMem
import Derived.Lib.Split
import Derived.Lib.SplitLaws
import Derived.Lib.AtoiErrMem
import Derived.Laws.Runes
import Derived.Laws.RangeString
import Derived.Scope
import Derived.Shelf.RegionOpenPlain
import Derived.Lib.ValidU
import Derived.Lib.Small
import Derived.Shelf.Unicode.ValidAny
import Derived.Test.YtfjfjojmeookfaaGreatDoorFwG
set_option linter.unusedVariables false
set_option linter.unusedSimpArgs false
set_option linter.defProp false
namespace Go.Fw
abbrev tL{α:Type}(k:Nat)(v:α):Tr α:=.node .nil k v .nil
abbrev tN{α:Type}(l:Tr α)(k:Nat)(v:α)(r:Tr α):Tr α:=.node l k v r
abbrev zI:D:=.int .i64 0
abbrev zL:D:=.list [] 0 true
abbrev zS:D:=.str []
abbrev zB:D:=.bool false
end Go.Fw
namespace Go.Proofs.Tryz
open Go Go.Fw
def abr:Tr (ExK):=tN (tL 300 ExK.count) 372 ExK.indexByte .nil
def afU:fc (Pp prog) abr:=by unfold fc;kernel_rfl
def aeK:Tr (Nat×Bool):=tN (tN (tN (tN (tN (tN (tL 3 (1,false)) 4 (1,false) (tL 5 (1,false))) 9 (1,false) (tN (tL 21 (1,false)) 22 (1,false) (tL 24 (2,true)))) 26 (1,false) (tN (tN (tL 28 (6,true)) 29 (1,false) (tL 30 (1,false))) 32 (19,true) (tN (tL 34 (2,true)) 36 (23,true) .nil))) 40 (1,false) (tN (tN (tN (tL 44 (2,true)) 53 (2,true) (tL 55 (1,false))) 58 (1,false) (tN (tL 67 (1,false)) 76 (1,false) .nil)) 84 (8,true) (tN (tN (tL 86 (3,true)) 99 (1,false) (tL 106 (6,true))) 110 (1,false) (tN (tL 112 (1,false)) 116 (1,false) .nil)))) 127 (1,false) (tN (tN (tN (tN (tL 129 (5,true)) 150 (1,false) (tL 172 (1,false))) 174 (1,false) (tN (tL 177 (1,false)) 179 (8,true) .nil)) 208 (1,false) (tN (tN (tL 210 (1,false)) 214 (1,false) (tL 219 (5,true))) 224 (1,false) (tN (tL 226 (4,true)) 228 (3,true) .nil))) 230 (4,true) (tN (tN (tN (tL 231 (1,false)) 232 (1,false) (tL 234 (2,true))) 235 (1,false) (tN (tL 237 (7,true)) 238 (1,false) .nil)) 239 (1,false) (tN (tN (tL 241 (38,true)) 247 (1,false) (tL 252 (1,false))) 257 (1,false) (tN (tL 274 (3,true)) 292 (1,false) .nil))))) 293 (1,false) (tN (tN (tN (tN (tN (tL 295 (1,false)) 297 (1,false) (tL 299 (3,true))) 301 (3,true) (tN (tL 303 (1,false)) 305 (1,false) (tL 307 (3,true)))) 309 (1,false) (tN (tN (tL 311 (1,false)) 313 (3,true) (tL 315 (1,false))) 317 (1,false) (tN (tL 323 (1,false)) 325 (1,false) .nil))) 329 (1,false) (tN (tN (tN (tL 333 (1,false)) 335 (1,false) (tL 339 (1,false))) 341 (1,false) (tN (tL 345 (1,false)) 347 (1,false) .nil)) 351 (1,false) (tN (tN (tL 353 (1,false)) 357 (1,false) (tL 359 (1,false))) 363 (1,false) (tN (tL 365 (1,false)) 369 (1,false) .nil)))) 371 (1,false) (tN (tN (tN (tN (tL 384 (20,true)) 391 (2,true) (tL 393 (9,true))) 403 (4,true) (tN (tL 407 (1,false)) 408 (1,false) .nil)) 410 (2,true) (tN (tN (tL 413 (10,true)) 415 (1,false) (tL 416 (1,false))) 418 (2,true) (tN (tL 421 (2,true)) 436 (2,true) .nil))) 441 (10,true) (tN (tN (tN (tL 450 (1,false)) 452 (2,true) (tL 454 (2,true))) 459 (1,false) (tN (tL 464 (2,true)) 470 (2,true) .nil)) 522 (32,true) (tN (tN (tL 523 (64,true)) 530 (11,true) (tL 538 (2,true))) 539 (32,true) (tN (tL 544 (1,false)) 546 (2,true) .nil)))))
def ahn:fc (tV prog) aeK:=by unfold fc;kernel_rfl
def abs:Tr (Nat):=tN (tN (tN (tN (tN (tN (tN (tL 1572864 0) 1572865 1 .nil) 1835008 0 (tN (tL 1835009 1) 1835010 2 .nil)) 1835011 3 (tN (tN (tL 1835012 4) 1835013 5 .nil) 2097152 0 (tL 2097153 1))) 2097154 3 (tN (tN (tN (tL 2097155 4) 2097156 10 .nil) 2097157 11 (tN (tL 2097158 17) 2097159 18 .nil)) 2228224 0 (tN (tN (tL 2228225 1) 2359296 0 .nil) 2359297 19 (tL 2359298 21)))) 2883584 0 (tN (tN (tN (tN (tL 2883585 1) 3473408 0 .nil) 3473409 1 (tN (tL 3932160 0) 3932161 1 .nil)) 5505024 0 (tN (tN (tL 5505025 1) 5505026 7 .nil) 5636096 0 (tL 5636097 1))) 5636098 2 (tN (tN (tN (tL 6750208 0) 6750209 1 .nil) 6750210 2 (tL 6946816 0)) 6946817 1 (tN (tN (tL 6946818 2) 6946819 3 .nil) 6946820 4 (tL 6946821 5))))) 8454147 3 (tN (tN (tN (tN (tN (tL 8454148 4) 9568256 0 .nil) 9568257 1 (tN (tL 11730945 1) 11730946 2 .nil)) 11730947 7 (tN (tN (tL 14352384 0) 14352385 1 .nil) 14352386 2 (tL 14352387 3))) 14352388 4 (tN (tN (tN (tL 14811136 0) 14811137 1 .nil) 14811138 2 (tL 14811139 3)) 14942208 0 (tN (tN (tL 14942209 1) 14942210 2 .nil) 15073280 0 (tL 15073281 1)))) 15073282 2 (tN (tN (tN (tN (tL 15073283 3) 15335424 0 .nil) 15335425 1 (tN (tL 15532032 0) 15532033 1 .nil)) 15532034 2 (tN (tN (tL 15532035 3) 15532036 4 .nil) 15532037 5 (tL 15532038 6))) 15794176 0 (tN (tN (tN (tL 15794177 1) 15794179 3 .nil) 15794180 4 (tL 15794181 5)) 15794182 6 (tN (tN (tL 15794183 7) 15794184 11 .nil) 15794185 14 (tL 15794186 18)))))) 15794187 19 (tN (tN (tN (tN (tN (tN (tL 15794188 20) 15794189 22 .nil) 15794190 23 (tN (tL 15794191 30) 15794192 31 .nil)) 15794193 32 (tN (tN (tL 16973824 0) 16973825 1 .nil) 17956864 0 (tL 19595264 0))) 19595266 2 (tN (tN (tN (tL 19726336 0) 19726338 2 .nil) 20119552 0 (tL 20119554 2)) 20512768 0 (tN (tN (tL 20512770 2) 20905984 0 .nil) 20905986 2 (tL 21037056 0)))) 21037058 2 (tN (tN (tN (tN (tL 21430272 0) 21430274 2 .nil) 21692416 0 (tN (tL 21692418 2) 22085632 0 .nil)) 22085634 2 (tN (tN (tL 22478848 0) 22478850 2 .nil) 22872064 0 (tL 22872066 2))) 23265280 0 (tN (tN (tN (tL 23265282 2) 23658496 0 .nil) 23658498 2 (tL 24051712 0)) 24051714 2 (tN (tN (tL 24444928 0) 24444930 2 .nil) 25624576 0 (tL 25624577 1))))) 25755648 0 (tN (tN (tN (tN (tN (tL 25755649 1) 25755650 2 .nil) 25755651 3 (tN (tL 25755652 4) 25755653 5 .nil)) 25755654 7 (tN (tN (tL 26279936 0) 26279937 1 .nil) 26411008 0 (tL 26411009 1))) 26411010 2 (tN (tN (tN (tL 26411011 3) 26869760 0 .nil) 26869761 1 (tL 27066368 0)) 27066369 1 (tN (tN (tL 27394048 0) 27394049 1 .nil) 27590656 0 (tL 27590657 1)))) 28573696 0 (tN (tN (tN (tN (tL 28573697 1) 28901376 0 .nil) 28901377 2 (tN (tL 28901378 3) 28901379 4 .nil)) 29622272 0 (tN (tN (tL 29622273 1) 29753344 0 .nil) 29753345 1 (tL 30408704 0))) 30408705 1 (tN (tN (tN (tL 30670848 0) 30801920 0 .nil) 30801921 1 (tL 32243712 0)) 32243713 1 (tN (tN (tL 35258368 0) 35258369 1 .nil) 35782656 0 (tL 35782657 1))))))
def afV:fc (λk=>Px prog (k / 65536) (k % 65536)) abs:=by unfold fc;kernel_rfl
def Xx:Tr (Nat×Nat×Bool):=tN (tL 2883584 (0,(1,false))) 17956866 (2,(1,false)) (tL 35782657 (1,(1,false)))
def aeL:fc (λk=>LE prog (k / 65536) (k % 65536)) Xx:=by unfold fc;kernel_rfl
def Xy:Tr (List D):=tN (tN (tN (tN (tN (tL 3 [zI]) 22 [zL] (tL 24 [zS,zL])) 28 [zI,zI,zI,zI,zI,zI] (tN (tL 32 [zI,zS,zL,zL,zI,zI,zI,zI,zI,zI,zB,zI,zI,zI,zI,zI,zI,zL,zL]) 34 [zL,zI] .nil)) 36 [zI,zS,zL,zL,zI,zI,zI,zI,zI,zI,zB,zI,zI,zI,zI,zI,zI,zL,zL,zS,zL,zL,zI] (tN (tN (tL 40 [zI]) 44 [zI,zI] (tL 53 [zS,zL])) 58 [zL] (tN (tL 60 [zL,zI]) 84 [zL,zI,zI,zI,zI,zI,zI,zL] .nil))) 86 [zS,zB,zL] (tN (tN (tN (tL 106 [zI,zI,zB,zI,zI,zI]) 129 [zI,zI,zB,zL,zL] (tL 150 [D.nilf])) 179 [zI,zI,zI,zI,zB,zL,zL,zL] (tN (tL 219 [zI,zI,zB,zI,zI]) 226 [zB,zL,zL,zL] .nil)) 228 [zB,zB,zI] (tN (tN (tL 230 [zB,zI,zB,zI]) 231 [zL] .nil) 232 [zL] (tN (tL 234 [zL,zL]) 237 [zL,zL,zB,zB,zB,zB,zI] .nil)))) 241 [zI,zS,zB,zL,zI,zL,zL,zB,zL,zL,zL,zB,zB,zI,zB,zI,zB,zI,zL,zL,zL,zL,zL,zL,zL,zB,zB,zB,zB,zI,zL,zL,zI,zI,zI,zI,zI,zI] (tN (tN (tN (tN (tL 259 [D.nilp,zL]) 274 [zS,zS,D.nili] (tL 284 [D.int IntKind.u8 0,D.int IntKind.u8 0,D.int IntKind.u8 0,D.int IntKind.u8 0,D.int IntKind.u8 0,D.int IntKind.u8 0,D.int IntKind.u8 0,D.int IntKind.u8 0,D.int IntKind.u8 0,D.int IntKind.u8 0,D.int IntKind.u8 0,D.int IntKind.u8 0,D.int IntKind.u8 0,D.int IntKind.u8 0,D.int IntKind.u8 0,D.int IntKind.u8 0,D.int IntKind.u8 0,D.int IntKind.u8 0,D.int IntKind.u8 0,D.int IntKind.u8 0,D.int IntKind.u8 0,D.int IntKind.u8 0,D.int IntKind.u8 0,D.int IntKind.u8 0])) 299 [D.nilf,D.nilf,D.nilf] (tN (tL 301 [D.nilf,D.nilf,D.nilf]) 307 [D.nilf,D.nilf,D.nilf] .nil)) 313 [D.nilf,D.nilf,D.nilf] (tN (tN (tL 385 [D.int IntKind.u8 0,D.int IntKind.u8 0,D.int IntKind.u8 0,D.int IntKind.u8 0,D.int IntKind.u8 0,D.int IntKind.u8 0,D.int IntKind.u8 0,D.int IntKind.u8 0,D.int IntKind.u8 0,D.int IntKind.u8 0,D.int IntKind.u8 0,D.int IntKind.u8 0,D.int IntKind.u8 0,D.int IntKind.u8 0,D.int IntKind.u8 0,D.int IntKind.u8 0,D.int IntKind.u8 0,D.int IntKind.u8 0,D.int IntKind.u8 0,D.int IntKind.u8 0,D.int IntKind.u8 0,D.int IntKind.u8 0,D.int IntKind.u8 0,D.int IntKind.u8 0,D.int IntKind.u8 0,D.int IntKind.u8 0,D.int IntKind.u8 0,D.int IntKind.u8 0,D.int IntKind.u8 0,D.int IntKind.u8 0,D.int IntKind.u8 0,D.int IntKind.u8 0,D.int IntKind.u8 0,D.int IntKind.u8 0,D.int IntKind.u8 0,D.int IntKind.u8 0,D.int IntKind.u8 0,D.int IntKind.u8 0,D.int IntKind.u8 0,D.int IntKind.u8 0,D.int IntKind.u8 0,D.int IntKind.u8 0,D.int IntKind.u8 0,D.int IntKind.u8 0,D.int IntKind.u8 0,D.int IntKind.u8 0,D.int IntKind.u8 0,D.int IntKind.u8 0,D.int IntKind.u8 0,D.int IntKind.u8 0,D.int IntKind.u8 0,D.int IntKind.u8 0,D.int IntKind.u8 0,D.int IntKind.u8 0,D.int IntKind.u8 0,D.int IntKind.u8 0,D.int IntKind.u8 0,D.int IntKind.u8 0,D.int IntKind.u8 0,D.int IntKind.u8 0,D.int IntKind.u8 0,D.int IntKind.u8 0,D.int IntKind.u8 0,D.int IntKind.u8 0,D.int IntKind.u8 0]) 391 [zI,zS] (tL 393 [zI,zS,zS,zL,zL,zI,zS,zI,zS])) 401 [zL,zI] (tN (tL 403 [zL,zL,zI,zL]) 410 [D.nilf,D.nilf] .nil))) 413 [zS,zI,zS,zS,zL,zL,zI,zS,zI,zS] (tN (tN (tN (tL 418 [D.nilf,D.nilf]) 421 [zS,zL] (tL 436 [zL,zL])) 441 [zL,zL,zI,zL,zB,zB,zB,zB,zB,zB] (tN (tL 452 [zS,zL]) 454 [zS,zL] .nil)) 464 [zS,zS] (tN (tN (tL 470 [zL,zL]) 530 [zS,zS,zS,zS,zS,zS,zS,zS,zS,zS,zS] .nil) 538 [D.int IntKind.u8 0,D.int IntKind.u8 0] (tN (tL 544 [D.nilf]) 546 [D.nilf,zI] .nil))))
def aeM:fc (oe prog) Xy:=by unfold fc;kernel_rfl
def T0:Tr (List D×bH):=tN (tN (tN (tN (tN (tL 24 ([zS,zL],bH.struct [(0,1),(1,1)])) 28 ([zI,zI,zI,zI,zI,zI],bH.struct [(0,1),(1,1),(2,1),(3,1),(4,1),(5,1)]) (tL 32 ([zI,zS,zL,zL,zI,zI,zI,zI,zI,zI,zB,zI,zI,zI,zI,zI,zI,zL,zL],bH.struct [(0,1),(1,2),(3,1),(4,6),(10,1),(11,6),(17,1),(18,1)]))) 34 ([zL,zI],bH.struct [(0,1),(1,1)]) (tN (tL 36 ([zI,zS,zL,zL,zI,zI,zI,zI,zI,zI,zB,zI,zI,zI,zI,zI,zI,zL,zL,zS,zL,zL,zI],bH.struct [(0,19),(19,2),(21,2)])) 44 ([zI,zI],bH.struct [(0,1),(1,1)]) (tL 53 ([zS,zL],bH.struct [(0,1),(1,1)])))) 86 ([zS,zB,zL],bH.struct [(0,1),(1,1),(2,1)]) (tN (tN (tL 103 ([zL,zL,zI,zI],bH.struct [(0,1),(1,1),(2,2)])) 106 ([zI,zI,zB,zI,zI,zI],bH.struct [(0,1),(1,1),(2,1),(3,1),(4,1),(5,1)]) (tL 129 ([zI,zI,zB,zL,zL],bH.struct [(0,1),(1,1),(2,1),(3,1),(4,1)]))) 146 ([zI,zB],bH.struct [(0,1),(1,1)]) (tN (tL 179 ([zI,zI,zI,zI,zB,zL,zL,zL],bH.struct [(0,1),(1,1),(2,5),(7,1)])) 219 ([zI,zI,zB,zI,zI],bH.struct [(0,1),(1,1),(2,1),(3,1),(4,1)]) .nil))) 226 ([zB,zL,zL,zL],bH.struct [(0,1),(1,1),(2,1),(3,1)]) (tN (tN (tN (tL 228 ([zB,zB,zI],bH.struct [(0,1),(1,1),(2,1)])) 230 ([zB,zI,zB,zI],bH.struct [(0,1),(1,1),(2,1),(3,1)]) (tL 234 ([zL,zL],bH.struct [(0,1),(1,1)]))) 237 ([zL,zL,zB,zB,zB,zB,zI],bH.struct [(0,1),(1,1),(2,1),(3,1),(4,1),(5,1),(6,1)]) (tN (tL 241 ([zI,zS,zB,zL,zI,zL,zL,zB,zL,zL,zL,zB,zB,zI,zB,zI,zB,zI,zL,zL,zL,zL,zL,zL,zL,zB,zB,zB,zB,zI,zL,zL,zI,zI,zI,zI,zI,zI],bH.struct [(0,1),(1,1),(2,1),(3,1),(4,1),(5,1),(6,1),(7,4),(11,3),(14,4),(18,1),(19,1),(20,2),(22,1),(23,7),(30,1),(31,1),(32,6)])) 269 ([zI,zI,zI,zI,zI,zI,zI,zI,zI,zI,zI,zI],bH.array 1) (tL 274 ([zS,zS,D.nili],bH.struct [(0,1),(1,1),(2,1)])))) 299 ([D.nilf,D.nilf,D.nilf],bH.struct [(0,1),(1,1),(2,1)]) (tN (tN (tL 301 ([D.nilf,D.nilf,D.nilf],bH.struct [(0,1),(1,1),(2,1)])) 307 ([D.nilf,D.nilf,D.nilf],bH.struct [(0,1),(1,1),(2,1)]) (tL 313 ([D.nilf,D.nilf,D.nilf],bH.struct [(0,1),(1,1),(2,1)]))) 319 ([D.nilf,D.nilf,D.nilf],bH.struct [(0,1),(1,1),(2,1)]) (tN (tL 321 ([D.nilf,D.nilf,D.nilf],bH.struct [(0,1),(1,1),(2,1)])) 327 ([D.nilf,D.nilf,D.nilf],bH.struct [(0,1),(1,1),(2,1)]) .nil)))) 331 ([D.nilf,D.nilf,D.nilf],bH.struct [(0,1),(1,1),(2,1)]) (tN (tN (tN (tN (tL 337 ([D.nilf,D.nilf,D.nilf],bH.struct [(0,1),(1,1),(2,1)])) 343 ([D.nilf,D.nilf,D.nilf],bH.struct [(0,1),(1,1),(2,1)]) (tL 349 ([D.nilf,D.nilf,D.nilf],bH.struct [(0,1),(1,1),(2,1)]))) 355 ([D.nilf,D.nilf,D.nilf],bH.struct [(0,1),(1,1),(2,1)]) (tN (tL 361 ([D.nilf,D.nilf,D.nilf],bH.struct [(0,1),(1,1),(2,1)])) 367 ([D.nilf,D.nilf,D.nilf],bH.struct [(0,1),(1,1),(2,1)]) (tL 373 ([D.nilf,D.nilf,D.nilf],bH.struct [(0,1),(1,1),(2,1)])))) 384 ([D.int IntKind.u64 0,D.int IntKind.u64 0,D.int IntKind.u64 0,D.int IntKind.u64 0,D.int IntKind.u64 0,D.int IntKind.u64 0,D.int IntKind.u64 0,D.int IntKind.u64 0,D.int IntKind.u64 0,D.int IntKind.u64 0,D.int IntKind.u64 0,D.int IntKind.u64 0,D.int IntKind.u64 0,D.int IntKind.u64 0,D.int IntKind.u64 0,D.int IntKind.u64 0,D.int IntKind.u64 0,D.int IntKind.u64 0,D.int IntKind.u64 0,D.int IntKind.u64 0],bH.array 1) (tN (tN (tL 391 ([zI,zS],bH.struct [(0,1),(1,1)])) 393 ([zI,zS,zS,zL,zL,zI,zS,zI,zS],bH.struct [(0,1),(1,1),(2,1),(3,1),(4,1),(5,2),(7,2)]) (tL 403 ([zL,zL,zI,zL],bH.struct [(0,1),(1,1),(2,1),(3,1)]))) 410 ([D.nilf,D.nilf],bH.struct [(0,1),(1,1)]) (tN (tL 413 ([zS,zI,zS,zS,zL,zL,zI,zS,zI,zS],bH.struct [(0,1),(1,9)])) 418 ([D.nilf,D.nilf],bH.struct [(0,1),(1,1)]) .nil))) 421 ([zS,zL],bH.struct [(0,1),(1,1)]) (tN (tN (tN (tL 436 ([zL,zL],bH.struct [(0,1),(1,1)])) 441 ([zL,zL,zI,zL,zB,zB,zB,zB,zB,zB],bH.struct [(0,2),(2,1),(3,1),(4,6)]) (tL 468 ([zL],bH.struct [(0,1)]))) 470 ([zL,zL],bH.struct [(0,1),(1,1)]) (tN (tL 482 ([zS,zS,D.nili],bH.struct [(0,1),(1,1),(2,1)])) 492 ([zI,zL],bH.struct [(0,1),(1,1)]) .nil)) 521 ([zS],bH.struct [(0,1)]) (tN (tN (tL 522 ([D.int IntKind.u8 0,D.int IntKind.u8 0,D.int IntKind.u8 0,D.int IntKind.u8 0,D.int IntKind.u8 0,D.int IntKind.u8 0,D.int IntKind.u8 0,D.int IntKind.u8 0,D.int IntKind.u8 0,D.int IntKind.u8 0,D.int IntKind.u8 0,D.int IntKind.u8 0,D.int IntKind.u8 0,D.int IntKind.u8 0,D.int IntKind.u8 0,D.int IntKind.u8 0,D.int IntKind.u8 0,D.int IntKind.u8 0,D.int IntKind.u8 0,D.int IntKind.u8 0,D.int IntKind.u8 0,D.int IntKind.u8 0,D.int IntKind.u8 0,D.int IntKind.u8 0,D.int IntKind.u8 0,D.int IntKind.u8 0,D.int IntKind.u8 0,D.int IntKind.u8 0,D.int IntKind.u8 0,D.int IntKind.u8 0,D.int IntKind.u8 0,D.int IntKind.u8 0],bH.array 1)) 523 ([D.int IntKind.u8 0,D.int IntKind.u8 0,D.int IntKind.u8 0,D.int IntKind.u8 0,D.int IntKind.u8 0,D.int IntKind.u8 0,D.int IntKind.u8 0,D.int IntKind.u8 0,D.int IntKind.u8 0,D.int IntKind.u8 0,D.int IntKind.u8 0,D.int IntKind.u8 0,D.int IntKind.u8 0,D.int IntKind.u8 0,D.int IntKind.u8 0,D.int IntKind.u8 0,D.int IntKind.u8 0,D.int IntKind.u8 0,D.int IntKind.u8 0,D.int IntKind.u8 0,D.int IntKind.u8 0,D.int IntKind.u8 0,D.int IntKind.u8 0,D.int IntKind.u8 0,D.int IntKind.u8 0,D.int IntKind.u8 0,D.int IntKind.u8 0,D.int IntKind.u8 0,D.int IntKind.u8 0,D.int IntKind.u8 0,D.int IntKind.u8 0,D.int IntKind.u8 0,D.int IntKind.u8 0,D.int IntKind.u8 0,D.int IntKind.u8 0,D.int IntKind.u8 0,D.int IntKind.u8 0,D.int IntKind.u8 0,D.int IntKind.u8 0,D.int IntKind.u8 0,D.int IntKind.u8 0,D.int IntKind.u8 0,D.int IntKind.u8 0,D.int IntKind.u8 0,D.int IntKind.u8 0,D.int IntKind.u8 0,D.int IntKind.u8 0,D.int IntKind.u8 0,D.int IntKind.u8 0,D.int IntKind.u8 0,D.int IntKind.u8 0,D.int IntKind.u8 0,D.int IntKind.u8 0,D.int IntKind.u8 0,D.int IntKind.u8 0,D.int IntKind.u8 0,D.int IntKind.u8 0,D.int IntKind.u8 0,D.int IntKind.u8 0,D.int IntKind.u8 0,D.int IntKind.u8 0,D.int IntKind.u8 0,D.int IntKind.u8 0,D.int IntKind.u8 0],bH.array 1) (tL 530 ([zS,zS,zS,zS,zS,zS,zS,zS,zS,zS,zS],bH.array 1))) 538 ([D.int IntKind.u8 0,D.int IntKind.u8 0],bH.struct [(0,1),(1,1)]) (tN (tL 539 ([D.int IntKind.u8 0,D.int IntKind.u8 0,D.int IntKind.u8 0,D.int IntKind.u8 0,D.int IntKind.u8 0,D.int IntKind.u8 0,D.int IntKind.u8 0,D.int IntKind.u8 0,D.int IntKind.u8 0,D.int IntKind.u8 0,D.int IntKind.u8 0,D.int IntKind.u8 0,D.int IntKind.u8 0,D.int IntKind.u8 0,D.int IntKind.u8 0,D.int IntKind.u8 0,D.int IntKind.u8 0,D.int IntKind.u8 0,D.int IntKind.u8 0,D.int IntKind.u8 0,D.int IntKind.u8 0,D.int IntKind.u8 0,D.int IntKind.u8 0,D.int IntKind.u8 0,D.int IntKind.u8 0,D.int IntKind.u8 0,D.int IntKind.u8 0,D.int IntKind.u8 0,D.int IntKind.u8 0,D.int IntKind.u8 0,D.int IntKind.u8 0,D.int IntKind.u8 0],bH.array 2)) 546 ([D.nilf,zI],bH.struct [(0,1),(1,1)]) .nil))))
def acN:fc (Ic prog) T0:=by unfold fc;kernel_rfl
def aeN:Tr (List D×Nat):=tN (tN (tN (tN (tL 22 ([D.int IntKind.u8 0],1)) 26 ([zL],1) (tL 29 ([zL,zI,zI,zI,zI,zI,zI,zL],8))) 30 ([zS,zB,zL],3) (tN (tL 55 ([zS,zL],2)) 58 ([zL],1) .nil)) 99 ([zI,zI,zB,zI,zI,zI],6) (tN (tN (tL 127 ([zI,zI,zB,zL,zL],5)) 154 ([zI],1) .nil) 171 ([D.int IntKind.u64 0],1) (tN (tL 175 ([D.int IntKind.u32 0],1)) 177 ([zI,zI,zI,zI,zB,zL,zL,zL],8) .nil))) 185 ([zI,zS,zB,zL,zI,zL,zL,zB,zL,zL,zL,zB,zB,zI,zB,zI,zB,zI,zL,zL,zL,zL,zL,zL,zL,zB,zB,zB,zB,zI,zL,zL,zI,zI,zI,zI,zI,zI],38) (tN (tN (tN (tL 214 ([zS],1)) 224 ([zI,zS,zS,zL,zL,zI,zS,zI,zS],9) (tL 231 ([zS,zL],2))) 232 ([zS,zS],2) (tN (tL 235 ([zL,zL,zI,zL],4)) 238 ([zS,zI,zS,zS,zL,zL,zI,zS,zI,zS],10) .nil)) 239 ([zS,zL],2) (tN (tN (tL 253 ([D.nilp],1)) 446 ([zL],1) .nil) 450 ([zS,zL],2) (tN (tL 474 ([zB],1)) 526 ([zI,zS],2) .nil)))
def aho:fc (G9 prog) aeN:=by unfold fc;kernel_rfl
def abt:Tr (Nat×Nat):=tN (tL 22 (1,1)) 214 (1,16) .nil
def afW:fc (vA prog) abt:=by unfold fc;kernel_rfl
def aeO:Tr (EK):=tN (tN (tN (tL 2 EK.prim) 3 EK.prim (tL 4 EK.bool)) 5 EK.prim (tN (tL 9 EK.prim) 12 EK.prim (tL 21 EK.prim))) 28 (EK.flat [LK.i,LK.i,LK.i,LK.i,LK.i,LK.i]) (tN (tN (tL 40 EK.prim) 44 (EK.flat [LK.i,LK.i]) (tL 172 EK.prim)) 174 EK.prim (tN (tL 247 EK.iface) 257 EK.ptr (tL 391 (EK.flat [LK.i,LK.s]))))
def HB:fc (Ni prog) aeO:=by unfold fc;kernel_rfl
def Xz:Tr (CK):=tN (tN (tN (tN (tL 131077 (CK.int IntKind.u8)) 131244 (CK.int IntKind.u64) (tL 196613 (CK.int IntKind.u8))) 196780 (CK.int IntKind.u64) (tN (tL 196781 (CK.int IntKind.u64)) 327682 (CK.int IntKind.i64) .nil)) 327683 (CK.int IntKind.i64) (tN (tN (tL 327692 (CK.int IntKind.u64)) 327701 (CK.int IntKind.i32) .nil) 327852 (CK.int IntKind.u64) (tN (tL 327854 (CK.int IntKind.u32)) 327881 (CK.int IntKind.i8) .nil))) 589846 CK.toBytes (tN (tN (tN (tL 1376261 (CK.int IntKind.u8)) 1376430 (CK.int IntKind.u32) (tL 1441801 CK.toStr)) 2424835 (CK.int IntKind.i64) (tN (tL 11272195 (CK.int IntKind.i64)) 11272197 (CK.int IntKind.u8) .nil)) 11272366 (CK.int IntKind.u32) (tN (tN (tL 11337902 (CK.int IntKind.u32)) 11403269 (CK.int IntKind.u8) .nil) 11403285 (CK.int IntKind.i32) (tN (tL 11403436 (CK.int IntKind.u64)) 13172738 (CK.int IntKind.i64) .nil)))
def aeP:fc (λk=>LG prog (k / 65536) (k % 65536)) Xz:=by unfold fc;kernel_rfl
def XA:Tr (Unit):=tN (tN (tN (tN (tL 9 ()) 299 () .nil) 301 () (tL 307 ())) 313 () (tN (tN (tL 319 ()) 321 () .nil) 327 () (tL 331 ()))) 337 () (tN (tN (tN (tL 343 ()) 349 () .nil) 355 () (tL 361 ())) 367 () (tN (tN (tL 373 ()) 377 () .nil) 379 () (tL 519 ())))
def aeQ:fc (PY prog) XA:=by unfold fc;kernel_rfl
def abu:Tr (SK):=tN (tN (tN (tL 9 SK.string) 22 (SK.slice 1) .nil) 58 (SK.slice 1) (tL 99 (SK.slice 6))) 171 (SK.slice 1) (tN (tN (tL 175 (SK.slice 1)) 214 (SK.slice 1) .nil) 284 (SK.array 24 1) (tL 385 (SK.array 65 1)))
def afX:fc (yC prog) abu:=by unfold fc;kernel_rfl
def abv:Tr (IK):=tN (tN (tN (tN (tL 22 (IK.slice 1)) 26 (IK.slice 1) (tL 29 (IK.slice 8))) 30 (IK.slice 3) (tN (tL 55 (IK.slice 2)) 58 (IK.slice 1) (tL 99 (IK.slice 6)))) 154 (IK.slice 1) (tN (tN (tL 171 (IK.slice 1)) 175 (IK.slice 1) (tL 214 (IK.slice 1))) 224 (IK.slice 9) (tN (tL 231 (IK.slice 2)) 232 (IK.slice 2) (tL 235 (IK.slice 4))))) 238 (IK.slice 10) (tN (tN (tN (tL 239 (IK.slice 2)) 253 (IK.slice 1) (tL 284 (IK.array 24 1))) 384 (IK.array 20 1) (tN (tL 385 (IK.array 65 1)) 439 (IK.array 6 1) (tL 446 (IK.slice 1)))) 450 (IK.slice 2) (tN (tN (tL 474 (IK.slice 1)) 522 (IK.array 32 1) (tL 523 (IK.array 64 1))) 526 (IK.slice 2) (tN (tL 530 (IK.array 11 1)) 536 (IK.array 256 1) (tL 539 (IK.array 16 2)))))
def afY:fc (Po prog) abv:=by unfold fc;kernel_rfl
def XC:Tr (IVK):=tN (tL 9 IVK.string) 269 (IVK.array 12 1 false) (tL 443 IVK.string)
def aeR:fc (K0 prog) XC:=by unfold fc;kernel_rfl
def abw:Tr (LK×D):=tN (tN (tL 140 (LK.s,zB)) 275 (LK.i,D.agg [zS,zS,D.nili]) .nil) 488 (LK.i,D.nilf) (tL 547 (LK.i,D.agg [D.nilf,zI]))
def afZ:fc (yo prog) abw:=by unfold fc;kernel_rfl
def abx:Tr (iE):=tN (tN (tN (tN (tL 9 iE.string) 22 iE.slice (tL 26 iE.slice)) 29 iE.slice (tN (tL 30 iE.slice) 55 iE.slice .nil)) 58 iE.slice (tN (tN (tL 99 iE.slice) 154 iE.slice .nil) 171 iE.slice (tN (tL 175 iE.slice) 214 iE.slice .nil))) 224 iE.slice (tN (tN (tN (tL 231 iE.slice) 232 iE.slice .nil) 235 iE.slice (tN (tL 238 iE.slice) 239 iE.slice .nil)) 253 iE.slice (tN (tN (tL 443 iE.string) 446 iE.slice .nil) 450 iE.slice (tN (tL 474 iE.slice) 526 iE.slice .nil)))
def af0:fc (Pz prog) abx:=by unfold fc;kernel_rfl
def aby:Tr (Nat×Nat):=tN (tN (tN (tN (tL 1441801 (1,1)) 1441814 (1,1) .nil) 1703962 (1,24) (tN (tL 1900573 (8,96)) 1966110 (3,48) .nil)) 3604535 (2,40) (tN (tN (tL 3801146 (1,24)) 6488163 (6,48) .nil) 8323199 (5,72) (tN (tL 10092698 (1,8)) 11206827 (1,8) .nil))) 11468975 (1,4) (tN (tN (tN (tL 11600049 (8,112)) 12124345 (38,520) .nil) 14024918 (1,16) (tN (tL 14680288 (9,136)) 15139047 (2,40) .nil)) 15204584 (2,32) (tN (tN (tL 15401195 (4,80)) 15597806 (10,152) .nil) 15663343 (2,40) (tL 29491650 (2,40))))
def Br:fc (λk=>Bi prog (k / 65536) (k % 65536)) aby:=by unfold fc;kernel_rfl
def R0:List (Nat×String×Nat):=[(299,"cretula/dispatch.decode",417),(301,"cretula/dispatch.decode",420),(307,"cretula/dispatch.decode",423),(313,"cretula/dispatch.decode",426),(319,"cretula/dispatch.decode",429),(321,"cretula/dispatch.decode",432),(327,"cretula/dispatch.decode",435),(331,"cretula/dispatch.decode",438),(337,"cretula/dispatch.decode",441),(343,"cretula/dispatch.decode",444),(349,"cretula/dispatch.decode",447),(355,"cretula/dispatch.decode",450),(361,"cretula/dispatch.decode",453),(367,"cretula/dispatch.decode",456),(373,"cretula/dispatch.decode",459)]
def aeS:(R0.map λp=>Gf prog p.1 p.2.1)=R0.map λp=>some p.2.2:=by kernel_rfl
def T:Tys:=⟨aeK,abs,Xx,Xy,T0,aeN,abt,aeO,Xz,XA,abu,abv,XC,abw,abx,aby,R0,abr⟩
def tok:TOk T prog:=⟨ahn,afV,aeL,aeM,acN,aho,afW,HB,aeP,aeQ,afX,afY,aeR,afZ,af0,Br,aeS,afU⟩
end Go.Proofs.Tryz

namespace Go.Fw
open Go.RowKit
def lA{G:Gh}{w h:World}(d:nK G w)(c:Below w.heap.size w h):Em G G w h where
 le:=.refl G
 below:=c
 blk:=rfl
 imm b o v hi:=by
  have a:=d.imm b o v hi;rw[c.cell (p:=⟨b,o,none⟩) (iD a)];exact a
 mimm b es hm:=by
  obtain⟨a,e⟩:=d.mimm b es hm;exact⟨(c.block b (dD a)).trans a,e⟩
 siz b n hs:=by
  obtain⟨k,i,f,g,j⟩:=d.siz b n hs;exact⟨k,i,f,(c.block b (dD g)).trans g,j⟩
 imm_new _ _ _:=rfl
 mimm_new _ _:=rfl
def C1:Nat:=140737488355328
def jU(xs:List (List UInt8))(a:List UInt8):Option (List UInt8):=
 bif Nat.ble xs.length C1&&Nat.ble (Lib.join xs a).length C1 then some (Lib.join xs a) else none
def QJ:Ctr:=⟨[.hole (.sl .str),.hole .str],.hole .str,λ(x:List (List UInt8)×List UInt8)=>jU x.1 x.2⟩
def Ly{G:Gh}{w:World}(e:nK G w){b:Nat}:∀{xs:List (List UInt8)}{o:Nat},Cells G b o (dC uf xs)->∀(j:Nat) x,xs[j]?=some x->w.cell? ⟨b,o+j,none⟩=some (.string ⟨x.toArray⟩)
 |[],_,_,j,x,a=>by simp at a
 |y::c,o,h,j,x,a=>by
  rw[show dC uf (y::c)=.str y::dC uf c from uf.fcons y c]at h;simp only[Cells]at h;obtain⟨⟨v,f,d⟩,g⟩:=h;cases j with
  |zero=>
   simp at a;subst a;simp only[Rep]at d;rw[aj1,e.imm _ _ _ f,d]
  |succ j=>
   have:=Ly e g j x (by simpa using a);rw[show o+(j+1)=o+1+j from by omega];exact this
def Zb{P:Program}{f:FuncId}(I:jC P f)
 (F:∀(a:Option Addr)(c:Nat)(d:ByteArray)(w:World),Calls P f #[.slice a 0 c,.string d] w λe p=>e=.returned (.string ⟨#[]⟩)/\p=w)
 (h:∀(bk o c:Nat)(xs:List ByteArray)(d:ByteArray)(w:World),(∀(j:Nat) x,xs[j]?=some x->w.cell? ⟨bk,o+j,none⟩=some (.string x))->bk<w.heap.size->xs.length<=140737488355328->xs.length<=c->
   (Lib.join (xs.map (·.data.toList)) d.data.toList).length<=140737488355328->
   Calls P f #[.slice (some ⟨bk,o,none⟩) xs.length c,.string d] w λe p=>e=.returned (.string ⟨(Lib.join (xs.map (·.data.toList)) d.data.toList).toArray⟩)/\Below w.heap.size w p):fJ P f QJ:=by
 refine⟨I,rfl,rfl,?_⟩;rintro⟨xs,d⟩ y i;have i:jU xs d=some y:=i;unfold jU at i;cases m:(Nat.ble xs.length C1&&Nat.ble (Lib.join xs d).length C1) with
 |false=>rw[m]at i;cases i
 |true=>
  rw[m]at i;cases i;simp only[ahF]at m;have K:=ahR m.1;have J:=ahR m.2;refine⟨.str (Lib.join xs d),rfl,λ_ _=>by simp only[SV.can,VR],?_⟩;intro Y u R n;cases u;simp only[VRs]at n;obtain⟨Q,_,rfl,⟨S,rfl,_⟩,d2,_,rfl,rfl,rfl⟩:=n;intro G w E r T A;simp only[af]at A;obtain⟨W,_,rfl,C,X,_,rfl,D,rfl⟩:=A;simp only[Rep]at C D;subst D;obtain⟨a,k,rfl,N,U,V,O⟩:=C;cases xs with
  |nil=>
   refine(F a k ⟨d.toArray⟩ w).mono ?_;rintro e p ⟨rfl,rfl⟩;refine⟨_,G,rfl,lA r (aiS _ _),?_⟩;simp only[SV.can,Rep];rfl
  |cons x xs=>
   rcases O with⟨b,o,rfl,q⟩|q
   ·have g:=Ly r (xs:=x::xs) q;have t:∀l:List (List UInt8),(l.map λs:List UInt8=>(⟨s.toArray⟩:ByteArray)).map (·.data.toList)=l:=by
     intro l;induction l with
     |nil=>rfl
     |cons a l M=>rw[ahU,ahU,M]
    have v:=t (x::xs);have:=h b o k ((x::xs).map λs=>⟨s.toArray⟩) ⟨d.toArray⟩ w (λj z B=>by
     rw[aiJ]at B;obtain⟨s,L,rfl⟩:=ajg.1 B;exact g j s L) (iD (g 0 x rfl)) (by rw[aiq];exact K) (by rw[aiq];exact N) (by rw[v];exact J)
    rw[v,aiq]at this;refine Calls.mono this ?_;rintro e p ⟨rfl,H⟩;refine⟨_,G,rfl,lA r H,?_⟩;simp only[SV.can,Rep]
   ·rw[show TC.flat .str (x::xs)=.str x::dC uf xs from uf.fcons x xs]at q;cases q
def Zc{P:Program}{G:Gh}{w:World}(i:nK G w)(f:GlobOk P G w){g:Nat}(j:oa P g=some [.anyi]):∃ev,w.cell? ⟨g,0,none⟩=some ev/\∃l k,ev=.iface l k:=by
 have h:=(f.1 g _ j).2;simp only[Rep]at h;obtain⟨b,o,a,c⟩:=h;simp only[Value.pointer.injEq,ahI,Addr.mk.injEq]at a;obtain⟨rfl,a,_⟩:=a;simp only[Cells]at c;obtain⟨⟨v,e,d⟩,_⟩:=c;simp only[Rep]at d;have:o=0:=by omega
 subst this;exact⟨v,i.imm _ _ _ e,d⟩
def Wq{P:Program}{f:FuncId}{te:TypeId}{g k:Nat}{s:List UInt8}(m:oa P g=some [.anyi])
 (h:∀(ev:Value)(w:World),w.cell? ⟨g,0,none⟩=some ev->(ev=.nilIface∨∃te o,ev=.iface te o)->
   Calls P f #[.string ⟨s.toArray⟩,.int .i64 10,.int .i64 32] w λe d=>∃N,e=.returned (.tuple #[.int .u64 k,.iface te (.pointer (some ⟨N,0,none⟩))])/\Below w.heap.size w d):
 fq P f [.str s,.int .i64 10,.int .i64 32] (.tuple [.int .u64 k,.anyi]):=by
 intro G w c a i b;simp only[af,Rep]at b;obtain⟨_,_,rfl,rfl,_,_,rfl,rfl,_,_,rfl,rfl,rfl⟩:=b;obtain⟨ev,l,n⟩:=Zc a i m;refine(h ev w l (.inr n)).mono ?_;rintro e d ⟨N,rfl,j⟩;refine⟨_,G,rfl,lA a j,?_⟩;simp only[Rep,af];exact⟨_,rfl,_,_,rfl,rfl,_,_,rfl,⟨_,_,rfl⟩,rfl⟩
def abZ{P:Program}{f:FuncId}{k:Nat}{s:List UInt8}
 (h:∀w:World,Calls P f #[.string ⟨s.toArray⟩,.int .i64 10,.int .i64 32] w λe c=>e=.returned (.tuple #[.int .u64 k,.nilIface])/\Below w.heap.size w c):
 fq P f [.str s,.int .i64 10,.int .i64 32] (.tuple [.int .u64 k,.nili]):=by
 intro G w b d i a;simp only[af,Rep]at a;obtain⟨_,_,rfl,rfl,_,_,rfl,rfl,_,_,rfl,rfl,rfl⟩:=a;refine(h w).mono ?_;rintro e c ⟨rfl,g⟩;refine⟨_,G,rfl,lA d g,?_⟩;simp only[Rep,af];exact⟨_,rfl,_,_,rfl,rfl,_,_,rfl,rfl,rfl⟩
end Go.Fw
def ai5:=@Go.Proofs.Tryz.underlying5
def ajp:=@Go.Proofs.Tryz.zeroValue5
def ajs:=@Go.Proofs.Tryz.underlying9
def ajI:=@Go.Proofs.Tryz.underlying3
def ajJ:=@Go.Proofs.Tryz.underlying4
def ajR:=@Go.Proofs.Tryz.zeroValue3
def ajS:=@Go.Proofs.Tryz.zeroValue9
def ajT:=@Go.Proofs.Tryz.zeroValue4
def ajW:=@Go.Proofs.Tryz.sizeOf5
def aj2:=@Go.Proofs.Tryz.underlying21
def aj3:=@Go.Proofs.Tryz.isAgg5
def aj8:=@Go.Proofs.Tryz.zeroValue21
def akf:=@Go.Proofs.Tryz.sizeOf3
def akg:=@Go.Proofs.Tryz.sizeOf9
def akh:=@Go.Proofs.Tryz.sizeOf4
def akr:=@Go.Proofs.Tryz.isAgg3
def aks:=@Go.Proofs.Tryz.isAgg9
def akt:=@Go.Proofs.Tryz.isAgg4
def akD:=@Go.Proofs.Tryz.sizeOf21
def akI:=@Go.Proofs.Tryz.underlying284
def akQ:=@Go.Proofs.Tryz.isAgg21
def akS:=@Go.Proofs.Tryz.underlying22
def ak1:=@Go.Proofs.Tryz.underlying0
def ak9:=@Go.Proofs.Tryz.zeroValue0
namespace Go.Proofs
open Go.Shelf
def Tryz.lays169_ren:Go.Shelf.Ren:=⟨λ|169=>151|n=>n,λ|70=>257|9=>9|0=>0|72=>259|37=>22|127=>289|3=>3|5=>5|n=>n,λ|n=>n⟩
def Tryz.lays169:Go.Proofs.Lays.n169 Tryz.prog Tryz.lays169_ren:=by constructor<;>first|kernel_rfl|(intro w;kernel_rfl)
def Tryz.Builder_Extra_169:Builder.Extra Tryz.prog Tryz.lays169_ren:={
 sizeBuilder:=by kernel_rfl
 liesBuilder:=by kernel_rfl
 t5:=ai5
 a5:=aj3
 z5:=ajW
 v5:=ajp
 infoByte:=by kernel_rfl
 cellsByte:=by kernel_rfl
 sizeByte:=by kernel_rfl
 neB5:=by decide}
def Tryz.lays156_ren:Go.Shelf.Ren:=⟨λ|156=>134|165=>149|166=>150|169=>151|240=>168|241=>169|276=>239|277=>240|n=>n,λ|31=>214|9=>9|3=>3|4=>4|0=>0|20=>20|72=>259|76=>261|70=>257|37=>22|75=>247|127=>289|164=>387|5=>5|80=>263|n=>n,λ|n=>n⟩
def Tryz.lays156:Go.Proofs.Lays.n156 Tryz.prog Tryz.lays156_ren:=by constructor<;>first|kernel_rfl|(intro w;kernel_rfl)
def Tryz.Builder_Extra_156:Builder.Extra Tryz.prog Tryz.lays156_ren:={
 sizeBuilder:=by kernel_rfl
 liesBuilder:=by kernel_rfl
 t5:=ai5
 a5:=aj3
 z5:=ajW
 v5:=ajp
 infoByte:=by kernel_rfl
 cellsByte:=by kernel_rfl
 sizeByte:=by kernel_rfl
 neB5:=by decide}
open Go.RowKit in
def Tryz.strings_Join_none(a:Option Addr)(c:Nat)(b:ByteArray)(w:World):
 Calls Tryz.prog 134 #[.slice a 0 c,.string b] w λe d=>e=.returned (.string ⟨#[]⟩)/\d=w:=Any.strings_Join_none Tryz.lays156 Tryz.Builder_Extra_156 a c b w
open Go.RowKit in
def Tryz.strings_Join(bk o c:Nat)(xs:List ByteArray)(b:ByteArray)(w:World)(a:∀(j:Nat) x,xs[j]?=some x->w.cell? ⟨bk,o+j,none⟩=some (.string x))(g:bk<w.heap.size)(h:xs.length<=140737488355328)(d:xs.length<=c)(f:(Lib.join (xs.map (·.data.toList)) b.data.toList).length<=140737488355328):
 Calls Tryz.prog 134 #[.slice (some ⟨bk,o,none⟩) xs.length c,.string b] w λe i=>e=.returned (.string ⟨(Lib.join (xs.map (·.data.toList)) b.data.toList).toArray⟩)/\Below w.heap.size w i:=Any.strings_Join Tryz.lays156 Tryz.Builder_Extra_156 bk o c xs b w a g h d f
def Tryz.lays119_ren:Go.Shelf.Ren:=⟨λ|119=>387|n=>n,λ|21=>21|4=>4|n=>n,λ|n=>n⟩
def Tryz.lays119:Go.Proofs.Lays.n119 Tryz.prog Tryz.lays119_ren:=by constructor<;>first|kernel_rfl|(intro w;kernel_rfl)
def Tryz.utf8_ValidRune(r:Int)(w:World):
 Calls Tryz.prog 387 #[.int .i32 r] w λe a=>e=.returned (.bool (Lib.validRune r))/\a=w:=Any.utf8_ValidRune Tryz.lays119 r w
def Tryz.lays137_ren:Go.Shelf.Ren:=⟨λ|137=>398|217=>348|266=>372|n=>n,λ|9=>9|5=>5|3=>3|n=>n,λ|n=>n⟩
def Tryz.lays137:Go.Proofs.Lays.n137 Tryz.prog Tryz.lays137_ren:=by constructor<;>first|kernel_rfl|(intro w;kernel_rfl)
open Go.RowKit in
def Tryz.strings_IndexByte(s:ByteArray)(c:Int)(w:World):
 Calls Tryz.prog 398 #[.string s,.int .u8 c] w λe a=>e=.returned (.int .i64 (Lib.indexByte s.data.toList c.toNat.toUInt8))/\a=w:=Any.strings_IndexByte Tryz.lays137 s c w
open Go.RowKit in
def Tryz.Builder_String_any_k(B b:Nat)(l:List UInt8)(w:World)(h:Lib.IsBuilderF 259 5 B b (Lib.byteCells l) w)(a:B<=w.heap.size):
 Calls Tryz.prog 151 #[.pointer (some ⟨b,0,none⟩)] w λe c=>e=.returned (.string ⟨l.toArray⟩)/\(Lib.IsBuilderF 259 5 B b (Lib.byteCells l) c/\Below B w c/\Lib.OthersKept 5 (some b) w c):=Any.Builder_String_any_k Tryz.lays169 Tryz.Builder_Extra_169 B b l w h a
def Tryz.lays283_ren:Go.Shelf.Ren:=⟨λ|283=>164|n=>n,λ|3=>3|9=>9|4=>4|n=>n,λ|n=>n⟩
def Tryz.lays283:Go.Proofs.Lays.n283 Tryz.prog Tryz.lays283_ren:=by constructor<;>first|kernel_rfl|(intro w;kernel_rfl)
open Go.Lib in
def Tryz.internal_strconv_small(i:Nat)(h:i<100)(w:World):
 Calls Tryz.prog 164 #[.int .i64 i] w λe a=>e=.returned (.string ⟨(Lib.decDigits i).toArray⟩)/\a=w:=Any.internal_strconv_small Tryz.lays283 i h w
def Tryz.laysM284_ren:Go.Shelf.Ren:=⟨λ|284=>165|129=>235|317=>234|318=>236|n=>n,λ|53=>172|3=>3|212=>384|0=>0|4=>4|46=>173|5=>5|9=>9|n=>n,λ|17=>0|n=>n⟩
def Tryz.laysM284:Go.Proofs.LaysM.n284 Tryz.prog Tryz.laysM284_ren:={
 mixed:=by kernel_rfl
 f129:=Tryz.func235.trans (congrArg some (by kernel_rfl))
 f284:=Tryz.func165.trans (congrArg some (by kernel_rfl))
 f317:=Tryz.func234.trans (congrArg some (by kernel_rfl))
 f318:=Tryz.func236.trans (congrArg some (by kernel_rfl))
 t0:=ak1
 a0:=Tryz.isAgg0
 z0:=Tryz.sizeOf0
 v0:=ak9
 t3:=ajI
 a3:=akr
 z3:=akf
 v3:=ajR
 t4:=ajJ
 a4:=akt
 z4:=akh
 v4:=ajT
 t5:=ai5
 a5:=aj3
 z5:=ajW
 v5:=ajp
 t9:=ajs
 a9:=aks
 z9:=akg
 v9:=ajS
 t46:=Tryz.underlying173
 a46:=Tryz.isAgg173
 z46:=Tryz.sizeOf173
 v46:=Tryz.zeroValue173
 t53:=Tryz.underlying172
 a53:=Tryz.isAgg172
 z53:=Tryz.sizeOf172
 v53:=Tryz.zeroValue172
 t212:=Tryz.underlying384
 a212:=Tryz.isAgg384
 z212:=Tryz.sizeOf384
 v212:=Tryz.zeroValue384
 g17:=by kernel_rfl
 i0:=by kernel_rfl
 i3:=by kernel_rfl
 i4:=by kernel_rfl
 i5:=by kernel_rfl
 i9:=by kernel_rfl
 i46:=by kernel_rfl
 i53:=by kernel_rfl
 i212:=by kernel_rfl
 m17:=by kernel_rfl}
open Go.Lib in
def Tryz.internal_strconv_numDigits(u:Nat)(b:1<=u)(c:u<18446744073709551616)(w:World)(a:Lib.TabIs Tryz.prog w "internal/strconv.uint64pow10" .u64 Lib.pow10Tab):
 Calls Tryz.prog 165 #[.int .u64 u] w λe d=>e=.returned (.int .i64 (Lib.nDigits u))/\d=w:=Any.internal_strconv_numDigits Tryz.laysM284 u b c w a
def Tryz.lays285_ren:Go.Shelf.Ren:=⟨λ|285=>166|n=>n,λ|37=>22|53=>172|3=>3|4=>4|51=>174|9=>9|5=>5|0=>0|n=>n,λ|n=>n⟩
def Tryz.lays285:Go.Proofs.Lays.n285 Tryz.prog Tryz.lays285_ren:=by constructor<;>first|kernel_rfl|(intro w;kernel_rfl)
open Go.RowKit Go.Sort Go.Lib in
def Tryz.internal_strconv_formatBase10(blk off a:Nat)(u:Nat)(d:Array UInt8)(w:World)(hH:Holds (λ(b:UInt8)=>Value.int .u8 (b.toNat:Int)) w blk off d)(h:u<10 ^ d.size)(c:u<18446744073709551616)(f:d.size<4611686018427387904):
 Calls Tryz.prog 166 #[.slice (some ⟨blk,off,none⟩) d.size a,.int .u64 u] w λe i=>
  e=.returned (.tuple #[])/\∃(n v':Nat)(g:Array UInt8),i=(putRow (λ(b:UInt8)=>Value.int .u8 (b.toNat:Int)) w blk off g).drewN n/\FmtInv d.size u 0 v' g:=Any.internal_strconv_formatBase10 Tryz.lays285 blk off a u d w hH h c f
def Tryz.laysPu14_ren:Go.Shelf.Ren:=⟨λ|14=>143|16=>162|17=>163|19=>228|20=>229|21=>230|22=>231|23=>232|24=>233|25=>302|27=>304|26=>303|28=>352|29=>374|30=>164|31=>165|32=>166|33=>167|35=>235|34=>234|36=>236|37=>237|38=>238|39=>305|40=>306|n=>n,λ|9=>9|3=>3|22=>172|24=>247|25=>248|4=>4|34=>377|5=>5|36=>173|37=>22|0=>0|39=>379|21=>21|44=>482|47=>289|50=>521|48=>519|2=>2|52=>284|55=>287|59=>384|60=>174|20=>20|61=>385|65=>522|66=>523|67=>263|n=>n,λ|0=>1|1=>2|2=>0|3=>4|4=>5|n=>n⟩
def Tryz.laysPu14:Go.Proofs.LaysPu.n14 Tryz.prog Tryz.laysPu14_ren:={
 mixed:=by kernel_rfl
 f14:=Tryz.func143.trans (congrArg some (by kernel_rfl))
 f16:=Tryz.func162.trans (congrArg some (by kernel_rfl))
 f17:=Tryz.func163.trans (congrArg some (by kernel_rfl))
 f19:=Tryz.func228.trans (congrArg some (by kernel_rfl))
 f20:=Tryz.func229.trans (congrArg some (by kernel_rfl))
 f21:=Tryz.func230.trans (congrArg some (by kernel_rfl))
 f22:=Tryz.func231.trans (congrArg some (by kernel_rfl))
 f23:=Tryz.func232.trans (congrArg some (by kernel_rfl))
 f24:=Tryz.func233.trans (congrArg some (by kernel_rfl))
 f25:=Tryz.func302.trans (congrArg some (by kernel_rfl))
 f26:=Tryz.func303.trans (congrArg some (by kernel_rfl))
 f27:=Tryz.func304.trans (congrArg some (by kernel_rfl))
 f28:=Tryz.func352.trans (congrArg some (by kernel_rfl))
 f29:=Tryz.func374.trans (congrArg some (by kernel_rfl))
 f30:=Tryz.func164.trans (congrArg some (by kernel_rfl))
 f31:=Tryz.func165.trans (congrArg some (by kernel_rfl))
 f32:=Tryz.func166.trans (congrArg some (by kernel_rfl))
 f33:=Tryz.func167.trans (congrArg some (by kernel_rfl))
 f34:=Tryz.func234.trans (congrArg some (by kernel_rfl))
 f35:=Tryz.func235.trans (congrArg some (by kernel_rfl))
 f36:=Tryz.func236.trans (congrArg some (by kernel_rfl))
 f37:=Tryz.func237.trans (congrArg some (by kernel_rfl))
 f38:=Tryz.func238.trans (congrArg some (by kernel_rfl))
 f39:=Tryz.func305.trans (congrArg some (by kernel_rfl))
 f40:=Tryz.func306.trans (congrArg some (by kernel_rfl))
 t0:=ak1
 a0:=Tryz.isAgg0
 z0:=Tryz.sizeOf0
 v0:=ak9
 i0:=by kernel_rfl
 t2:=Tryz.underlying2
 a2:=Tryz.isAgg2
 z2:=Tryz.sizeOf2
 v2:=Tryz.zeroValue2
 i2:=by kernel_rfl
 t3:=ajI
 a3:=akr
 z3:=akf
 v3:=ajR
 i3:=by kernel_rfl
 t4:=ajJ
 a4:=akt
 z4:=akh
 v4:=ajT
 i4:=by kernel_rfl
 t5:=ai5
 a5:=aj3
 z5:=ajW
 v5:=ajp
 i5:=by kernel_rfl
 t9:=ajs
 a9:=aks
 z9:=akg
 v9:=ajS
 i9:=by kernel_rfl
 t20:=Tryz.underlying20
 a20:=Tryz.isAgg20
 z20:=Tryz.sizeOf20
 v20:=Tryz.zeroValue20
 i20:=by kernel_rfl
 t21:=aj2
 a21:=akQ
 z21:=akD
 v21:=aj8
 i21:=by kernel_rfl
 t22:=Tryz.underlying172
 a22:=Tryz.isAgg172
 z22:=Tryz.sizeOf172
 v22:=Tryz.zeroValue172
 i22:=by kernel_rfl
 t24:=Tryz.underlying247
 a24:=Tryz.isAgg247
 z24:=Tryz.sizeOf247
 v24:=Tryz.zeroValue247
 i24:=by kernel_rfl
 t25:=Tryz.underlying248
 a25:=Tryz.isAgg248
 z25:=Tryz.sizeOf248
 v25:=Tryz.zeroValue248
 i25:=by kernel_rfl
 t34:=Tryz.underlying377
 a34:=Tryz.isAgg377
 z34:=Tryz.sizeOf377
 v34:=Tryz.zeroValue377
 i34:=by kernel_rfl
 c34:=by kernel_rfl
 t36:=Tryz.underlying173
 a36:=Tryz.isAgg173
 z36:=Tryz.sizeOf173
 v36:=Tryz.zeroValue173
 i36:=by kernel_rfl
 t37:=akS
 a37:=Tryz.isAgg22
 z37:=Tryz.sizeOf22
 v37:=Tryz.zeroValue22
 i37:=by kernel_rfl
 t39:=Tryz.underlying379
 a39:=Tryz.isAgg379
 z39:=Tryz.sizeOf379
 v39:=Tryz.zeroValue379
 i39:=by kernel_rfl
 t44:=Tryz.underlying482
 a44:=Tryz.isAgg482
 z44:=Tryz.sizeOf482
 v44:=Tryz.zeroValue482
 i44:=by kernel_rfl
 t47:=Tryz.underlying289
 a47:=Tryz.isAgg289
 z47:=Tryz.sizeOf289
 v47:=Tryz.zeroValue289
 i47:=by kernel_rfl
 t48:=Tryz.underlying519
 a48:=Tryz.isAgg519
 z48:=Tryz.sizeOf519
 v48:=Tryz.zeroValue519
 i48:=by kernel_rfl
 t50:=Tryz.underlying521
 a50:=Tryz.isAgg521
 z50:=Tryz.sizeOf521
 v50:=Tryz.zeroValue521
 i50:=by kernel_rfl
 t52:=akI
 a52:=Tryz.isAgg284
 z52:=Tryz.sizeOf284
 v52:=Tryz.zeroValue284
 i52:=by kernel_rfl
 t55:=Tryz.underlying287
 a55:=Tryz.isAgg287
 z55:=Tryz.sizeOf287
 v55:=Tryz.zeroValue287
 i55:=by kernel_rfl
 t59:=Tryz.underlying384
 a59:=Tryz.isAgg384
 z59:=Tryz.sizeOf384
 v59:=Tryz.zeroValue384
 i59:=by kernel_rfl
 t60:=Tryz.underlying174
 a60:=Tryz.isAgg174
 z60:=Tryz.sizeOf174
 v60:=Tryz.zeroValue174
 i60:=by kernel_rfl
 t61:=Tryz.underlying385
 a61:=Tryz.isAgg385
 z61:=Tryz.sizeOf385
 t65:=Tryz.underlying522
 a65:=Tryz.isAgg522
 z65:=Tryz.sizeOf522
 v65:=Tryz.zeroValue522
 i65:=by kernel_rfl
 t66:=Tryz.underlying523
 a66:=Tryz.isAgg523
 z66:=Tryz.sizeOf523
 v66:=Tryz.zeroValue523
 i66:=by kernel_rfl
 t67:=Tryz.underlying263
 a67:=Tryz.isAgg263
 z67:=Tryz.sizeOf263
 v67:=Tryz.zeroValue263
 i67:=by kernel_rfl
 g0:=by kernel_rfl
 m0:=by kernel_rfl
 g1:=by kernel_rfl
 m1:=by kernel_rfl
 g2:=by kernel_rfl
 m2:=by kernel_rfl
 g3:=by kernel_rfl
 m3:=by kernel_rfl
 g4:=by kernel_rfl
 m4:=by kernel_rfl}
open Go.RowKit in
def Tryz.strconv_ParseUint_10_at32_ok(s:ByteArray)(a:s.size<=9223372036854775806)(u:Nat)(h:Lib.parseUintB 32 s.data.toList=.ok u)(w:World):
 Calls Tryz.prog 143 #[.string s,.int .i64 10,.int .i64 32] w λe b=>e=.returned (.tuple #[.int .u64 u,.nilIface])/\(b=w∨b=Lib.bytesWorld w 5 s):=Any.strconv_ParseUint_10_at32_ok Tryz.laysPu14 s a u h w
open Go.RowKit in
def Tryz.strconv_ParseUint_10_at32_syntax(s:ByteArray)(a:s.size<=281474976710656)(h:Lib.parseUintB 32 s.data.toList=Lib.parseUintB 32 [])(ev:Value)(w:World)(d:w.cell? ⟨1,0,none⟩=some ev)(b:ev=.nilIface∨∃g f,ev=.iface g f):
 Calls Tryz.prog 143 #[.string s,.int .i64 10,.int .i64 32] w λe c=>∃N,e=.returned (.tuple #[.int .u64 0,.iface 379 (.pointer (some ⟨N,0,none⟩))])/\w.heap.size<=N/\c.heap[N]?=some (.cells #[.string ⟨#[80,97,114,115,101,85,105,110,116]⟩,.string s,ev] 482 (0,0))/\Below w.heap.size w c:=Any.strconv_ParseUint_10_at32_syntax Tryz.laysPu14 s a h ev w d b
open Go.RowKit in
def Tryz.strconv_ParseUint_10_at32_range(s:ByteArray)(a:s.size<=281474976710656)(h:Lib.parseUintB 32 s.data.toList=.range)(ev:Value)(w:World)(d:w.cell? ⟨2,0,none⟩=some ev)(b:ev=.nilIface∨∃g f,ev=.iface g f):
 Calls Tryz.prog 143 #[.string s,.int .i64 10,.int .i64 32] w λe c=>∃N,e=.returned (.tuple #[.int .u64 4294967295,.iface 379 (.pointer (some ⟨N,0,none⟩))])/\w.heap.size<=N/\c.heap[N]?=some (.cells #[.string ⟨#[80,97,114,115,101,85,105,110,116]⟩,.string s,ev] 482 (0,0))/\Below w.heap.size w c:=Any.strconv_ParseUint_10_at32_range Tryz.laysPu14 s a h ev w d b
def Tryz.lays143_ren:Go.Shelf.Ren:=⟨λ|143=>227|219=>301|217=>348|225=>349|224=>350|267=>351|266=>372|314=>373|n=>n,λ|9=>9|3=>3|4=>4|5=>5|46=>173|146=>540|51=>174|n=>n,λ|1=>3|n=>n⟩
def Tryz.lays143:Go.Proofs.Lays.n143 Tryz.prog Tryz.lays143_ren:=by constructor<;>first|kernel_rfl|(intro w;kernel_rfl)
open Go.RowKit Go.Lib in
def Tryz.strings_Index_one(s:ByteArray)(c:UInt8)(w:World):
 Calls Tryz.prog 227 #[.string s,.string ⟨#[c]⟩] w λe a=>e=.returned (.int .i64 (Lib.indexByte s.data.toList c))/\a=w:=Any.strings_Index_one Tryz.lays143 s c w
open Go.RowKit Go.Lib in
def Tryz.strings_Index(s sub:ByteArray)(m:Int)(w:World)(b:s.size<4294967281)(a:w.cell? ⟨3,0,none⟩=some (.int .i64 m)):
 Calls Tryz.prog 227 #[.string s,.string sub] w λe c=>e=.returned (.int .i64 (Lib.index s.data.toList sub.data.toList))/\c=w:=Any.strings_Index Tryz.lays143 s sub m w b a
def Tryz.lays146_ren:Go.Shelf.Ren:=⟨λ|146=>142|221=>161|268=>225|138=>226|143=>227|195=>298|197=>299|218=>300|219=>301|260=>347|217=>348|225=>349|224=>350|267=>351|266=>372|314=>373|n=>n,λ|9=>9|31=>214|3=>3|4=>4|0=>0|105=>477|21=>21|5=>5|46=>173|119=>536|139=>539|138=>538|146=>540|51=>174|n=>n,λ|1=>3|3=>6|4=>7|n=>n⟩
def Tryz.lays146:Go.Proofs.Lays.n146 Tryz.prog Tryz.lays146_ren:=by constructor<;>first|kernel_rfl|(intro w;kernel_rfl)
open Go.RowKit Go.Lib in
def Tryz.strings_Split(s a:ByteArray)(m:Int)(w:World)(d:s.size<4294967281)(c:w.cell? ⟨3,0,none⟩=some (.int .i64 m))(b:1<=a.size):
 Calls Tryz.prog 142 #[.string s,.string a] w λe f=>
  e=.returned (.slice (some ⟨w.heap.size,0,none⟩) (Lib.countB s a+1) (Lib.countB s a+1))/\f=w.alloc (.cells ((Lib.splitB a 0 (Lib.countB s a) s).map Value.string).toArray 9):=Any.strings_Split Tryz.lays146 (by kernel_rfl) s a m w d c b
def Tryz.lays151_ren:Go.Shelf.Ren:=⟨λ|151=>384|152=>394|137=>398|119=>387|224=>350|225=>349|217=>348|266=>372|n=>n,λ|9=>9|21=>21|4=>4|3=>3|5=>5|0=>0|46=>173|n=>n,λ|n=>n⟩
def Tryz.lays151:Go.Proofs.Lays.n151 Tryz.prog Tryz.lays151_ren:=by constructor<;>first|kernel_rfl|(intro w;kernel_rfl)
open Go.RowKit Go.Lib in
def Tryz.strings_ContainsRune_ascii(s:ByteArray)(r:Int)(w:World)(a:0<=r)(b:r<128):
 Calls Tryz.prog 384 #[.string s,.int .i32 r] w λe c=>e=.returned (.bool (decide (0<=Lib.indexByte s.data.toList r.toNat.toUInt8)))/\c=w:=Any.strings_ContainsRune_ascii Tryz.lays151 s r w a b
end Go.Proofs
def ajX:=@Go.Proofs.enters_of
def aku:=@Array.size_replicate
def ak6:=@Go.Lib.decDigits_length
namespace Go.Proofs
open Go.Shelf Go.RowKit Go.Sort Go.Lib
def Tryz.holds_zero0(w:World)(T:TypeId)(nd:Nat)(d:nd<=24):Holds (λ(b:UInt8)=>Value.int .u8 (b.toNat:Int)) (w.alloc (.cells zeros24 T)) w.heap.size 0 (Array.replicate nd (0:UInt8)):=λj a=>by
 have c:j<nd:=by simpa using a
 refine⟨?_,World.frozen?_alloc_new _ _ _ _⟩;rw[World.cell?_alloc_new,zeros24_at _ (by omega),getElem!_pos _ j a];simp
def Tryz.fin_pos0(w:World)(o:Obj)(c:Array UInt8)(k:Nat):∃d,(putRow (λ(b:UInt8)=>Value.int .u8 (b.toNat:Int)) (w.alloc o) w.heap.size 0 c).drewN k=grow (w.drewN k) d:=by
 rw[alloc_eq_grow];obtain⟨a,_,e⟩:=putRow_grow_new (λ(b:UInt8)=>Value.int .u8 (b.toNat:Int)) w #[o] w.heap.size 0 c (Nat.le_refl _);exact⟨a,by rw[e];rfl⟩
set_option maxHeartbeats 6400000 in
set_option maxRecDepth 100000 in
def Tryz.formatUint(u:Nat)(c:u<18446744073709551616)(w:World)(l:Lib.TabIs Tryz.prog w "internal/strconv.uint64pow10" .u64 Lib.pow10Tab):
 Calls Tryz.prog 148 #[.int .u64 u,.int .i64 10] w λe n=>e=.returned (.string ⟨(Lib.decDigits u).toArray⟩)/\∃k s,n=grow (w.drewN k) s:=by
 have mixed:Tryz.prog.follows .mixedOrders=true:=by kernel_rfl
 have Z:=ajI;have T:=akr;have z3:=akf;have v3:=ajR;have t9:=ajs;have X:=aks;have z9:=akg;have v9:=ajS;have t4:=ajJ;have U:=akt;have z4:=akh;have v4:=ajT;have A:=akI;have t:=Tryz.isAgg284;have C:=Tryz.sizeOf284;have B:=Tryz.zeroValue284;have Y:=ak1;have S:=Tryz.isAgg0;have z0:=Tryz.sizeOf0;have v0:=ak9;have M:=Tryz.underlying172;have E:=Tryz.isAgg172;have R:=Tryz.sizeOf172;have O:=Tryz.zeroValue172;have L:=akS;have D:=Tryz.isAgg22;have Q:=Tryz.sizeOf22;have N:=Tryz.zeroValue22;have t5:=ai5;have V:=aj3;have z5:=ajW;have v5:=ajp;have v:∀a w,(callFunc 164 a).run Tryz.prog w=.ok (.enter 164 a) w:=ajX Tryz.func164 (by kernel_rfl) rfl;have x:∀a w,(callFunc 165 a).run Tryz.prog w=.ok (.enter 165 a) w:=ajX Tryz.func165 (by kernel_rfl) rfl;have y:∀a w,(callFunc 166 a).run Tryz.prog w=.ok (.enter 166 a) w:=ajX Tryz.func166 (by kernel_rfl) rfl;by_cases J:u<100
 ·have K:IntKind.i64.wrap (u:Int)=(u:Int):=by rw[IntKind.wrap_i64];omega
  have I:(u:Int)<100:=by omega
  go_enter Tryz.func148,(show Tryz.f148.ntmps=32 from rfl)
  go_wp2_with (go_at_fn 164;refine(Tryz.internal_strconv_small u J _).mono ?_;rintro e n ⟨rfl,rfl⟩)
  go_ret
  exact⟨rfl,0,#[],by simp[World.drewN_zero]⟩
 ·have m:1<=u:=by omega
  have r:Lib.nDigits u<=20:=by have:=Lib.numDigits_eq u m c;split at this<;>omega
  have H:¬(u:Int)<100:=by omega
  have i:Tryz.prog.arrayLen 284=24:=by simp[Program.arrayLen,akI]
  have z:∀W,(Instr.sliceAt 284 (.pointer (some ⟨w.heap.size,0,none⟩)) none (some (.int .i64 (Lib.nDigits u:Int))) none).run Tryz.prog W=.ok (.slice (some ⟨w.heap.size,0,none⟩) (Lib.nDigits u) 24) W:=λW=>by
   rw[run_sliceAt_array_h W 284 ⟨w.heap.size,0,none⟩ (by simp[Program.arrayLen,Program.elem,akI]) .i64 (Lib.nDigits u:Int) (by omega) (by rw[i];omega)]
   go_simp
  have f:=Tryz.holds_zero0 w 284 (Lib.nDigits u) (by omega);have d:=Tryz.internal_strconv_formatBase10 w.heap.size 0 24 u (Array.replicate (Lib.nDigits u) 0) (w.alloc (.cells Lib.zeros24 284)) f (by rw[aku];exact Lib.lt_pow_nDigits u) c (by rw[aku];omega);rw[aku]at d;have o:=Lib.hid f;clear f i
  go_enter Tryz.func148,(show Tryz.f148.ntmps=32 from rfl)
  go_wp2_with (first
   |(go_at_fn 165;refine(Tryz.internal_strconv_numDigits u m c _ (Lib.tabIs_alloc l _)).mono ?_;rintro e n ⟨rfl,rfl⟩))
  go_at_fn 166
  refine d.mono ?_;rintro e n ⟨rfl,k,v',g,rfl,p⟩;have G:(convert 22 9 (.slice (some ⟨w.heap.size,0,none⟩) (Lib.nDigits u) 24)).run Tryz.prog ((putRow (λ(b:UInt8)=>Value.int .u8 (b.toNat:Int)) (w.alloc (.cells Lib.zeros24 284)) w.heap.size 0 g).drewN k)=.ok (.string ⟨(Lib.decDigits u).toArray⟩) ((putRow (λ(b:UInt8)=>Value.int .u8 (b.toNat:Int)) (w.alloc (.cells Lib.zeros24 284)) w.heap.size 0 g).drewN k):=by
   have h:=run_convert_bytes_back (P:=Tryz.prog) ((putRow (λ(b:UInt8)=>Value.int .u8 (b.toNat:Int)) (w.alloc (.cells Lib.zeros24 284)) w.heap.size 0 g).drewN k) 22 9 5 ⟨w.heap.size,0,none⟩ 24 (Lib.decDigits u) akS ai5 ajs (λj q=>by
    rw[Lib.row_is_numeral p j q,Lib.add_plain,World.cell?_drewN];exact cell?_putRow (λ(b:UInt8)=>Value.int .u8 (b.toNat:Int)) _ w.heap.size 0 _ g o.out (by rw[p.size,aku]) j (by rw[p.size];rw[ak6]at q;exact q))
   rw[ak6]at h;exact h
  go_wp2
  go_ret
  obtain⟨s,F⟩:=Tryz.fin_pos0 w (.cells Lib.zeros24 284) g k;exact⟨rfl,k,s,F⟩
end Go.Proofs
namespace Go.Fw
open Go.RowKit
def jV(u:Int):Option (List UInt8):=match u with
 |.ofNat n=>bif Nat.blt n 18446744073709551616 then some (Lib.decDigits n) else none
 |.negSucc _=>none
def QK:Ctr:=⟨[.hole (.int .u64),.ilit .i64 10],.hole .str,λ(x:Int)=>jV x⟩
def ab0{P:Program}{w:World}{g:Nat}(a:P.globalNamed "internal/strconv.uint64pow10" =some g)(h:QO P w):Lib.TabIs P w "internal/strconv.uint64pow10" .u64 Lib.pow10Tab:=by
 obtain⟨t,f,b⟩:=h.pow g a;unfold Lib.TabIs World.var?;rw[a];simp[b]
def Zd{P:Program}{f:FuncId}{g:Nat}(v:jC P f)(z:P.globalNamed "internal/strconv.uint64pow10" =some g)
 (h:∀(u:Nat)(_:u<18446744073709551616)(w:World)(_:Lib.TabIs P w "internal/strconv.uint64pow10" .u64 Lib.pow10Tab),
   Calls P f #[.int .u64 u,.int .i64 10] w λe r=>e=.returned (.string ⟨(Lib.decDigits u).toArray⟩)/\∃k m,r=Sort.grow (w.drewN k) m):fJ P f QK:=by
 refine⟨v,rfl,rfl,?_⟩;intro x y a;have a:jV x=some y:=a;cases x with
 |negSucc n=>cases a
 |ofNat n=>
  unfold jV at a;cases c:Nat.blt n 18446744073709551616 with
  |false=>simp[c]at a
  |true=>
   dsimp only at a;rw[c]at a;cases a;have A:n<18446744073709551616:=by
    have:=ahR c;omega
   refine⟨.str (Lib.decDigits n),rfl,λ_ _=>by simp only[SV.can,VR],?_⟩;intro F d C b;cases d;simp only[VRs]at b;obtain⟨B,_,rfl,i,d2,_,rfl,j,rfl⟩:=b;intro G w q t s l;simp only[VR]at i j;subst i j;simp only[af]at l;obtain⟨D,_,rfl,o,E,_,rfl,p,rfl⟩:=l;simp only[Rep]at o p;subst o p;refine(h n A w (ab0 z s.2)).mono ?_;rintro e r ⟨rfl,k,m,rfl⟩;refine⟨_,G,rfl,lA t (Lib.below_grow _ _ (ahO _) _ _),?_⟩;simp only[SV.can,Rep]
end Go.Fw
def ahS:=@cond_true
namespace Go.Fw
open Go.RowKit
def yk:Nat:=281474976710656
def ml(s:List UInt8):Option (Int⊕Int):=bif Nat.ble s.length yk then match Lib.parseUintB 32 s with
 |.ok u=>some (.inl (Int.ofNat u))
 |.range=>some (.inr 4294967295)
 |_=>some (.inr 0)
 else none
def QL:qR:=⟨[.hole .str,.ilit .i64 10,.ilit .i64 32],[.tup [.hole (.int .u64),.raw .nili],.tup [.hole (.int .u64),.raw .anyi]],λ(x:List UInt8)=>ml x⟩
def ab1{P:Program}{f:FuncId}{te:TypeId}{g1 g2:Nat}(t:jC P f)(k:oa P g1=some [.anyi])(l:oa P g2=some [.anyi])
 (ok:∀(s:List UInt8)(u:Nat),s.length<=yk->Lib.parseUintB 32 s=.ok u->∀w:World,Calls P f #[.string ⟨s.toArray⟩,.int .i64 10,.int .i64 32] w λe c=>e=.returned (.tuple #[.int .u64 u,.nilIface])/\Below w.heap.size w c)
 (rg:∀s:List UInt8,s.length<=yk->Lib.parseUintB 32 s=.range->∀(ev:Value)(w:World),w.cell? ⟨g2,0,none⟩=some ev->(ev=.nilIface∨∃te p,ev=.iface te p)->
   Calls P f #[.string ⟨s.toArray⟩,.int .i64 10,.int .i64 32] w λe c=>∃N,e=.returned (.tuple #[.int .u64 (4294967295:Nat),.iface te (.pointer (some ⟨N,0,none⟩))])/\Below w.heap.size w c)
 (x:∀s:List UInt8,s.length<=yk->(∀u,Lib.parseUintB 32 s≠.ok u)->Lib.parseUintB 32 s≠.range->∀(ev:Value)(w:World),w.cell? ⟨g1,0,none⟩=some ev->(ev=.nilIface∨∃te p,ev=.iface te p)->
   Calls P f #[.string ⟨s.toArray⟩,.int .i64 10,.int .i64 32] w λe c=>∃N,e=.returned (.tuple #[.int .u64 (0:Nat),.iface te (.pointer (some ⟨N,0,none⟩))])/\Below w.heap.size w c):wP P f QL:=by
 have tail:∀{s:List UInt8}{v:D},fq P f [.str s,.int .i64 10,.int .i64 32] v->∀q,PV.puts (λ_=>0) QL.ap (jv (PV.tcss QL.ap) (s:List UInt8))=some (q,[])->∀i,VRs [] [] q i->fq P f i v:=by
  intro s v h q o i b;cases o;simp only[VRs]at b;obtain⟨z,_,rfl,d,d2,_,rfl,g,A,_,rfl,r,rfl⟩:=b;simp only[mZ,VR]at d g r;subst d g r;exact h
 refine⟨t,rfl,?_⟩;intro s y a;have a:ml s=some y:=a;unfold ml at a;cases j:Nat.ble s.length yk with
 |false=>rw[j]at a;cases a
 |true=>
  rw[j]at a;have m:=ahR j;rw[ahS]at a;split at a
  ·rename_i u n;cases a;exact⟨0,_,[⟨.int .u64,(Int.ofNat u:Int)⟩],.tup [.int .u64 (Int.ofNat u),.raw .nili],rfl,λ_ _=>rfl,rfl,λ_ _=>by simp only[SV.can,SV.cans,VR,VRs,ajA];exact⟨_,rfl,_,_,rfl,rfl,_,_,rfl,rfl,rfl⟩,tail (abZ (ok s u m n))⟩
  ·rename_i n;cases a;exact⟨1,_,[⟨.int .u64,(4294967295:Int)⟩],.tup [.int .u64 4294967295,.raw .anyi],rfl,λ_ _=>rfl,rfl,λ_ _=>by simp only[SV.can,SV.cans,VR,VRs,ajA];exact⟨_,rfl,_,_,rfl,rfl,_,_,rfl,rfl,rfl⟩,tail (Wq l (rg s m n))⟩
  ·rename_i d g;cases a;exact⟨1,_,[⟨.int .u64,(0:Int)⟩],.tup [.int .u64 0,.raw .anyi],rfl,λ_ _=>rfl,rfl,λ_ _=>by simp only[SV.can,SV.cans,VR,VRs,ajA];exact⟨_,rfl,_,_,rfl,rfl,_,_,rfl,rfl,rfl⟩,tail (Wq k (x s m d g))⟩
end Go.Fw
namespace Go.Fw
open Go.RowKit
def Gh.strs(G:Gh)(n:Nat)(l:List ByteArray):Gh:={G with imm:=λb o=>if b=n then(l[o]?).map Value.string else G.imm b o}
def Lz{G:Gh}{n:Nat}{l:List ByteArray}:∀{xs:List ByteArray}{o:Nat},(∀j x,xs[j]?=some x->l[o+j]?=some x)->Cells (G.strs n l) n o (dC uf (xs.map λb=>b.data.toList))
 |[],_,_=>trivial
 |x::xs,o,h=>by
  rw[ahU,show ∀(y:List UInt8) a,dC uf (y::a)=.str y::dC uf a from λy a=>uf.fcons y a];refine⟨⟨.string x,?_,?_⟩,Lz λj y c=> ?_⟩
  ·show(if n=n then _ else _)=_;rw[ahY rfl,show l[o]?=some x from h 0 x rfl];rfl
  ·simp only[Rep]
  ·rw[show o+1+j=o+(j+1) from by omega];exact h (j+1) y c
def Wr{G:Gh}{w:World}{l:List ByteArray}{t:TypeId}(d:nK G w):Em G (G.strs w.heap.size l) w (w.alloc (.cells (l.map Value.string).toArray t)) where
 le:=⟨λb o v h=>by
  have:=iD (d.imm b o v h);show(if b=_ then _ else _)=_;rw[ain (by have a:b<w.heap.size:=this;omega)];exact h,λ_ _ h=>h,λ_ _ _ h=>h,λ_ _ h=>h⟩
 below:=Below.alloc (aiS _ _) (ahO _) _
 blk:=rfl
 imm b o v h:=by
  have a:(if b=w.heap.size then(l[o]?).map Value.string else G.imm b o)=some v:=h;clear h;by_cases e:b=w.heap.size
  ·rw[ahY e]at a;rw[e];rw[World.cell?_alloc_new];rw[List.getElem?_toArray,aiJ];exact a
  ·rw[ain e]at a;have c:=d.imm b o v a;rw[(Below.alloc (aiS w.heap.size w) (ahO _) _).cell (p:=⟨b,o,none⟩) (iD c)];exact c
 mimm b es hm:=by
  obtain⟨c,g⟩:=d.mimm b es hm;exact⟨((Below.alloc (aiS w.heap.size w) (ahO _) _).block b (dD c)).trans c,g⟩
 siz b n hs:=by
  obtain⟨k,j,f,i,a⟩:=d.siz b n hs;exact⟨k,j,f,((Below.alloc (aiS w.heap.size w) (ahO _) _).block b (dD i)).trans i,a⟩
 imm_new b o h:=ain (by omega)
 mimm_new _ _:=rfl
def ig(s a:List UInt8):Option (List (List UInt8)):=bif Nat.blt s.length 4294967281&&Nat.blt 0 a.length then some (Lib.split s a) else none
def Nd:Ctr:=⟨[.hole .str,.hole .str],.hole (.sl .str),λ(x:List UInt8×List UInt8)=>ig x.1 x.2⟩
def Ws{P:Program}{f:FuncId}{g:Nat}{t:TypeId}(E:jC P f)(F:P.globalNamed "internal/bytealg.MaxLen" =some g)
 (h:∀(s a:ByteArray)(m:Int)(w:World),s.size<4294967281->w.cell? ⟨g,0,none⟩=some (.int .i64 m)->1<=a.size->
   Calls P f #[.string s,.string a] w λe B=>e=.returned (.slice (some ⟨w.heap.size,0,none⟩) (Lib.countB s a+1) (Lib.countB s a+1))/\B=w.alloc (.cells ((Lib.splitB a 0 (Lib.countB s a) s).map Value.string).toArray t)):fJ P f Nd:=by
 refine⟨E,rfl,rfl,?_⟩;rintro⟨s,a⟩ y b;have b:ig s a=some y:=b;unfold ig at b;cases c:(Nat.blt s.length 4294967281&&Nat.blt 0 a.length) with
 |false=>rw[c]at b;cases b
 |true=>
  rw[c]at b;cases b;simp only[ahF]at c;have I:s.length<4294967281:=ahR c.1;have l:0<a.length:=ahR c.2;refine⟨.sl .str (Lib.split s a) false,rfl,λ_ _=>by simp only[SV.can,VR];first|exact⟨_,rfl⟩|exact⟨_,rfl,by simp⟩,?_⟩;intro Q o K i;cases o;simp only[VRs]at i;obtain⟨J,_,rfl,p,d2,_,rfl,q,rfl⟩:=i;simp only[mZ,VR]at p q;subst p q;intro G w A D C u;simp only[af]at u;obtain⟨N,_,rfl,v,O,_,rfl,z,rfl⟩:=u;simp only[Rep]at v z;subst v z;obtain⟨m,M,L,n⟩:=C.2.mx g F;have n:w.cell? ⟨g,0,none⟩=some (.int .i64 m):=by unfold World.cell?;simp only[n];rfl
  refine(h ⟨s.toArray⟩ ⟨a.toArray⟩ m w I n l).mono ?_;rintro e B ⟨rfl,rfl⟩;have k:(Lib.splitB ⟨a.toArray⟩ 0 (Lib.countB ⟨s.toArray⟩ ⟨a.toArray⟩) ⟨s.toArray⟩).length=Lib.countB ⟨s.toArray⟩ ⟨a.toArray⟩+1:=Lib.splitB_all ⟨a.toArray⟩ l 0 _ _ rfl;have r:Lib.countB ⟨s.toArray⟩ ⟨a.toArray⟩<=s.length:=Lib.countB_le ⟨a.toArray⟩ l s.length ⟨s.toArray⟩ (ahO _);have d:(Lib.splitB ⟨a.toArray⟩ 0 (Lib.countB ⟨s.toArray⟩ ⟨a.toArray⟩) ⟨s.toArray⟩).map (·.data.toList)=Lib.split s a:=Lib.splitB_data _ 0 _ _;refine⟨_,_,rfl,Wr D,?_⟩;simp only[SV.can,Rep];rw[<-d,aiq,k];refine⟨_,_,rfl,ahO _,by omega,λ_=>rfl,.inl ⟨_,0,rfl,?_⟩⟩;exact Lz λj x H=>by rw[aiw];exact H
end Go.Fw
namespace Go.Proofs.Tryz
open Go Go.Fw Go.RowKit
def acg:jC prog 134:=(jB (f:=134) (fn:=f134) (by kernel_rfl)).2
def aeB:fJ prog 134 QJ:=Zb acg (λa c b w=>Tryz.strings_Join_none a c b w) (λbk o c i b w d e f g h=>Tryz.strings_Join bk o c i b w d e f g h)
def ach:jC prog 148:=(jB (f:=148) (fn:=f148) (by kernel_rfl)).2
def aci:(prog.globalNamed "internal/strconv.uint64pow10").isSome=true:=by kernel_rfl
def aeC:fJ prog 148 QK:=by
 obtain⟨g,a⟩:=aiT.1 aci;exact Zd ach a λu c w b=>Tryz.formatUint u c w b
def acj:jC prog 143:=(jB (f:=143) (fn:=f143) (by kernel_rfl)).2
def ZK:oa prog 1=some [.anyi]:=by kernel_rfl
def ack:oa prog 2=some [.anyi]:=by kernel_rfl
def aha:wP prog 143 QL:=ab1 (te:=379) acj ZK ack
 (λs u a b w=>(Tryz.strconv_ParseUint_10_at32_ok ⟨s.toArray⟩ (by have:s.length<=281474976710656:=a;show s.length<=_;omega) u b w).mono λ_ _ ⟨e,j⟩=>⟨e,by
   rcases j with rfl|rfl
   ·exact aiS _ _
   ·exact Lib.bytesWorld_below _ _ _⟩)
 (λs a b ev w f d=>(Tryz.strconv_ParseUint_10_at32_range ⟨s.toArray⟩ a b ev w f d).mono λ_ _ ⟨N,e,_,_,c⟩=>⟨N,e,c⟩)
 (λs a h i ev w f d=>by
   have b:∀x,Lib.parseUintB 32 s=x->Calls prog 143 #[.string ⟨s.toArray⟩,.int .i64 10,.int .i64 32] w λe k=>∃N,e=.returned (.tuple #[.int .u64 (0:Nat),.iface 379 (.pointer (some ⟨N,0,none⟩))])/\Below w.heap.size w k:=by
    intro x g;cases x with
    |ok u=>exact absurd g (h u)
    |range=>exact absurd g i
    |_=>exact(Tryz.strconv_ParseUint_10_at32_syntax ⟨s.toArray⟩ a g ev w f d).mono λ_ _ ⟨N,e,_,_,c⟩=>⟨N,e,c⟩
   exact b _ rfl)
def acl:jC prog 142:=(jB (f:=142) (fn:=f142) (by kernel_rfl)).2
def ZL:prog.globalNamed "internal/bytealg.MaxLen" =some 3:=by kernel_rfl
def acm:fJ prog 142 Nd:=Ws acl ZL λs a m w d c b=>Tryz.strings_Split s a m w d c b
end Go.Proofs.Tryz
namespace Go.Fw
open Go.RowKit
inductive SoK where
 |pure|mk|ins(k v:D)
structure qf where
 e:Env
 d:D
 k:SoK
def qf.key(r:qf):D:=match r.k with|.ins k _=>k|_=>.junk
def qf.val(r:qf):D:=match r.k with|.ins _ v=>v|_=>.junk
def rE:SoK->Bool
 |.ins _ _=>true
 |_=>false
section
variable {fl:Nat}{P:Program}{N:Nat}{ops:Array Oper}{τ0:Env}{σ0:Sto}{row:Nat→qf}{m0:Nat}
def E4(row:Nat->qf)(a:List Nat):ak:=.map (a.map λi=>(row i).key) (a.map λi=>(row i).val)
def lR(row:Nat->qf)(m0:Nat)(σ0:Sto)(L:Array Bool)(a:List Nat):Sto:=match L.getD m0 false with
 |true=>σ0++[E4 row a]
 |false=>σ0
structure RY(P:Program)(N:Nat)(ops:Array Oper)(τ0:Env)(σ0:Sto)(row:Nat->qf)(m0:Nat):Prop where
 ng:qm ops=true
 plan:ij ops (cU ops.toList [])=true
 hm0:m0<ops.size
 mkI:∀i,i<ops.size->((row i).k=.mk↔i=m0)
 dlt:∀(i:Nat) o t,ops[i]?=some o->o.dst=some t->t<N
 dne:∀(i j:Nat) oi oj t,ops[i]?=some oi->ops[j]?=some oj->oi.dst=some t->oj.dst=some t->i=j
 env:∀(i:Nat) o,ops[i]?=some o->∀t v,get (row i).e t=some v->(∃(e:Edge)(oj:Oper),e∈o.after/\Region.binds .any e=true/\ops[e.on]?=some oj/\oj.dst=some t/\(row e.on).d=v)∨(get τ0 t=some v/\∀(j:Nat) oj,ops[j]?=some oj->oj.dst≠some t)
 pur:∀(i:Nat) o,ops[i]?=some o->(row i).k=.pure->AOp P N o (row i).e σ0 (λd s=>d=(row i).d/\s=σ0)/\∀ks vs,AOp P N o (row i).e (σ0++[.map ks vs]) (λd s=>d=(row i).d/\s=σ0++[.map ks vs])
 mkO:∀o,ops[m0]?=some o->AOp P N o (row m0).e σ0 λd s=>d=(row m0).d/\s=σ0++[.map [] []]
 ins:∀(i:Nat) o k v,ops[i]?=some o->(row i).k=.ins k v->(∃e∈o.after,Region.binds .any e=true/\e.on=m0)/\mM k=true/\∀ks vs,(∀k'∈ks,mM k'=true/\jj k'≠jj k)->AOp P N o (row i).e (σ0++[.map ks vs]) λd s=>d=(row i).d/\s=σ0++[.map (ks++[k]) (vs++[v])]
 kne:∀(i j:Nat),i<ops.size->j<ops.size->rE (row i).k=true->rE (row j).k=true->jj (row i).key=jj (row j).key->i=j
def aam(h:RY P N ops τ0 σ0 row m0){Q:AEx->Env->Sto->Prop}
 {τf:Env}(hQ:∀(b:List Nat),b.Nodup->(∀i,i∈b↔(i<ops.size/\rE (row i).k=true))->Q .normal τf (σ0++[E4 row b]))
 (j9:∀t d,get τf t=some d->(∃(j:Nat)(c:Oper),ops[j]?=some c/\c.dst=some t/\(row j).d=d)∨(get τ0 t=some d/\∀(j:Nat) c,ops[j]?=some c->c.dst≠some t)):DO fl P N ops τ0 σ0 Q:=by
 intro B u G0 w0 a0 O m5 m6 U m7;have k9:∀(f:Nat)(L:Array Bool)(a:Act)(w:World),L.size=ops.size->td ops L->L.toList.count false<=f->
  (∃(G:Gh)(b:List Nat),u.LeB fl G/\Rel B G (lR row m0 σ0 L b) w/\a.tmps.size=N/\a.defers=[]/\
    (∀(j:Nat) c t,ops[j]?=some c->L.getD j false=true->c.dst=some t->Rep G (row j).d (a.tmps.getD t undef))/\
    (∀t d,get τ0 t=some d->(∀(j:Nat) c,ops[j]?=some c->c.dst≠some t)->Rep G d (a.tmps.getD t undef))/\b.Nodup/\(∀i,i∈b↔(L.getD i false=true/\i<ops.size/\rE (row i).k=true)))->
  wpAny P .any ops (mf fl B u N Q) f L a w:=by
  intro f;have f7:∀(L:Array Bool)(a:Act)(w:World),L.size=ops.size->Region.ready .any ops L=[]->
   (∃(G:Gh)(b:List Nat),u.LeB fl G/\Rel B G (lR row m0 σ0 L b) w/\a.tmps.size=N/\a.defers=[]/\
     (∀(j:Nat) c t,ops[j]?=some c->L.getD j false=true->c.dst=some t->Rep G (row j).d (a.tmps.getD t undef))/\
     (∀t d,get τ0 t=some d->(∀(j:Nat) c,ops[j]?=some c->c.dst≠some t)->Rep G d (a.tmps.getD t undef))/\b.Nodup/\(∀i,i∈b↔(L.getD i false=true/\i<ops.size/\rE (row i).k=true)))->
   mf fl B u N Q .normal a w:=by
   rintro L a w Z hr ⟨G,b,k0,K,k2,k3,k4,k5,k6,k7⟩;have H:∀i,i<ops.size->L.getD i false=true:=by
    intro i hi;cases hb:L.getD i false with
    |true=>rfl
    |false=>
     have:L.getD i true=false:=by rw[H7 (by omega)];exact hb
     obtain⟨j,l⟩:=x9 h.plan Z i i (ahO _) this;rw[hr]at l;cases l
   have e1:lR row m0 σ0 L b=σ0++[E4 row b]:=by unfold lR;rw[H _ h.hm0]
   rw[e1]at K;refine⟨G,τf,_,k0,K,⟨k2,k3,λt d W=> ?_⟩,hQ b k6 (λi=> ?_)⟩
   ·rcases j9 t d W with⟨j,c,h1,n,rfl⟩|⟨h1,n⟩
    ·exact k4 j c t h1 (H j (aig.1 h1).1) n
    ·exact k5 t d h1 n
   ·rw[k7];exact⟨λx=>x.2,λx=>⟨H i x.1,x⟩⟩
  induction f with
  |zero=>
   intro L a w Z hd hc hJ;have hr:Region.ready .any ops L=[]:=by
    rw[aiU];intro i hi;obtain⟨p7,_⟩:=ajo.1 hi;obtain⟨Y,hf⟩:=fH p7;have:=rL (Nat.le_zero.1 hc) i (by simpa using Y);simp[ahN,Y]at hf;simp[Y,hf]at this
   exact⟨hr,f7 L a w Z hr hJ⟩
  |succ f ih=>
   intro L a w Z hd hc hJ;refine⟨λhr=>f7 L a w Z hr hJ,λi hi=> ?_⟩;obtain⟨h1,o,n,h3⟩:=ajo.1 hi;obtain⟨X,A⟩:=fH h1;have C:i<ops.size:=by omega
   obtain⟨G,b,k0,K,k2,k3,k4,k5,k6,k7⟩:=hJ;have V:gF G N (row i).e a:=by
    refine⟨k2,k3,λt v W=> ?_⟩;rcases h.env i o n t v W with⟨e,c,R,S,g3,g4,rfl⟩|⟨R,S⟩
    ·exact k4 e.on c t g3 (h3 e R S) g4
    ·exact k5 t v R S
   have f8:(L.setIfInBounds i true).toList.count false<=f:=by
    have h6:L.toList[i]?=some false:=by
     simp[ahN,X]at A;simp[X,A]
    have:=po h6;rw[ajw];omega
   have q:∀j,(L.setIfInBounds i true).getD j false=true↔(j=i∨L.getD j false=true):=λj=>gk X;have next:∀{I:Gh}{ord':List Nat}{v:Value}{w':World},G.Le I->Rel B I (lR row m0 σ0 (L.setIfInBounds i true) ord') w'->Rep I (row i).d v->ord'.Nodup->(∀j,j∈ord'↔((L.setIfInBounds i true).getD j false=true/\j<ops.size/\rE (row j).k=true))->
    wpAny P .any ops (mf fl B u N Q) f (L.setIfInBounds i true) (a.put o.dst v) w':=by
    intro I ord' v w' g m hv n9 n8;refine ih _ _ _ (by simpa using Z) (hd.step Z hi) f8 ⟨I,ord',k0.trans g.b,m,?_,?_,λj c t l T ht=> ?_,λt d W j5=> ?_,n9,n8⟩
    ·cases z:o.dst<;>simp[Act.put,k2]
    ·cases z:o.dst<;>simp[Act.put,k3]
    ·have o9:t<a.tmps.size:=by rw[k2];exact h.dlt j c t l ht
     rw[Qe o9];by_cases e:o.dst=some t
     ·rw[ahY e];have:=h.dne i j o c t n l e ht;subst this;exact hv
     ·rw[ain e];have r:j≠i:=λe'=>by subst e';rw[n]at l;cases l;exact e ht
      rcases (q j).1 T with rfl|T
      ·exact absurd rfl r
      ·exact Rep.mono g _ _ (k4 j c t l T ht)
    ·rw[Gi (j5 i o n)];exact Rep.mono g _ _ (k5 t d W j5)
   cases E:(row i).k with
   |pure=>
    have j3:i≠m0:=λe=>by have:=(h.mkI i C).2 e;rw[E]at this;cases this
    have o8:∀b,lR row m0 σ0 (L.setIfInBounds i true) b=lR row m0 σ0 L b:=λb=>by unfold lR;rw[ai7 false j3]
    have j7:∀j,j∈b↔((L.setIfInBounds i true).getD j false=true/\j<ops.size/\rE (row j).k=true):=λj=>by
     rw[k7,q];constructor
     ·exact λx=>⟨.inr x.1,x.2⟩
     ·rintro⟨rfl|x,y⟩
      ·rw[E]at y;cases y.2
      ·exact⟨x,y⟩
    obtain⟨p1,p2⟩:=h.pur i o n E;have o7:AOp P N o (row i).e (lR row m0 σ0 L b) λd s=>d=(row i).d/\s=lR row m0 σ0 L b:=by
     unfold lR;split
     ·exact p2 _ _
     ·exact p1
    refine AM h.ng n (o7 B G w a K V _ _ ?_);rintro v w' I d s g m hd ⟨rfl,rfl⟩;exact next g (by rw[o8];exact m) hd k6 j7
   |mk=>
    have m8:i=m0:=(h.mkI i C).1 E;subst m8;have j6:∀j,L.getD j false=true->rE (row j).k=true->j<ops.size->False:=by
     intro j l r m9;cases k:(row j).k with
     |ins kk vv=>
      have F:ops[j]?=some ops[j]:=ah5 m9;obtain⟨⟨e,R,S,g3⟩,_⟩:=h.ins j _ kk vv F k;have:=hd j _ F l e R S;rw[g3,A]at this;cases this
     |pure=>rw[k]at r;cases r
     |mk=>rw[k]at r;cases r
    have j4:b=[]:=by
     rw[aiU];intro j l;obtain⟨a1,a2,M⟩:=(k7 j).1 l;exact j6 j a1 M a2
    subst j4;have e1:lR row i σ0 L []=σ0:=by unfold lR;rw[A]
    rw[e1]at K;refine AM h.ng n (h.mkO o n B G w a K V _ _ ?_);rintro v w' I d s g m z ⟨rfl,rfl⟩;have e2:lR row i σ0 (L.setIfInBounds i true) []=σ0++[.map [] []]:=by unfold lR;rw[(q i).2 (.inl rfl)];rfl
    refine next (ord':=[]) g (by rw[e2];exact m) z .nil λj=> ?_
    rw[q];constructor
    ·intro x;cases x
    ·rintro⟨rfl|x,y1,y2⟩
     ·rw[E]at y2;cases y2
     ·exact(j6 j x y2 y1).elim
   |ins kk vv=>
    obtain⟨⟨e,R,S,g3⟩,g4,g5⟩:=h.ins i o kk vv n E;have f9:L.getD m0 false=true:=by rw[<-g3];exact h3 e R S
    have j3:i≠m0:=λe=>by have:=(h.mkI i C).2 e;rw[E]at this;cases this
    have e1:lR row m0 σ0 L b=σ0++[E4 row b]:=by unfold lR;rw[f9]
    rw[e1]at K;have J:(row i).key=kk:=by unfold qf.key;rw[E]
    have j8:(row i).val=vv:=by unfold qf.val;rw[E]
    have D:i ∉ b:=λx=>by have:=((k7 i).1 x).1;rw[A]at this;cases this
    have n7:∀k'∈b.map (λi=>(row i).key),mM k'=true/\jj k'≠jj kk:=by
     intro k' n6;obtain⟨j,l,rfl⟩:=aiz.1 n6;obtain⟨a1,a2,M⟩:=(k7 j).1 l;refine⟨?_,λee=> ?_⟩
     ·cases k:(row j).k with
      |ins k2 v2=>
       have F:ops[j]?=some ops[j]:=ah5 a2;have:=(h.ins j _ k2 v2 F k).2.1;unfold qf.key;rw[k];exact this
      |pure=>rw[k]at M;cases M
      |mk=>rw[k]at M;cases M
     ·have:=h.kne j i a2 C M (by rw[E];rfl) (by rw[ee,J]);subst this;exact D l
    refine AM h.ng n (g5 _ _ n7 B G w a K V _ _ ?_);rintro v w' I d s g m z ⟨rfl,rfl⟩;have e2:lR row m0 σ0 (L.setIfInBounds i true) (b++[i])=σ0++[.map (b.map (λi=>(row i).key)++[kk]) (b.map (λi=>(row i).val)++[vv])]:=by
     unfold lR;rw[(q m0).2 (.inr f9)];simp only[E4,aiN,ahU,ai0,J,j8]
    refine next (ord':=b++[i]) g (by rw[e2];exact m) z (List.nodup_append.2 ⟨k6,akF.2 ⟨by simp,.nil⟩,λx hx y hy=>by simp at hy;subst hy;exact λe=>D (e▸hx)⟩) λj=> ?_
    rw[q,air,k7];constructor
    ·rintro(x|x)
     ·exact⟨.inr x.1,x.2⟩
     ·simp at x;subst x;exact⟨.inl rfl,C,by rw[E];rfl⟩
    ·rintro⟨rfl|x,y⟩
     ·exact .inr (by simp)
     ·exact .inl ⟨x,y⟩
 refine k9 O _ a0 w0 (by simp) (λj c F H=> ?_) (by simp;exact m7) ⟨G0,[],m5,?_,U.size,U.defers,λj c t l H _=> ?_,λt d W _=>U.slot t d W,.nil,λi=> ?_⟩
 all_goals
  have p:∀j,(Array.replicate ops.size false).getD j false=false:=by
   intro j;rcases ahW j ops.size with h'|h'
   ·simp[ahN,h']
   ·simp[ahN,h']
 ·rw[p]at H;cases H
 ·unfold lR;rw[p];exact m6
 ·rw[p]at H;cases H
 ·rw[p];simp
end
def Tc{G:Gh}{B d:List (D×D)}(h:B.Perm d):∀{l:List MapEntry},Et G B l->∃g:List MapEntry,g.Perm l/\Et G d g:=by
 induction h with
 |nil=>exact λh=>⟨_,.refl _,h⟩
 |cons p _ F=>
  intro l h;cases l with
  |nil=>obtain⟨a,_⟩:=h;simp[af]at a
  |cons e l=>
   obtain⟨a,b⟩:=h;simp only[ahU,af]at a b;obtain⟨v,r,c,i,k⟩:=a;obtain⟨S,M,w,m,o⟩:=b;cases c;cases w;obtain⟨g,A,f⟩:=F ⟨k,o⟩;exact⟨e::g,A.cons e,by simp only[ahU,af];exact⟨_,_,rfl,i,f.1⟩,by simp only[ahU,af];exact⟨_,_,rfl,m,f.2⟩⟩
 |swap p q B=>
  intro l h;obtain⟨a,b⟩:=h
  match l,a,b with
  |[],a,_=>simp[af]at a
  |[_],a,_=>
   simp only[ahU,ai0,af]at a;obtain⟨_,_,E,_,_,_,c,_⟩:=a;cases E;cases c
  |e::C::l,a,b=>
   simp only[ahU,af]at a b;obtain⟨v,r,c,i,R,L,t,j,k⟩:=a;obtain⟨u,s,w,m,Q,O,x,n,o⟩:=b;cases c;cases t;cases w;cases x;refine⟨C::e::l,.swap _ _ _,?_,?_⟩
   ·simp only[ahU,af];exact⟨_,_,rfl,j,_,_,rfl,i,k⟩
   ·simp only[ahU,af];exact⟨_,_,rfl,n,_,_,rfl,m,o⟩
 |trans _ _ y z=>
  intro l h;obtain⟨K,A,f⟩:=y h;obtain⟨H,I,J⟩:=z f;exact⟨H,I.trans A,J⟩
def RZ{G:Gh}{ks vs a c:List D}{v:Value}(h:Rep G (.cmap ks vs) v)(o:a.length=c.length)(l:(ks.zip vs).Perm (a.zip c)):Rep G (.pmap a c) v:=by
 simp only[Rep]at h⊢;obtain⟨b,e,rfl,k,f,g⟩:=h;have i:ks.length=vs.length:=by rw[f.length,g.length];simp
 have d:Et G (ks.zip vs) e.toList:=⟨by rw[akX (by omega)];exact f,by rw[akY (by omega)];exact g⟩;obtain⟨n,m,j⟩:=Tc l d;refine⟨b,e,n,rfl,k,m,?_,?_⟩
 ·have:=j.1;rw[akX (by omega)]at this;exact this
 ·have:=j.2;rw[akY (by omega)]at this;exact this
end Go.Fw
namespace Go.Fw
open Go.RowKit
noncomputable def Hg(cx:Cx)(n fid N i lr:Nat):List Code->aw->ae->Option (aw×ae)
 |[],a,S=>some (a,S)
 |c::f,a,S=>yw cx n fid N i lr c a S λe b d=>match e with
  |.normal=>Hg cx n fid N i lr f b d
  |_=>none
def Om{cx:Cx}(f:nE cx)(p:∀e∈cx.L,LOk cx.P e){n fid i lr:Nat}{fn:Func}{body d:Code}{Q:AEx->Env->Sto->Prop}{r:aw×ae}(s:cx.P.funcs[fid]?=some fn)(q:fn.body=some body)
 :∀(cs:List Code)(τ:aw)(S:ae)(τ':Env)(σ:Sto),(∀c∈cs,Ku c body)->Hg cx n fid fn.ntmps i lr cs τ S=some r->ER S σ τ τ'->StR S σ->
  (∀b a,ER r.2 a r.1 b->StR r.2 a->nR i S σ r.2 a->AWp i cx.P fn.ntmps d b a Q)->AWp i cx.P fn.ntmps (cs.foldr .seq d) τ' σ Q
 |[],τ,S,τ',σ,_,h,hE,hS,j=>by
  simp only[Hg,ahI]at h;subst h;exact j τ' σ hE hS (.refl _ _ _)
 |c::cs,τ,S,τ',σ,hsub,h,hE,hS,j=>by
  simp only[Hg]at h;refine gw (((EJ f p n) _ fid i lr c τ S _ r fn body s q (hsub c (aik ..)) h τ' σ hE hS).1.mono ?_);rintro e b a ⟨o,t,x,y,A,g⟩;cases e with
  |normal=>exact Om f p s q cs o t b a (λc z=>hsub c (ah0 _ z)) g x y λm k u v w=>j m k u v (A.trans w)
  |exit id=>cases g
  |goto l=>cases g
  |ret=>cases g
def p9:Code->Code
 |.seq a _=>a
 |c=>c
def kY:Code->Code
 |.seq _ b=>b
 |c=>c
def aev(P:Program)(f:FuncId):Code:=((P.funcs[f]?).bind (·.body)).getD .skip
def LT:Code->Array Oper
 |.region _ ops _=>ops
 |_=> #[]
def Ty:∀{τ:Env}{t:Nat}{d:D},get τ t=some d->(t,d)∈τ
 |[],_,_,h=>by simp[get]at h
 |(i,x)::r,t,d,h=>by
  simp only[get]at h;split at h
  ·rename_i e;subst e;cases h;exact aik ..
  ·exact ah0 _ (Ty h)
def WO(ops:Array Oper):List Nat:=ops.toList.filterMap (·.dst)
def U4(ops:Array Oper)(τ0:Env)(a:Nat->qf)(o:Oper):Env->Bool
 |[]=>true
 |(t,v)::r=>((o.after.toList.any λe=>Region.binds .any e&&match ops[e.on]? with
    |some b=>(match b.dst with|some c=>Nat.beq c t|none=>false)&&D.beq (a e.on).d v
    |none=>false)||(match get τ0 t with|some d=>D.beq d v|none=>false)&& !(BH t (WO ops)))&&U4 ops τ0 a o r
variable{Z:Nat->qf}
def Tz{ops:Array Oper}{τ0:Env}{o:Oper}:∀{e:Env},U4 ops τ0 Z o e=true->∀t v,(t,v)∈e->(∃(e:Edge)(a:Oper),e∈o.after/\Region.binds .any e=true/\ops[e.on]?=some a/\a.dst=some t/\(Z e.on).d=v)∨(get τ0 t=some v/\∀(j:Nat) a,ops[j]?=some a->a.dst≠some t)
 |[],_,_,_,h=>by simp at h
 |(q,s)::r,g,t,v,h=>by
  simp only[U4,ahF]at g;rcases ah8.1 h with e|h
  ·cases e;simp only[ai1,akV,ahF]at g;rcases g.1 with⟨e,c,f,b⟩|⟨c,f⟩
   ·split at b<;>try (cases b;done)
    rename_i a n;simp only[ahF]at b;obtain⟨b,l⟩:=b;split at b<;>try (cases b;done)
    rename_i p i;have:=AL b;subst this;exact .inl ⟨e,a,by simpa using c,f,n,i,D.beq_eq _ _ l⟩
   ·split at c<;>try (cases c;done)
    rename_i d k;rw[D.beq_eq _ _ c]at k;refine .inr ⟨k,λj a m i=> ?_⟩;have:BH _ (WO ops)=true:=JJ.2 (List.mem_filterMap.2 ⟨a,aif (by rw[aio];exact m),i⟩);rw[this]at f;cases f
  ·exact Tz g.2 t v h
def ZD(n:Nat)(f:Nat->Bool):Bool:=(List.range n).all f
def yH{n:Nat}{f:Nat->Bool}(h:ZD n f=true){i:Nat}(a:i<n):f i=true:=ah7.1 h i (aj6.2 a)
def U5(N:Nat)(ops:Array Oper)(τ0:Env)(a:Nat->qf)(m0:Nat):Bool:=
 qm ops&&(ij ops (cU ops.toList [])&&(Nat.blt m0 ops.size&&(ZD ops.size λi=>(match (a i).k with|.mk=>Nat.beq i m0|_=> !(Nat.beq i m0))&&(match ops[i]? with
  |some o=>(match o.dst with|some t=>Nat.blt t N|none=>true)&&(U4 ops τ0 a o (a i).e&&(match (a i).k with
   |.ins k _=>(o.after.toList.any λe=>Region.binds .any e&&Nat.beq e.on m0)&&mM k
   |_=>true)&&(ZD ops.size λj=>match ops[j]? with
    |some b=>(Nat.beq i j||(match o.dst,b.dst with|some t,some t'=> !(Nat.beq t t')|_,_=>true))&&(Nat.beq i j||(!(rE (a i).k&&rE (a j).k)|| !(decide (jj (a i).key=jj (a j).key))))
    |none=>false))
  |none=>false))))
def ab8{P:Program}{N:Nat}{ops:Array Oper}{τ0:Env}{a:Sto}{m0:Nat}(w:U5 N ops τ0 Z m0=true)
 (l:∀(i:Nat) o,ops[i]?=some o->match (Z i).k with
   |.pure=>AOp P N o (Z i).e a (λd s=>d=(Z i).d/\s=a)/\∀m q,AOp P N o (Z i).e (a++[.map m q]) (λd s=>d=(Z i).d/\s=a++[.map m q])
   |.mk=>AOp P N o (Z i).e a λd s=>d=(Z i).d/\s=a++[.map [] []]
   |.ins k v=>∀m q,(∀z∈m,mM z=true/\jj z≠jj k)->AOp P N o (Z i).e (a++[.map m q]) λd s=>d=(Z i).d/\s=a++[.map (m++[k]) (q++[v])]):RY P N ops τ0 a Z m0:=by
 unfold U5 at w;simp only[ahF]at w;obtain⟨E,F,G,r⟩:=w;have f:∀(i:Nat) o,ops[i]?=some o->i<ops.size:=λi o h=>(aig.1 h).1;have u:∀(i:Nat) o,ops[i]?=some o->_:=λi o b=>yH r (f i o b);refine⟨E,F,ahR G,λi g=> ?_,λi o t b x=> ?_,λi j L M t g p x y=> ?_,λi o b t v H=> ?_,λi o b c=> ?_,λo b=> ?_,λi o k v b c=> ?_,λi j g p I J K=> ?_⟩
 ·have:=(yH r g);simp only[ahF]at this;have:=this.1;constructor
  ·intro c;rw[c]at this;exact AL this
  ·intro e;subst e;cases c:(Z i).k<;>rw[c]at this<;>simp at this⊢
 ·have:=u i o b;simp only[ahF]at this;have:=this.2;rw[b]at this;simp only[ahF]at this;have:=this.1;rw[x]at this;exact ahR this
 ·have:=u i L g;simp only[ahF]at this;have:=this.2;rw[g]at this;simp only[ahF]at this;have:=yH this.2.2 (f j M p);rw[p]at this;simp only[ahF,ai1]at this;rcases this.1 with e|e
  ·exact AL e
  ·rw[x,y]at e;simp at e
 ·have:=u i o b;simp only[ahF]at this;have:=this.2;rw[b]at this;simp only[ahF]at this;exact Tz this.2.1.1 t v (Ty H)
 ·have:=l i o b;rw[c]at this;exact this
 ·have:=l m0 o b;have c:(Z m0).k=.mk:=by
   have n:=yH r (f m0 o b);simp only[ahF]at n;have n:=n.1;cases c:(Z m0).k<;>rw[c]at n<;>simp at n⊢
  rw[c]at this;exact this
 ·have l:=l i o b;rw[c]at l;have:=u i o b;simp only[ahF]at this;have:=this.2;rw[b]at this;simp only[ahF]at this;have:=this.2.1.2;rw[c]at this;simp only[ahF,akV]at this;obtain⟨⟨e,A,B,C⟩,D⟩:=this;exact⟨⟨e,by simpa using A,B,AL C⟩,D,l⟩
 ·have:=yH r g;simp only[ahF]at this;have:=this.2;rw[ah5 g]at this;simp only[ahF]at this;have:=yH this.2.2 p;rw[ah5 p]at this;simp only[ahF,ai1]at this;rcases this.2 with e|e|e
  ·exact AL e
  ·rw[I,J]at e;cases e
  ·simp[K]at e
end Go.Fw
namespace Go.Proofs.Tryz
open Go Go.Fw Go.RowKit
noncomputable def hFm:Tr OH:=.node (.node .nil 24641541 .frz .nil) 25231365 .frz .nil
noncomputable def abg:Ctr:=⟨[.hole (.int .i32),.hole (.int .i32)],.func (.func 395) [] [.rc [.hole (.int .i32)] 0,.rc [.hole (.int .i32)] 0],λ(x:Int×Int)=>some (x.1,x.2)⟩
def Ra:prog.follows .mixedOrders=true:=by kernel_rfl
def abh:fJ prog 385 abg:=Ak (cx:=⟨prog,T,.nil,hFm,[],[],[],[],.nil⟩) tok Ra trivial trivial trivial trivial 385 _ (by kernel_rfl) (by kernel_rfl) (by intro x;kernel_rfl)
def btw(a b:Int):D:=.func (.func 395) [] [.rptr [.int .i32 a] 0,.rptr [.int .i32 b] 0]
def aew(a b:Int):fq prog 385 [.int .i32 a,.int .i32 b] (btw a b):=by
 obtain⟨_,_,_,h⟩:=abh;obtain⟨v,c,_,d⟩:=h (a,b) (a,b) rfl;have e:v=.func (.func 395) [] [.rc [.int .i32 a] 0,.rc [.int .i32 b] 0]:=by
  have c:some ((SV.func (.func 395) [] [.rc [.int .i32 a] 0,.rc [.int .i32 b] 0],([]:List DV)))=some (v,[]):=c;cases c;rfl
 subst e;exact d [.int .i32 a,.int .i32 b] rfl _ (by simp only[VRs,VR];exact⟨_,_,rfl,rfl,_,_,rfl,rfl,rfl⟩)
noncomputable def ZE:Cx:=⟨prog,T,.nil,hFm,[(385,abg)],[],[],[],.nil⟩
def ab9:nE ZE:=⟨tok,Ra,λf c h=>(by
 rcases ah8.1 h with e|h
 ·cases e;exact abh
 ·cases h),λf c h=>(by cases h),λf c h=>(by cases h)⟩
noncomputable def nD:Code:=aev prog 376
noncomputable def r4:Code:=p9 (kY (kY (kY (kY nD))))
noncomputable def BV:Array Oper:=LT r4
def dB:D:=btw 32 126
def q3:D:=.func (.func 386) [] [.rptr [dB] 0]
def q1:D:=.func (.func 383) [] []
def vd:D:=.func (.func 387) [] []
def fm(f:D)(n:Int):D:=.agg [f,.int .i64 n]
def U6:Env:=[(1,q1),(2,.ptr 0 0 0),(3,q3)]
def afE:List qf:=[⟨[],.map 1,.mk⟩,⟨[],fm vd 0,.pure⟩,⟨[(6,.map 1),(7,fm vd 0)],.junk,.ins (.int .i64 12) (fm vd 0)⟩,
 ⟨[(1,q1)],q1,.pure⟩,⟨[(8,q1)],fm q1 1,.pure⟩,⟨[(6,.map 1),(9,fm q1 1)],.junk,.ins (.int .i64 19) (fm q1 1)⟩,
 ⟨[(3,q3)],q3,.pure⟩,⟨[(10,q3)],fm q3 1,.pure⟩,⟨[(6,.map 1),(11,fm q3 1)],.junk,.ins (.int .i64 20) (fm q3 1)⟩,
 ⟨[],btw 0 127,.pure⟩,⟨[(12,btw 0 127)],fm (btw 0 127) 1,.pure⟩,⟨[(6,.map 1),(13,fm (btw 0 127) 1)],.junk,.ins (.int .i64 22) (fm (btw 0 127) 1)⟩,
 ⟨[(2,.ptr 0 0 0)],dB,.pure⟩,⟨[(14,dB)],fm dB 1,.pure⟩,⟨[(6,.map 1),(15,fm dB 1)],.junk,.ins (.int .i64 26) (fm dB 1)⟩,
 ⟨[],fm vd 4,.pure⟩,⟨[(6,.map 1),(16,fm vd 4)],.junk,.ins (.int .i64 28) (fm vd 4)⟩,
 ⟨[],fm (.func (.func 388) [] []) 2,.pure⟩,⟨[(6,.map 1),(17,fm (.func (.func 388) [] []) 2)],.junk,.ins (.int .i64 30) (fm (.func (.func 388) [] []) 2)⟩,
 ⟨[(6,.map 1)],.map 1,.pure⟩,⟨[(18,.map 1)],.map 1,.pure⟩]
def lW(i:Nat):qf:=afE.getD i ⟨[],.junk,.pure⟩
def nj:List D:=[.int .i64 12,.int .i64 19,.int .i64 20,.int .i64 22,.int .i64 26,.int .i64 28,.int .i64 30]
def nk:List D:=[fm vd 0,fm q1 1,fm q3 1,fm (btw 0 127) 1,fm dB 1,fm vd 4,fm (.func (.func 388) [] []) 2]
def aex:U5 19 BV U6 lW 0=true:=by kernel_rfl
def abi:BV.size=21:=by kernel_rfl
def LU{k:D}(b:mM k=true):∀(ks:List D)(i:Nat),(∀c∈ks,mM c=true/\jj c≠jj k)->lc .i k ks i=some none
 |[],_,_=>rfl
 |c::ks,i,h=>by
  obtain⟨f,d⟩:=h c (aik ..);cases k<;>try (cases b;done)
  rename_i a n;cases a<;>try (cases b;done)
  cases c<;>try (cases f;done)
  rename_i a m;cases a<;>try (cases f;done)
  have d:n≠m:=λe=>d e.symm;simp only[lc,kI,aiG,aic.2 d];exact LU b ks (i+1) λk b=>h k (ah0 _ b)
def vG{N:Nat}{o:Oper}{e:Env}{a:Sto}{ks vs:List D}{k v:D}{t:TypeId}{m x y:Operand}{z:D}(j:o.op=.insert t m x y)(l:lk T.map t=some (.i,z))(i:ev e m=some (.map a.length))(n:ev e x=some k)(p:ev e y=some v)
 (c:mM k=true)(b:∀f∈ks,mM f=true/\jj f≠jj k):AOp prog N o e (a++[.map ks vs]) λd s=>d=.junk/\s=a++[.map (ks++[k]) (vs++[v])]:=by
 refine bN tok ?_;rw[j];have g:k.isCell=true:=by cases k<;>first|rfl|cases c
 simp only[aop,MM,l,i,n,p,QX];have:(a++[ak.map ks vs])[a.length]?=some (.map ks vs):=by simp
 rw[this];simp only[LU c ks 0 b,ahY g,ai2];congr 2;refine ajb λx=> ?_;rw[ajN];by_cases e:a.length=x
 ·subst e;simp
 ·rw[ain e];rcases ahW x a.length with h|h
  ·rw[ahP h,ahP h]
  ·rw[ahZ (by simp;omega),ahZ (by simp;omega)]
end Go.Proofs.Tryz
namespace Go.Proofs.Tryz
open Go Go.Fw Go.RowKit
set_option maxRecDepth 100000
noncomputable def oAt(i:Nat):Oper:=(BV[i]?).getD default
def aey{i:Nat}{o:Oper}(h:BV[i]?=some o):o=oAt i:=by unfold oAt;rw[h];rfl
def abj(σ:Sto):AOp prog 19 (oAt 9) (lW 9).e σ λd s=>d=(lW 9).d/\s=σ:=by
 obtain⟨b,a⟩:=aiT.1 (by kernel_rfl:(okF prog 385).isSome=true);exact qb tok (c:=⟨.value (.func 385),#[.const (.int .i32 0),.const (.int .i32 127)],#[21,21]⟩) (f:=385) (ds:=[.int .i32 0,.int .i32 127]) (by kernel_rfl) (by kernel_rfl) (qT.weak (cZ.refl _)) (jB a).2 ((aew 0 127).acall σ)
def aca(fr:Nat):∀(i:Nat) o,BV[i]?=some o->match (lW i).k with
 |.pure=>AOp prog 19 o (lW i).e [.cells [dB] fr 0] (λd s=>d=(lW i).d/\s=[.cells [dB] fr 0])/\∀b c,AOp prog 19 o (lW i).e ([.cells [dB] fr 0]++[.map b c]) (λd s=>d=(lW i).d/\s=[.cells [dB] fr 0]++[.map b c])
 |.mk=>AOp prog 19 o (lW i).e [.cells [dB] fr 0] λd s=>d=(lW i).d/\s=[.cells [dB] fr 0]++[.map [] []]
 |.ins k v=>∀b c,(∀g∈b,mM g=true/\jj g≠jj k)->AOp prog 19 o (lW i).e ([.cells [dB] fr 0]++[.map b c]) λd s=>d=(lW i).d/\s=[.cells [dB] fr 0]++[.map (b++[k]) (c++[v])]:=by
 intro i o f;have h:i<21:=by rw[<-abi];exact(aig.1 f).1
 have e:=aey f;subst e;clear f;have:i=0∨i=1∨i=2∨i=3∨i=4∨i=5∨i=6∨i=7∨i=8∨i=9∨i=10∨i=11∨i=12∨i=13∨i=14∨i=15∨i=16∨i=17∨i=18∨i=19∨i=20:=by omega
 rcases this with rfl|rfl|rfl|rfl|rfl|rfl|rfl|rfl|rfl|rfl|rfl|rfl|rfl|rfl|rfl|rfl|rfl|rfl|rfl|rfl|rfl
 ·exact bN tok (by kernel_rfl)
 ·exact⟨bN tok (by kernel_rfl),λb c=>bN tok (by kernel_rfl)⟩
 ·exact λb c a=>vG (N:=19) (t:=547) (m:=.tmp 6) (x:=.const (.int .i64 12)) (y:=.tmp 7) (z:=fm .nilf 0) (by kernel_rfl) (by kernel_rfl) rfl rfl rfl rfl a
 ·exact⟨bN tok (by kernel_rfl),λb c=>bN tok (by kernel_rfl)⟩
 ·exact⟨bN tok (by kernel_rfl),λb c=>bN tok (by kernel_rfl)⟩
 ·exact λb c a=>vG (N:=19) (t:=547) (m:=.tmp 6) (x:=.const (.int .i64 19)) (y:=.tmp 9) (z:=fm .nilf 0) (by kernel_rfl) (by kernel_rfl) rfl rfl rfl rfl a
 ·exact⟨bN tok (by kernel_rfl),λb c=>bN tok (by kernel_rfl)⟩
 ·exact⟨bN tok (by kernel_rfl),λb c=>bN tok (by kernel_rfl)⟩
 ·exact λb c a=>vG (N:=19) (t:=547) (m:=.tmp 6) (x:=.const (.int .i64 20)) (y:=.tmp 11) (z:=fm .nilf 0) (by kernel_rfl) (by kernel_rfl) rfl rfl rfl rfl a
 ·exact⟨abj _,λb c=>abj _⟩
 ·exact⟨bN tok (by kernel_rfl),λb c=>bN tok (by kernel_rfl)⟩
 ·exact λb c a=>vG (N:=19) (t:=547) (m:=.tmp 6) (x:=.const (.int .i64 22)) (y:=.tmp 13) (z:=fm .nilf 0) (by kernel_rfl) (by kernel_rfl) rfl rfl rfl rfl a
 ·exact⟨bN tok (by kernel_rfl),λb c=>bN tok (by kernel_rfl)⟩
 ·exact⟨bN tok (by kernel_rfl),λb c=>bN tok (by kernel_rfl)⟩
 ·exact λb c a=>vG (N:=19) (t:=547) (m:=.tmp 6) (x:=.const (.int .i64 26)) (y:=.tmp 15) (z:=fm .nilf 0) (by kernel_rfl) (by kernel_rfl) rfl rfl rfl rfl a
 ·exact⟨bN tok (by kernel_rfl),λb c=>bN tok (by kernel_rfl)⟩
 ·exact λb c a=>vG (N:=19) (t:=547) (m:=.tmp 6) (x:=.const (.int .i64 28)) (y:=.tmp 16) (z:=fm .nilf 0) (by kernel_rfl) (by kernel_rfl) rfl rfl rfl rfl a
 ·exact⟨bN tok (by kernel_rfl),λb c=>bN tok (by kernel_rfl)⟩
 ·exact λb c a=>vG (N:=19) (t:=547) (m:=.tmp 6) (x:=.const (.int .i64 30)) (y:=.tmp 17) (z:=fm .nilf 0) (by kernel_rfl) (by kernel_rfl) rfl rfl rfl rfl a
 ·exact⟨bN tok (by kernel_rfl),λb c=>bN tok (by kernel_rfl)⟩
 ·exact⟨bN tok (by kernel_rfl),λb c=>bN tok (by kernel_rfl)⟩
def afF(fr:Nat):RY prog 19 BV U6 [.cells [dB] fr 0] lW 0:=ab8 aex (aca fr)
def afG{a:List Nat}(c:a.Nodup)(d:∀i,i∈a↔(i<BV.size/\rE (lW i).k=true)):((a.map λi=>(lW i).key).zip (a.map λi=>(lW i).val)).Perm (nj.zip nk):=by
 have g:a.Perm [2,5,8,11,14,16,18]:=by
  refine(List.perm_ext_iff_of_nodup c (by decide)).2 λi=> ?_;rw[d,abi];constructor
  ·rintro⟨b,f⟩;have:i=0∨i=1∨i=2∨i=3∨i=4∨i=5∨i=6∨i=7∨i=8∨i=9∨i=10∨i=11∨i=12∨i=13∨i=14∨i=15∨i=16∨i=17∨i=18∨i=19∨i=20:=by omega
   rcases this with rfl|rfl|rfl|rfl|rfl|rfl|rfl|rfl|rfl|rfl|rfl|rfl|rfl|rfl|rfl|rfl|rfl|rfl|rfl|rfl|rfl<;>first|(cases f;done)|simp
  ·intro b;simp at b;rcases b with rfl|rfl|rfl|rfl|rfl|rfl|rfl<;>exact⟨by omega,rfl⟩
 have e:∀l:List Nat,(l.map λi=>(lW i).key).zip (l.map λi=>(lW i).val)=l.map λi=>((lW i).key,(lW i).val):=λl=>by
  induction l with
  |nil=>rfl
  |cons x l h=>simp[h]
 rw[e];exact g.map _
def afH:nD=[p9 nD,p9 (kY nD),p9 (kY (kY nD)),p9 (kY (kY (kY nD)))].foldr .seq (.seq r4 .ret):=by kernel_rfl
def afI:r4=.region 4 BV true:=by kernel_rfl
def st4:aw×ae:=([(3,.func (.func 386) [] [.rc [.func (.func 395) [] [.rc [.int .i32 32] 0,.rc [.int .i32 126] 0]] 0]),(5,.func (.func 386) [] [.rc [.func (.func 395) [] [.rc [.int .i32 32] 0,.rc [.int .i32 126] 0]] 0]),(2,.raw (.ptr 0 0 0)),(4,.func (.func 395) [] [.rc [.int .i32 32] 0,.rc [.int .i32 126] 0]),(1,.func (.func 383) [] []),(0,.raw .nilmap)],[.cells [.func (.func 395) [] [.rc [.int .i32 32] 0,.rc [.int .i32 126] 0]] true])
def ag9:Hg ZE 100 376 19 0 65535 [p9 nD,p9 (kY nD),p9 (kY (kY nD)),p9 (kY (kY (kY nD)))] [] []=some st4:=by kernel_rfl
end Go.Proofs.Tryz
namespace Go.Proofs.Tryz
open Go Go.Fw Go.RowKit
set_option maxRecDepth 100000
def WP{S:ae}{σ:Sto}{a b:Int}{d:D}(h:VR S σ (.func (.func 395) [] [.rc [.int .i32 a] 0,.rc [.int .i32 b] 0]) d):d=btw a b:=by
 simp only[VR,VRs]at h;obtain⟨i,j,rfl,rfl,e,m,rfl,⟨k,rfl,x,o,rfl,rfl,rfl⟩,l,f,rfl,⟨c,rfl,n,g,rfl,rfl,rfl⟩,rfl⟩:=h;rfl
def abk:BV[20]?=some (oAt 20)/\(oAt 20).dst=some 0:=⟨by kernel_rfl,by kernel_rfl⟩
def Kj:fq prog 376 [] (.pmap nj nk):=by
 obtain⟨fn,j⟩:=aiT.1 (by kernel_rfl:(okF prog 376).isSome=true);obtain⟨K,_⟩:=jB j;have L:fn.ntmps=19:=by
  have:((okF prog 376).map (·.ntmps))=some 19:=by kernel_rfl
  rw[j]at this;simpa using this
 have q:fn.body=some nD:=by
  have:((okF prog 376).bind (·.body))=some nD:=by kernel_rfl
  rw[j]at this;simpa using this
 have hr:fn.results.toList=[.tmp 0]:=by
  have:((okF prog 376).map λf=>f.results.toList)=some [.tmp 0]:=by kernel_rfl
  rw[j]at this;simpa using this
 refine FW (i:=0) rfl (by kernel_rfl) (wQ (R:=λd' _=>d'=.pmap nj nk) tok K q (by simp) ?_);rw[afH];refine Om (cx:=ZE) (n:=100) (fid:=376) (lr:=65535) (fn:=fn) (body:=nD) (r:=st4) ab9 (λe h=>by cases h) K q _ [] [] (env0 0 []) [] (λc N=> ?_) (by rw[L];exact ag9) (λt v E=>by cases E) ⟨rfl,λl o p=>by simp at p⟩ ?_
 ·have:∀k:Nat,fO k c=[]:=by
   simp only[ah8,akx,or_false]at N;have r0:p9 nD=.region 0 (LT (p9 nD)) false:=by kernel_rfl
   have J:p9 (kY nD)=.region 1 (LT (p9 (kY nD))) false:=by kernel_rfl
   have r2:p9 (kY (kY nD))=.region 2 (LT (p9 (kY (kY nD)))) false:=by kernel_rfl
   have r3:p9 (kY (kY (kY nD)))=.region 3 (LT (p9 (kY (kY (kY nD))))) false:=by kernel_rfl
   intro k;rcases N with rfl|rfl|rfl|rfl
   ·rw[r0];rfl
   ·rw[J];rfl
   ·rw[r2];rfl
   ·rw[r3];rfl
  intro k b q;rw[this]at q;cases q
 intro f8 u C M _;obtain⟨X,h1,O⟩:=C 1 (.func (.func 383) [] []) rfl;obtain⟨Y,h2,v2⟩:=C 2 (.raw (.ptr 0 0 0)) rfl;obtain⟨Z,h3,P⟩:=C 3 (.func (.func 386) [] [.rc [.func (.func 395) [] [.rc [.int .i32 32] 0,.rc [.int .i32 126] 0]] 0]) rfl;have e1:X=q1:=by
  simp only[VR,VRs]at O;obtain⟨_,_,rfl,rfl,rfl⟩:=O;rfl
 have e2:Y=.ptr 0 0 0:=by simpa only[VR] using v2
 have e3:Z=q3:=by
  rw[VR]at P;obtain⟨da,db,rfl,A,s⟩:=P;rw[VRs]at A;subst A;rw[VRs]at s;obtain⟨e,es,rfl,Q,S⟩:=s;rw[VRs]at S;subst S;rw[VR]at Q;obtain⟨ds,rfl,T⟩:=Q;rw[VRs]at T;obtain⟨e',f7,rfl,w6,U⟩:=T;rw[VRs]at U;subst U;rw[WP w6];rfl
 subst e1 e2 e3;obtain⟨ob,m,x⟩:=M.obj 0 _ rfl;obtain⟨ds,z,rfl,_,w⟩:=x;rw[VRs]at w;obtain⟨e,es,rfl,A,s⟩:=w;rw[VRs]at s;subst s;have:=WP A;subst this;have F:u=[.cells [dB] z 0]:=by
  have p:=M.len
  match u,p,m with
  |[y],_,m=>simp at m;rw[m];rfl
  |[],p,_=>cases p
  |_::_::_,p,_=>simp[st4]at p
 subst F;refine gw (AWp.mono ?_ (λe τ σ (x:e=.normal/\∃a:List Nat,a.Nodup/\(∀i,i∈a↔(i<BV.size/\rE (lW i).k=true))/\τ=[(0,D.map 1)]/\σ=[.cells [dB] z 0]++[E4 lW a])=> ?_))
 ·rw[afI,L];refine AWp.sub (τ':=U6) ((aam (afF z) (τf:=[(0,D.map 1)]) (λa H I=>⟨rfl,a,H,I,rfl,rfl⟩) (λt d g=> ?_)).awp Ra) λt d g=> ?_
  ·simp only[Fw.get]at g;split at g
   ·rename_i e;subst e;cases g;exact .inl ⟨20,_,abk.1,abk.2,rfl⟩
   ·cases g
  ·simp only[U6,Fw.get]at g;split at g
   ·rename_i e;subst e;cases g;exact h1
   ·split at g
    ·rename_i e;subst e;cases g;exact h2
    ·split at g
     ·rename_i e;subst e;cases g;exact h3
     ·cases g
 ·obtain⟨rfl,a,H,I,rfl,rfl⟩:=x;refine oX ⟨.inr rfl,.map 1,by rw[hr];rfl,.pmap nj nk,([ak.cells [dB] z 0]++[E4 lW a]).set 1 .gone,rfl,λB G w v hR E=> ?_⟩;obtain⟨V,l1,W,J⟩:=Gn (l:=1) (ks:=a.map λi=>(lW i).key) (vs:=a.map λi=>(lW i).val) hR rfl E;exact⟨V,l1,W,RZ J rfl (afG H I)⟩
end Go.Proofs.Tryz
def ahH:=@decide_eq_false
def ahK:=@decide_eq_true
def ajd:=@Go.run_next_ascii
def ajt:=@Go.rounds_succ
namespace Go.Proofs
open Go.Shelf Go.RowKit Go.Sort Go.Lib
def vD{x:UInt8}(d:128<=x.toNat){l:List UInt8}(h:(l.all λb=>decide (b.toNat<128))=true):Lib.indexByte l x= -1:=by
 induction l with
 |nil=>rfl
 |cons b l c=>
  simp only[List.all_cons,Bool.and_eq_true,decide_eq_true_eq]at h;have a:(b==x)=false:=by
   rw[beq_eq_false_iff_ne];intro e;subst e;omega
  unfold Lib.indexByte;rw[a,c h.2];rfl
def eZ:ByteArray:=⟨#[32,39,40,41,43,44,45,46,47,58,61,63]⟩
set_option maxHeartbeats 6400000 in
set_option maxRecDepth 100000 in
def Tryz.indexRune_bad(r:Int)(g: -2147483648<=r)(f:r<=2147483647)(h:r<0∨128<=r)(i:r≠65533)(j:Lib.validRune r=false)(w:World):
 Calls Tryz.prog 394 #[.string eZ,.int .i32 r] w λe c=>e=.returned (.int .i64 (-1))/\c=w:=by
 have mixed:Tryz.prog.follows .mixedOrders=true:=by kernel_rfl
 have t:=ajI;have o:=akr;have C:=akf;have y:=ajR;have x:=ajs;have s:=aks;have F:=akg;have B:=ajS;have u:=ajJ;have p:=akt;have D:=akh;have z:=ajT;have l:=aj2;have d:=akQ;have n:=akD;have m:=aj8;have v:=ai5;have q:=aj3;have E:=ajW;have A:=ajp;have b:∀a w,(callFunc 387 a).run Tryz.prog w=.ok (.enter 387 a) w:=enters_of Tryz.func387 (by kernel_rfl) rfl
 go_enter Tryz.func394,(show Tryz.f394.ntmps=187 from rfl)
 go_wp2_with (go_at_fn 387;refine(Tryz.utf8_ValidRune r _).mono ?_;rintro e c ⟨rfl,k⟩;rw[k,j])
 all_goals go_ret
 all_goals exact⟨rfl,rfl⟩
set_option maxHeartbeats 6400000 in
set_option maxRecDepth 100000 in
def Tryz.indexRune_high(r:Int)(z:128<=r)(u:r<=2147483647)(A:r≠65533)(B:Lib.validRune r=true)(k:Nat)(l:(Utf8.encode r).size=k+1)(v:0<k)(y:k<4)(x:UInt8)(m:(Utf8.encode r)[k]! =x)(f:128<=x.toNat)(w:World):
 Calls Tryz.prog 394 #[.string eZ,.int .i32 r] w λe b=>e=.returned (.int .i64 (-1))/\Below w.heap.size w b:=by
 have mixed:Tryz.prog.follows .mixedOrders=true:=by kernel_rfl
 have K:=ajI;have G:=akr;have S:=akf;have O:=ajR;have N:=ajs;have J:=aks;have V:=akg;have R:=ajS;have L:=ajJ;have H:=akt;have T:=akh;have P:=ajT;have C:=aj2;have s:=akQ;have F:=akD;have D:=aj8;have M:=ai5;have I:=aj3;have U:=ajW;have Q:=ajp;have o:∀a w,(callFunc 387 a).run Tryz.prog w=.ok (.enter 387 a) w:=enters_of Tryz.func387 (by kernel_rfl) rfl;have p:∀a w,(callFunc 398 a).run Tryz.prog w=.ok (.enter 398 a) w:=enters_of Tryz.func398 (by kernel_rfl) rfl;obtain⟨E,t⟩:∃E,Utf8.encode r=E:=⟨_,rfl⟩;rw[t]at l m;have n:k=1∨k=2∨k=3:=by omega
 go_enter Tryz.func394,(show Tryz.f394.ntmps=187 from rfl)
 go_wp2_with (go_at_fn 387;refine(Tryz.utf8_ValidRune r _).mono ?_;rintro e b ⟨rfl,d⟩;rw[d,B])
 refine wp_scope_straight ?_
 go_wp2
 refine wp_loop_rounds 1 ?_;rw[ajt];have q:eZ.size=12:=rfl;rcases n with rfl|rfl|rfl
 ·have i:E.size=2:=l;have j:E[1]'(by omega)=x:=by rw[<-m];exact(getElem!_pos E 1 (by omega)).symm
  have h:eZ[1]'(by decide)=39:=rfl;have c:¬((39:Int)=(x.toNat:Int)):=by omega
  have g:Lib.indexByte (List.take 10 (List.drop 2 eZ.data.toList)) x= -1:=vD f (by decide)
  go_wp2
  refine wp_scope_straight ?_
  go_wp2
  go_region
  all_goals go_wp2
  go_region_with_o (go_at_fn 398;refine(Tryz.strings_IndexByte _ _ _).mono ?_;rintro e b ⟨rfl,d⟩;rw[d])
  all_goals go_wp2
  all_goals simp only[Exit.noGoto,Exit.inBlock,Exit.then]
  all_goals change bodyPost prog f394 (λe b=>e=.returned (.int .i64 (-1))/\Below w.heap.size w b) Exit.ret _ _
  all_goals go_ret
  all_goals exact⟨rfl,((Below.refl _ w).drew).drew⟩
 ·have i:E.size=3:=l;have j:E[2]'(by omega)=x:=by rw[<-m];exact(getElem!_pos E 2 (by omega)).symm
  have h:eZ[2]'(by decide)=40:=rfl;have c:¬((40:Int)=(x.toNat:Int)):=by omega
  have g:Lib.indexByte (List.take 9 (List.drop 3 eZ.data.toList)) x= -1:=vD f (by decide)
  go_wp2
  refine wp_scope_straight ?_
  go_wp2
  go_region
  all_goals go_wp2
  go_region_with_o (go_at_fn 398;refine(Tryz.strings_IndexByte _ _ _).mono ?_;rintro e b ⟨rfl,d⟩;rw[d])
  all_goals go_wp2
  all_goals simp only[Exit.noGoto,Exit.inBlock,Exit.then]
  all_goals change bodyPost prog f394 (λe b=>e=.returned (.int .i64 (-1))/\Below w.heap.size w b) Exit.ret _ _
  all_goals go_ret
  all_goals exact⟨rfl,((Below.refl _ w).drew).drew⟩
 ·have i:E.size=4:=l;have j:E[3]'(by omega)=x:=by rw[<-m];exact(getElem!_pos E 3 (by omega)).symm
  have h:eZ[3]'(by decide)=41:=rfl;have c:¬((41:Int)=(x.toNat:Int)):=by omega
  have g:Lib.indexByte (List.take 8 (List.drop 4 eZ.data.toList)) x= -1:=vD f (by decide)
  go_wp2
  refine wp_scope_straight ?_
  go_wp2
  go_region
  all_goals go_wp2
  go_region_with_o (go_at_fn 398;refine(Tryz.strings_IndexByte _ _ _).mono ?_;rintro e b ⟨rfl,d⟩;rw[d])
  all_goals go_wp2
  all_goals simp only[Exit.noGoto,Exit.inBlock,Exit.then]
  all_goals change bodyPost prog f394 (λe b=>e=.returned (.int .i64 (-1))/\Below w.heap.size w b) Exit.ret _ _
  all_goals go_ret
  all_goals exact⟨rfl,((Below.refl _ w).drew).drew⟩
set_option maxHeartbeats 6400000 in
set_option maxRecDepth 100000 in
def Tryz.indexRune_err(w:World):
 Calls Tryz.prog 394 #[.string eZ,.int .i32 65533] w λe s=>e=.returned (.int .i64 (-1))/\Below w.heap.size w s:=by
 have mixed:Tryz.prog.follows .mixedOrders=true:=by kernel_rfl
 have z:=ajI;have u:=akr;have H:=akf;have D:=ajR;have C:=ajs;have y:=aks;have K:=akg;have G:=ajS;have A:=ajJ;have v:=akt;have I:=akh;have E:=ajT;have q:=aj2;have f:=akQ;have t:=akD;have r:=aj8;have B:=ai5;have x:=aj3;have J:=ajW;have F:=ajp;have a:eZ.size=12:=rfl;have g:(Instr.next (.pointer (some ⟨w.heap.size,0,none⟩)) true 0).run Tryz.prog (w.iter eZ 0)=.ok (.tuple #[.bool true,.int .i64 0,.int .i32 32]) (w.iter eZ 1):=ajd w eZ 0 0 (by decide) (by decide);have h:(Instr.next (.pointer (some ⟨w.heap.size,0,none⟩)) true 0).run Tryz.prog (w.iter eZ 1)=.ok (.tuple #[.bool true,.int .i64 1,.int .i32 39]) (w.iter eZ 2):=ajd w eZ 1 0 (by decide) (by decide);have i:(Instr.next (.pointer (some ⟨w.heap.size,0,none⟩)) true 0).run Tryz.prog (w.iter eZ 2)=.ok (.tuple #[.bool true,.int .i64 2,.int .i32 40]) (w.iter eZ 3):=ajd w eZ 2 0 (by decide) (by decide);have j:(Instr.next (.pointer (some ⟨w.heap.size,0,none⟩)) true 0).run Tryz.prog (w.iter eZ 3)=.ok (.tuple #[.bool true,.int .i64 3,.int .i32 41]) (w.iter eZ 4):=ajd w eZ 3 0 (by decide) (by decide);have k:(Instr.next (.pointer (some ⟨w.heap.size,0,none⟩)) true 0).run Tryz.prog (w.iter eZ 4)=.ok (.tuple #[.bool true,.int .i64 4,.int .i32 43]) (w.iter eZ 5):=ajd w eZ 4 0 (by decide) (by decide);have l:(Instr.next (.pointer (some ⟨w.heap.size,0,none⟩)) true 0).run Tryz.prog (w.iter eZ 5)=.ok (.tuple #[.bool true,.int .i64 5,.int .i32 44]) (w.iter eZ 6):=ajd w eZ 5 0 (by decide) (by decide);have m:(Instr.next (.pointer (some ⟨w.heap.size,0,none⟩)) true 0).run Tryz.prog (w.iter eZ 6)=.ok (.tuple #[.bool true,.int .i64 6,.int .i32 45]) (w.iter eZ 7):=ajd w eZ 6 0 (by decide) (by decide);have n:(Instr.next (.pointer (some ⟨w.heap.size,0,none⟩)) true 0).run Tryz.prog (w.iter eZ 7)=.ok (.tuple #[.bool true,.int .i64 7,.int .i32 46]) (w.iter eZ 8):=ajd w eZ 7 0 (by decide) (by decide);have o:(Instr.next (.pointer (some ⟨w.heap.size,0,none⟩)) true 0).run Tryz.prog (w.iter eZ 8)=.ok (.tuple #[.bool true,.int .i64 8,.int .i32 47]) (w.iter eZ 9):=ajd w eZ 8 0 (by decide) (by decide);have p:(Instr.next (.pointer (some ⟨w.heap.size,0,none⟩)) true 0).run Tryz.prog (w.iter eZ 9)=.ok (.tuple #[.bool true,.int .i64 9,.int .i32 58]) (w.iter eZ 10):=ajd w eZ 9 0 (by decide) (by decide);have b:(Instr.next (.pointer (some ⟨w.heap.size,0,none⟩)) true 0).run Tryz.prog (w.iter eZ 10)=.ok (.tuple #[.bool true,.int .i64 10,.int .i32 61]) (w.iter eZ 11):=ajd w eZ 10 0 (by decide) (by decide);have c:(Instr.next (.pointer (some ⟨w.heap.size,0,none⟩)) true 0).run Tryz.prog (w.iter eZ 11)=.ok (.tuple #[.bool true,.int .i64 11,.int .i32 63]) (w.iter eZ 12):=ajd w eZ 11 0 (by decide) (by decide);have d:(Instr.next (.pointer (some ⟨w.heap.size,0,none⟩)) true 0).run Tryz.prog (w.iter eZ 12)=.ok (.tuple #[.bool false]) (w.iter eZ 12):=run_next_end w eZ 12 0 (by decide)
 go_enter Tryz.func394,(show Tryz.f394.ntmps=187 from rfl)
 go_wp2
 refine wp_loop_rounds 13 ?_;rw[ajt]
 go_wp2
 rw[ajt]
 go_wp2
 rw[ajt]
 go_wp2
 rw[ajt]
 go_wp2
 rw[ajt]
 go_wp2
 rw[ajt]
 go_wp2
 rw[ajt]
 go_wp2
 rw[ajt]
 go_wp2
 rw[ajt]
 go_wp2
 rw[ajt]
 go_wp2
 rw[ajt]
 go_wp2
 rw[ajt]
 go_wp2
 rw[ajt]
 go_wp2
 go_ret
 exact⟨rfl,(Below.refl _ w).alloc (Nat.le_refl _) _⟩
def Tryz.indexRune_none(r:Int)(f: -2147483648<=r)(c:r<=2147483647)(h:r<0∨128<=r)(w:World):
 Calls Tryz.prog 394 #[.string eZ,.int .i32 r] w λe i=>e=.returned (.int .i64 (-1))/\Below w.heap.size w i:=by
 by_cases a:r=65533
 ·subst a;exact Tryz.indexRune_err w
 cases b:Lib.validRune r with
 |false=>exact(Tryz.indexRune_bad r f c h a b w).mono λe i ⟨j,k⟩=>⟨j,by rw[k];exact Below.refl _ _⟩
 |true=>
  have g:128<=r:=by
   rcases h with h|h
   ·exfalso;unfold Lib.validRune at b;simp at b;omega
   ·exact h
  have l:Utf8.valid r=true:=by
   rw[validRune_eq];unfold validRune;unfold Lib.validRune at b;simp at b⊢;omega
  obtain⟨n,o,m⟩:=encode_facts r l g;have d:(Utf8.encode r).size-1<(Utf8.encode r).size:=by omega
  exact Tryz.indexRune_high r g c a b ((Utf8.encode r).size-1) (by omega) (by omega) (by omega) _ rfl (by
   rw[getElem!_pos (Utf8.encode r) _ d];exact m d) w
def inP(r:Int):Bool:=decide (0<=r)&&(decide (r<128)&&decide (0<=Lib.indexByte eZ.data.toList r.toNat.toUInt8))
set_option maxHeartbeats 6400000 in
set_option maxRecDepth 100000 in
def Tryz.containsRune(r:Int)(f: -2147483648<=r)(d:r<=2147483647)(w:World):
 Calls Tryz.prog 384 #[.string eZ,.int .i32 r] w λe i=>e=.returned (.bool (inP r))/\Below w.heap.size w i:=by
 by_cases h:0<=r/\r<128
 ·refine(Tryz.strings_ContainsRune_ascii eZ r w h.1 h.2).mono λe i ⟨l,m⟩=>⟨?_,by rw[m];exact Below.refl _ _⟩;rw[l];unfold inP;rw[ahK h.1,ahK h.2];rfl
 ·have g:r<0∨128<=r:=by omega
  have b:inP r=false:=by
   unfold inP;rcases g with h|h
   ·rw[ahH (by omega)];rfl
   ·rw[ahH (p:=r<128) (by omega)];simp
  rw[b];have mixed:Tryz.prog.follows .mixedOrders=true:=by kernel_rfl
  have x:=ajI;have t:=akr;have D:=akf;have A:=ajR;have z:=ajs;have v:=aks;have F:=akg;have C:=ajS;have y:=ajJ;have u:=akt;have E:=akh;have B:=ajT;have o:=aj2;have k:=akQ;have s:=akD;have q:=aj8;have j:∀a w,(callFunc 394 a).run Tryz.prog w=.ok (.enter 394 a) w:=enters_of Tryz.func394 (by kernel_rfl) rfl;have c:=Tryz.indexRune_none r f d g w;clear b h g
  go_enter Tryz.func384,(show Tryz.f384.ntmps=9 from rfl)
  go_wp2_with (go_at_fn 394;refine c.mono ?_;rintro e i ⟨rfl,n⟩)
  go_ret
  exact⟨rfl,n⟩
end Go.Proofs
namespace Go.Fw
open Go.RowKit
def jZ(s:List UInt8):Option Bool:=bif Nat.ble s.length cK then some (Lib.validD s) else none
def Ej:Ctr:=⟨[.hole .str],.hole .bool,λ(x:List UInt8)=>jZ x⟩
def QM{P:Program}{f:FuncId}{g3 g4:Nat}(t:jC P f)(o:P.globalNamed "unicode/utf8.first" =some g3)(p:P.globalNamed "unicode/utf8.acceptRanges" =some g4)
 (h:∀(s:ByteArray)(w:World)(_:s.size<=9223372036854775807)(_:Lib.Utf8Tabs g3 g4 w),Calls P f #[.string s] w λe m=>e=.returned (.bool (Lib.validD s.data.toList))/\Below w.heap.size w m):fJ P f Ej:=by
 refine⟨t,rfl,rfl,λ(x:List UInt8)(y:Bool) a=> ?_⟩;have a:jZ x=some y:=a;unfold jZ at a;cases d:Nat.ble x.length cK with
 |false=>rw[d]at a;cases a
 |true=>
  rw[d]at a;cases a;have u:x.length<=cK:=ahR d;refine⟨.bool (Lib.validD x),rfl,λ_ _=>by simp only[SV.can,VR],?_⟩;intro A g z b;cases g;simp only[VRs]at b;obtain⟨n,_,rfl,c,rfl⟩:=b;intro G w l q j k;have c:n=.str x:=by simpa only[mZ,VR] using c
  subst c;simp only[af]at k;obtain⟨v,_,rfl,i,rfl⟩:=k;have i:v=.string ⟨x.toArray⟩:=by simpa only[Rep] using i
  subst i;refine(h ⟨x.toArray⟩ w (by show x.toArray.size<=_;rw[ajn];exact aiW u (by decide)) ⟨(j.2.fst g3 o).2,(j.2.acc g4 p).2⟩).mono ?_;rintro e m ⟨rfl,r⟩;refine⟨_,G,rfl,lA q r,?_⟩;show Rep G (.bool _) _;simp only[Rep]
def Ze:List UInt8:=[32,39,40,41,43,44,45,46,47,58,61,63]
def inP(r:Int):Bool:=decide (0<=r)&&(decide (r<128)&&decide (0<=Lib.indexByte Ze r.toNat.toUInt8))
def rU(r:Int):Option Bool:=bif decide (-2147483648<=r)&&decide (r<=2147483647) then some (inP r) else none
def Zf:Ctr:=⟨[.slit [32,39,40,41,43,44,45,46,47,58,61,63],.hole (.int .i32)],.hole .bool,λ(x:Int)=>rU x⟩
def aea{P:Program}{f:FuncId}(s:jC P f)
 (h:∀(r:Int)(_: -2147483648<=r)(_:r<=2147483647)(w:World),Calls P f #[.string ⟨Ze.toArray⟩,.int .i32 r] w λe n=>e=.returned (.bool (inP r))/\Below w.heap.size w n):fJ P f Zf:=by
 refine⟨s,rfl,rfl,λ(x:Int)(y:Bool) a=> ?_⟩;have a:rU x=some y:=a;unfold rU at a;cases b:(decide (-2147483648<=x)&&decide (x<=2147483647)) with
 |false=>rw[b]at a;cases a
 |true=>
  rw[b]at a;cases a;simp only[ahF,aij]at b;refine⟨.bool (inP x),rfl,λ_ _=>by simp only[SV.can,VR],?_⟩;intro A j v c;cases j;simp only[VRs]at c;obtain⟨o,_,rfl,g,d2,_,rfl,i,rfl⟩:=c;intro G w m p z l;have g:o=.str [32,39,40,41,43,44,45,46,47,58,61,63]:=by simpa only[mZ,VR] using g
  have i:d2=.int .i32 x:=by simpa only[mZ,VR] using i
  subst g i;simp only[af]at l;obtain⟨t,_,rfl,d,u,_,rfl,k,rfl⟩:=l;have d:t=.string ⟨Ze.toArray⟩:=by simp only[Rep]at d;exact d
  have k:u=.int .i32 x:=by simpa only[Rep] using k
  subst d k;refine(h x b.1 b.2 w).mono ?_;rintro e n ⟨rfl,q⟩;refine⟨_,G,rfl,lA p q,?_⟩;show Rep G (.bool _) _;simp only[Rep]
def vr0(r:Int):Option Bool:=some (Lib.validRune r)
def abe:∃f:Int->Option Bool,f=vr0:=⟨_,rfl⟩
noncomputable def Ek:Int->Option Bool:=Classical.choose abe
def H9(r:Int):Ek r=some (Lib.validRune r):=congrFun (Classical.choose_spec abe) r
noncomputable def UN:Ctr:=⟨[.hole (.int .i32)],.hole .bool,λ(x:Int)=>Ek x⟩
def aeb{P:Program}{f:FuncId}(o:jC P f)
 (h:∀(r:Int)(w:World),Calls P f #[.int .i32 r] w λe k=>e=.returned (.bool (Lib.validRune r))/\Below w.heap.size w k):fJ P f UN:=by
 refine⟨o,rfl,rfl,λ(x:Int)(y:Bool) b=> ?_⟩;have b:Ek x=some y:=b;rw[H9]at b;cases b;refine⟨.bool (Lib.validRune x),rfl,λ_ _=>by simp only[SV.can,VR],?_⟩;intro t d q a;cases d;simp only[VRs]at a;obtain⟨l,_,rfl,c,rfl⟩:=a;intro G w j m s i;have c:l=.int .i32 x:=by simpa only[mZ,VR] using c
 subst c;simp only[af]at i;obtain⟨p,_,rfl,g,rfl⟩:=i;have g:p=.int .i32 x:=by simpa only[Rep] using g
 subst g;refine(h x w).mono ?_;rintro e k ⟨rfl,n⟩;refine⟨_,G,rfl,lA m n,?_⟩;show Rep G (.bool _) _;simp only[Rep]
end Go.Fw
namespace Go.Proofs
open Go.Shelf Go.RowKit Go.Sort Go.Lib
def Tryz.lays196_ren:Go.Shelf.Ren:=⟨λ|196=>382|259=>393|n=>n,λ|9=>9|4=>4|3=>3|5=>5|12=>12|119=>536|0=>0|46=>173|139=>539|138=>538|53=>172|n=>n,λ|3=>6|4=>7|n=>n⟩
def Tryz.lays196:Go.Proofs.Lays.n196 Tryz.prog Tryz.lays196_ren:=by constructor<;>first|kernel_rfl|(intro w;kernel_rfl)
def Tryz.utf8_ValidString(s:ByteArray)(w:World)(b:s.size<=9223372036854775807)(a:Lib.Utf8Tabs 6 7 w):
 Calls Tryz.prog 382 #[.string s] w λe c=>e=.returned (.bool (Lib.validD s.data.toList))/\Below w.heap.size w c:=by
 have h:=Any.utf8_ValidString (ρ:=Tryz.lays196_ren) Tryz.lays196 s w b a;exact h
end Go.Proofs
namespace Go.Proofs.Tryz
open Go Go.Fw Go.RowKit
def acn:jC prog 382:=(jB (f:=382) (fn:=f382) (by kernel_rfl)).2
def aco:prog.globalNamed "unicode/utf8.first" =some 6:=by kernel_rfl
def ZM:prog.globalNamed "unicode/utf8.acceptRanges" =some 7:=by kernel_rfl
def qr:fJ prog 382 Ej:=QM acn aco ZM λs w b a=>Tryz.utf8_ValidString s w b a
def acp:jC prog 387:=(jB (f:=387) (fn:=f387) (by kernel_rfl)).2
def Hh:fJ prog 387 UN:=aeb acp λr w=>(Tryz.utf8_ValidRune r w).mono λ_ _ ⟨a,b⟩=>⟨a,by rw[b];exact aiS _ _⟩
def acq:jC prog 384:=(jB (f:=384) (fn:=f384) (by kernel_rfl)).2
def ahb:fJ prog 384 Zf:=aea acq λr b a w=>Tryz.containsRune r b a w
end Go.Proofs.Tryz
