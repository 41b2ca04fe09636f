/- A framework for proofs about Go programs in this model: part H. Everything is proved; no condition is added. -/
import Derived.Test.YtfjfjojmeookfaaGreatDoorProg
import Derived.Lib.Join
import Derived.Lib.ParseIntB
import Derived.Shelf.Strings.Builder1
import Derived.Shelf.Strings.Builder2
import Derived.Shelf.Strings.OnBuilder
import Derived.Shelf.Small.Utf8
import Derived.Shelf.Small.Strs
import Derived.Shelf.Strings.BuilderF
import Derived.Shelf.Strings.BuilderK
import Derived.Shelf.Strings.BuilderRune
import Derived.Shelf.Utf8.AppendRune
import Derived.Shelf.Utf8.AppendRunePlain
import Derived.Shelf.Utf8.RuneCount
import Derived.Shelf.Strconv.Itoa0
import Derived.Shelf.Strconv.Itoa1
import Derived.Shelf.LaysM
import Derived.Shelf.Strconv.Itoa2
import Derived.Shelf.Strconv.Itoa3
import Derived.Shelf.Strconv.Clone
import Derived.Shelf.Strconv.SyntaxError
import Derived.Shelf.LaysC
import Derived.Shelf.Strconv.ToError
import Derived.Shelf.Strconv.Lower
import Derived.Shelf.Strconv.ParseUint10
import Derived.Shelf.Strconv.ParseUint10Empty
import Derived.Shelf.Strconv.ParseUint10Any
import Derived.Shelf.Strconv.RangeError
import Derived.Shelf.Strconv.ToErrorRange
import Derived.Shelf.Strconv.ParseUintEmpty
import Derived.Shelf.Strconv.ParseUint10b64
import Derived.Shelf.Strconv.ParseUint10b32
import Derived.Shelf.Strconv.ParseUint10b16
import Derived.Shelf.Strconv.ParseUint10b8
import Derived.Shelf.Strconv.ParseUint10At
import Derived.Ground.MpProg
import Derived.Shelf.Pu.ParseUintPublic10
import Derived.Shelf.Pu.ErrVarParseUint
import Derived.Shelf.Strings.Search1
import Derived.Shelf.Strings.Search2
import Derived.Shelf.Strings.Search3
import Derived.Shelf.Strings.Count
import Derived.Shelf.Strings.Shaped
import Derived.Shelf.Strings.Split
import Derived.Shelf.Strings.SplitShaped
import Derived.Shelf.Unicode.Decode
import Derived.Shelf.Strings.Runes
import Derived.Shelf.Strings.RuneCount
import Derived.Shelf.Strings.Explode
import Derived.Shelf.Unicode.DecodeSlow
import Derived.Shelf.Unicode.DecodeAny
import Derived.Lib.Walk
import Derived.Lib.ItoaMem
import Derived.WalkKit
import Derived.BigCall
import Derived.BigGuard
import Derived.Lib.AppendIntMem
import Derived.Lib.Split
import Derived.Lib.SplitLaws
import Derived.Lib.AtoiErrMem
import Derived.Laws.Runes
import Derived.Laws.RangeString
import Derived.Scope
import Derived.Shelf.RegionOpenPlain
import Derived.Lib.ValidU
import Derived.Lib.Small
import Derived.Shelf.Unicode.ValidAny
import Derived.Test.YtfjfjojmeookfaaGreatDoorFwG
set_option linter.unusedVariables false
set_option linter.unusedSimpArgs false
set_option linter.defProp false
namespace Go.Fw
abbrev tL{α:Type}(k:Nat)(v:α):Tr α:=.node .nil k v .nil
abbrev tN{α:Type}(l:Tr α)(k:Nat)(v:α)(r:Tr α):Tr α:=.node l k v r
abbrev zI:D:=.int .i64 0
abbrev zL:D:=.list [] 0 true
abbrev zS:D:=.str []
abbrev zB:D:=.bool false
end Go.Fw
namespace Go.Proofs.Tryz
open Go Go.Fw
def aeW:Tr (ExK):=tN (tL 300 ExK.count) 372 ExK.indexByte .nil
def aki:cq (So prog) aeW:=by unfold cq;kernel_rfl
def aiD:Tr (Nat×Bool):=tN (tN (tN (tN (tN (tN (tL 3 (1,false)) 4 (1,false) (tL 5 (1,false))) 9 (1,false) (tN (tL 21 (1,false)) 22 (1,false) .nil)) 24 (2,true) (tN (tN (tL 26 (1,false)) 28 (6,true) (tL 29 (1,false))) 30 (1,false) (tN (tL 32 (19,true)) 34 (2,true) .nil))) 36 (23,true) (tN (tN (tN (tL 40 (1,false)) 44 (2,true) (tL 53 (2,true))) 55 (1,false) (tN (tL 58 (1,false)) 67 (1,false) .nil)) 76 (1,false) (tN (tN (tL 84 (8,true)) 86 (3,true) (tL 99 (1,false))) 106 (6,true) (tN (tL 110 (1,false)) 112 (1,false) .nil)))) 116 (1,false) (tN (tN (tN (tN (tL 127 (1,false)) 129 (5,true) (tL 150 (1,false))) 172 (1,false) (tN (tL 174 (1,false)) 177 (1,false) .nil)) 179 (8,true) (tN (tN (tL 208 (1,false)) 210 (1,false) (tL 214 (1,false))) 219 (5,true) (tN (tL 224 (1,false)) 226 (4,true) .nil))) 228 (3,true) (tN (tN (tN (tL 230 (4,true)) 231 (1,false) (tL 232 (1,false))) 234 (2,true) (tN (tL 235 (1,false)) 237 (7,true) .nil)) 238 (1,false) (tN (tN (tL 239 (1,false)) 241 (38,true) .nil) 247 (1,false) (tN (tL 252 (1,false)) 257 (1,false) .nil))))) 274 (3,true) (tN (tN (tN (tN (tN (tL 292 (1,false)) 293 (1,false) (tL 295 (1,false))) 297 (1,false) (tN (tL 299 (3,true)) 301 (3,true) .nil)) 303 (1,false) (tN (tN (tL 305 (1,false)) 307 (3,true) (tL 309 (1,false))) 311 (1,false) (tN (tL 313 (3,true)) 315 (1,false) .nil))) 317 (1,false) (tN (tN (tN (tL 323 (1,false)) 325 (1,false) (tL 329 (1,false))) 333 (1,false) (tN (tL 335 (1,false)) 339 (1,false) .nil)) 341 (1,false) (tN (tN (tL 345 (1,false)) 347 (1,false) (tL 351 (1,false))) 353 (1,false) (tN (tL 357 (1,false)) 359 (1,false) .nil)))) 363 (1,false) (tN (tN (tN (tN (tL 365 (1,false)) 369 (1,false) (tL 371 (1,false))) 391 (2,true) (tN (tL 393 (9,true)) 403 (4,true) .nil)) 407 (1,false) (tN (tN (tL 408 (1,false)) 410 (2,true) (tL 413 (10,true))) 415 (1,false) (tN (tL 416 (1,false)) 418 (2,true) .nil))) 421 (2,true) (tN (tN (tN (tL 436 (2,true)) 441 (10,true) (tL 450 (1,false))) 452 (2,true) (tN (tL 454 (2,true)) 459 (1,false) .nil)) 464 (2,true) (tN (tN (tL 470 (2,true)) 530 (11,true) .nil) 538 (2,true) (tN (tL 544 (1,false)) 546 (2,true) .nil)))))
def alY:cq (vG prog) aiD:=by unfold cq;kernel_rfl
def aeX:Tr (Nat):=tN (tN (tN (tN (tN (tN (tN (tL 1572864 0) 1572865 1 .nil) 1835008 0 (tN (tL 1835009 1) 1835010 2 .nil)) 1835011 3 (tN (tN (tL 1835012 4) 1835013 5 .nil) 2097152 0 (tL 2097153 1))) 2097154 3 (tN (tN (tN (tL 2097155 4) 2097156 10 .nil) 2097157 11 (tN (tL 2097158 17) 2097159 18 .nil)) 2228224 0 (tN (tN (tL 2228225 1) 2359296 0 .nil) 2359297 19 (tL 2359298 21)))) 2883584 0 (tN (tN (tN (tN (tL 2883585 1) 3473408 0 .nil) 3473409 1 (tN (tL 3932160 0) 3932161 1 .nil)) 5505024 0 (tN (tN (tL 5505025 1) 5505026 7 .nil) 5636096 0 (tL 5636097 1))) 5636098 2 (tN (tN (tN (tL 6750208 0) 6750209 1 .nil) 6750210 2 (tL 6946816 0)) 6946817 1 (tN (tN (tL 6946818 2) 6946819 3 .nil) 6946820 4 (tL 6946821 5))))) 8454147 3 (tN (tN (tN (tN (tN (tL 8454148 4) 9568256 0 .nil) 9568257 1 (tN (tL 11730945 1) 11730946 2 .nil)) 11730947 7 (tN (tN (tL 14352384 0) 14352385 1 .nil) 14352386 2 (tL 14352387 3))) 14352388 4 (tN (tN (tN (tL 14811136 0) 14811137 1 .nil) 14811138 2 (tL 14811139 3)) 14942208 0 (tN (tN (tL 14942209 1) 14942210 2 .nil) 15073280 0 (tL 15073281 1)))) 15073282 2 (tN (tN (tN (tN (tL 15073283 3) 15335424 0 .nil) 15335425 1 (tN (tL 15532032 0) 15532033 1 .nil)) 15532034 2 (tN (tN (tL 15532035 3) 15532036 4 .nil) 15532037 5 (tL 15532038 6))) 15794176 0 (tN (tN (tN (tL 15794177 1) 15794179 3 .nil) 15794180 4 (tL 15794181 5)) 15794182 6 (tN (tN (tL 15794183 7) 15794184 11 .nil) 15794185 14 (tL 15794186 18)))))) 15794187 19 (tN (tN (tN (tN (tN (tN (tL 15794188 20) 15794189 22 .nil) 15794190 23 (tN (tL 15794191 30) 15794192 31 .nil)) 15794193 32 (tN (tN (tL 16973824 0) 16973825 1 .nil) 17956864 0 (tL 19595264 0))) 19595266 2 (tN (tN (tN (tL 19726336 0) 19726338 2 .nil) 20119552 0 (tL 20119554 2)) 20512768 0 (tN (tN (tL 20512770 2) 20905984 0 .nil) 20905986 2 (tL 21037056 0)))) 21037058 2 (tN (tN (tN (tN (tL 21430272 0) 21430274 2 .nil) 21692416 0 (tN (tL 21692418 2) 22085632 0 .nil)) 22085634 2 (tN (tN (tL 22478848 0) 22478850 2 .nil) 22872064 0 (tL 22872066 2))) 23265280 0 (tN (tN (tN (tL 23265282 2) 23658496 0 .nil) 23658498 2 (tL 24051712 0)) 24051714 2 (tN (tN (tL 24444928 0) 24444930 2 .nil) 25624576 0 (tL 25624577 1))))) 25755648 0 (tN (tN (tN (tN (tN (tL 25755649 1) 25755650 2 .nil) 25755651 3 (tN (tL 25755652 4) 25755653 5 .nil)) 25755654 7 (tN (tN (tL 26279936 0) 26279937 1 .nil) 26411008 0 (tL 26411009 1))) 26411010 2 (tN (tN (tN (tL 26411011 3) 26869760 0 .nil) 26869761 1 (tL 27066368 0)) 27066369 1 (tN (tN (tL 27394048 0) 27394049 1 .nil) 27590656 0 (tL 27590657 1)))) 28573696 0 (tN (tN (tN (tN (tL 28573697 1) 28901376 0 .nil) 28901377 2 (tN (tL 28901378 3) 28901379 4 .nil)) 29622272 0 (tN (tN (tL 29622273 1) 29753344 0 .nil) 29753345 1 (tL 30408704 0))) 30408705 1 (tN (tN (tN (tL 30670848 0) 30801920 0 .nil) 30801921 1 (tL 32243712 0)) 32243713 1 (tN (tN (tL 35258368 0) 35258369 1 .nil) 35782656 0 (tL 35782657 1))))))
def akj:cq (λk=>Sx prog (k / 65536) (k % 65536)) aeX:=by unfold cq;kernel_rfl
def aaV:Tr (Nat×Nat×Bool):=tN (tL 2883584 (0,(1,false))) 17956866 (2,(1,false)) (tL 35782657 (1,(1,false)))
def aiE:cq (λk=>Ow prog (k / 65536) (k % 65536)) aaV:=by unfold cq;kernel_rfl
def aaW:Tr (List D):=tN (tN (tN (tN (tN (tL 3 [zI]) 22 [zL] (tL 24 [zS,zL])) 28 [zI,zI,zI,zI,zI,zI] (tN (tL 32 [zI,zS,zL,zL,zI,zI,zI,zI,zI,zI,zB,zI,zI,zI,zI,zI,zI,zL,zL]) 34 [zL,zI] .nil)) 36 [zI,zS,zL,zL,zI,zI,zI,zI,zI,zI,zB,zI,zI,zI,zI,zI,zI,zL,zL,zS,zL,zL,zI] (tN (tN (tL 40 [zI]) 44 [zI,zI] (tL 53 [zS,zL])) 58 [zL] (tN (tL 60 [zL,zI]) 84 [zL,zI,zI,zI,zI,zI,zI,zL] .nil))) 86 [zS,zB,zL] (tN (tN (tN (tL 106 [zI,zI,zB,zI,zI,zI]) 129 [zI,zI,zB,zL,zL] (tL 150 [D.nilf])) 179 [zI,zI,zI,zI,zB,zL,zL,zL] (tN (tL 219 [zI,zI,zB,zI,zI]) 226 [zB,zL,zL,zL] .nil)) 228 [zB,zB,zI] (tN (tN (tL 230 [zB,zI,zB,zI]) 231 [zL] .nil) 232 [zL] (tN (tL 234 [zL,zL]) 237 [zL,zL,zB,zB,zB,zB,zI] .nil)))) 241 [zI,zS,zB,zL,zI,zL,zL,zB,zL,zL,zL,zB,zB,zI,zB,zI,zB,zI,zL,zL,zL,zL,zL,zL,zL,zB,zB,zB,zB,zI,zL,zL,zI,zI,zI,zI,zI,zI] (tN (tN (tN (tN (tL 259 [D.nilp,zL]) 274 [zS,zS,D.nili] (tL 284 [D.int IntKind.u8 0,D.int IntKind.u8 0,D.int IntKind.u8 0,D.int IntKind.u8 0,D.int IntKind.u8 0,D.int IntKind.u8 0,D.int IntKind.u8 0,D.int IntKind.u8 0,D.int IntKind.u8 0,D.int IntKind.u8 0,D.int IntKind.u8 0,D.int IntKind.u8 0,D.int IntKind.u8 0,D.int IntKind.u8 0,D.int IntKind.u8 0,D.int IntKind.u8 0,D.int IntKind.u8 0,D.int IntKind.u8 0,D.int IntKind.u8 0,D.int IntKind.u8 0,D.int IntKind.u8 0,D.int IntKind.u8 0,D.int IntKind.u8 0,D.int IntKind.u8 0])) 299 [D.nilf,D.nilf,D.nilf] (tN (tL 301 [D.nilf,D.nilf,D.nilf]) 307 [D.nilf,D.nilf,D.nilf] .nil)) 313 [D.nilf,D.nilf,D.nilf] (tN (tN (tL 385 [D.int IntKind.u8 0,D.int IntKind.u8 0,D.int IntKind.u8 0,D.int IntKind.u8 0,D.int IntKind.u8 0,D.int IntKind.u8 0,D.int IntKind.u8 0,D.int IntKind.u8 0,D.int IntKind.u8 0,D.int IntKind.u8 0,D.int IntKind.u8 0,D.int IntKind.u8 0,D.int IntKind.u8 0,D.int IntKind.u8 0,D.int IntKind.u8 0,D.int IntKind.u8 0,D.int IntKind.u8 0,D.int IntKind.u8 0,D.int IntKind.u8 0,D.int IntKind.u8 0,D.int IntKind.u8 0,D.int IntKind.u8 0,D.int IntKind.u8 0,D.int IntKind.u8 0,D.int IntKind.u8 0,D.int IntKind.u8 0,D.int IntKind.u8 0,D.int IntKind.u8 0,D.int IntKind.u8 0,D.int IntKind.u8 0,D.int IntKind.u8 0,D.int IntKind.u8 0,D.int IntKind.u8 0,D.int IntKind.u8 0,D.int IntKind.u8 0,D.int IntKind.u8 0,D.int IntKind.u8 0,D.int IntKind.u8 0,D.int IntKind.u8 0,D.int IntKind.u8 0,D.int IntKind.u8 0,D.int IntKind.u8 0,D.int IntKind.u8 0,D.int IntKind.u8 0,D.int IntKind.u8 0,D.int IntKind.u8 0,D.int IntKind.u8 0,D.int IntKind.u8 0,D.int IntKind.u8 0,D.int IntKind.u8 0,D.int IntKind.u8 0,D.int IntKind.u8 0,D.int IntKind.u8 0,D.int IntKind.u8 0,D.int IntKind.u8 0,D.int IntKind.u8 0,D.int IntKind.u8 0,D.int IntKind.u8 0,D.int IntKind.u8 0,D.int IntKind.u8 0,D.int IntKind.u8 0,D.int IntKind.u8 0,D.int IntKind.u8 0,D.int IntKind.u8 0,D.int IntKind.u8 0]) 391 [zI,zS] (tL 393 [zI,zS,zS,zL,zL,zI,zS,zI,zS])) 401 [zL,zI] (tN (tL 403 [zL,zL,zI,zL]) 410 [D.nilf,D.nilf] .nil))) 413 [zS,zI,zS,zS,zL,zL,zI,zS,zI,zS] (tN (tN (tN (tL 418 [D.nilf,D.nilf]) 421 [zS,zL] (tL 436 [zL,zL])) 441 [zL,zL,zI,zL,zB,zB,zB,zB,zB,zB] (tN (tL 452 [zS,zL]) 454 [zS,zL] .nil)) 464 [zS,zS] (tN (tN (tL 470 [zL,zL]) 530 [zS,zS,zS,zS,zS,zS,zS,zS,zS,zS,zS] .nil) 538 [D.int IntKind.u8 0,D.int IntKind.u8 0] (tN (tL 544 [D.nilf]) 546 [D.nilf,zI] .nil))))
def aiF:cq (nx prog) aaW:=by unfold cq;kernel_rfl
def Xe:Tr (List D×aZ):=tN (tN (tN (tN (tN (tL 24 ([zS,zL],aZ.struct [(0,1),(1,1)])) 28 ([zI,zI,zI,zI,zI,zI],aZ.struct [(0,1),(1,1),(2,1),(3,1),(4,1),(5,1)]) (tL 32 ([zI,zS,zL,zL,zI,zI,zI,zI,zI,zI,zB,zI,zI,zI,zI,zI,zI,zL,zL],aZ.struct [(0,1),(1,2),(3,1),(4,6),(10,1),(11,6),(17,1),(18,1)]))) 34 ([zL,zI],aZ.struct [(0,1),(1,1)]) (tN (tL 36 ([zI,zS,zL,zL,zI,zI,zI,zI,zI,zI,zB,zI,zI,zI,zI,zI,zI,zL,zL,zS,zL,zL,zI],aZ.struct [(0,19),(19,2),(21,2)])) 44 ([zI,zI],aZ.struct [(0,1),(1,1)]) .nil)) 53 ([zS,zL],aZ.struct [(0,1),(1,1)]) (tN (tN (tL 86 ([zS,zB,zL],aZ.struct [(0,1),(1,1),(2,1)])) 103 ([zL,zL,zI,zI],aZ.struct [(0,1),(1,1),(2,2)]) (tL 106 ([zI,zI,zB,zI,zI,zI],aZ.struct [(0,1),(1,1),(2,1),(3,1),(4,1),(5,1)]))) 129 ([zI,zI,zB,zL,zL],aZ.struct [(0,1),(1,1),(2,1),(3,1),(4,1)]) (tN (tL 146 ([zI,zB],aZ.struct [(0,1),(1,1)])) 179 ([zI,zI,zI,zI,zB,zL,zL,zL],aZ.struct [(0,1),(1,1),(2,5),(7,1)]) .nil))) 219 ([zI,zI,zB,zI,zI],aZ.struct [(0,1),(1,1),(2,1),(3,1),(4,1)]) (tN (tN (tN (tL 226 ([zB,zL,zL,zL],aZ.struct [(0,1),(1,1),(2,1),(3,1)])) 228 ([zB,zB,zI],aZ.struct [(0,1),(1,1),(2,1)]) (tL 230 ([zB,zI,zB,zI],aZ.struct [(0,1),(1,1),(2,1),(3,1)]))) 234 ([zL,zL],aZ.struct [(0,1),(1,1)]) (tN (tL 237 ([zL,zL,zB,zB,zB,zB,zI],aZ.struct [(0,1),(1,1),(2,1),(3,1),(4,1),(5,1),(6,1)])) 241 ([zI,zS,zB,zL,zI,zL,zL,zB,zL,zL,zL,zB,zB,zI,zB,zI,zB,zI,zL,zL,zL,zL,zL,zL,zL,zB,zB,zB,zB,zI,zL,zL,zI,zI,zI,zI,zI,zI],aZ.struct [(0,1),(1,1),(2,1),(3,1),(4,1),(5,1),(6,1),(7,4),(11,3),(14,4),(18,1),(19,1),(20,2),(22,1),(23,7),(30,1),(31,1),(32,6)]) .nil)) 269 ([zI,zI,zI,zI,zI,zI,zI,zI,zI,zI,zI,zI],aZ.array 1) (tN (tN (tL 274 ([zS,zS,D.nili],aZ.struct [(0,1),(1,1),(2,1)])) 299 ([D.nilf,D.nilf,D.nilf],aZ.struct [(0,1),(1,1),(2,1)]) .nil) 301 ([D.nilf,D.nilf,D.nilf],aZ.struct [(0,1),(1,1),(2,1)]) (tN (tL 307 ([D.nilf,D.nilf,D.nilf],aZ.struct [(0,1),(1,1),(2,1)])) 313 ([D.nilf,D.nilf,D.nilf],aZ.struct [(0,1),(1,1),(2,1)]) .nil)))) 319 ([D.nilf,D.nilf,D.nilf],aZ.struct [(0,1),(1,1),(2,1)]) (tN (tN (tN (tN (tL 321 ([D.nilf,D.nilf,D.nilf],aZ.struct [(0,1),(1,1),(2,1)])) 327 ([D.nilf,D.nilf,D.nilf],aZ.struct [(0,1),(1,1),(2,1)]) (tL 331 ([D.nilf,D.nilf,D.nilf],aZ.struct [(0,1),(1,1),(2,1)]))) 337 ([D.nilf,D.nilf,D.nilf],aZ.struct [(0,1),(1,1),(2,1)]) (tN (tL 343 ([D.nilf,D.nilf,D.nilf],aZ.struct [(0,1),(1,1),(2,1)])) 349 ([D.nilf,D.nilf,D.nilf],aZ.struct [(0,1),(1,1),(2,1)]) .nil)) 355 ([D.nilf,D.nilf,D.nilf],aZ.struct [(0,1),(1,1),(2,1)]) (tN (tN (tL 361 ([D.nilf,D.nilf,D.nilf],aZ.struct [(0,1),(1,1),(2,1)])) 367 ([D.nilf,D.nilf,D.nilf],aZ.struct [(0,1),(1,1),(2,1)]) (tL 373 ([D.nilf,D.nilf,D.nilf],aZ.struct [(0,1),(1,1),(2,1)]))) 391 ([zI,zS],aZ.struct [(0,1),(1,1)]) (tN (tL 393 ([zI,zS,zS,zL,zL,zI,zS,zI,zS],aZ.struct [(0,1),(1,1),(2,1),(3,1),(4,1),(5,2),(7,2)])) 403 ([zL,zL,zI,zL],aZ.struct [(0,1),(1,1),(2,1),(3,1)]) .nil))) 410 ([D.nilf,D.nilf],aZ.struct [(0,1),(1,1)]) (tN (tN (tN (tL 413 ([zS,zI,zS,zS,zL,zL,zI,zS,zI,zS],aZ.struct [(0,1),(1,9)])) 418 ([D.nilf,D.nilf],aZ.struct [(0,1),(1,1)]) (tL 421 ([zS,zL],aZ.struct [(0,1),(1,1)]))) 436 ([zL,zL],aZ.struct [(0,1),(1,1)]) (tN (tL 441 ([zL,zL,zI,zL,zB,zB,zB,zB,zB,zB],aZ.struct [(0,2),(2,1),(3,1),(4,6)])) 468 ([zL],aZ.struct [(0,1)]) .nil)) 470 ([zL,zL],aZ.struct [(0,1),(1,1)]) (tN (tN (tL 482 ([zS,zS,D.nili],aZ.struct [(0,1),(1,1),(2,1)])) 492 ([zI,zL],aZ.struct [(0,1),(1,1)]) .nil) 521 ([zS],aZ.struct [(0,1)]) (tN (tL 530 ([zS,zS,zS,zS,zS,zS,zS,zS,zS,zS,zS],aZ.array 1)) 546 ([D.nilf,zI],aZ.struct [(0,1),(1,1)]) .nil))))
def agi:cq (KR prog) Xe:=by unfold cq;kernel_rfl
def aiG:Tr (List D×Nat):=tN (tN (tN (tN (tL 22 ([D.int IntKind.u8 0],1)) 26 ([zL],1) (tL 29 ([zL,zI,zI,zI,zI,zI,zI,zL],8))) 30 ([zS,zB,zL],3) (tN (tL 55 ([zS,zL],2)) 58 ([zL],1) .nil)) 99 ([zI,zI,zB,zI,zI,zI],6) (tN (tN (tL 127 ([zI,zI,zB,zL,zL],5)) 154 ([zI],1) .nil) 171 ([D.int IntKind.u64 0],1) (tN (tL 175 ([D.int IntKind.u32 0],1)) 177 ([zI,zI,zI,zI,zB,zL,zL,zL],8) .nil))) 185 ([zI,zS,zB,zL,zI,zL,zL,zB,zL,zL,zL,zB,zB,zI,zB,zI,zB,zI,zL,zL,zL,zL,zL,zL,zL,zB,zB,zB,zB,zI,zL,zL,zI,zI,zI,zI,zI,zI],38) (tN (tN (tN (tL 214 ([zS],1)) 224 ([zI,zS,zS,zL,zL,zI,zS,zI,zS],9) (tL 231 ([zS,zL],2))) 232 ([zS,zS],2) (tN (tL 235 ([zL,zL,zI,zL],4)) 238 ([zS,zI,zS,zS,zL,zL,zI,zS,zI,zS],10) .nil)) 239 ([zS,zL],2) (tN (tN (tL 253 ([D.nilp],1)) 446 ([zL],1) .nil) 450 ([zS,zL],2) (tN (tL 474 ([zB],1)) 526 ([zI,zS],2) .nil)))
def alZ:cq (JQ prog) aiG:=by unfold cq;kernel_rfl
def aeY:Tr (Nat×Nat):=tN (tL 22 (1,1)) 214 (1,16) .nil
def akk:cq (xF prog) aeY:=by unfold cq;kernel_rfl
def aiH:Tr (EK):=tN (tN (tN (tL 2 EK.prim) 3 EK.prim (tL 4 EK.bool)) 5 EK.prim (tN (tL 9 EK.prim) 12 EK.prim (tL 21 EK.prim))) 28 (EK.flat [LK.i,LK.i,LK.i,LK.i,LK.i,LK.i]) (tN (tN (tL 40 EK.prim) 44 (EK.flat [LK.i,LK.i]) (tL 172 EK.prim)) 174 EK.prim (tN (tL 247 EK.iface) 257 EK.ptr (tL 391 (EK.flat [LK.i,LK.s]))))
def QH:cq (Qe prog) aiH:=by unfold cq;kernel_rfl
def aaX:Tr (CK):=tN (tN (tN (tN (tL 131077 (CK.int IntKind.u8)) 131244 (CK.int IntKind.u64) (tL 196613 (CK.int IntKind.u8))) 196780 (CK.int IntKind.u64) (tN (tL 196781 (CK.int IntKind.u64)) 327682 (CK.int IntKind.i64) .nil)) 327683 (CK.int IntKind.i64) (tN (tN (tL 327692 (CK.int IntKind.u64)) 327701 (CK.int IntKind.i32) .nil) 327852 (CK.int IntKind.u64) (tN (tL 327854 (CK.int IntKind.u32)) 327881 (CK.int IntKind.i8) .nil))) 589846 CK.toBytes (tN (tN (tN (tL 1376261 (CK.int IntKind.u8)) 1376430 (CK.int IntKind.u32) (tL 1441801 CK.toStr)) 2424835 (CK.int IntKind.i64) (tN (tL 11272195 (CK.int IntKind.i64)) 11272197 (CK.int IntKind.u8) .nil)) 11272366 (CK.int IntKind.u32) (tN (tN (tL 11337902 (CK.int IntKind.u32)) 11403269 (CK.int IntKind.u8) .nil) 11403285 (CK.int IntKind.i32) (tN (tL 11403436 (CK.int IntKind.u64)) 13172738 (CK.int IntKind.i64) .nil)))
def aiI:cq (λk=>Oy prog (k / 65536) (k % 65536)) aaX:=by unfold cq;kernel_rfl
def aaY:Tr (Unit):=tN (tN (tN (tN (tL 9 ()) 299 () .nil) 301 () (tL 307 ())) 313 () (tN (tN (tL 319 ()) 321 () .nil) 327 () (tL 331 ()))) 337 () (tN (tN (tN (tL 343 ()) 349 () .nil) 355 () (tL 361 ())) 367 () (tN (tN (tL 373 ()) 377 () .nil) 379 () (tL 519 ())))
def aiJ:cq (SY prog) aaY:=by unfold cq;kernel_rfl
def aeZ:Tr (SK):=tN (tN (tN (tL 9 SK.string) 22 (SK.slice 1) .nil) 58 (SK.slice 1) (tL 99 (SK.slice 6))) 171 (SK.slice 1) (tN (tN (tL 175 (SK.slice 1)) 214 (SK.slice 1) .nil) 284 (SK.array 24 1) (tL 385 (SK.array 65 1)))
def akl:cq (AZ prog) aeZ:=by unfold cq;kernel_rfl
def ae0:Tr (IK):=tN (tN (tN (tN (tL 22 (IK.slice 1)) 26 (IK.slice 1) (tL 29 (IK.slice 8))) 30 (IK.slice 3) (tN (tL 55 (IK.slice 2)) 58 (IK.slice 1) (tL 99 (IK.slice 6)))) 154 (IK.slice 1) (tN (tN (tL 171 (IK.slice 1)) 175 (IK.slice 1) (tL 214 (IK.slice 1))) 224 (IK.slice 9) (tN (tL 231 (IK.slice 2)) 232 (IK.slice 2) (tL 235 (IK.slice 4))))) 238 (IK.slice 10) (tN (tN (tN (tL 239 (IK.slice 2)) 253 (IK.slice 1) (tL 284 (IK.array 24 1))) 384 (IK.array 20 1) (tN (tL 385 (IK.array 65 1)) 439 (IK.array 6 1) (tL 446 (IK.slice 1)))) 450 (IK.slice 2) (tN (tN (tL 474 (IK.slice 1)) 522 (IK.array 32 1) (tL 523 (IK.array 64 1))) 526 (IK.slice 2) (tN (tL 530 (IK.array 11 1)) 536 (IK.array 256 1) (tL 539 (IK.array 16 2)))))
def akm:cq (Sn prog) ae0:=by unfold cq;kernel_rfl
def aaZ:Tr (IVK):=tN (tL 9 IVK.string) 269 (IVK.array 12 1 false) (tL 443 IVK.string)
def aiK:cq (NT prog) aaZ:=by unfold cq;kernel_rfl
def ae1:Tr (LK×D):=tN (tN (tL 140 (LK.s,zB)) 275 (LK.i,D.agg [zS,zS,D.nili]) .nil) 488 (LK.i,D.nilf) (tL 547 (LK.i,D.agg [D.nilf,zI]))
def akn:cq (AL prog) ae1:=by unfold cq;kernel_rfl
def ae2:Tr (eP):=tN (tN (tN (tN (tL 9 eP.string) 22 eP.slice (tL 26 eP.slice)) 29 eP.slice (tN (tL 30 eP.slice) 55 eP.slice .nil)) 58 eP.slice (tN (tN (tL 99 eP.slice) 154 eP.slice .nil) 171 eP.slice (tN (tL 175 eP.slice) 214 eP.slice .nil))) 224 eP.slice (tN (tN (tN (tL 231 eP.slice) 232 eP.slice .nil) 235 eP.slice (tN (tL 238 eP.slice) 239 eP.slice .nil)) 253 eP.slice (tN (tN (tL 443 eP.string) 446 eP.slice .nil) 450 eP.slice (tN (tL 474 eP.slice) 526 eP.slice .nil)))
def ako:cq (Sz prog) ae2:=by unfold cq;kernel_rfl
def ae3:Tr (Nat×Nat):=tN (tN (tN (tN (tL 1441801 (1,1)) 1441814 (1,1) .nil) 1703962 (1,24) (tN (tL 1900573 (8,96)) 1966110 (3,48) .nil)) 3604535 (2,40) (tN (tN (tL 3801146 (1,24)) 6488163 (6,48) .nil) 8323199 (5,72) (tN (tL 10092698 (1,8)) 11206827 (1,8) .nil))) 11468975 (1,4) (tN (tN (tN (tL 11600049 (8,112)) 12124345 (38,520) .nil) 14024918 (1,16) (tN (tL 14680288 (9,136)) 15139047 (2,40) .nil)) 15204584 (2,32) (tN (tN (tL 15401195 (4,80)) 15597806 (10,152) .nil) 15663343 (2,40) (tL 29491650 (2,40))))
def Lj:cq (λk=>DE prog (k / 65536) (k % 65536)) ae3:=by unfold cq;kernel_rfl
def Ve:List (Nat×String×Nat):=[(299,"cretula/dispatch.decode",417),(301,"cretula/dispatch.decode",420),(307,"cretula/dispatch.decode",423),(313,"cretula/dispatch.decode",426),(319,"cretula/dispatch.decode",429),(321,"cretula/dispatch.decode",432),(327,"cretula/dispatch.decode",435),(331,"cretula/dispatch.decode",438),(337,"cretula/dispatch.decode",441),(343,"cretula/dispatch.decode",444),(349,"cretula/dispatch.decode",447),(355,"cretula/dispatch.decode",450),(361,"cretula/dispatch.decode",453),(367,"cretula/dispatch.decode",456),(373,"cretula/dispatch.decode",459)]
def aiL:(Ve.map λp=>IX prog p.1 p.2.1)=Ve.map λp=>some p.2.2:=krq
def T:Tys:=⟨aiD,aeX,aaV,aaW,Xe,aiG,aeY,aiH,aaX,aaY,aeZ,ae0,aaZ,ae1,ae2,ae3,Ve,aeW⟩
def tok:TOk T prog:=⟨alY,akj,aiE,aiF,agi,alZ,akk,QH,aiI,aiJ,akl,akm,aiK,akn,ako,Lj,aiL,aki⟩
end Go.Proofs.Tryz

namespace Go.Fw
open Go.RowKit
def ja{G:Gh}{w h:World}(d:mw G w)(c:Below w.heap.size w h):GW G G w h where
 le:=.refl G
 below:=c
 blk:=rfl
 imm b o v hi:=by
  have a:=d.imm b o v hi;rw[c.cell (p:=⟨b,o,none⟩) (eO a)];exact a
 mimm b es hm:=by
  obtain⟨a,e⟩:=d.mimm b es hm;exact⟨(c.block b (bD a)).trans a,e⟩
 siz b n hs:=by
  obtain⟨k,i,f,g,j⟩:=d.siz b n hs;exact⟨k,i,f,(c.block b (bD g)).trans g,j⟩
 imm_new _ _ _:=rfl
 mimm_new _ _:=rfl
def Fl:Nat:=140737488355328
def fT(xs:List (List UInt8))(a:List UInt8):Option (List UInt8):=
 bif Nat.ble xs.length Fl&&Nat.ble (Lib.join xs a).length Fl then some (Lib.join xs a) else none
def TW:Ctr:=⟨[.hole (.sl .str),.hole .str],.hole .str,λ(x:List (List UInt8)×List UInt8)=>fT x.1 x.2⟩
def Os{G:Gh}{w:World}(e:mw G w){b:Nat}:∀{xs:List (List UInt8)}{o:Nat},Cells G b o (bN vR xs)->∀(j:Nat) x,xs[j]?=some x->w.cell? ⟨b,o+j,none⟩=some (.string ⟨x.toArray⟩)
 |[],_,_,j,x,a=>by simp at a
 |y::c,o,h,j,x,a=>by
  rw[show bN vR (y::c)=.str y::bN vR c from vR.fcons y c]at h;simp only[Cells]at h;obtain⟨⟨v,f,d⟩,g⟩:=h;cases j with
  |zero=>
   simp at a;subst a;simp only[Rep]at d;rw[aoQ,e.imm _ _ _ f,d]
  |succ j=>
   have:=Os e g j x (by simpa using a);rw[show o+(j+1)=o+1+j from omq];exact this
def acx{P:Program}{f:FuncId}(I:fX P f)
 (F:∀(a:Option Addr)(c:Nat)(d:ByteArray)(w:World),Calls P f #[.slice a 0 c,.string d] w λe p=>e=.returned (.string ⟨#[]⟩)/\p=w)
 (h:∀(bk o c:Nat)(xs:List ByteArray)(d:ByteArray)(w:World),(∀(j:Nat) x,xs[j]?=some x->w.cell? ⟨bk,o+j,none⟩=some (.string x))->bk<w.heap.size->xs.length<=140737488355328->xs.length<=c->
   (Lib.join (xs.map (·.data.toList)) d.data.toList).length<=140737488355328->
   Calls P f #[.slice (some ⟨bk,o,none⟩) xs.length c,.string d] w λe p=>e=.returned (.string ⟨(Lib.join (xs.map (·.data.toList)) d.data.toList).toArray⟩)/\Below w.heap.size w p):cI P f TW:=by
 refine⟨I,rfl,rfl,?_⟩;rintro⟨xs,d⟩ y i;have i:fT xs d=some y:=i;unfold fT at i;cases m:(Nat.ble xs.length Fl&&Nat.ble (Lib.join xs d).length Fl) with
 |false=>rw[m]at i;cases i
 |true=>
  rw[m]at i;cases i;simp only[amk]at m;have K:=amx m.1;have J:=amx m.2;refine⟨.str (Lib.join xs d),rfl,λ_ _=>by simp only[SV.can,VR],?_⟩;intro Y u R n;cases u;simp only[VRs]at n;obtain⟨Q,_,rfl,⟨S,rfl,_⟩,d2,_,rfl,rfl,rfl⟩:=n;intro G w E r T A;simp only[af]at A;obtain⟨W,_,rfl,C,X,_,rfl,D,rfl⟩:=A;simp only[Rep]at C D;subst D;obtain⟨a,k,rfl,N,U,V,O⟩:=C;cases xs with
  |nil=>
   refine(F a k ⟨d.toArray⟩ w).mono ?_;rintro e p ⟨rfl,rfl⟩;refine⟨_,G,rfl,ja r (anB _ _),?_⟩;simp only[SV.can,Rep];rfl
  |cons x xs=>
   rcases O with⟨b,o,rfl,q⟩|q
   ·have g:=Os r (xs:=x::xs) q;have t:∀l:List (List UInt8),(l.map λs:List UInt8=>(⟨s.toArray⟩:ByteArray)).map (·.data.toList)=l:=by
     intro l;induction l with
     |nil=>rfl
     |cons a l M=>rw[amz,amz,M]
    have v:=t (x::xs);have:=h b o k ((x::xs).map λs=>⟨s.toArray⟩) ⟨d.toArray⟩ w (λj z B=>by
     rw[anq]at B;obtain⟨s,L,rfl⟩:=an3.1 B;exact g j s L) (eO (g 0 x rfl)) (by rw[am7];exact K) (by rw[am7];exact N) (by rw[v];exact J)
    rw[v,am7]at this;refine Calls.mono this ?_;rintro e p ⟨rfl,H⟩;refine⟨_,G,rfl,ja r H,?_⟩;simp only[SV.can,Rep]
   ·rw[show TC.flat .str (x::xs)=.str x::bN vR xs from vR.fcons x xs]at q;cases q
def acy{P:Program}{G:Gh}{w:World}(i:mw G w)(f:jN P G w){g:Nat}(j:nu P g=some [.anyi]):∃ev,w.cell? ⟨g,0,none⟩=some ev/\∃l k,ev=.iface l k:=by
 have h:=(f.1 g _ j).2;simp only[Rep]at h;obtain⟨b,o,a,c⟩:=h;simp only[Value.pointer.injEq,amn,Addr.mk.injEq]at a;obtain⟨rfl,a,_⟩:=a;simp only[Cells]at c;obtain⟨⟨v,e,d⟩,_⟩:=c;simp only[Rep]at d;have:o=0:=omq;subst this;exact⟨v,i.imm _ _ _ e,d⟩
def ZU{P:Program}{f:FuncId}{te:TypeId}{g k:Nat}{s:List UInt8}(m:nu P g=some [.anyi])
 (h:∀(ev:Value)(w:World),w.cell? ⟨g,0,none⟩=some ev->(ev=.nilIface∨∃te o,ev=.iface te o)->
   Calls P f #[.string ⟨s.toArray⟩,.int .i64 10,.int .i64 32] w λe d=>∃N,e=.returned (.tuple #[.int .u64 k,.iface te (.pointer (some ⟨N,0,none⟩))])/\Below w.heap.size w d):
 cy P f [.str s,.int .i64 10,.int .i64 32] (.tuple [.int .u64 k,.anyi]):=by
 intro G w c a i b;simp only[af,Rep]at b;obtain⟨_,_,rfl,rfl,_,_,rfl,rfl,_,_,rfl,rfl,rfl⟩:=b;obtain⟨ev,l,n⟩:=acy a i m;refine(h ev w l (.inr n)).mono ?_;rintro e d ⟨N,rfl,j⟩;refine⟨_,G,rfl,ja a j,?_⟩;simp only[Rep,af];exact⟨_,rfl,_,_,rfl,rfl,_,_,rfl,⟨_,_,rfl⟩,rfl⟩
def afv{P:Program}{f:FuncId}{k:Nat}{s:List UInt8}
 (h:∀w:World,Calls P f #[.string ⟨s.toArray⟩,.int .i64 10,.int .i64 32] w λe c=>e=.returned (.tuple #[.int .u64 k,.nilIface])/\Below w.heap.size w c):
 cy P f [.str s,.int .i64 10,.int .i64 32] (.tuple [.int .u64 k,.nili]):=by
 intro G w b d i a;simp only[af,Rep]at a;obtain⟨_,_,rfl,rfl,_,_,rfl,rfl,_,_,rfl,rfl,rfl⟩:=a;refine(h w).mono ?_;rintro e c ⟨rfl,g⟩;refine⟨_,G,rfl,ja d g,?_⟩;simp only[Rep,af];exact⟨_,rfl,_,_,rfl,rfl,_,_,rfl,rfl,rfl⟩
end Go.Fw
def anV:=@Go.Proofs.Tryz.underlying5
def aoc:=@Go.Proofs.Tryz.zeroValue5
def aof:=@Go.Proofs.Tryz.underlying9
def aov:=@Go.Proofs.Tryz.underlying3
def aow:=@Go.Proofs.Tryz.underlying4
def aoF:=@Go.Proofs.Tryz.zeroValue3
def aoG:=@Go.Proofs.Tryz.zeroValue9
def aoH:=@Go.Proofs.Tryz.zeroValue4
def aoL:=@Go.Proofs.Tryz.sizeOf5
def aoR:=@Go.Proofs.Tryz.underlying21
def aoS:=@Go.Proofs.Tryz.isAgg5
def aoY:=@Go.Proofs.Tryz.zeroValue21
def ao4:=@Go.Proofs.Tryz.sizeOf3
def ao5:=@Go.Proofs.Tryz.sizeOf9
def ao6:=@Go.Proofs.Tryz.sizeOf4
def apf:=@Go.Proofs.Tryz.isAgg3
def apg:=@Go.Proofs.Tryz.isAgg9
def aph:=@Go.Proofs.Tryz.isAgg4
def apr:=@Go.Proofs.Tryz.sizeOf21
def apx:=@Go.Proofs.Tryz.underlying284
def apE:=@Go.Proofs.Tryz.isAgg21
def apG:=@Go.Proofs.Tryz.underlying22
def apO:=@Go.Proofs.Tryz.underlying0
def apX:=@Go.Proofs.Tryz.zeroValue0
namespace Go.Proofs
open Go.Shelf
def Tryz.lays169_ren:Go.Shelf.Ren:=⟨λ|169=>151|n=>n,λ|70=>257|9=>9|0=>0|72=>259|37=>22|127=>289|3=>3|5=>5|n=>n,λ|n=>n⟩
def Tryz.lays169:Go.Proofs.Lays.n169 Tryz.prog Tryz.lays169_ren:=by constructor<;>first|kernel_rfl|(intro w;kernel_rfl)
def Tryz.Builder_Extra_169:Builder.Extra Tryz.prog Tryz.lays169_ren:={
 sizeBuilder:=by kernel_rfl
 liesBuilder:=by kernel_rfl
 t5:=anV
 a5:=aoS
 z5:=aoL
 v5:=aoc
 infoByte:=by kernel_rfl
 cellsByte:=by kernel_rfl
 sizeByte:=by kernel_rfl
 neB5:=by decide}
def Tryz.lays156_ren:Go.Shelf.Ren:=⟨λ|156=>134|165=>149|166=>150|169=>151|240=>168|241=>169|276=>239|277=>240|n=>n,λ|31=>214|9=>9|3=>3|4=>4|0=>0|20=>20|72=>259|76=>261|70=>257|37=>22|75=>247|127=>289|164=>387|5=>5|80=>263|n=>n,λ|n=>n⟩
def Tryz.lays156:Go.Proofs.Lays.n156 Tryz.prog Tryz.lays156_ren:=by constructor<;>first|kernel_rfl|(intro w;kernel_rfl)
def Tryz.Builder_Extra_156:Builder.Extra Tryz.prog Tryz.lays156_ren:={
 sizeBuilder:=by kernel_rfl
 liesBuilder:=by kernel_rfl
 t5:=anV
 a5:=aoS
 z5:=aoL
 v5:=aoc
 infoByte:=by kernel_rfl
 cellsByte:=by kernel_rfl
 sizeByte:=by kernel_rfl
 neB5:=by decide}
open Go.RowKit in
def Tryz.strings_Join_none(a:Option Addr)(c:Nat)(b:ByteArray)(w:World):
 Calls Tryz.prog 134 #[.slice a 0 c,.string b] w λe d=>e=.returned (.string ⟨#[]⟩)/\d=w:=Any.strings_Join_none Tryz.lays156 Tryz.Builder_Extra_156 a c b w
open Go.RowKit in
def Tryz.strings_Join(bk o c:Nat)(xs:List ByteArray)(b:ByteArray)(w:World)(a:∀(j:Nat) x,xs[j]?=some x->w.cell? ⟨bk,o+j,none⟩=some (.string x))(g:bk<w.heap.size)(h:xs.length<=140737488355328)(d:xs.length<=c)(f:(Lib.join (xs.map (·.data.toList)) b.data.toList).length<=140737488355328):
 Calls Tryz.prog 134 #[.slice (some ⟨bk,o,none⟩) xs.length c,.string b] w λe i=>e=.returned (.string ⟨(Lib.join (xs.map (·.data.toList)) b.data.toList).toArray⟩)/\Below w.heap.size w i:=Any.strings_Join Tryz.lays156 Tryz.Builder_Extra_156 bk o c xs b w a g h d f
def Tryz.lays119_ren:Go.Shelf.Ren:=⟨λ|119=>387|n=>n,λ|21=>21|4=>4|n=>n,λ|n=>n⟩
def Tryz.lays119:Go.Proofs.Lays.n119 Tryz.prog Tryz.lays119_ren:=by constructor<;>first|kernel_rfl|(intro w;kernel_rfl)
def Tryz.utf8_ValidRune(r:Int)(w:World):
 Calls Tryz.prog 387 #[.int .i32 r] w λe a=>e=.returned (.bool (Lib.validRune r))/\a=w:=Any.utf8_ValidRune Tryz.lays119 r w
def Tryz.lays137_ren:Go.Shelf.Ren:=⟨λ|137=>398|217=>348|266=>372|n=>n,λ|9=>9|5=>5|3=>3|n=>n,λ|n=>n⟩
def Tryz.lays137:Go.Proofs.Lays.n137 Tryz.prog Tryz.lays137_ren:=by constructor<;>first|kernel_rfl|(intro w;kernel_rfl)
open Go.RowKit in
def Tryz.strings_IndexByte(s:ByteArray)(c:Int)(w:World):
 Calls Tryz.prog 398 #[.string s,.int .u8 c] w λe a=>e=.returned (.int .i64 (Lib.indexByte s.data.toList c.toNat.toUInt8))/\a=w:=Any.strings_IndexByte Tryz.lays137 s c w
open Go.RowKit in
def Tryz.Builder_String_any_k(B b:Nat)(l:List UInt8)(w:World)(h:Lib.IsBuilderF 259 5 B b (Lib.byteCells l) w)(a:B<=w.heap.size):
 Calls Tryz.prog 151 #[.pointer (some ⟨b,0,none⟩)] w λe c=>e=.returned (.string ⟨l.toArray⟩)/\(Lib.IsBuilderF 259 5 B b (Lib.byteCells l) c/\Below B w c/\Lib.OthersKept 5 (some b) w c):=Any.Builder_String_any_k Tryz.lays169 Tryz.Builder_Extra_169 B b l w h a
def Tryz.lays283_ren:Go.Shelf.Ren:=⟨λ|283=>164|n=>n,λ|3=>3|9=>9|4=>4|n=>n,λ|n=>n⟩
def Tryz.lays283:Go.Proofs.Lays.n283 Tryz.prog Tryz.lays283_ren:=by constructor<;>first|kernel_rfl|(intro w;kernel_rfl)
open Go.Lib in
def Tryz.internal_strconv_small(i:Nat)(h:i<100)(w:World):
 Calls Tryz.prog 164 #[.int .i64 i] w λe a=>e=.returned (.string ⟨(Lib.decDigits i).toArray⟩)/\a=w:=Any.internal_strconv_small Tryz.lays283 i h w
def Tryz.laysM284_ren:Go.Shelf.Ren:=⟨λ|284=>165|129=>235|317=>234|318=>236|n=>n,λ|53=>172|3=>3|212=>384|0=>0|4=>4|46=>173|5=>5|9=>9|n=>n,λ|17=>0|n=>n⟩
def Tryz.laysM284:Go.Proofs.LaysM.n284 Tryz.prog Tryz.laysM284_ren:={
 mixed:=by kernel_rfl
 f129:=Tryz.func235.trans (congrArg some (by kernel_rfl))
 f284:=Tryz.func165.trans (congrArg some (by kernel_rfl))
 f317:=Tryz.func234.trans (congrArg some (by kernel_rfl))
 f318:=Tryz.func236.trans (congrArg some (by kernel_rfl))
 t0:=apO
 a0:=Tryz.isAgg0
 z0:=Tryz.sizeOf0
 v0:=apX
 t3:=aov
 a3:=apf
 z3:=ao4
 v3:=aoF
 t4:=aow
 a4:=aph
 z4:=ao6
 v4:=aoH
 t5:=anV
 a5:=aoS
 z5:=aoL
 v5:=aoc
 t9:=aof
 a9:=apg
 z9:=ao5
 v9:=aoG
 t46:=Tryz.underlying173
 a46:=Tryz.isAgg173
 z46:=Tryz.sizeOf173
 v46:=Tryz.zeroValue173
 t53:=Tryz.underlying172
 a53:=Tryz.isAgg172
 z53:=Tryz.sizeOf172
 v53:=Tryz.zeroValue172
 t212:=Tryz.underlying384
 a212:=Tryz.isAgg384
 z212:=Tryz.sizeOf384
 v212:=Tryz.zeroValue384
 g17:=by kernel_rfl
 i0:=by kernel_rfl
 i3:=by kernel_rfl
 i4:=by kernel_rfl
 i5:=by kernel_rfl
 i9:=by kernel_rfl
 i46:=by kernel_rfl
 i53:=by kernel_rfl
 i212:=by kernel_rfl
 m17:=by kernel_rfl}
open Go.Lib in
def Tryz.internal_strconv_numDigits(u:Nat)(b:1<=u)(c:u<18446744073709551616)(w:World)(a:Lib.TabIs Tryz.prog w "internal/strconv.uint64pow10" .u64 Lib.pow10Tab):
 Calls Tryz.prog 165 #[.int .u64 u] w λe d=>e=.returned (.int .i64 (Lib.nDigits u))/\d=w:=Any.internal_strconv_numDigits Tryz.laysM284 u b c w a
def Tryz.lays285_ren:Go.Shelf.Ren:=⟨λ|285=>166|n=>n,λ|37=>22|53=>172|3=>3|4=>4|51=>174|9=>9|5=>5|0=>0|n=>n,λ|n=>n⟩
def Tryz.lays285:Go.Proofs.Lays.n285 Tryz.prog Tryz.lays285_ren:=by constructor<;>first|kernel_rfl|(intro w;kernel_rfl)
open Go.RowKit Go.Sort Go.Lib in
def Tryz.internal_strconv_formatBase10(blk off a:Nat)(u:Nat)(d:Array UInt8)(w:World)(hH:Holds (λ(b:UInt8)=>Value.int .u8 (b.toNat:Int)) w blk off d)(h:u<10 ^ d.size)(c:u<18446744073709551616)(f:d.size<4611686018427387904):
 Calls Tryz.prog 166 #[.slice (some ⟨blk,off,none⟩) d.size a,.int .u64 u] w λe i=>
  e=.returned (.tuple #[])/\∃(n v':Nat)(g:Array UInt8),i=(putRow (λ(b:UInt8)=>Value.int .u8 (b.toNat:Int)) w blk off g).drewN n/\FmtInv d.size u 0 v' g:=Any.internal_strconv_formatBase10 Tryz.lays285 blk off a u d w hH h c f
def Tryz.laysPu14_ren:Go.Shelf.Ren:=⟨λ|14=>143|16=>162|17=>163|19=>228|20=>229|21=>230|22=>231|23=>232|24=>233|25=>302|27=>304|26=>303|28=>352|29=>374|30=>164|31=>165|32=>166|33=>167|35=>235|34=>234|36=>236|37=>237|38=>238|39=>305|40=>306|n=>n,λ|9=>9|3=>3|22=>172|24=>247|25=>248|4=>4|34=>377|5=>5|36=>173|37=>22|0=>0|39=>379|21=>21|44=>482|47=>289|50=>521|48=>519|2=>2|52=>284|55=>287|59=>384|60=>174|20=>20|61=>385|65=>522|66=>523|67=>263|n=>n,λ|0=>1|1=>2|2=>0|3=>4|4=>5|n=>n⟩
def Tryz.laysPu14:Go.Proofs.LaysPu.n14 Tryz.prog Tryz.laysPu14_ren:={
 mixed:=by kernel_rfl
 f14:=Tryz.func143.trans (congrArg some (by kernel_rfl))
 f16:=Tryz.func162.trans (congrArg some (by kernel_rfl))
 f17:=Tryz.func163.trans (congrArg some (by kernel_rfl))
 f19:=Tryz.func228.trans (congrArg some (by kernel_rfl))
 f20:=Tryz.func229.trans (congrArg some (by kernel_rfl))
 f21:=Tryz.func230.trans (congrArg some (by kernel_rfl))
 f22:=Tryz.func231.trans (congrArg some (by kernel_rfl))
 f23:=Tryz.func232.trans (congrArg some (by kernel_rfl))
 f24:=Tryz.func233.trans (congrArg some (by kernel_rfl))
 f25:=Tryz.func302.trans (congrArg some (by kernel_rfl))
 f26:=Tryz.func303.trans (congrArg some (by kernel_rfl))
 f27:=Tryz.func304.trans (congrArg some (by kernel_rfl))
 f28:=Tryz.func352.trans (congrArg some (by kernel_rfl))
 f29:=Tryz.func374.trans (congrArg some (by kernel_rfl))
 f30:=Tryz.func164.trans (congrArg some (by kernel_rfl))
 f31:=Tryz.func165.trans (congrArg some (by kernel_rfl))
 f32:=Tryz.func166.trans (congrArg some (by kernel_rfl))
 f33:=Tryz.func167.trans (congrArg some (by kernel_rfl))
 f34:=Tryz.func234.trans (congrArg some (by kernel_rfl))
 f35:=Tryz.func235.trans (congrArg some (by kernel_rfl))
 f36:=Tryz.func236.trans (congrArg some (by kernel_rfl))
 f37:=Tryz.func237.trans (congrArg some (by kernel_rfl))
 f38:=Tryz.func238.trans (congrArg some (by kernel_rfl))
 f39:=Tryz.func305.trans (congrArg some (by kernel_rfl))
 f40:=Tryz.func306.trans (congrArg some (by kernel_rfl))
 t0:=apO
 a0:=Tryz.isAgg0
 z0:=Tryz.sizeOf0
 v0:=apX
 i0:=by kernel_rfl
 t2:=Tryz.underlying2
 a2:=Tryz.isAgg2
 z2:=Tryz.sizeOf2
 v2:=Tryz.zeroValue2
 i2:=by kernel_rfl
 t3:=aov
 a3:=apf
 z3:=ao4
 v3:=aoF
 i3:=by kernel_rfl
 t4:=aow
 a4:=aph
 z4:=ao6
 v4:=aoH
 i4:=by kernel_rfl
 t5:=anV
 a5:=aoS
 z5:=aoL
 v5:=aoc
 i5:=by kernel_rfl
 t9:=aof
 a9:=apg
 z9:=ao5
 v9:=aoG
 i9:=by kernel_rfl
 t20:=Tryz.underlying20
 a20:=Tryz.isAgg20
 z20:=Tryz.sizeOf20
 v20:=Tryz.zeroValue20
 i20:=by kernel_rfl
 t21:=aoR
 a21:=apE
 z21:=apr
 v21:=aoY
 i21:=by kernel_rfl
 t22:=Tryz.underlying172
 a22:=Tryz.isAgg172
 z22:=Tryz.sizeOf172
 v22:=Tryz.zeroValue172
 i22:=by kernel_rfl
 t24:=Tryz.underlying247
 a24:=Tryz.isAgg247
 z24:=Tryz.sizeOf247
 v24:=Tryz.zeroValue247
 i24:=by kernel_rfl
 t25:=Tryz.underlying248
 a25:=Tryz.isAgg248
 z25:=Tryz.sizeOf248
 v25:=Tryz.zeroValue248
 i25:=by kernel_rfl
 t34:=Tryz.underlying377
 a34:=Tryz.isAgg377
 z34:=Tryz.sizeOf377
 v34:=Tryz.zeroValue377
 i34:=by kernel_rfl
 c34:=by kernel_rfl
 t36:=Tryz.underlying173
 a36:=Tryz.isAgg173
 z36:=Tryz.sizeOf173
 v36:=Tryz.zeroValue173
 i36:=by kernel_rfl
 t37:=apG
 a37:=Tryz.isAgg22
 z37:=Tryz.sizeOf22
 v37:=Tryz.zeroValue22
 i37:=by kernel_rfl
 t39:=Tryz.underlying379
 a39:=Tryz.isAgg379
 z39:=Tryz.sizeOf379
 v39:=Tryz.zeroValue379
 i39:=by kernel_rfl
 t44:=Tryz.underlying482
 a44:=Tryz.isAgg482
 z44:=Tryz.sizeOf482
 v44:=Tryz.zeroValue482
 i44:=by kernel_rfl
 t47:=Tryz.underlying289
 a47:=Tryz.isAgg289
 z47:=Tryz.sizeOf289
 v47:=Tryz.zeroValue289
 i47:=by kernel_rfl
 t48:=Tryz.underlying519
 a48:=Tryz.isAgg519
 z48:=Tryz.sizeOf519
 v48:=Tryz.zeroValue519
 i48:=by kernel_rfl
 t50:=Tryz.underlying521
 a50:=Tryz.isAgg521
 z50:=Tryz.sizeOf521
 v50:=Tryz.zeroValue521
 i50:=by kernel_rfl
 t52:=apx
 a52:=Tryz.isAgg284
 z52:=Tryz.sizeOf284
 v52:=Tryz.zeroValue284
 i52:=by kernel_rfl
 t55:=Tryz.underlying287
 a55:=Tryz.isAgg287
 z55:=Tryz.sizeOf287
 v55:=Tryz.zeroValue287
 i55:=by kernel_rfl
 t59:=Tryz.underlying384
 a59:=Tryz.isAgg384
 z59:=Tryz.sizeOf384
 v59:=Tryz.zeroValue384
 i59:=by kernel_rfl
 t60:=Tryz.underlying174
 a60:=Tryz.isAgg174
 z60:=Tryz.sizeOf174
 v60:=Tryz.zeroValue174
 i60:=by kernel_rfl
 t61:=Tryz.underlying385
 a61:=Tryz.isAgg385
 z61:=Tryz.sizeOf385
 t65:=Tryz.underlying522
 a65:=Tryz.isAgg522
 z65:=Tryz.sizeOf522
 v65:=Tryz.zeroValue522
 i65:=by kernel_rfl
 t66:=Tryz.underlying523
 a66:=Tryz.isAgg523
 z66:=Tryz.sizeOf523
 v66:=Tryz.zeroValue523
 i66:=by kernel_rfl
 t67:=Tryz.underlying263
 a67:=Tryz.isAgg263
 z67:=Tryz.sizeOf263
 v67:=Tryz.zeroValue263
 i67:=by kernel_rfl
 g0:=by kernel_rfl
 m0:=by kernel_rfl
 g1:=by kernel_rfl
 m1:=by kernel_rfl
 g2:=by kernel_rfl
 m2:=by kernel_rfl
 g3:=by kernel_rfl
 m3:=by kernel_rfl
 g4:=by kernel_rfl
 m4:=by kernel_rfl}
open Go.RowKit in
def Tryz.strconv_ParseUint_10_at32_ok(s:ByteArray)(a:s.size<=9223372036854775806)(u:Nat)(h:Lib.parseUintB 32 s.data.toList=.ok u)(w:World):
 Calls Tryz.prog 143 #[.string s,.int .i64 10,.int .i64 32] w λe b=>e=.returned (.tuple #[.int .u64 u,.nilIface])/\(b=w∨b=Lib.bytesWorld w 5 s):=Any.strconv_ParseUint_10_at32_ok Tryz.laysPu14 s a u h w
open Go.RowKit in
def Tryz.strconv_ParseUint_10_at32_syntax(s:ByteArray)(a:s.size<=281474976710656)(h:Lib.parseUintB 32 s.data.toList=Lib.parseUintB 32 [])(ev:Value)(w:World)(d:w.cell? ⟨1,0,none⟩=some ev)(b:ev=.nilIface∨∃g f,ev=.iface g f):
 Calls Tryz.prog 143 #[.string s,.int .i64 10,.int .i64 32] w λe c=>∃N,e=.returned (.tuple #[.int .u64 0,.iface 379 (.pointer (some ⟨N,0,none⟩))])/\w.heap.size<=N/\c.heap[N]?=some (.cells #[.string ⟨#[80,97,114,115,101,85,105,110,116]⟩,.string s,ev] 482 (0,0))/\Below w.heap.size w c:=Any.strconv_ParseUint_10_at32_syntax Tryz.laysPu14 s a h ev w d b
open Go.RowKit in
def Tryz.strconv_ParseUint_10_at32_range(s:ByteArray)(a:s.size<=281474976710656)(h:Lib.parseUintB 32 s.data.toList=.range)(ev:Value)(w:World)(d:w.cell? ⟨2,0,none⟩=some ev)(b:ev=.nilIface∨∃g f,ev=.iface g f):
 Calls Tryz.prog 143 #[.string s,.int .i64 10,.int .i64 32] w λe c=>∃N,e=.returned (.tuple #[.int .u64 4294967295,.iface 379 (.pointer (some ⟨N,0,none⟩))])/\w.heap.size<=N/\c.heap[N]?=some (.cells #[.string ⟨#[80,97,114,115,101,85,105,110,116]⟩,.string s,ev] 482 (0,0))/\Below w.heap.size w c:=Any.strconv_ParseUint_10_at32_range Tryz.laysPu14 s a h ev w d b
def Tryz.lays143_ren:Go.Shelf.Ren:=⟨λ|143=>227|219=>301|217=>348|225=>349|224=>350|267=>351|266=>372|314=>373|n=>n,λ|9=>9|3=>3|4=>4|5=>5|46=>173|146=>540|51=>174|n=>n,λ|1=>3|n=>n⟩
def Tryz.lays143:Go.Proofs.Lays.n143 Tryz.prog Tryz.lays143_ren:=by constructor<;>first|kernel_rfl|(intro w;kernel_rfl)
open Go.RowKit Go.Lib in
def Tryz.strings_Index_one(s:ByteArray)(c:UInt8)(w:World):
 Calls Tryz.prog 227 #[.string s,.string ⟨#[c]⟩] w λe a=>e=.returned (.int .i64 (Lib.indexByte s.data.toList c))/\a=w:=Any.strings_Index_one Tryz.lays143 s c w
open Go.RowKit Go.Lib in
def Tryz.strings_Index(s sub:ByteArray)(m:Int)(w:World)(b:s.size<4294967281)(a:w.cell? ⟨3,0,none⟩=some (.int .i64 m)):
 Calls Tryz.prog 227 #[.string s,.string sub] w λe c=>e=.returned (.int .i64 (Lib.index s.data.toList sub.data.toList))/\c=w:=Any.strings_Index Tryz.lays143 s sub m w b a
def Tryz.lays146_ren:Go.Shelf.Ren:=⟨λ|146=>142|221=>161|268=>225|138=>226|143=>227|195=>298|197=>299|218=>300|219=>301|260=>347|217=>348|225=>349|224=>350|267=>351|266=>372|314=>373|n=>n,λ|9=>9|31=>214|3=>3|4=>4|0=>0|105=>477|21=>21|5=>5|46=>173|119=>536|139=>539|138=>538|146=>540|51=>174|n=>n,λ|1=>3|3=>6|4=>7|n=>n⟩
def Tryz.lays146:Go.Proofs.Lays.n146 Tryz.prog Tryz.lays146_ren:=by constructor<;>first|kernel_rfl|(intro w;kernel_rfl)
open Go.RowKit Go.Lib in
def Tryz.strings_Split(s a:ByteArray)(m:Int)(w:World)(d:s.size<4294967281)(c:w.cell? ⟨3,0,none⟩=some (.int .i64 m))(b:1<=a.size):
 Calls Tryz.prog 142 #[.string s,.string a] w λe f=>
  e=.returned (.slice (some ⟨w.heap.size,0,none⟩) (Lib.countB s a+1) (Lib.countB s a+1))/\f=w.alloc (.cells ((Lib.splitB a 0 (Lib.countB s a) s).map Value.string).toArray 9):=Any.strings_Split Tryz.lays146 (by kernel_rfl) s a m w d c b
def Tryz.lays151_ren:Go.Shelf.Ren:=⟨λ|151=>384|152=>394|137=>398|119=>387|224=>350|225=>349|217=>348|266=>372|n=>n,λ|9=>9|21=>21|4=>4|3=>3|5=>5|0=>0|46=>173|n=>n,λ|n=>n⟩
def Tryz.lays151:Go.Proofs.Lays.n151 Tryz.prog Tryz.lays151_ren:=by constructor<;>first|kernel_rfl|(intro w;kernel_rfl)
open Go.RowKit Go.Lib in
def Tryz.strings_ContainsRune_ascii(s:ByteArray)(r:Int)(w:World)(a:0<=r)(b:r<128):
 Calls Tryz.prog 384 #[.string s,.int .i32 r] w λe c=>e=.returned (.bool (decide (0<=Lib.indexByte s.data.toList r.toNat.toUInt8)))/\c=w:=Any.strings_ContainsRune_ascii Tryz.lays151 s r w a b
end Go.Proofs
def aoM:=@Go.Proofs.enters_of
def api:=@Array.size_replicate
def apT:=@Go.Lib.decDigits_length
namespace Go.Proofs
open Go.Shelf Go.RowKit Go.Sort Go.Lib
def Tryz.holds_zero0(w:World)(T:TypeId)(nd:Nat)(d:nd<=24):Holds (λ(b:UInt8)=>Value.int .u8 (b.toNat:Int)) (w.alloc (.cells zeros24 T)) w.heap.size 0 (Array.replicate nd (0:UInt8)):=λj a=>by
 have c:j<nd:=by simpa using a
 refine⟨?_,World.frozen?_alloc_new _ _ _ _⟩;rw[World.cell?_alloc_new,zeros24_at _ (by omega),getElem!_pos _ j a];simp
def Tryz.fin_pos0(w:World)(o:Obj)(c:Array UInt8)(k:Nat):∃d,(putRow (λ(b:UInt8)=>Value.int .u8 (b.toNat:Int)) (w.alloc o) w.heap.size 0 c).drewN k=grow (w.drewN k) d:=by
 rw[alloc_eq_grow];obtain⟨a,_,e⟩:=putRow_grow_new (λ(b:UInt8)=>Value.int .u8 (b.toNat:Int)) w #[o] w.heap.size 0 c (Nat.le_refl _);exact⟨a,by rw[e];rfl⟩
set_option maxHeartbeats 6400000 in
set_option maxRecDepth 100000 in
def Tryz.formatUint(u:Nat)(c:u<18446744073709551616)(w:World)(l:Lib.TabIs Tryz.prog w "internal/strconv.uint64pow10" .u64 Lib.pow10Tab):
 Calls Tryz.prog 148 #[.int .u64 u,.int .i64 10] w λe n=>e=.returned (.string ⟨(Lib.decDigits u).toArray⟩)/\∃k s,n=grow (w.drewN k) s:=by
 have mixed:Tryz.prog.follows .mixedOrders=true:=by kernel_rfl
 have Z:=aov;have T:=apf;have z3:=ao4;have v3:=aoF;have t9:=aof;have X:=apg;have z9:=ao5;have v9:=aoG;have t4:=aow;have U:=aph;have z4:=ao6;have v4:=aoH;have A:=apx;have t:=Tryz.isAgg284;have C:=Tryz.sizeOf284;have B:=Tryz.zeroValue284;have Y:=apO;have S:=Tryz.isAgg0;have z0:=Tryz.sizeOf0;have v0:=apX;have M:=Tryz.underlying172;have E:=Tryz.isAgg172;have R:=Tryz.sizeOf172;have O:=Tryz.zeroValue172;have L:=apG;have D:=Tryz.isAgg22;have Q:=Tryz.sizeOf22;have N:=Tryz.zeroValue22;have t5:=anV;have V:=aoS;have z5:=aoL;have v5:=aoc;have v:∀a w,(callFunc 164 a).run Tryz.prog w=.ok (.enter 164 a) w:=aoM Tryz.func164 (by kernel_rfl) rfl;have x:∀a w,(callFunc 165 a).run Tryz.prog w=.ok (.enter 165 a) w:=aoM Tryz.func165 (by kernel_rfl) rfl;have y:∀a w,(callFunc 166 a).run Tryz.prog w=.ok (.enter 166 a) w:=aoM Tryz.func166 (by kernel_rfl) rfl;by_cases J:u<100
 ·have K:IntKind.i64.wrap (u:Int)=(u:Int):=by rw[IntKind.wrap_i64];omega
  have I:(u:Int)<100:=by omega
  go_enter Tryz.func148,(show Tryz.f148.ntmps=32 from rfl)
  go_wp2_with (go_at_fn 164;refine(Tryz.internal_strconv_small u J _).mono ?_;rintro e n ⟨rfl,rfl⟩)
  go_ret
  exact⟨rfl,0,#[],by simp[World.drewN_zero]⟩
 ·have m:1<=u:=by omega
  have r:Lib.nDigits u<=20:=by have:=Lib.numDigits_eq u m c;split at this<;>omega
  have H:¬(u:Int)<100:=by omega
  have i:Tryz.prog.arrayLen 284=24:=by simp[Program.arrayLen,apx]
  have z:∀W,(Instr.sliceAt 284 (.pointer (some ⟨w.heap.size,0,none⟩)) none (some (.int .i64 (Lib.nDigits u:Int))) none).run Tryz.prog W=.ok (.slice (some ⟨w.heap.size,0,none⟩) (Lib.nDigits u) 24) W:=λW=>by
   rw[run_sliceAt_array_h W 284 ⟨w.heap.size,0,none⟩ (by simp[Program.arrayLen,Program.elem,apx]) .i64 (Lib.nDigits u:Int) (by omega) (by rw[i];omega)]
   go_simp
  have f:=Tryz.holds_zero0 w 284 (Lib.nDigits u) (by omega);have d:=Tryz.internal_strconv_formatBase10 w.heap.size 0 24 u (Array.replicate (Lib.nDigits u) 0) (w.alloc (.cells Lib.zeros24 284)) f (by rw[api];exact Lib.lt_pow_nDigits u) c (by rw[api];omega);rw[api]at d;have o:=Lib.hid f;clear f i
  go_enter Tryz.func148,(show Tryz.f148.ntmps=32 from rfl)
  go_wp2_with (first
   |(go_at_fn 165;refine(Tryz.internal_strconv_numDigits u m c _ (Lib.tabIs_alloc l _)).mono ?_;rintro e n ⟨rfl,rfl⟩))
  go_at_fn 166
  refine d.mono ?_;rintro e n ⟨rfl,k,v',g,rfl,p⟩;have G:(convert 22 9 (.slice (some ⟨w.heap.size,0,none⟩) (Lib.nDigits u) 24)).run Tryz.prog ((putRow (λ(b:UInt8)=>Value.int .u8 (b.toNat:Int)) (w.alloc (.cells Lib.zeros24 284)) w.heap.size 0 g).drewN k)=.ok (.string ⟨(Lib.decDigits u).toArray⟩) ((putRow (λ(b:UInt8)=>Value.int .u8 (b.toNat:Int)) (w.alloc (.cells Lib.zeros24 284)) w.heap.size 0 g).drewN k):=by
   have h:=run_convert_bytes_back (P:=Tryz.prog) ((putRow (λ(b:UInt8)=>Value.int .u8 (b.toNat:Int)) (w.alloc (.cells Lib.zeros24 284)) w.heap.size 0 g).drewN k) 22 9 5 ⟨w.heap.size,0,none⟩ 24 (Lib.decDigits u) apG anV aof (λj q=>by
    rw[Lib.row_is_numeral p j q,Lib.add_plain,World.cell?_drewN];exact cell?_putRow (λ(b:UInt8)=>Value.int .u8 (b.toNat:Int)) _ w.heap.size 0 _ g o.out (by rw[p.size,api]) j (by rw[p.size];rw[apT]at q;exact q))
   rw[apT]at h;exact h
  go_wp2
  go_ret
  obtain⟨s,F⟩:=Tryz.fin_pos0 w (.cells Lib.zeros24 284) g k;exact⟨rfl,k,s,F⟩
end Go.Proofs
namespace Go.Fw
open Go.RowKit
def fU(u:Int):Option (List UInt8):=match u with
 |.ofNat n=>bif Nat.blt n 18446744073709551616 then some (Lib.decDigits n) else none
 |.negSucc _=>none
def TX:Ctr:=⟨[.hole (.int .u64),.ilit .i64 10],.hole .str,λ(x:Int)=>fU x⟩
def afw{P:Program}{w:World}{g:Nat}(a:P.globalNamed "internal/strconv.uint64pow10" =some g)(h:T1 P w):Lib.TabIs P w "internal/strconv.uint64pow10" .u64 Lib.pow10Tab:=by
 obtain⟨t,f,b⟩:=h.pow g a;unfold Lib.TabIs World.var?;rw[a];simp[b]
def acz{P:Program}{f:FuncId}{g:Nat}(v:fX P f)(z:P.globalNamed "internal/strconv.uint64pow10" =some g)
 (h:∀(u:Nat)(_:u<18446744073709551616)(w:World)(_:Lib.TabIs P w "internal/strconv.uint64pow10" .u64 Lib.pow10Tab),
   Calls P f #[.int .u64 u,.int .i64 10] w λe r=>e=.returned (.string ⟨(Lib.decDigits u).toArray⟩)/\∃k m,r=Sort.grow (w.drewN k) m):cI P f TX:=by
 refine⟨v,rfl,rfl,?_⟩;intro x y a;have a:fU x=some y:=a;cases x with
 |negSucc n=>cases a
 |ofNat n=>
  unfold fU at a;cases c:Nat.blt n 18446744073709551616 with
  |false=>simp[c]at a
  |true=>
   dsimp only at a;rw[c]at a;cases a;have A:n<18446744073709551616:=by
    have:=amx c;omega
   refine⟨.str (Lib.decDigits n),rfl,λ_ _=>by simp only[SV.can,VR],?_⟩;intro F d C b;cases d;simp only[VRs]at b;obtain⟨B,_,rfl,i,d2,_,rfl,j,rfl⟩:=b;intro G w q t s l;simp only[VR]at i j;subst i j;simp only[af]at l;obtain⟨D,_,rfl,o,E,_,rfl,p,rfl⟩:=l;simp only[Rep]at o p;subst o p;refine(h n A w (afw z s.2)).mono ?_;rintro e r ⟨rfl,k,m,rfl⟩;refine⟨_,G,rfl,ja t (Lib.below_grow _ _ (amt _) _ _),?_⟩;simp only[SV.can,Rep]
end Go.Fw
def amw:=@cond_true
namespace Go.Fw
open Go.RowKit
def AH:Nat:=281474976710656
def jB(s:List UInt8):Option (Int⊕Int):=bif Nat.ble s.length AH then match Lib.parseUintB 32 s with
 |.ok u=>some (.inl (Int.ofNat u))
 |.range=>some (.inr 4294967295)
 |_=>some (.inr 0)
 else none
def TY:rB:=⟨[.hole .str,.ilit .i64 10,.ilit .i64 32],[.tup [.hole (.int .u64),.raw .nili],.tup [.hole (.int .u64),.raw .anyi]],λ(x:List UInt8)=>jB x⟩
def afx{P:Program}{f:FuncId}{te:TypeId}{g1 g2:Nat}(t:fX P f)(k:nu P g1=some [.anyi])(l:nu P g2=some [.anyi])
 (ok:∀(s:List UInt8)(u:Nat),s.length<=AH->Lib.parseUintB 32 s=.ok u->∀w:World,Calls P f #[.string ⟨s.toArray⟩,.int .i64 10,.int .i64 32] w λe c=>e=.returned (.tuple #[.int .u64 u,.nilIface])/\Below w.heap.size w c)
 (rg:∀s:List UInt8,s.length<=AH->Lib.parseUintB 32 s=.range->∀(ev:Value)(w:World),w.cell? ⟨g2,0,none⟩=some ev->(ev=.nilIface∨∃te p,ev=.iface te p)->
   Calls P f #[.string ⟨s.toArray⟩,.int .i64 10,.int .i64 32] w λe c=>∃N,e=.returned (.tuple #[.int .u64 (4294967295:Nat),.iface te (.pointer (some ⟨N,0,none⟩))])/\Below w.heap.size w c)
 (x:∀s:List UInt8,s.length<=AH->(∀u,Lib.parseUintB 32 s≠.ok u)->Lib.parseUintB 32 s≠.range->∀(ev:Value)(w:World),w.cell? ⟨g1,0,none⟩=some ev->(ev=.nilIface∨∃te p,ev=.iface te p)->
   Calls P f #[.string ⟨s.toArray⟩,.int .i64 10,.int .i64 32] w λe c=>∃N,e=.returned (.tuple #[.int .u64 (0:Nat),.iface te (.pointer (some ⟨N,0,none⟩))])/\Below w.heap.size w c):yW P f TY:=by
 have tail:∀{s:List UInt8}{v:D},cy P f [.str s,.int .i64 10,.int .i64 32] v->∀q,PV.puts (λ_=>0) TY.ap (eY (PV.tcss TY.ap) (s:List UInt8))=some (q,[])->∀i,VRs [] [] q i->cy P f i v:=by
  intro s v h q o i b;cases o;simp only[VRs]at b;obtain⟨z,_,rfl,d,d2,_,rfl,g,A,_,rfl,r,rfl⟩:=b;simp only[lh,VR]at d g r;subst d g r;exact h
 refine⟨t,rfl,?_⟩;intro s y a;have a:jB s=some y:=a;unfold jB at a;cases j:Nat.ble s.length AH with
 |false=>rw[j]at a;cases a
 |true=>
  rw[j]at a;have m:=amx j;rw[amw]at a;split at a
  ·rename_i u n;cases a;exact⟨0,_,[⟨.int .u64,(Int.ofNat u:Int)⟩],.tup [.int .u64 (Int.ofNat u),.raw .nili],rfl,λ_ _=>rfl,rfl,λ_ _=>by simp only[SV.can,SV.cans,VR,VRs,aon];exact⟨_,rfl,_,_,rfl,rfl,_,_,rfl,rfl,rfl⟩,tail (afv (ok s u m n))⟩
  ·rename_i n;cases a;exact⟨1,_,[⟨.int .u64,(4294967295:Int)⟩],.tup [.int .u64 4294967295,.raw .anyi],rfl,λ_ _=>rfl,rfl,λ_ _=>by simp only[SV.can,SV.cans,VR,VRs,aon];exact⟨_,rfl,_,_,rfl,rfl,_,_,rfl,rfl,rfl⟩,tail (ZU l (rg s m n))⟩
  ·rename_i d g;cases a;exact⟨1,_,[⟨.int .u64,(0:Int)⟩],.tup [.int .u64 0,.raw .anyi],rfl,λ_ _=>rfl,rfl,λ_ _=>by simp only[SV.can,SV.cans,VR,VRs,aon];exact⟨_,rfl,_,_,rfl,rfl,_,_,rfl,rfl,rfl⟩,tail (ZU k (x s m d g))⟩
end Go.Fw
namespace Go.Fw
open Go.RowKit
def Gh.strs(G:Gh)(n:Nat)(l:List ByteArray):Gh:={G with imm:=λb o=>if b=n then(l[o]?).map Value.string else G.imm b o}
def Ot{G:Gh}{n:Nat}{l:List ByteArray}:∀{xs:List ByteArray}{o:Nat},(∀j x,xs[j]?=some x->l[o+j]?=some x)->Cells (G.strs n l) n o (bN vR (xs.map λb=>b.data.toList))
 |[],_,_=>trivial
 |x::xs,o,h=>by
  rw[amz,show ∀(y:List UInt8) a,bN vR (y::a)=.str y::bN vR a from λy a=>vR.fcons y a];refine⟨⟨.string x,?_,?_⟩,Ot λj y c=> ?_⟩
  ·show(if n=n then _ else _)=_;rw[amE rfl,show l[o]?=some x from h 0 x rfl];rfl
  ·simp only[Rep]
  ·rw[show o+1+j=o+(j+1) from omq];exact h (j+1) y c
def ZV{G:Gh}{w:World}{l:List ByteArray}{t:TypeId}(d:mw G w):GW G (G.strs w.heap.size l) w (w.alloc (.cells (l.map Value.string).toArray t)) where
 le:=⟨λb o v h=>by
  have:=eO (d.imm b o v h);show(if b=_ then _ else _)=_;rw[am4 (by have a:b<w.heap.size:=this;omega)];exact h,λ_ _ h=>h,λ_ _ _ h=>h,λ_ _ h=>h⟩
 below:=Below.alloc (anB _ _) (amt _) _
 blk:=rfl
 imm b o v h:=by
  have a:(if b=w.heap.size then(l[o]?).map Value.string else G.imm b o)=some v:=h;clear h;by_cases e:b=w.heap.size
  ·rw[amE e]at a;rw[e];rw[World.cell?_alloc_new];rw[List.getElem?_toArray,anq];exact a
  ·rw[am4 e]at a;have c:=d.imm b o v a;rw[(Below.alloc (anB w.heap.size w) (amt _) _).cell (p:=⟨b,o,none⟩) (eO c)];exact c
 mimm b es hm:=by
  obtain⟨c,g⟩:=d.mimm b es hm;exact⟨((Below.alloc (anB w.heap.size w) (amt _) _).block b (bD c)).trans c,g⟩
 siz b n hs:=by
  obtain⟨k,j,f,i,a⟩:=d.siz b n hs;exact⟨k,j,f,((Below.alloc (anB w.heap.size w) (amt _) _).block b (bD i)).trans i,a⟩
 imm_new b o h:=am4 omq
 mimm_new _ _:=rfl
def dR(s a:List UInt8):Option (List (List UInt8)):=bif Nat.blt s.length 4294967281&&Nat.blt 0 a.length then some (Lib.split s a) else none
def Qa:Ctr:=⟨[.hole .str,.hole .str],.hole (.sl .str),λ(x:List UInt8×List UInt8)=>dR x.1 x.2⟩
def ZW{P:Program}{f:FuncId}{g:Nat}{t:TypeId}(E:fX P f)(F:P.globalNamed "internal/bytealg.MaxLen" =some g)
 (h:∀(s a:ByteArray)(m:Int)(w:World),s.size<4294967281->w.cell? ⟨g,0,none⟩=some (.int .i64 m)->1<=a.size->
   Calls P f #[.string s,.string a] w λe B=>e=.returned (.slice (some ⟨w.heap.size,0,none⟩) (Lib.countB s a+1) (Lib.countB s a+1))/\B=w.alloc (.cells ((Lib.splitB a 0 (Lib.countB s a) s).map Value.string).toArray t)):cI P f Qa:=by
 refine⟨E,rfl,rfl,?_⟩;rintro⟨s,a⟩ y b;have b:dR s a=some y:=b;unfold dR at b;cases c:(Nat.blt s.length 4294967281&&Nat.blt 0 a.length) with
 |false=>rw[c]at b;cases b
 |true=>
  rw[c]at b;cases b;simp only[amk]at c;have I:s.length<4294967281:=amx c.1;have l:0<a.length:=amx c.2;refine⟨.sl .str (Lib.split s a) false,rfl,λ_ _=>by simp only[SV.can,VR];first|exact⟨_,rfl⟩|exact⟨_,rfl,by simp⟩,?_⟩;intro Q o K i;cases o;simp only[VRs]at i;obtain⟨J,_,rfl,p,d2,_,rfl,q,rfl⟩:=i;simp only[lh,VR]at p q;subst p q;intro G w A D C u;simp only[af]at u;obtain⟨N,_,rfl,v,O,_,rfl,z,rfl⟩:=u;simp only[Rep]at v z;subst v z;obtain⟨m,M,L,n⟩:=C.2.mx g F;have n:w.cell? ⟨g,0,none⟩=some (.int .i64 m):=by unfold World.cell?;simp only[n];rfl
  refine(h ⟨s.toArray⟩ ⟨a.toArray⟩ m w I n l).mono ?_;rintro e B ⟨rfl,rfl⟩;have k:(Lib.splitB ⟨a.toArray⟩ 0 (Lib.countB ⟨s.toArray⟩ ⟨a.toArray⟩) ⟨s.toArray⟩).length=Lib.countB ⟨s.toArray⟩ ⟨a.toArray⟩+1:=Lib.splitB_all ⟨a.toArray⟩ l 0 _ _ rfl;have r:Lib.countB ⟨s.toArray⟩ ⟨a.toArray⟩<=s.length:=Lib.countB_le ⟨a.toArray⟩ l s.length ⟨s.toArray⟩ (amt _);have d:(Lib.splitB ⟨a.toArray⟩ 0 (Lib.countB ⟨s.toArray⟩ ⟨a.toArray⟩) ⟨s.toArray⟩).map (·.data.toList)=Lib.split s a:=Lib.splitB_data _ 0 _ _;refine⟨_,_,rfl,ZV D,?_⟩;simp only[SV.can,Rep];rw[<-d,am7,k];refine⟨_,_,rfl,amt _,omq,λ_=>rfl,.inl ⟨_,0,rfl,?_⟩⟩;exact Ot λj x H=>by rw[ane];exact H
end Go.Fw
namespace Go.Proofs.Tryz
open Go Go.Fw Go.RowKit
def afL:fX prog 134:=(fD (f:=134) (fn:=f134) krq).2
def aiu:cI prog 134 TW:=acx afL (λa c b w=>Tryz.strings_Join_none a c b w) (λbk o c i b w d e f g h=>Tryz.strings_Join bk o c i b w d e f g h)
def afM:fX prog 148:=(fD (f:=148) (fn:=f148) krq).2
def afN:(prog.globalNamed "internal/strconv.uint64pow10").isSome=true:=krq
def aiv:cI prog 148 TX:=by
 obtain⟨g,a⟩:=anw.1 afN;exact acz afM a λu c w b=>Tryz.formatUint u c w b
def afO:fX prog 143:=(fD (f:=143) (fn:=f143) krq).2
def ac3:nu prog 1=some [.anyi]:=krq
def afP:nu prog 2=some [.anyi]:=krq
def alL:yW prog 143 TY:=afx (te:=379) afO ac3 afP
 (λs u a b w=>(Tryz.strconv_ParseUint_10_at32_ok ⟨s.toArray⟩ (by have:s.length<=281474976710656:=a;show s.length<=_;omega) u b w).mono λ_ _ ⟨e,j⟩=>⟨e,by
   rcases j with rfl|rfl
   ·exact anB _ _
   ·exact Lib.bytesWorld_below _ _ _⟩)
 (λs a b ev w f d=>(Tryz.strconv_ParseUint_10_at32_range ⟨s.toArray⟩ a b ev w f d).mono λ_ _ ⟨N,e,_,_,c⟩=>⟨N,e,c⟩)
 (λs a h i ev w f d=>by
   have b:∀x,Lib.parseUintB 32 s=x->Calls prog 143 #[.string ⟨s.toArray⟩,.int .i64 10,.int .i64 32] w λe k=>∃N,e=.returned (.tuple #[.int .u64 (0:Nat),.iface 379 (.pointer (some ⟨N,0,none⟩))])/\Below w.heap.size w k:=by
    intro x g;cases x with
    |ok u=>exact absurd g (h u)
    |range=>exact absurd g i
    |_=>exact(Tryz.strconv_ParseUint_10_at32_syntax ⟨s.toArray⟩ a g ev w f d).mono λ_ _ ⟨N,e,_,_,c⟩=>⟨N,e,c⟩
   exact b _ rfl)
def afQ:fX prog 142:=(fD (f:=142) (fn:=f142) krq).2
def ac4:prog.globalNamed "internal/bytealg.MaxLen" =some 3:=krq
def afR:cI prog 142 Qa:=ZW afQ ac4 λs a m w d c b=>Tryz.strings_Split s a m w d c b
end Go.Proofs.Tryz
namespace Go.Fw
open Go.RowKit
inductive SoK where
 |pure|mk|ins(k v:D)
structure ql where
 e:Env
 d:D
 k:SoK
def ql.key(r:ql):D:=match r.k with|.ins k _=>k|_=>.junk
def ql.val(r:ql):D:=match r.k with|.ins _ v=>v|_=>.junk
def sE:SoK->Bool
 |.ins _ _=>true
 |_=>false
section
variable {fl:Nat}{P:Program}{N:Nat}{ops:Array Oper}{τ0:Env}{σ0:Sto}{row:Nat→ql}{m0:Nat}
def HB(row:Nat->ql)(a:List Nat):am:=.map (a.map λi=>(row i).key) (a.map λi=>(row i).val)
def jr(row:Nat->ql)(m0:Nat)(σ0:Sto)(L:Array Bool)(a:List Nat):Sto:=match L.getD m0 false with
 |true=>σ0++[HB row a]
 |false=>σ0
structure Vc(P:Program)(N:Nat)(ops:Array Oper)(τ0:Env)(σ0:Sto)(row:Nat->ql)(m0:Nat):Prop where
 ng:qu ops=true
 plan:eC ops (bq ops.toList [])=true
 hm0:m0<ops.size
 mkI:∀i,i<ops.size->((row i).k=.mk↔i=m0)
 dlt:∀(i:Nat) o t,ops[i]?=some o->o.dst=some t->t<N
 dne:∀(i j:Nat) oi oj t,ops[i]?=some oi->ops[j]?=some oj->oi.dst=some t->oj.dst=some t->i=j
 env:∀(i:Nat) o,ops[i]?=some o->∀t v,get (row i).e t=some v->(∃(e:Edge)(oj:Oper),e∈o.after/\Region.binds .any e=true/\ops[e.on]?=some oj/\oj.dst=some t/\(row e.on).d=v)∨(get τ0 t=some v/\∀(j:Nat) oj,ops[j]?=some oj->oj.dst≠some t)
 pur:∀(i:Nat) o,ops[i]?=some o->(row i).k=.pure->AOp P N o (row i).e σ0 (λd s=>d=(row i).d/\s=σ0)/\∀ks vs,AOp P N o (row i).e (σ0++[.map ks vs]) (λd s=>d=(row i).d/\s=σ0++[.map ks vs])
 mkO:∀o,ops[m0]?=some o->AOp P N o (row m0).e σ0 λd s=>d=(row m0).d/\s=σ0++[.map [] []]
 ins:∀(i:Nat) o k v,ops[i]?=some o->(row i).k=.ins k v->(∃e∈o.after,Region.binds .any e=true/\e.on=m0)/\kP k=true/\∀ks vs,(∀k'∈ks,kP k'=true/\fA k'≠fA k)->AOp P N o (row i).e (σ0++[.map ks vs]) λd s=>d=(row i).d/\s=σ0++[.map (ks++[k]) (vs++[v])]
 kne:∀(i j:Nat),i<ops.size->j<ops.size->sE (row i).k=true->sE (row j).k=true->fA (row i).key=fA (row j).key->i=j
def adH(h:Vc P N ops τ0 σ0 row m0){Q:AEx->Env->Sto->Prop}
 {τf:Env}(hQ:∀(b:List Nat),b.Nodup->(∀i,i∈b↔(i<ops.size/\sE (row i).k=true))->Q .normal τf (σ0++[HB row b]))
 (m6:∀t d,get τf t=some d->(∃(j:Nat)(c:Oper),ops[j]?=some c/\c.dst=some t/\(row j).d=d)∨(get τ0 t=some d/\∀(j:Nat) c,ops[j]?=some c->c.dst≠some t)):Gi fl P N ops τ0 σ0 Q:=by
 intro B u G0 w0 a0 O m8 m9 U n5;have m7:∀(f:Nat)(L:Array Bool)(a:Act)(w:World),L.size=ops.size->uv ops L->L.toList.count false<=f->
  (∃(G:Gh)(b:List Nat),u.LeB fl G/\Rel B G (jr row m0 σ0 L b) w/\a.tmps.size=N/\a.defers=[]/\
    (∀(j:Nat) c t,ops[j]?=some c->L.getD j false=true->c.dst=some t->Rep G (row j).d (a.tmps.getD t undef))/\
    (∀t d,get τ0 t=some d->(∀(j:Nat) c,ops[j]?=some c->c.dst≠some t)->Rep G d (a.tmps.getD t undef))/\b.Nodup/\(∀i,i∈b↔(L.getD i false=true/\i<ops.size/\sE (row i).k=true)))->
  wpAny P .any ops (jP fl B u N Q) f L a w:=by
  intro f;have j3:∀(L:Array Bool)(a:Act)(w:World),L.size=ops.size->Region.ready .any ops L=[]->
   (∃(G:Gh)(b:List Nat),u.LeB fl G/\Rel B G (jr row m0 σ0 L b) w/\a.tmps.size=N/\a.defers=[]/\
     (∀(j:Nat) c t,ops[j]?=some c->L.getD j false=true->c.dst=some t->Rep G (row j).d (a.tmps.getD t undef))/\
     (∀t d,get τ0 t=some d->(∀(j:Nat) c,ops[j]?=some c->c.dst≠some t)->Rep G d (a.tmps.getD t undef))/\b.Nodup/\(∀i,i∈b↔(L.getD i false=true/\i<ops.size/\sE (row i).k=true)))->
   jP fl B u N Q .normal a w:=by
   rintro L a w Z hr ⟨G,b,k0,K,k2,k3,k4,k5,k6,k7⟩;have H:∀i,i<ops.size->L.getD i false=true:=by
    intro i hi;cases hb:L.getD i false with
    |true=>rfl
    |false=>
     have:L.getD i true=false:=by rw[KK omq];exact hb
     obtain⟨j,l⟩:=Ay h.plan Z i i (amt _) this;rw[hr]at l;cases l
   have e1:jr row m0 σ0 L b=σ0++[HB row b]:=by unfold jr;rw[H _ h.hm0]
   rw[e1]at K;refine⟨G,τf,_,k0,K,⟨k2,k3,λt d W=> ?_⟩,hQ b k6 (λi=> ?_)⟩
   ·rcases m6 t d W with⟨j,c,h1,n,rfl⟩|⟨h1,n⟩
    ·exact k4 j c t h1 (H j (amW.1 h1).1) n
    ·exact k5 t d h1 n
   ·rw[k7];exact⟨λx=>x.2,λx=>⟨H i x.1,x⟩⟩
  induction f with
  |zero=>
   intro L a w Z hd hc hJ;have hr:Region.ready .any ops L=[]:=by
    rw[anC];intro i hi;obtain⟨p9,_⟩:=aob.1 hi;obtain⟨Y,hf⟩:=cF p9;have:=sJ (Nat.le_zero.1 hc) i (by simpa using Y);simp[ams,Y]at hf;simp[Y,hf]at this
   exact⟨hr,j3 L a w Z hr hJ⟩
  |succ f ih=>
   intro L a w Z hd hc hJ;refine⟨λhr=>j3 L a w Z hr hJ,λi hi=> ?_⟩;obtain⟨h1,o,n,h3⟩:=aob.1 hi;obtain⟨X,A⟩:=cF h1;have C:i<ops.size:=omq;obtain⟨G,b,k0,K,k2,k3,k4,k5,k6,k7⟩:=hJ;have V:dD G N (row i).e a:=by
    refine⟨k2,k3,λt v W=> ?_⟩;rcases h.env i o n t v W with⟨e,c,R,S,g3,g4,rfl⟩|⟨R,S⟩
    ·exact k4 e.on c t g3 (h3 e R S) g4
    ·exact k5 t v R S
   have j4:(L.setIfInBounds i true).toList.count false<=f:=by
    have h6:L.toList[i]?=some false:=by
     simp[ams,X]at A;simp[X,A]
    have:=oU h6;rw[aoj];omega
   have q:∀j,(L.setIfInBounds i true).getD j false=true↔(j=i∨L.getD j false=true):=λj=>df X;have next:∀{I:Gh}{ord':List Nat}{v:Value}{w':World},G.Le I->Rel B I (jr row m0 σ0 (L.setIfInBounds i true) ord') w'->Rep I (row i).d v->ord'.Nodup->(∀j,j∈ord'↔((L.setIfInBounds i true).getD j false=true/\j<ops.size/\sE (row j).k=true))->
    wpAny P .any ops (jP fl B u N Q) f (L.setIfInBounds i true) (a.put o.dst v) w':=by
    intro I ord' v w' g m hv o8 o7;refine ih _ _ _ (by simpa using Z) (hd.step Z hi) j4 ⟨I,ord',k0.trans g.b,m,?_,?_,λj c t l T ht=> ?_,λt d W j8=> ?_,o8,o7⟩
    ·cases z:o.dst<;>simp[Act.put,k2]
    ·cases z:o.dst<;>simp[Act.put,k3]
    ·have p8:t<a.tmps.size:=by rw[k2];exact h.dlt j c t l ht
     rw[To p8];by_cases e:o.dst=some t
     ·rw[amE e];have:=h.dne i j o c t n l e ht;subst this;exact hv
     ·rw[am4 e];have r:j≠i:=λe'=>by subst e';rw[n]at l;cases l;exact e ht
      rcases (q j).1 T with rfl|T
      ·exact absurd rfl r
      ·exact Rep.mono g _ _ (k4 j c t l T ht)
    ·rw[IZ (j8 i o n)];exact Rep.mono g _ _ (k5 t d W j8)
   cases E:(row i).k with
   |pure=>
    have j6:i≠m0:=λe=>by have:=(h.mkI i C).2 e;rw[E]at this;cases this
    have p7:∀b,jr row m0 σ0 (L.setIfInBounds i true) b=jr row m0 σ0 L b:=λb=>by unfold jr;rw[anW false j6]
    have k9:∀j,j∈b↔((L.setIfInBounds i true).getD j false=true/\j<ops.size/\sE (row j).k=true):=λj=>by
     rw[k7,q];constructor
     ·exact λx=>⟨.inr x.1,x.2⟩
     ·rintro⟨rfl|x,y⟩
      ·rw[E]at y;cases y.2
      ·exact⟨x,y⟩
    obtain⟨p1,p2⟩:=h.pur i o n E;have o9:AOp P N o (row i).e (jr row m0 σ0 L b) λd s=>d=(row i).d/\s=jr row m0 σ0 L b:=by
     unfold jr;split
     ·exact p2 _ _
     ·exact p1
    refine C5 h.ng n (o9 B G w a K V _ _ ?_);rintro v w' I d s g m hd ⟨rfl,rfl⟩;exact next g (by rw[p7];exact m) hd k6 k9
   |mk=>
    have n6:i=m0:=(h.mkI i C).1 E;subst n6;have j9:∀j,L.getD j false=true->sE (row j).k=true->j<ops.size->False:=by
     intro j l r n7;cases k:(row j).k with
     |ins kk vv=>
      have F:ops[j]?=some ops[j]:=amK n7;obtain⟨⟨e,R,S,g3⟩,_⟩:=h.ins j _ kk vv F k;have:=hd j _ F l e R S;rw[g3,A]at this;cases this
     |pure=>rw[k]at r;cases r
     |mk=>rw[k]at r;cases r
    have j7:b=[]:=by
     rw[anC];intro j l;obtain⟨a1,a2,M⟩:=(k7 j).1 l;exact j9 j a1 M a2
    subst j7;have e1:jr row i σ0 L []=σ0:=by unfold jr;rw[A]
    rw[e1]at K;refine C5 h.ng n (h.mkO o n B G w a K V _ _ ?_);rintro v w' I d s g m z ⟨rfl,rfl⟩;have e2:jr row i σ0 (L.setIfInBounds i true) []=σ0++[.map [] []]:=by unfold jr;rw[(q i).2 (.inl rfl)];rfl
    refine next (ord':=[]) g (by rw[e2];exact m) z .nil λj=> ?_
    rw[q];constructor
    ·intro x;cases x
    ·rintro⟨rfl|x,y1,y2⟩
     ·rw[E]at y2;cases y2
     ·exact(j9 j x y2 y1).elim
   |ins kk vv=>
    obtain⟨⟨e,R,S,g3⟩,g4,g5⟩:=h.ins i o kk vv n E;have j5:L.getD m0 false=true:=by rw[<-g3];exact h3 e R S
    have j6:i≠m0:=λe=>by have:=(h.mkI i C).2 e;rw[E]at this;cases this
    have e1:jr row m0 σ0 L b=σ0++[HB row b]:=by unfold jr;rw[j5]
    rw[e1]at K;have J:(row i).key=kk:=by unfold ql.key;rw[E]
    have m5:(row i).val=vv:=by unfold ql.val;rw[E]
    have D:i ∉ b:=λx=>by have:=((k7 i).1 x).1;rw[A]at this;cases this
    have n9:∀k'∈b.map (λi=>(row i).key),kP k'=true/\fA k'≠fA kk:=by
     intro k' n8;obtain⟨j,l,rfl⟩:=anh.1 n8;obtain⟨a1,a2,M⟩:=(k7 j).1 l;refine⟨?_,λee=> ?_⟩
     ·cases k:(row j).k with
      |ins k2 v2=>
       have F:ops[j]?=some ops[j]:=amK a2;have:=(h.ins j _ k2 v2 F k).2.1;unfold ql.key;rw[k];exact this
      |pure=>rw[k]at M;cases M
      |mk=>rw[k]at M;cases M
     ·have:=h.kne j i a2 C M (by rw[E];rfl) (by rw[ee,J]);subst this;exact D l
    refine C5 h.ng n (g5 _ _ n9 B G w a K V _ _ ?_);rintro v w' I d s g m z ⟨rfl,rfl⟩;have e2:jr row m0 σ0 (L.setIfInBounds i true) (b++[i])=σ0++[.map (b.map (λi=>(row i).key)++[kk]) (b.map (λi=>(row i).val)++[vv])]:=by
     unfold jr;rw[(q m0).2 (.inr j5)];simp only[HB,anu,amz,anG,J,m5]
    refine next (ord':=b++[i]) g (by rw[e2];exact m) z (List.nodup_append.2 ⟨k6,apt.2 ⟨by simp,.nil⟩,λx hx y hy=>by simp at hy;subst hy;exact λe=>D (e▸hx)⟩) λj=> ?_
    rw[q,am6,k7];constructor
    ·rintro(x|x)
     ·exact⟨.inr x.1,x.2⟩
     ·simp at x;subst x;exact⟨.inl rfl,C,by rw[E];rfl⟩
    ·rintro⟨rfl|x,y⟩
     ·exact .inr siq
     ·exact .inl ⟨x,y⟩
 refine m7 O _ a0 w0 siq (λj c F H=> ?_) (by simp;exact n5) ⟨G0,[],m8,?_,U.size,U.defers,λj c t l H _=> ?_,λt d W _=>U.slot t d W,.nil,λi=> ?_⟩
 all_goals
  have p:∀j,(Array.replicate ops.size false).getD j false=false:=by
   intro j;rcases amB j ops.size with h'|h'
   ·simp[ams,h']
   ·simp[ams,h']
 ·rw[p]at H;cases H
 ·unfold jr;rw[p];exact m9
 ·rw[p]at H;cases H
 ·rw[p];simp
end
def Wl{G:Gh}{B d:List (D×D)}(h:B.Perm d):∀{l:List MapEntry},G6 G B l->∃g:List MapEntry,g.Perm l/\G6 G d g:=by
 induction h with
 |nil=>exact λh=>⟨_,.refl _,h⟩
 |cons p _ F=>
  intro l h;cases l with
  |nil=>obtain⟨a,_⟩:=h;simp[af]at a
  |cons e l=>
   obtain⟨a,b⟩:=h;simp only[amz,af]at a b;obtain⟨v,r,c,i,k⟩:=a;obtain⟨S,M,w,m,o⟩:=b;cases c;cases w;obtain⟨g,A,f⟩:=F ⟨k,o⟩;exact⟨e::g,A.cons e,by simp only[amz,af];exact⟨_,_,rfl,i,f.1⟩,by simp only[amz,af];exact⟨_,_,rfl,m,f.2⟩⟩
 |swap p q B=>
  intro l h;obtain⟨a,b⟩:=h
  match l,a,b with
  |[],a,_=>simp[af]at a
  |[_],a,_=>
   simp only[amz,anG,af]at a;obtain⟨_,_,E,_,_,_,c,_⟩:=a;cases E;cases c
  |e::C::l,a,b=>
   simp only[amz,af]at a b;obtain⟨v,r,c,i,R,L,t,j,k⟩:=a;obtain⟨u,s,w,m,Q,O,x,n,o⟩:=b;cases c;cases t;cases w;cases x;refine⟨C::e::l,.swap _ _ _,?_,?_⟩
   ·simp only[amz,af];exact⟨_,_,rfl,j,_,_,rfl,i,k⟩
   ·simp only[amz,af];exact⟨_,_,rfl,n,_,_,rfl,m,o⟩
 |trans _ _ y z=>
  intro l h;obtain⟨K,A,f⟩:=y h;obtain⟨H,I,J⟩:=z f;exact⟨H,I.trans A,J⟩
def Vd{G:Gh}{ks vs a c:List D}{v:Value}(h:Rep G (.cmap ks vs) v)(o:a.length=c.length)(l:(ks.zip vs).Perm (a.zip c)):Rep G (.pmap a c) v:=by
 simp only[Rep]at h⊢;obtain⟨b,e,rfl,k,f,g⟩:=h;have i:ks.length=vs.length:=by rw[f.length,g.length];simp
 have d:G6 G (ks.zip vs) e.toList:=⟨by rw[apL omq];exact f,by rw[apM omq];exact g⟩;obtain⟨n,m,j⟩:=Wl l d;refine⟨b,e,n,rfl,k,m,?_,?_⟩
 ·have:=j.1;rw[apL omq]at this;exact this
 ·have:=j.2;rw[apM omq]at this;exact this
end Go.Fw
namespace Go.Fw
open Go.RowKit
noncomputable def JY(cx:Cx)(n fid N i lr:Nat):List Code->aw->ae->Option (aw×ae)
 |[],a,S=>some (a,S)
 |c::f,a,S=>yd cx n fid N i lr c a S λe b d=>match e with
  |.normal=>JY cx n fid N i lr f b d
  |_=>none
def Rm{cx:Cx}(f:lg cx)(p:∀e∈cx.L,LOk cx.P e){n fid i lr:Nat}{fn:Func}{body d:Code}{Q:AEx->Env->Sto->Prop}{r:aw×ae}(s:cx.P.funcs[fid]?=some fn)(q:fn.body=some body)
 :∀(cs:List Code)(τ:aw)(S:ae)(τ':Env)(σ:Sto),(∀c∈cs,Nq c body)->JY cx n fid fn.ntmps i lr cs τ S=some r->ER S σ τ τ'->StR S σ->
  (∀b a,ER r.2 a r.1 b->StR r.2 a->mN i S σ r.2 a->AWp i cx.P fn.ntmps d b a Q)->AWp i cx.P fn.ntmps (cs.foldr .seq d) τ' σ Q
 |[],τ,S,τ',σ,_,h,hE,hS,j=>by
  simp only[JY,amn]at h;subst h;exact j τ' σ hE hS (.refl _ _ _)
 |c::cs,τ,S,τ',σ,hsub,h,hE,hS,j=>by
  simp only[JY]at h;refine du (((CA f p n) _ fid i lr c τ S _ r fn body s q (hsub c (am0 ..)) h τ' σ hE hS).1.mono ?_);rintro e b a ⟨o,t,x,y,A,g⟩;cases e with
  |normal=>exact Rm f p s q cs o t b a (λc z=>hsub c (amF _ z)) g x y λm k u v w=>j m k u v (A.trans w)
  |exit id=>cases g
  |goto l=>cases g
  |ret=>cases g
def qf:Code->Code
 |.seq a _=>a
 |c=>c
def iJ:Code->Code
 |.seq _ b=>b
 |c=>c
def aim(P:Program)(f:FuncId):Code:=((P.funcs[f]?).bind (·.body)).getD .skip
def ON:Code->Array Oper
 |.region _ ops _=>ops
 |_=> #[]
def WE:∀{τ:Env}{t:Nat}{d:D},get τ t=some d->(t,d)∈τ
 |[],_,_,h=>by simp[get]at h
 |(i,x)::r,t,d,h=>by
  simp only[get]at h;split at h
  ·rename_i e;subst e;cases h;exact am0 ..
  ·exact amF _ (WE h)
def aal(ops:Array Oper):List Nat:=ops.toList.filterMap (·.dst)
def Yk(ops:Array Oper)(τ0:Env)(a:Nat->ql)(o:Oper):Env->Bool
 |[]=>true
 |(t,v)::r=>((o.after.toList.any λe=>Region.binds .any e&&match ops[e.on]? with
    |some b=>(match b.dst with|some c=>Nat.beq c t|none=>false)&&D.beq (a e.on).d v
    |none=>false)||(match get τ0 t with|some d=>D.beq d v|none=>false)&& !(D2 t (aal ops)))&&Yk ops τ0 a o r
variable{Z:Nat->ql}
def WF{ops:Array Oper}{τ0:Env}{o:Oper}:∀{e:Env},Yk ops τ0 Z o e=true->∀t v,(t,v)∈e->(∃(e:Edge)(a:Oper),e∈o.after/\Region.binds .any e=true/\ops[e.on]?=some a/\a.dst=some t/\(Z e.on).d=v)∨(get τ0 t=some v/\∀(j:Nat) a,ops[j]?=some a->a.dst≠some t)
 |[],_,_,_,h=>by simp at h
 |(q,s)::r,g,t,v,h=>by
  simp only[Yk,amk]at g;rcases amN.1 h with e|h
  ·cases e;simp only[anO,apJ,amk]at g;rcases g.1 with⟨e,c,f,b⟩|⟨c,f⟩
   ·split at b<;>try (cases b;done)
    rename_i a n;simp only[amk]at b;obtain⟨b,l⟩:=b;split at b<;>try (cases b;done)
    rename_i p i;have:=C4 b;subst this;exact .inl ⟨e,a,by simpa using c,f,n,i,D.beq_eq _ _ l⟩
   ·split at c<;>try (cases c;done)
    rename_i d k;rw[D.beq_eq _ _ c]at k;refine .inr ⟨k,λj a m i=> ?_⟩;have:D2 _ (aal ops)=true:=MF.2 (List.mem_filterMap.2 ⟨a,amS (by rw[am5];exact m),i⟩);rw[this]at f;cases f
  ·exact WF g.2 t v h
def acW(n:Nat)(f:Nat->Bool):Bool:=(List.range n).all f
def A4{n:Nat}{f:Nat->Bool}(h:acW n f=true){i:Nat}(a:i<n):f i=true:=amM.1 h i (aoW.2 a)
def Yl(N:Nat)(ops:Array Oper)(τ0:Env)(a:Nat->ql)(m0:Nat):Bool:=
 qu ops&&(eC ops (bq ops.toList [])&&(Nat.blt m0 ops.size&&(acW ops.size λi=>(match (a i).k with|.mk=>Nat.beq i m0|_=> !(Nat.beq i m0))&&(match ops[i]? with
  |some o=>(match o.dst with|some t=>Nat.blt t N|none=>true)&&(Yk ops τ0 a o (a i).e&&(match (a i).k with
   |.ins k _=>(o.after.toList.any λe=>Region.binds .any e&&Nat.beq e.on m0)&&kP k
   |_=>true)&&(acW ops.size λj=>match ops[j]? with
    |some b=>(Nat.beq i j||(match o.dst,b.dst with|some t,some t'=> !(Nat.beq t t')|_,_=>true))&&(Nat.beq i j||(!(sE (a i).k&&sE (a j).k)|| !(decide (fA (a i).key=fA (a j).key))))
    |none=>false))
  |none=>false))))
def afE{P:Program}{N:Nat}{ops:Array Oper}{τ0:Env}{a:Sto}{m0:Nat}(w:Yl N ops τ0 Z m0=true)
 (l:∀(i:Nat) o,ops[i]?=some o->match (Z i).k with
   |.pure=>AOp P N o (Z i).e a (λd s=>d=(Z i).d/\s=a)/\∀m q,AOp P N o (Z i).e (a++[.map m q]) (λd s=>d=(Z i).d/\s=a++[.map m q])
   |.mk=>AOp P N o (Z i).e a λd s=>d=(Z i).d/\s=a++[.map [] []]
   |.ins k v=>∀m q,(∀z∈m,kP z=true/\fA z≠fA k)->AOp P N o (Z i).e (a++[.map m q]) λd s=>d=(Z i).d/\s=a++[.map (m++[k]) (q++[v])]):Vc P N ops τ0 a Z m0:=by
 unfold Yl at w;simp only[amk]at w;obtain⟨E,F,G,r⟩:=w;have f:∀(i:Nat) o,ops[i]?=some o->i<ops.size:=λi o h=>(amW.1 h).1;have u:∀(i:Nat) o,ops[i]?=some o->_:=λi o b=>A4 r (f i o b);refine⟨E,F,amx G,λi g=> ?_,λi o t b x=> ?_,λi j L M t g p x y=> ?_,λi o b t v H=> ?_,λi o b c=> ?_,λo b=> ?_,λi o k v b c=> ?_,λi j g p I J K=> ?_⟩
 ·have:=(A4 r g);simp only[amk]at this;have:=this.1;constructor
  ·intro c;rw[c]at this;exact C4 this
  ·intro e;subst e;cases c:(Z i).k<;>rw[c]at this<;>simp at this⊢
 ·have:=u i o b;simp only[amk]at this;have:=this.2;rw[b]at this;simp only[amk]at this;have:=this.1;rw[x]at this;exact amx this
 ·have:=u i L g;simp only[amk]at this;have:=this.2;rw[g]at this;simp only[amk]at this;have:=A4 this.2.2 (f j M p);rw[p]at this;simp only[amk,anO]at this;rcases this.1 with e|e
  ·exact C4 e
  ·rw[x,y]at e;simp at e
 ·have:=u i o b;simp only[amk]at this;have:=this.2;rw[b]at this;simp only[amk]at this;exact WF this.2.1.1 t v (WE H)
 ·have:=l i o b;rw[c]at this;exact this
 ·have:=l m0 o b;have c:(Z m0).k=.mk:=by
   have n:=A4 r (f m0 o b);simp only[amk]at n;have n:=n.1;cases c:(Z m0).k<;>rw[c]at n<;>simp at n⊢
  rw[c]at this;exact this
 ·have l:=l i o b;rw[c]at l;have:=u i o b;simp only[amk]at this;have:=this.2;rw[b]at this;simp only[amk]at this;have:=this.2.1.2;rw[c]at this;simp only[amk,apJ]at this;obtain⟨⟨e,A,B,C⟩,D⟩:=this;exact⟨⟨e,by simpa using A,B,C4 C⟩,D,l⟩
 ·have:=A4 r g;simp only[amk]at this;have:=this.2;rw[amK g]at this;simp only[amk]at this;have:=A4 this.2.2 p;rw[amK p]at this;simp only[amk,anO]at this;rcases this.2 with e|e|e
  ·exact C4 e
  ·rw[I,J]at e;cases e
  ·simp[K]at e
end Go.Fw
namespace Go.Proofs.Tryz
open Go Go.Fw Go.RowKit
noncomputable def hFm:Tr OH:=.node (.node .nil 24641541 .frz .nil) 25231365 .frz .nil
noncomputable def aeK:Ctr:=⟨[.hole (.int .i32),.hole (.int .i32)],.func (.func 395) [] [.rc [.hole (.int .i32)] 0,.rc [.hole (.int .i32)] 0],λ(x:Int×Int)=>some (x.1,x.2)⟩
def Ur:prog.follows .mixedOrders=true:=krq
def aeL:cI prog 385 aeK:=CD (cx:=⟨prog,T,.nil,hFm,[],[],[],[],.nil⟩) tok Ur trivial trivial trivial trivial 385 _ krq krq (by intro x;kernel_rfl)
def btw(a b:Int):D:=.func (.func 395) [] [.rptr [.int .i32 a] 0,.rptr [.int .i32 b] 0]
def ain(a b:Int):cy prog 385 [.int .i32 a,.int .i32 b] (btw a b):=by
 obtain⟨_,_,_,h⟩:=aeL;obtain⟨v,c,_,d⟩:=h (a,b) (a,b) rfl;have e:v=.func (.func 395) [] [.rc [.int .i32 a] 0,.rc [.int .i32 b] 0]:=by
  have c:some ((SV.func (.func 395) [] [.rc [.int .i32 a] 0,.rc [.int .i32 b] 0],([]:List DV)))=some (v,[]):=c;cases c;rfl
 subst e;exact d [.int .i32 a,.int .i32 b] rfl _ (by simp only[VRs,VR];exact⟨_,_,rfl,rfl,_,_,rfl,rfl,rfl⟩)
noncomputable def acX:Cx:=⟨prog,T,.nil,hFm,[(385,aeK)],[],[],[],.nil⟩
def afF:lg acX:=⟨tok,Ur,λf c h=>(by
 rcases amN.1 h with e|h
 ·cases e;exact aeL
 ·cases h),λf c h=>(by cases h),λf c h=>(by cases h)⟩
noncomputable def mh:Code:=aim prog 376
noncomputable def r4:Code:=qf (iJ (iJ (iJ (iJ mh))))
noncomputable def Eh:Array Oper:=ON r4
def dB:D:=btw 32 126
def q3:D:=.func (.func 386) [] [.rptr [dB] 0]
def q1:D:=.func (.func 383) [] []
def vd:D:=.func (.func 387) [] []
def fm(f:D)(n:Int):D:=.agg [f,.int .i64 n]
def Ym:Env:=[(1,q1),(2,.ptr 0 0 0),(3,q3)]
def aj0:List ql:=[⟨[],.map 1,.mk⟩,⟨[],fm vd 0,.pure⟩,⟨[(6,.map 1),(7,fm vd 0)],.junk,.ins (.int .i64 12) (fm vd 0)⟩,
 ⟨[(1,q1)],q1,.pure⟩,⟨[(8,q1)],fm q1 1,.pure⟩,⟨[(6,.map 1),(9,fm q1 1)],.junk,.ins (.int .i64 19) (fm q1 1)⟩,
 ⟨[(3,q3)],q3,.pure⟩,⟨[(10,q3)],fm q3 1,.pure⟩,⟨[(6,.map 1),(11,fm q3 1)],.junk,.ins (.int .i64 20) (fm q3 1)⟩,
 ⟨[],btw 0 127,.pure⟩,⟨[(12,btw 0 127)],fm (btw 0 127) 1,.pure⟩,⟨[(6,.map 1),(13,fm (btw 0 127) 1)],.junk,.ins (.int .i64 22) (fm (btw 0 127) 1)⟩,
 ⟨[(2,.ptr 0 0 0)],dB,.pure⟩,⟨[(14,dB)],fm dB 1,.pure⟩,⟨[(6,.map 1),(15,fm dB 1)],.junk,.ins (.int .i64 26) (fm dB 1)⟩,
 ⟨[],fm vd 4,.pure⟩,⟨[(6,.map 1),(16,fm vd 4)],.junk,.ins (.int .i64 28) (fm vd 4)⟩,
 ⟨[],fm (.func (.func 388) [] []) 2,.pure⟩,⟨[(6,.map 1),(17,fm (.func (.func 388) [] []) 2)],.junk,.ins (.int .i64 30) (fm (.func (.func 388) [] []) 2)⟩,
 ⟨[(6,.map 1)],.map 1,.pure⟩,⟨[(18,.map 1)],.map 1,.pure⟩]
def jD(i:Nat):ql:=aj0.getD i ⟨[],.junk,.pure⟩
def lL:List D:=[.int .i64 12,.int .i64 19,.int .i64 20,.int .i64 22,.int .i64 26,.int .i64 28,.int .i64 30]
def lM:List D:=[fm vd 0,fm q1 1,fm q3 1,fm (btw 0 127) 1,fm dB 1,fm vd 4,fm (.func (.func 388) [] []) 2]
def aio:Yl 19 Eh Ym jD 0=true:=krq
def aeM:Eh.size=21:=krq
def OO{k:D}(b:kP k=true):∀(ks:List D)(i:Nat),(∀c∈ks,kP c=true/\fA c≠fA k)->iM .i k ks i=some none
 |[],_,_=>rfl
 |c::ks,i,h=>by
  obtain⟨f,d⟩:=h c (am0 ..);cases k<;>try (cases b;done)
  rename_i a n;cases a<;>try (cases b;done)
  cases c<;>try (cases f;done)
  rename_i a m;cases a<;>try (cases f;done)
  have d:n≠m:=λe=>d e.symm;simp only[iM,iA,ano,amO.2 d];exact OO b ks (i+1) λk b=>h k (amF _ b)
def xJ{N:Nat}{o:Oper}{e:Env}{a:Sto}{ks vs:List D}{k v:D}{t:TypeId}{m x y:Operand}{z:D}(j:o.op=.insert t m x y)(l:lk T.map t=some (.i,z))(i:ev e m=some (.map a.length))(n:ev e x=some k)(p:ev e y=some v)
 (c:kP k=true)(b:∀f∈ks,kP f=true/\fA f≠fA k):AOp prog N o e (a++[.map ks vs]) λd s=>d=.junk/\s=a++[.map (ks++[k]) (vs++[v])]:=by
 refine aT tok ?_;rw[j];have g:k.isCell=true:=by cases k<;>first|rfl|cases c
 simp only[aop,PD,l,i,n,p,Ua];have:(a++[am.map ks vs])[a.length]?=some (.map ks vs):=by simp
 rw[this];simp only[OO c ks 0 b,amE g,anT];congr 2;refine anQ λx=> ?_;rw[aoC];by_cases e:a.length=x
 ·subst e;simp
 ·rw[am4 e];rcases amB x a.length with h|h
  ·rw[amu h,amu h]
  ·rw[amC soq,amC soq]
end Go.Proofs.Tryz
namespace Go.Proofs.Tryz
open Go Go.Fw Go.RowKit
set_option maxRecDepth 100000
noncomputable def oAt(i:Nat):Oper:=(Eh[i]?).getD default
def aip{i:Nat}{o:Oper}(h:Eh[i]?=some o):o=oAt i:=by unfold oAt;rw[h];rfl
def aeN(σ:Sto):AOp prog 19 (oAt 9) (jD 9).e σ λd s=>d=(jD 9).d/\s=σ:=by
 obtain⟨b,a⟩:=anw.1 (by kernel_rfl:(okF prog 385).isSome=true);exact qh tok (c:=⟨.value (.func 385),#[.const (.int .i32 0),.const (.int .i32 127)],#[21,21]⟩) (f:=385) (ds:=[.int .i32 0,.int .i32 127]) krq krq (rE.weak (bt.refl _)) (fD a).2 ((ain 0 127).acall σ)
def afG(fr:Nat):∀(i:Nat) o,Eh[i]?=some o->match (jD i).k with
 |.pure=>AOp prog 19 o (jD i).e [.cells [dB] fr 0] (λd s=>d=(jD i).d/\s=[.cells [dB] fr 0])/\∀b c,AOp prog 19 o (jD i).e ([.cells [dB] fr 0]++[.map b c]) (λd s=>d=(jD i).d/\s=[.cells [dB] fr 0]++[.map b c])
 |.mk=>AOp prog 19 o (jD i).e [.cells [dB] fr 0] λd s=>d=(jD i).d/\s=[.cells [dB] fr 0]++[.map [] []]
 |.ins k v=>∀b c,(∀g∈b,kP g=true/\fA g≠fA k)->AOp prog 19 o (jD i).e ([.cells [dB] fr 0]++[.map b c]) λd s=>d=(jD i).d/\s=[.cells [dB] fr 0]++[.map (b++[k]) (c++[v])]:=by
 intro i o f;have h:i<21:=by rw[<-aeM];exact(amW.1 f).1
 have e:=aip f;subst e;clear f;have:i=0∨i=1∨i=2∨i=3∨i=4∨i=5∨i=6∨i=7∨i=8∨i=9∨i=10∨i=11∨i=12∨i=13∨i=14∨i=15∨i=16∨i=17∨i=18∨i=19∨i=20:=omq;rcases this with rfl|rfl|rfl|rfl|rfl|rfl|rfl|rfl|rfl|rfl|rfl|rfl|rfl|rfl|rfl|rfl|rfl|rfl|rfl|rfl|rfl
 ·exact aT tok krq
 ·exact⟨aT tok krq,λb c=>aT tok krq⟩
 ·exact λb c a=>xJ (N:=19) (t:=547) (m:=.tmp 6) (x:=.const (.int .i64 12)) (y:=.tmp 7) (z:=fm .nilf 0) krq krq rfl rfl rfl rfl a
 ·exact⟨aT tok krq,λb c=>aT tok krq⟩
 ·exact⟨aT tok krq,λb c=>aT tok krq⟩
 ·exact λb c a=>xJ (N:=19) (t:=547) (m:=.tmp 6) (x:=.const (.int .i64 19)) (y:=.tmp 9) (z:=fm .nilf 0) krq krq rfl rfl rfl rfl a
 ·exact⟨aT tok krq,λb c=>aT tok krq⟩
 ·exact⟨aT tok krq,λb c=>aT tok krq⟩
 ·exact λb c a=>xJ (N:=19) (t:=547) (m:=.tmp 6) (x:=.const (.int .i64 20)) (y:=.tmp 11) (z:=fm .nilf 0) krq krq rfl rfl rfl rfl a
 ·exact⟨aeN _,λb c=>aeN _⟩
 ·exact⟨aT tok krq,λb c=>aT tok krq⟩
 ·exact λb c a=>xJ (N:=19) (t:=547) (m:=.tmp 6) (x:=.const (.int .i64 22)) (y:=.tmp 13) (z:=fm .nilf 0) krq krq rfl rfl rfl rfl a
 ·exact⟨aT tok krq,λb c=>aT tok krq⟩
 ·exact⟨aT tok krq,λb c=>aT tok krq⟩
 ·exact λb c a=>xJ (N:=19) (t:=547) (m:=.tmp 6) (x:=.const (.int .i64 26)) (y:=.tmp 15) (z:=fm .nilf 0) krq krq rfl rfl rfl rfl a
 ·exact⟨aT tok krq,λb c=>aT tok krq⟩
 ·exact λb c a=>xJ (N:=19) (t:=547) (m:=.tmp 6) (x:=.const (.int .i64 28)) (y:=.tmp 16) (z:=fm .nilf 0) krq krq rfl rfl rfl rfl a
 ·exact⟨aT tok krq,λb c=>aT tok krq⟩
 ·exact λb c a=>xJ (N:=19) (t:=547) (m:=.tmp 6) (x:=.const (.int .i64 30)) (y:=.tmp 17) (z:=fm .nilf 0) krq krq rfl rfl rfl rfl a
 ·exact⟨aT tok krq,λb c=>aT tok krq⟩
 ·exact⟨aT tok krq,λb c=>aT tok krq⟩
def aj1(fr:Nat):Vc prog 19 Eh Ym [.cells [dB] fr 0] jD 0:=afE aio (afG fr)
def aj2{a:List Nat}(c:a.Nodup)(d:∀i,i∈a↔(i<Eh.size/\sE (jD i).k=true)):((a.map λi=>(jD i).key).zip (a.map λi=>(jD i).val)).Perm (lL.zip lM):=by
 have g:a.Perm [2,5,8,11,14,16,18]:=by
  refine(List.perm_ext_iff_of_nodup c deq).2 λi=> ?_;rw[d,aeM];constructor
  ·rintro⟨b,f⟩;have:i=0∨i=1∨i=2∨i=3∨i=4∨i=5∨i=6∨i=7∨i=8∨i=9∨i=10∨i=11∨i=12∨i=13∨i=14∨i=15∨i=16∨i=17∨i=18∨i=19∨i=20:=omq;rcases this with rfl|rfl|rfl|rfl|rfl|rfl|rfl|rfl|rfl|rfl|rfl|rfl|rfl|rfl|rfl|rfl|rfl|rfl|rfl|rfl|rfl<;>first|(cases f;done)|simp
  ·intro b;simp at b;rcases b with rfl|rfl|rfl|rfl|rfl|rfl|rfl<;>exact⟨omq,rfl⟩
 have e:∀l:List Nat,(l.map λi=>(jD i).key).zip (l.map λi=>(jD i).val)=l.map λi=>((jD i).key,(jD i).val):=λl=>by
  induction l with
  |nil=>rfl
  |cons x l h=>simp[h]
 rw[e];exact g.map _
def aj3:mh=[qf mh,qf (iJ mh),qf (iJ (iJ mh)),qf (iJ (iJ (iJ mh)))].foldr .seq (.seq r4 .ret):=krq
def aj4:r4=.region 4 Eh true:=krq
def st4:aw×ae:=([(3,.func (.func 386) [] [.rc [.func (.func 395) [] [.rc [.int .i32 32] 0,.rc [.int .i32 126] 0]] 0]),(5,.func (.func 386) [] [.rc [.func (.func 395) [] [.rc [.int .i32 32] 0,.rc [.int .i32 126] 0]] 0]),(2,.raw (.ptr 0 0 0)),(4,.func (.func 395) [] [.rc [.int .i32 32] 0,.rc [.int .i32 126] 0]),(1,.func (.func 383) [] []),(0,.raw .nilmap)],[.cells [.func (.func 395) [] [.rc [.int .i32 32] 0,.rc [.int .i32 126] 0]] true])
def alJ:JY acX 100 376 19 0 65535 [qf mh,qf (iJ mh),qf (iJ (iJ mh)),qf (iJ (iJ (iJ mh)))] [] []=some st4:=krq
end Go.Proofs.Tryz
namespace Go.Proofs.Tryz
open Go Go.Fw Go.RowKit
set_option maxRecDepth 100000
def aam{S:ae}{σ:Sto}{a b:Int}{d:D}(h:VR S σ (.func (.func 395) [] [.rc [.int .i32 a] 0,.rc [.int .i32 b] 0]) d):d=btw a b:=by
 simp only[VR,VRs]at h;obtain⟨i,j,rfl,rfl,e,m,rfl,⟨k,rfl,x,o,rfl,rfl,rfl⟩,l,f,rfl,⟨c,rfl,n,g,rfl,rfl,rfl⟩,rfl⟩:=h;rfl
def aeO:Eh[20]?=some (oAt 20)/\(oAt 20).dst=some 0:=⟨krq,krq⟩
def Nh:cy prog 376 [] (.pmap lL lM):=by
 obtain⟨fn,j⟩:=anw.1 (by kernel_rfl:(okF prog 376).isSome=true);obtain⟨K,_⟩:=fD j;have L:fn.ntmps=19:=by
  have:((okF prog 376).map (·.ntmps))=some 19:=krq;rw[j]at this;simpa using this
 have q:fn.body=some mh:=by
  have:((okF prog 376).bind (·.body))=some mh:=krq;rw[j]at this;simpa using this
 have hr:fn.results.toList=[.tmp 0]:=by
  have:((okF prog 376).map λf=>f.results.toList)=some [.tmp 0]:=krq;rw[j]at this;simpa using this
 refine IC (i:=0) rfl krq (uj (R:=λd' _=>d'=.pmap lL lM) tok K q siq ?_);rw[aj3];refine Rm (cx:=acX) (n:=100) (fid:=376) (lr:=65535) (fn:=fn) (body:=mh) (r:=st4) afF (λe h=>by cases h) K q _ [] [] (env0 0 []) [] (λc N=> ?_) (by rw[L];exact alJ) (λt v E=>by cases E) ⟨rfl,λl o p=>by simp at p⟩ ?_
 ·have:∀k:Nat,cN k c=[]:=by
   simp only[amN,apl,or_false]at N;have r0:qf mh=.region 0 (ON (qf mh)) false:=krq;have J:qf (iJ mh)=.region 1 (ON (qf (iJ mh))) false:=krq;have r2:qf (iJ (iJ mh))=.region 2 (ON (qf (iJ (iJ mh)))) false:=krq;have r3:qf (iJ (iJ (iJ mh)))=.region 3 (ON (qf (iJ (iJ (iJ mh))))) false:=krq;intro k;rcases N with rfl|rfl|rfl|rfl
   ·rw[r0];rfl
   ·rw[J];rfl
   ·rw[r2];rfl
   ·rw[r3];rfl
  intro k b q;rw[this]at q;cases q
 intro j4 u C M _;obtain⟨X,h1,O⟩:=C 1 (.func (.func 383) [] []) rfl;obtain⟨Y,h2,v2⟩:=C 2 (.raw (.ptr 0 0 0)) rfl;obtain⟨Z,h3,P⟩:=C 3 (.func (.func 386) [] [.rc [.func (.func 395) [] [.rc [.int .i32 32] 0,.rc [.int .i32 126] 0]] 0]) rfl;have e1:X=q1:=by
  simp only[VR,VRs]at O;obtain⟨_,_,rfl,rfl,rfl⟩:=O;rfl
 have e2:Y=.ptr 0 0 0:=by simpa only[VR] using v2
 have e3:Z=q3:=by
  rw[VR]at P;obtain⟨da,db,rfl,A,s⟩:=P;rw[VRs]at A;subst A;rw[VRs]at s;obtain⟨e,es,rfl,Q,S⟩:=s;rw[VRs]at S;subst S;rw[VR]at Q;obtain⟨ds,rfl,T⟩:=Q;rw[VRs]at T;obtain⟨e',j3,rfl,w6,U⟩:=T;rw[VRs]at U;subst U;rw[aam w6];rfl
 subst e1 e2 e3;obtain⟨ob,m,x⟩:=M.obj 0 _ rfl;obtain⟨ds,z,rfl,_,w⟩:=x;rw[VRs]at w;obtain⟨e,es,rfl,A,s⟩:=w;rw[VRs]at s;subst s;have:=aam A;subst this;have F:u=[.cells [dB] z 0]:=by
  have p:=M.len
  match u,p,m with
  |[y],_,m=>simp at m;rw[m];rfl
  |[],p,_=>cases p
  |_::_::_,p,_=>simp[st4]at p
 subst F;refine du (AWp.mono ?_ (λe τ σ (x:e=.normal/\∃a:List Nat,a.Nodup/\(∀i,i∈a↔(i<Eh.size/\sE (jD i).k=true))/\τ=[(0,D.map 1)]/\σ=[.cells [dB] z 0]++[HB jD a])=> ?_))
 ·rw[aj4,L];refine AWp.sub (τ':=Ym) ((adH (aj1 z) (τf:=[(0,D.map 1)]) (λa H I=>⟨rfl,a,H,I,rfl,rfl⟩) (λt d g=> ?_)).awp Ur) λt d g=> ?_
  ·simp only[Fw.get]at g;split at g
   ·rename_i e;subst e;cases g;exact .inl ⟨20,_,aeO.1,aeO.2,rfl⟩
   ·cases g
  ·simp only[Ym,Fw.get]at g;split at g
   ·rename_i e;subst e;cases g;exact h1
   ·split at g
    ·rename_i e;subst e;cases g;exact h2
    ·split at g
     ·rename_i e;subst e;cases g;exact h3
     ·cases g
 ·obtain⟨rfl,a,H,I,rfl,rfl⟩:=x;refine oy ⟨.inr rfl,.map 1,by rw[hr];rfl,.pmap lL lM,([am.cells [dB] z 0]++[HB jD a]).set 1 .gone,rfl,λB G w v hR E=> ?_⟩;obtain⟨V,l1,W,J⟩:=I4 (l:=1) (ks:=a.map λi=>(jD i).key) (vs:=a.map λi=>(jD i).val) hR rfl E;exact⟨V,l1,W,Vd J rfl (aj2 H I)⟩
end Go.Proofs.Tryz
def amm:=@decide_eq_false
def amq:=@decide_eq_true
def an1:=@Go.run_next_ascii
def aog:=@Go.rounds_succ
namespace Go.Proofs
open Go.Shelf Go.RowKit Go.Sort Go.Lib
def xI{x:UInt8}(d:128<=x.toNat){l:List UInt8}(h:(l.all λb=>decide (b.toNat<128))=true):Lib.indexByte l x= -1:=by
 induction l with
 |nil=>rfl
 |cons b l c=>
  simp only[List.all_cons,Bool.and_eq_true,decide_eq_true_eq]at h;have a:(b==x)=false:=by
   rw[beq_eq_false_iff_ne];intro e;subst e;omega
  unfold Lib.indexByte;rw[a,c h.2];rfl
def cp:ByteArray:=⟨#[32,39,40,41,43,44,45,46,47,58,61,63]⟩
set_option maxHeartbeats 6400000 in
set_option maxRecDepth 100000 in
def Tryz.indexRune_bad(r:Int)(g: -2147483648<=r)(f:r<=2147483647)(h:r<0∨128<=r)(i:r≠65533)(j:Lib.validRune r=false)(w:World):
 Calls Tryz.prog 394 #[.string cp,.int .i32 r] w λe c=>e=.returned (.int .i64 (-1))/\c=w:=by
 have mixed:Tryz.prog.follows .mixedOrders=true:=by kernel_rfl
 have t:=aov;have o:=apf;have C:=ao4;have y:=aoF;have x:=aof;have s:=apg;have F:=ao5;have B:=aoG;have u:=aow;have p:=aph;have D:=ao6;have z:=aoH;have l:=aoR;have d:=apE;have n:=apr;have m:=aoY;have v:=anV;have q:=aoS;have E:=aoL;have A:=aoc;have b:∀a w,(callFunc 387 a).run Tryz.prog w=.ok (.enter 387 a) w:=enters_of Tryz.func387 (by kernel_rfl) rfl
 go_enter Tryz.func394,(show Tryz.f394.ntmps=187 from rfl)
 go_wp2_with (go_at_fn 387;refine(Tryz.utf8_ValidRune r _).mono ?_;rintro e c ⟨rfl,k⟩;rw[k,j])
 all_goals go_ret
 all_goals exact⟨rfl,rfl⟩
set_option maxHeartbeats 6400000 in
set_option maxRecDepth 100000 in
def Tryz.indexRune_high(r:Int)(z:128<=r)(u:r<=2147483647)(A:r≠65533)(B:Lib.validRune r=true)(k:Nat)(l:(Utf8.encode r).size=k+1)(v:0<k)(y:k<4)(x:UInt8)(m:(Utf8.encode r)[k]! =x)(f:128<=x.toNat)(w:World):
 Calls Tryz.prog 394 #[.string cp,.int .i32 r] w λe b=>e=.returned (.int .i64 (-1))/\Below w.heap.size w b:=by
 have mixed:Tryz.prog.follows .mixedOrders=true:=by kernel_rfl
 have K:=aov;have G:=apf;have S:=ao4;have O:=aoF;have N:=aof;have J:=apg;have V:=ao5;have R:=aoG;have L:=aow;have H:=aph;have T:=ao6;have P:=aoH;have C:=aoR;have s:=apE;have F:=apr;have D:=aoY;have M:=anV;have I:=aoS;have U:=aoL;have Q:=aoc;have o:∀a w,(callFunc 387 a).run Tryz.prog w=.ok (.enter 387 a) w:=enters_of Tryz.func387 (by kernel_rfl) rfl;have p:∀a w,(callFunc 398 a).run Tryz.prog w=.ok (.enter 398 a) w:=enters_of Tryz.func398 (by kernel_rfl) rfl;obtain⟨E,t⟩:∃E,Utf8.encode r=E:=⟨_,rfl⟩;rw[t]at l m;have n:k=1∨k=2∨k=3:=by omega
 go_enter Tryz.func394,(show Tryz.f394.ntmps=187 from rfl)
 go_wp2_with (go_at_fn 387;refine(Tryz.utf8_ValidRune r _).mono ?_;rintro e b ⟨rfl,d⟩;rw[d,B])
 refine wp_scope_straight ?_
 go_wp2
 refine wp_loop_rounds 1 ?_;rw[aog];have q:cp.size=12:=rfl;rcases n with rfl|rfl|rfl
 ·have i:E.size=2:=l;have j:E[1]'(by omega)=x:=by rw[<-m];exact(getElem!_pos E 1 (by omega)).symm
  have h:cp[1]'(by decide)=39:=rfl;have c:¬((39:Int)=(x.toNat:Int)):=by omega
  have g:Lib.indexByte (List.take 10 (List.drop 2 cp.data.toList)) x= -1:=xI f (by decide)
  go_wp2
  refine wp_scope_straight ?_
  go_wp2
  go_region
  all_goals go_wp2
  go_region_with_o (go_at_fn 398;refine(Tryz.strings_IndexByte _ _ _).mono ?_;rintro e b ⟨rfl,d⟩;rw[d])
  all_goals go_wp2
  all_goals simp only[Exit.noGoto,Exit.inBlock,Exit.then]
  all_goals change bodyPost prog f394 (λe b=>e=.returned (.int .i64 (-1))/\Below w.heap.size w b) Exit.ret _ _
  all_goals go_ret
  all_goals exact⟨rfl,((Below.refl _ w).drew).drew⟩
 ·have i:E.size=3:=l;have j:E[2]'(by omega)=x:=by rw[<-m];exact(getElem!_pos E 2 (by omega)).symm
  have h:cp[2]'(by decide)=40:=rfl;have c:¬((40:Int)=(x.toNat:Int)):=by omega
  have g:Lib.indexByte (List.take 9 (List.drop 3 cp.data.toList)) x= -1:=xI f (by decide)
  go_wp2
  refine wp_scope_straight ?_
  go_wp2
  go_region
  all_goals go_wp2
  go_region_with_o (go_at_fn 398;refine(Tryz.strings_IndexByte _ _ _).mono ?_;rintro e b ⟨rfl,d⟩;rw[d])
  all_goals go_wp2
  all_goals simp only[Exit.noGoto,Exit.inBlock,Exit.then]
  all_goals change bodyPost prog f394 (λe b=>e=.returned (.int .i64 (-1))/\Below w.heap.size w b) Exit.ret _ _
  all_goals go_ret
  all_goals exact⟨rfl,((Below.refl _ w).drew).drew⟩
 ·have i:E.size=4:=l;have j:E[3]'(by omega)=x:=by rw[<-m];exact(getElem!_pos E 3 (by omega)).symm
  have h:cp[3]'(by decide)=41:=rfl;have c:¬((41:Int)=(x.toNat:Int)):=by omega
  have g:Lib.indexByte (List.take 8 (List.drop 4 cp.data.toList)) x= -1:=xI f (by decide)
  go_wp2
  refine wp_scope_straight ?_
  go_wp2
  go_region
  all_goals go_wp2
  go_region_with_o (go_at_fn 398;refine(Tryz.strings_IndexByte _ _ _).mono ?_;rintro e b ⟨rfl,d⟩;rw[d])
  all_goals go_wp2
  all_goals simp only[Exit.noGoto,Exit.inBlock,Exit.then]
  all_goals change bodyPost prog f394 (λe b=>e=.returned (.int .i64 (-1))/\Below w.heap.size w b) Exit.ret _ _
  all_goals go_ret
  all_goals exact⟨rfl,((Below.refl _ w).drew).drew⟩
set_option maxHeartbeats 6400000 in
set_option maxRecDepth 100000 in
def Tryz.indexRune_err(w:World):
 Calls Tryz.prog 394 #[.string cp,.int .i32 65533] w λe s=>e=.returned (.int .i64 (-1))/\Below w.heap.size w s:=by
 have mixed:Tryz.prog.follows .mixedOrders=true:=by kernel_rfl
 have z:=aov;have u:=apf;have H:=ao4;have D:=aoF;have C:=aof;have y:=apg;have K:=ao5;have G:=aoG;have A:=aow;have v:=aph;have I:=ao6;have E:=aoH;have q:=aoR;have f:=apE;have t:=apr;have r:=aoY;have B:=anV;have x:=aoS;have J:=aoL;have F:=aoc;have a:cp.size=12:=rfl;have g:(Instr.next (.pointer (some ⟨w.heap.size,0,none⟩)) true 0).run Tryz.prog (w.iter cp 0)=.ok (.tuple #[.bool true,.int .i64 0,.int .i32 32]) (w.iter cp 1):=an1 w cp 0 0 (by decide) (by decide);have h:(Instr.next (.pointer (some ⟨w.heap.size,0,none⟩)) true 0).run Tryz.prog (w.iter cp 1)=.ok (.tuple #[.bool true,.int .i64 1,.int .i32 39]) (w.iter cp 2):=an1 w cp 1 0 (by decide) (by decide);have i:(Instr.next (.pointer (some ⟨w.heap.size,0,none⟩)) true 0).run Tryz.prog (w.iter cp 2)=.ok (.tuple #[.bool true,.int .i64 2,.int .i32 40]) (w.iter cp 3):=an1 w cp 2 0 (by decide) (by decide);have j:(Instr.next (.pointer (some ⟨w.heap.size,0,none⟩)) true 0).run Tryz.prog (w.iter cp 3)=.ok (.tuple #[.bool true,.int .i64 3,.int .i32 41]) (w.iter cp 4):=an1 w cp 3 0 (by decide) (by decide);have k:(Instr.next (.pointer (some ⟨w.heap.size,0,none⟩)) true 0).run Tryz.prog (w.iter cp 4)=.ok (.tuple #[.bool true,.int .i64 4,.int .i32 43]) (w.iter cp 5):=an1 w cp 4 0 (by decide) (by decide);have l:(Instr.next (.pointer (some ⟨w.heap.size,0,none⟩)) true 0).run Tryz.prog (w.iter cp 5)=.ok (.tuple #[.bool true,.int .i64 5,.int .i32 44]) (w.iter cp 6):=an1 w cp 5 0 (by decide) (by decide);have m:(Instr.next (.pointer (some ⟨w.heap.size,0,none⟩)) true 0).run Tryz.prog (w.iter cp 6)=.ok (.tuple #[.bool true,.int .i64 6,.int .i32 45]) (w.iter cp 7):=an1 w cp 6 0 (by decide) (by decide);have n:(Instr.next (.pointer (some ⟨w.heap.size,0,none⟩)) true 0).run Tryz.prog (w.iter cp 7)=.ok (.tuple #[.bool true,.int .i64 7,.int .i32 46]) (w.iter cp 8):=an1 w cp 7 0 (by decide) (by decide);have o:(Instr.next (.pointer (some ⟨w.heap.size,0,none⟩)) true 0).run Tryz.prog (w.iter cp 8)=.ok (.tuple #[.bool true,.int .i64 8,.int .i32 47]) (w.iter cp 9):=an1 w cp 8 0 (by decide) (by decide);have p:(Instr.next (.pointer (some ⟨w.heap.size,0,none⟩)) true 0).run Tryz.prog (w.iter cp 9)=.ok (.tuple #[.bool true,.int .i64 9,.int .i32 58]) (w.iter cp 10):=an1 w cp 9 0 (by decide) (by decide);have b:(Instr.next (.pointer (some ⟨w.heap.size,0,none⟩)) true 0).run Tryz.prog (w.iter cp 10)=.ok (.tuple #[.bool true,.int .i64 10,.int .i32 61]) (w.iter cp 11):=an1 w cp 10 0 (by decide) (by decide);have c:(Instr.next (.pointer (some ⟨w.heap.size,0,none⟩)) true 0).run Tryz.prog (w.iter cp 11)=.ok (.tuple #[.bool true,.int .i64 11,.int .i32 63]) (w.iter cp 12):=an1 w cp 11 0 (by decide) (by decide);have d:(Instr.next (.pointer (some ⟨w.heap.size,0,none⟩)) true 0).run Tryz.prog (w.iter cp 12)=.ok (.tuple #[.bool false]) (w.iter cp 12):=run_next_end w cp 12 0 (by decide)
 go_enter Tryz.func394,(show Tryz.f394.ntmps=187 from rfl)
 go_wp2
 refine wp_loop_rounds 13 ?_;rw[aog]
 go_wp2
 rw[aog]
 go_wp2
 rw[aog]
 go_wp2
 rw[aog]
 go_wp2
 rw[aog]
 go_wp2
 rw[aog]
 go_wp2
 rw[aog]
 go_wp2
 rw[aog]
 go_wp2
 rw[aog]
 go_wp2
 rw[aog]
 go_wp2
 rw[aog]
 go_wp2
 rw[aog]
 go_wp2
 rw[aog]
 go_wp2
 go_ret
 exact⟨rfl,(Below.refl _ w).alloc (Nat.le_refl _) _⟩
def Tryz.indexRune_none(r:Int)(f: -2147483648<=r)(c:r<=2147483647)(h:r<0∨128<=r)(w:World):
 Calls Tryz.prog 394 #[.string cp,.int .i32 r] w λe i=>e=.returned (.int .i64 (-1))/\Below w.heap.size w i:=by
 by_cases a:r=65533
 ·subst a;exact Tryz.indexRune_err w
 cases b:Lib.validRune r with
 |false=>exact(Tryz.indexRune_bad r f c h a b w).mono λe i ⟨j,k⟩=>⟨j,by rw[k];exact Below.refl _ _⟩
 |true=>
  have g:128<=r:=by
   rcases h with h|h
   ·exfalso;unfold Lib.validRune at b;simp at b;omega
   ·exact h
  have l:Utf8.valid r=true:=by
   rw[validRune_eq];unfold validRune;unfold Lib.validRune at b;simp at b⊢;omega
  obtain⟨n,o,m⟩:=encode_facts r l g;have d:(Utf8.encode r).size-1<(Utf8.encode r).size:=by omega
  exact Tryz.indexRune_high r g c a b ((Utf8.encode r).size-1) (by omega) (by omega) (by omega) _ rfl (by
   rw[getElem!_pos (Utf8.encode r) _ d];exact m d) w
def inP(r:Int):Bool:=decide (0<=r)&&(decide (r<128)&&decide (0<=Lib.indexByte cp.data.toList r.toNat.toUInt8))
set_option maxHeartbeats 6400000 in
set_option maxRecDepth 100000 in
def Tryz.containsRune(r:Int)(f: -2147483648<=r)(d:r<=2147483647)(w:World):
 Calls Tryz.prog 384 #[.string cp,.int .i32 r] w λe i=>e=.returned (.bool (inP r))/\Below w.heap.size w i:=by
 by_cases h:0<=r/\r<128
 ·refine(Tryz.strings_ContainsRune_ascii cp r w h.1 h.2).mono λe i ⟨l,m⟩=>⟨?_,by rw[m];exact Below.refl _ _⟩;rw[l];unfold inP;rw[amq h.1,amq h.2];rfl
 ·have g:r<0∨128<=r:=by omega
  have b:inP r=false:=by
   unfold inP;rcases g with h|h
   ·rw[amm (by omega)];rfl
   ·rw[amm (p:=r<128) (by omega)];simp
  rw[b];have mixed:Tryz.prog.follows .mixedOrders=true:=by kernel_rfl
  have x:=aov;have t:=apf;have D:=ao4;have A:=aoF;have z:=aof;have v:=apg;have F:=ao5;have C:=aoG;have y:=aow;have u:=aph;have E:=ao6;have B:=aoH;have o:=aoR;have k:=apE;have s:=apr;have q:=aoY;have j:∀a w,(callFunc 394 a).run Tryz.prog w=.ok (.enter 394 a) w:=enters_of Tryz.func394 (by kernel_rfl) rfl;have c:=Tryz.indexRune_none r f d g w;clear b h g
  go_enter Tryz.func384,(show Tryz.f384.ntmps=9 from rfl)
  go_wp2_with (go_at_fn 394;refine c.mono ?_;rintro e i ⟨rfl,n⟩)
  go_ret
  exact⟨rfl,n⟩
end Go.Proofs
namespace Go.Fw
open Go.RowKit
def gy(s:List UInt8):Option Bool:=bif Nat.ble s.length bj then some (Lib.validD s) else none
def GS:Ctr:=⟨[.hole .str],.hole .bool,λ(x:List UInt8)=>gy x⟩
def TZ{P:Program}{f:FuncId}{g3 g4:Nat}(t:fX P f)(o:P.globalNamed "unicode/utf8.first" =some g3)(p:P.globalNamed "unicode/utf8.acceptRanges" =some g4)
 (h:∀(s:ByteArray)(w:World)(_:s.size<=9223372036854775807)(_:Lib.Utf8Tabs g3 g4 w),Calls P f #[.string s] w λe m=>e=.returned (.bool (Lib.validD s.data.toList))/\Below w.heap.size w m):cI P f GS:=by
 refine⟨t,rfl,rfl,λ(x:List UInt8)(y:Bool) a=> ?_⟩;have a:gy x=some y:=a;unfold gy at a;cases d:Nat.ble x.length bj with
 |false=>rw[d]at a;cases a
 |true=>
  rw[d]at a;cases a;have u:x.length<=bj:=amx d;refine⟨.bool (Lib.validD x),rfl,λ_ _=>by simp only[SV.can,VR],?_⟩;intro A g z b;cases g;simp only[VRs]at b;obtain⟨n,_,rfl,c,rfl⟩:=b;intro G w l q j k;have c:n=.str x:=by simpa only[lh,VR] using c
  subst c;simp only[af]at k;obtain⟨v,_,rfl,i,rfl⟩:=k;have i:v=.string ⟨x.toArray⟩:=by simpa only[Rep] using i
  subst i;refine(h ⟨x.toArray⟩ w (by show x.toArray.size<=_;rw[aoa];exact anI u deq) ⟨(j.2.fst g3 o).2,(j.2.acc g4 p).2⟩).mono ?_;rintro e m ⟨rfl,r⟩;refine⟨_,G,rfl,ja q r,?_⟩;show Rep G (.bool _) _;simp only[Rep]
def acA:List UInt8:=[32,39,40,41,43,44,45,46,47,58,61,63]
def inP(r:Int):Bool:=decide (0<=r)&&(decide (r<128)&&decide (0<=Lib.indexByte acA r.toNat.toUInt8))
def tb(r:Int):Option Bool:=bif decide (-2147483648<=r)&&decide (r<=2147483647) then some (inP r) else none
def acB:Ctr:=⟨[.slit [32,39,40,41,43,44,45,46,47,58,61,63],.hole (.int .i32)],.hole .bool,λ(x:Int)=>tb x⟩
def ah2{P:Program}{f:FuncId}(s:fX P f)
 (h:∀(r:Int)(_: -2147483648<=r)(_:r<=2147483647)(w:World),Calls P f #[.string ⟨acA.toArray⟩,.int .i32 r] w λe n=>e=.returned (.bool (inP r))/\Below w.heap.size w n):cI P f acB:=by
 refine⟨s,rfl,rfl,λ(x:Int)(y:Bool) a=> ?_⟩;have a:tb x=some y:=a;unfold tb at a;cases b:(decide (-2147483648<=x)&&decide (x<=2147483647)) with
 |false=>rw[b]at a;cases a
 |true=>
  rw[b]at a;cases a;simp only[amk,amX]at b;refine⟨.bool (inP x),rfl,λ_ _=>by simp only[SV.can,VR],?_⟩;intro A j v c;cases j;simp only[VRs]at c;obtain⟨o,_,rfl,g,d2,_,rfl,i,rfl⟩:=c;intro G w m p z l;have g:o=.str [32,39,40,41,43,44,45,46,47,58,61,63]:=by simpa only[lh,VR] using g
  have i:d2=.int .i32 x:=by simpa only[lh,VR] using i
  subst g i;simp only[af]at l;obtain⟨t,_,rfl,d,u,_,rfl,k,rfl⟩:=l;have d:t=.string ⟨acA.toArray⟩:=by simp only[Rep]at d;exact d
  have k:u=.int .i32 x:=by simpa only[Rep] using k
  subst d k;refine(h x b.1 b.2 w).mono ?_;rintro e n ⟨rfl,q⟩;refine⟨_,G,rfl,ja p q,?_⟩;show Rep G (.bool _) _;simp only[Rep]
def vr0(r:Int):Option Bool:=some (Lib.validRune r)
def aeI:∃f:Int->Option Bool,f=vr0:=⟨_,rfl⟩
noncomputable def GT:Int->Option Bool:=Classical.choose aeI
def KN(r:Int):GT r=some (Lib.validRune r):=aoX (anz aeI) r
noncomputable def X5:Ctr:=⟨[.hole (.int .i32)],.hole .bool,λ(x:Int)=>GT x⟩
def ah3{P:Program}{f:FuncId}(o:fX P f)
 (h:∀(r:Int)(w:World),Calls P f #[.int .i32 r] w λe k=>e=.returned (.bool (Lib.validRune r))/\Below w.heap.size w k):cI P f X5:=by
 refine⟨o,rfl,rfl,λ(x:Int)(y:Bool) b=> ?_⟩;have b:GT x=some y:=b;rw[KN]at b;cases b;refine⟨.bool (Lib.validRune x),rfl,λ_ _=>by simp only[SV.can,VR],?_⟩;intro t d q a;cases d;simp only[VRs]at a;obtain⟨l,_,rfl,c,rfl⟩:=a;intro G w j m s i;have c:l=.int .i32 x:=by simpa only[lh,VR] using c
 subst c;simp only[af]at i;obtain⟨p,_,rfl,g,rfl⟩:=i;have g:p=.int .i32 x:=by simpa only[Rep] using g
 subst g;refine(h x w).mono ?_;rintro e k ⟨rfl,n⟩;refine⟨_,G,rfl,ja m n,?_⟩;show Rep G (.bool _) _;simp only[Rep]
end Go.Fw
namespace Go.Proofs
open Go.Shelf Go.RowKit Go.Sort Go.Lib
def Tryz.lays196_ren:Go.Shelf.Ren:=⟨λ|196=>382|259=>393|n=>n,λ|9=>9|4=>4|3=>3|5=>5|12=>12|119=>536|0=>0|46=>173|139=>539|138=>538|53=>172|n=>n,λ|3=>6|4=>7|n=>n⟩
def Tryz.lays196:Go.Proofs.Lays.n196 Tryz.prog Tryz.lays196_ren:=by constructor<;>first|kernel_rfl|(intro w;kernel_rfl)
def Tryz.utf8_ValidString(s:ByteArray)(w:World)(b:s.size<=9223372036854775807)(a:Lib.Utf8Tabs 6 7 w):
 Calls Tryz.prog 382 #[.string s] w λe c=>e=.returned (.bool (Lib.validD s.data.toList))/\Below w.heap.size w c:=by
 have h:=Any.utf8_ValidString (ρ:=Tryz.lays196_ren) Tryz.lays196 s w b a;exact h
end Go.Proofs
namespace Go.Proofs.Tryz
open Go Go.Fw Go.RowKit
def afS:fX prog 382:=(fD (f:=382) (fn:=f382) krq).2
def afT:prog.globalNamed "unicode/utf8.first" =some 6:=krq
def ac5:prog.globalNamed "unicode/utf8.acceptRanges" =some 7:=krq
def qD:cI prog 382 GS:=TZ afS afT ac5 λs w b a=>Tryz.utf8_ValidString s w b a
def afU:fX prog 387:=(fD (f:=387) (fn:=f387) krq).2
def JZ:cI prog 387 X5:=ah3 afU λr w=>(Tryz.utf8_ValidRune r w).mono λ_ _ ⟨a,b⟩=>⟨a,by rw[b];exact anB _ _⟩
def afV:fX prog 384:=(fD (f:=384) (fn:=f384) krq).2
def alM:cI prog 384 acB:=ah2 afV λr b a w=>Tryz.containsRune r b a w
end Go.Proofs.Tryz
namespace Go.Fw
open Go
noncomputable section
def dZ(a:Int):Option Bool:=
 bif decide (a>=97) then(
 bif decide (a<=122) then(
 some true)
 else
 bif decide (a>=65) then(
 bif decide (a<=90) then(
 some true)
 else
 bif decide (a>=48) then(
 bif decide (a<=57) then(
 some true)
 else
 (tb a).bind λc1=>
 some c1)
 else
 (tb a).bind λb=>
 some b)
 else
 bif decide (a>=48) then(
 bif decide (a<=57) then(
 some true)
 else
 (tb a).bind λc=>
 some c)
 else
 (tb a).bind λd=>
 some d)
 else
 bif decide (a>=65) then(
 bif decide (a<=90) then(
 some true)
 else
 bif decide (a>=48) then(
 bif decide (a<=57) then(
 some true)
 else
 (tb a).bind λe=>
 some e)
 else
 (tb a).bind λf=>
 some f)
 else
 bif decide (a>=48) then(
 bif decide (a<=57) then(
 some true)
 else
 (tb a).bind λg=>
 some g)
 else
 (tb a).bind λh=>
 some h
def bp(a:Int)(a2:Int)(a3:Int):Option Bool:=
 bif decide (a>=a2) then(
 some (decide (a<=a3)))
 else
 some false
def cP(a:Int)(a2:Int)(a3:Int):Option Bool:=
 (bp a a2 a3).bind λc1=>
 bif c1 then(
 some true)
 else
 bif decide (a>=160) then(
 some (decide (a<=255)))
 else
 some false
def ec(a:Int):Option Bool:=
 (GT a).bind λc1=>
 bif c1 then(
 some (decide (a<=65535)))
 else
 some false
def gW(N n:Nat):(Int×Bs×Int)->Option ((Bool)⊕(Unit)):=Nat.rec (λ_=>none) (λ_ L (d,b,a)=>
 bif decide (a<(b.length:Int)) then(
 bif decide (0<=a) then(
 (GT ((iC b a).1)).bind λc=>
 bif (!c) then(
 some (Sum.inl false))
 else
 L (d,b,a+(iC b a).2))
 else
 none)
 else
 some (Sum.inr ())) n
def jh(N n:Nat):(Int×Bs×Int)->Option ((Bool)⊕(Unit)):=Nat.rec (λ_=>none) (λ_ L (d,b,a)=>
 bif decide (a<(b.length:Int)) then(
 bif decide (0<=a) then(
 (dZ ((iC b a).1)).bind λc=>
 bif (!c) then(
 some (Sum.inl false))
 else
 L (d,b,a+(iC b a).2))
 else
 none)
 else
 some (Sum.inr ())) n
def ji(N n:Nat):(Int×Int×Int×Bs×Int)->Option ((Bool)⊕(Unit)):=Nat.rec (λ_=>none) (λ_ L (c,d,f,b,a)=>
 bif decide (a<(b.length:Int)) then(
 bif decide (0<=a) then(
 (cP ((iC b a).1) c d).bind λe=>
 bif (!e) then(
 some (Sum.inl false))
 else
 L (c,d,f,b,a+(iC b a).2))
 else
 none)
 else
 some (Sum.inr ())) n
def gX(N n:Nat):(Int×Int×Int×Bs×Int)->Option ((Bool)⊕(Unit)):=Nat.rec (λ_=>none) (λ_ L (c,d,f,b,a)=>
 bif decide (a<(b.length:Int)) then(
 bif decide (0<=a) then(
 (bp ((iC b a).1) c d).bind λe=>
 bif (!e) then(
 some (Sum.inl false))
 else
 L (c,d,f,b,a+(iC b a).2))
 else
 none)
 else
 some (Sum.inr ())) n
def jj(N n:Nat):(Int×Bs×Int)->Option ((Bool)⊕(Unit)):=Nat.rec (λ_=>none) (λ_ L (d,b,a)=>
 bif decide (a<(b.length:Int)) then(
 bif decide (0<=a) then(
 (ec ((iC b a).1)).bind λc=>
 bif (!c) then(
 some (Sum.inl false))
 else
 L (d,b,a+(iC b a).2))
 else
 none)
 else
 some (Sum.inr ())) n
def iE(N:Nat)(a:(Int×Bs)):Option Bool:=
 bif (a.1==12) then(
 (gy a.2).bind λc1=>
 bif (!c1) then(
 some false)
 else
 (gW N N (0,a.2,0)).bind λu=>(match u with
 |Sum.inl s=>some s
 |Sum.inr _=>some true))
 else
 bif (a.1==19) then(
 (gy a.2).bind λt=>
 bif (!t) then(
 some false)
 else
 (jh N N (1,a.2,0)).bind λm=>(match m with
 |Sum.inl b=>some b
 |Sum.inr _=>some true))
 else
 bif (a.1==20) then(
 (gy a.2).bind λc=>
 bif (!c) then(
 some false)
 else
 (ji N N (32,126,1,a.2,0)).bind λn=>(match n with
 |Sum.inl d=>some d
 |Sum.inr _=>some true))
 else
 bif (a.1==22) then(
 (gy a.2).bind λe=>
 bif (!e) then(
 some false)
 else
 (gX N N (0,127,1,a.2,0)).bind λo=>(match o with
 |Sum.inl f=>some f
 |Sum.inr _=>some true))
 else
 bif (a.1==26) then(
 (gy a.2).bind λg=>
 bif (!g) then(
 some false)
 else
 (gX N N (32,126,1,a.2,0)).bind λp=>(match p with
 |Sum.inl h=>some h
 |Sum.inr _=>some true))
 else
 bif (a.1==28) then(
 (gy a.2).bind λi=>
 bif (!i) then(
 some false)
 else
 (gW N N (4,a.2,0)).bind λq=>(match q with
 |Sum.inl j=>some j
 |Sum.inr _=>some true))
 else
 bif (a.1==30) then(
 (gy a.2).bind λk=>
 bif (!k) then(
 some false)
 else
 (jj N N (2,a.2,0)).bind λr=>(match r with
 |Sum.inl l=>some l
 |Sum.inr _=>some true))
 else
 some false
def gq(N n:Nat):(Int×Int×Int×Bs×Bs×Int)->Option (Int×Bs×Bs×Int):=Nat.rec (λ_=>none) (λ_ L (g,h,d,b,c,a)=>
 bif decide (d>=0) then(
 bif decide (0<=iK .i64 8 d) then(
 (toB (IntKind.wrap .u8 (xO .i32 h (iK .i64 8 d)))).bind λe=>
 (app 1 b [e]).bind λf=>
 L (g,h,aC .i64 d 1,f,c,a))
 else
 none)
 else
 some (g,b,c,a)) n
def bY(N n:Nat):(Int×Bs×Bs×Int)->Option Bs:=Nat.rec (λ_=>none) (λ_ L (d,e,b,a)=>
 bif decide (a<(b.length:Int)) then(
 bif decide (0<=a) then(
 (gq N N (d,(iC b a).1,aC .i64 d 1,e,b,a+(iC b a).2)).bind λ(f,g,h,c)=>
 L (f,g,h,c))
 else
 none)
 else
 some e) n
def aV(N:Nat)(a:(Int×Bs)):Option (Bs×Int):=
 (iE N a).bind λc1=>
 bif (!c1) then(
 some ([],8))
 else
 bif (a.1==12) then(
 (H7 a.2).bind λi=>
 some (i,0))
 else
 bif (a.1==19) then(
 (bY N N (1,[],a.2,0)).bind λb=>
 some (b,0))
 else
 bif (a.1==20) then(
 (bY N N (1,[],a.2,0)).bind λc=>
 some (c,0))
 else
 bif (a.1==22) then(
 (bY N N (1,[],a.2,0)).bind λd=>
 some (d,0))
 else
 bif (a.1==26) then(
 (bY N N (1,[],a.2,0)).bind λe=>
 some (e,0))
 else
 bif (a.1==28) then(
 (bY N N (4,[],a.2,0)).bind λf=>
 some (f,0))
 else
 bif (a.1==30) then(
 (bY N N (2,[],a.2,0)).bind λg=>
 some (g,0))
 else
 (H7 a.2).bind λh=>
 some (h,0)
end
end Go.Fw
