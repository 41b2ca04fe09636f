/- A framework for proofs about Go programs in this model: part I. Everything is proved; no condition is added. -/
import Derived.RangeFuncNested
import Derived.RangeFuncBound
import Derived.RangeFuncCalls
import Derived.RangeFuncLeaves
import Derived.Shelf.Abstract
import Derived.Shelf.RegionOpen
import Derived.WalkKit
import Derived.OwnWalkIn
import Derived.TacticsInMore
import Derived.LoopNIn
import Derived.LoopIn
import Derived.RegionIn
import Derived.BigRegionIn
import Derived.TacticsIn
import Derived.Test.YtfjfjojmeookfaaGreatDoorProg
import Derived.Shelf.Strings.BuilderRune
import Derived.Lib.RuneBytes
import Derived.RangeFuncWrites
import Derived.Laws.EntriesVeiled
import Derived.Laws.BitsAllLaws
import Derived.Laws.IdiomStrings
import Derived.Lib.BufferRead
import Derived.Test.YtfjfjojmeookfaaGreatDoorFwH
import Derived.Test.YtfjfjojmeookfaaGreatDoorFwHA
set_option linter.unusedVariables false
set_option linter.unusedSimpArgs false
set_option linter.defProp false
namespace Go.Fw
open Go
noncomputable section
def gW(a:Int):Option Bool:=
 bif decide (a>=97) then(
 bif decide (a<=122) then(
 some true)
 else
 bif decide (a>=65) then(
 bif decide (a<=90) then(
 some true)
 else
 bif decide (a>=48) then(
 bif decide (a<=57) then(
 some true)
 else
 (rU a).bind λc1=>
 some c1)
 else
 (rU a).bind λb=>
 some b)
 else
 bif decide (a>=48) then(
 bif decide (a<=57) then(
 some true)
 else
 (rU a).bind λc=>
 some c)
 else
 (rU a).bind λd=>
 some d)
 else
 bif decide (a>=65) then(
 bif decide (a<=90) then(
 some true)
 else
 bif decide (a>=48) then(
 bif decide (a<=57) then(
 some true)
 else
 (rU a).bind λe=>
 some e)
 else
 (rU a).bind λf=>
 some f)
 else
 bif decide (a>=48) then(
 bif decide (a<=57) then(
 some true)
 else
 (rU a).bind λg=>
 some g)
 else
 (rU a).bind λh=>
 some h
def cT(a:Int)(a2:Int)(a3:Int):Option Bool:=
 bif decide (a>=a2) then(
 some (decide (a<=a3)))
 else
 some false
def fX(a:Int)(a2:Int)(a3:Int):Option Bool:=
 (cT a a2 a3).bind λc1=>
 bif c1 then(
 some true)
 else
 bif decide (a>=160) then(
 some (decide (a<=255)))
 else
 some false
def gX(a:Int):Option Bool:=
 (Ek a).bind λc1=>
 bif c1 then(
 some (decide (a<=65535)))
 else
 some false
def ku(N n:Nat):(Int×Bs×Int)->Option ((Bool)⊕(Unit)):=Nat.rec (λ_=>none) (λ_ L (d,b,a)=>
 bif decide (a<(b.length:Int)) then(
 bif decide (0<=a) then(
 (Ek ((kL b a).1)).bind λc=>
 bif (!c) then(
 some (Sum.inl false))
 else
 L (d,b,a+(kL b a).2))
 else
 none)
 else
 some (Sum.inr ())) n
def lH(N n:Nat):(Int×Bs×Int)->Option ((Bool)⊕(Unit)):=Nat.rec (λ_=>none) (λ_ L (d,b,a)=>
 bif decide (a<(b.length:Int)) then(
 bif decide (0<=a) then(
 (gW ((kL b a).1)).bind λc=>
 bif (!c) then(
 some (Sum.inl false))
 else
 L (d,b,a+(kL b a).2))
 else
 none)
 else
 some (Sum.inr ())) n
def lI(N n:Nat):(Int×Int×Int×Bs×Int)->Option ((Bool)⊕(Unit)):=Nat.rec (λ_=>none) (λ_ L (c,d,f,b,a)=>
 bif decide (a<(b.length:Int)) then(
 bif decide (0<=a) then(
 (fX ((kL b a).1) c d).bind λe=>
 bif (!e) then(
 some (Sum.inl false))
 else
 L (c,d,f,b,a+(kL b a).2))
 else
 none)
 else
 some (Sum.inr ())) n
def kw(N n:Nat):(Int×Int×Int×Bs×Int)->Option ((Bool)⊕(Unit)):=Nat.rec (λ_=>none) (λ_ L (c,d,f,b,a)=>
 bif decide (a<(b.length:Int)) then(
 bif decide (0<=a) then(
 (cT ((kL b a).1) c d).bind λe=>
 bif (!e) then(
 some (Sum.inl false))
 else
 L (c,d,f,b,a+(kL b a).2))
 else
 none)
 else
 some (Sum.inr ())) n
def lJ(N n:Nat):(Int×Bs×Int)->Option ((Bool)⊕(Unit)):=Nat.rec (λ_=>none) (λ_ L (d,b,a)=>
 bif decide (a<(b.length:Int)) then(
 bif decide (0<=a) then(
 (gX ((kL b a).1)).bind λc=>
 bif (!c) then(
 some (Sum.inl false))
 else
 L (d,b,a+(kL b a).2))
 else
 none)
 else
 some (Sum.inr ())) n
def kN(N:Nat)(a:(Int×Bs)):Option Bool:=
 bif (a.1==12) then(
 (jZ a.2).bind λc1=>
 bif (!c1) then(
 some false)
 else
 (ku N N (0,a.2,0)).bind λu=>(match u with
 |Sum.inl s=>some s
 |Sum.inr _=>some true))
 else
 bif (a.1==19) then(
 (jZ a.2).bind λt=>
 bif (!t) then(
 some false)
 else
 (lH N N (1,a.2,0)).bind λm=>(match m with
 |Sum.inl b=>some b
 |Sum.inr _=>some true))
 else
 bif (a.1==20) then(
 (jZ a.2).bind λc=>
 bif (!c) then(
 some false)
 else
 (lI N N (32,126,1,a.2,0)).bind λn=>(match n with
 |Sum.inl d=>some d
 |Sum.inr _=>some true))
 else
 bif (a.1==22) then(
 (jZ a.2).bind λe=>
 bif (!e) then(
 some false)
 else
 (kw N N (0,127,1,a.2,0)).bind λo=>(match o with
 |Sum.inl f=>some f
 |Sum.inr _=>some true))
 else
 bif (a.1==26) then(
 (jZ a.2).bind λg=>
 bif (!g) then(
 some false)
 else
 (kw N N (32,126,1,a.2,0)).bind λp=>(match p with
 |Sum.inl h=>some h
 |Sum.inr _=>some true))
 else
 bif (a.1==28) then(
 (jZ a.2).bind λi=>
 bif (!i) then(
 some false)
 else
 (ku N N (4,a.2,0)).bind λq=>(match q with
 |Sum.inl j=>some j
 |Sum.inr _=>some true))
 else
 bif (a.1==30) then(
 (jZ a.2).bind λk=>
 bif (!k) then(
 some false)
 else
 (lJ N N (2,a.2,0)).bind λr=>(match r with
 |Sum.inl l=>some l
 |Sum.inr _=>some true))
 else
 some false
def jP(N n:Nat):(Int×Int×Int×Bs×Bs×Int)->Option (Int×Bs×Bs×Int):=Nat.rec (λ_=>none) (λ_ L (g,h,d,b,c,a)=>
 bif decide (d>=0) then(
 bif decide (0<=kZ .i64 8 d) then(
 (toB (IntKind.wrap .u8 (vL .i32 h (kZ .i64 8 d)))).bind λe=>
 (app 1 b [e]).bind λf=>
 L (g,h,aX .i64 d 1,f,c,a))
 else
 none)
 else
 some (g,b,c,a)) n
def eO(N n:Nat):(Int×Bs×Bs×Int)->Option Bs:=Nat.rec (λ_=>none) (λ_ L (d,e,b,a)=>
 bif decide (a<(b.length:Int)) then(
 bif decide (0<=a) then(
 (jP N N (d,(kL b a).1,aX .i64 d 1,e,b,a+(kL b a).2)).bind λ(f,g,h,c)=>
 L (f,g,h,c))
 else
 none)
 else
 some e) n
def bY(N:Nat)(a:(Int×Bs)):Option (Bs×Int):=
 (kN N a).bind λc1=>
 bif (!c1) then(
 some ([],8))
 else
 bif (a.1==12) then(
 (Fs a.2).bind λi=>
 some (i,0))
 else
 bif (a.1==19) then(
 (eO N N (1,[],a.2,0)).bind λb=>
 some (b,0))
 else
 bif (a.1==20) then(
 (eO N N (1,[],a.2,0)).bind λc=>
 some (c,0))
 else
 bif (a.1==22) then(
 (eO N N (1,[],a.2,0)).bind λd=>
 some (d,0))
 else
 bif (a.1==26) then(
 (eO N N (1,[],a.2,0)).bind λe=>
 some (e,0))
 else
 bif (a.1==28) then(
 (eO N N (4,[],a.2,0)).bind λf=>
 some (f,0))
 else
 bif (a.1==30) then(
 (eO N N (2,[],a.2,0)).bind λg=>
 some (g,0))
 else
 (Fs a.2).bind λh=>
 some (h,0)
end
end Go.Fw
namespace Go.Proofs.Tryz
open Go Go.Fw
def mixed:prog.follows .mixedOrders=true:=by kernel_rfl
noncomputable def hH:Tr TC:=(.node .nil 22 .byte .nil)
noncomputable def hO:Tr OH:=(.node .nil 23265285 (.val .byte) .nil)
def abz:prog.underlying 22=some (.slice 5):=by kernel_rfl
def noK:FuncId->List D->Option D:=λ_ _=>none
def eH(P:Program):KOk P noK:=λ_ _ _ h=>by cases h
set_option maxHeartbeats 1000000
def aeT{cs:List D}{n:Nat}{f:Bool}(a:cs.length=n*1)(o:cs.all D.isCell=true)(l:cV cs=true)(m:n*1<=cK):fq prog 66 [.list cs n f] (.list cs n (Nat.beq n 0)):=by
 have k:(D.list cs n f).pure=true:=by simp only[D.pure];exact l
 have p:∀b:Bool,n=0->cs=[]:=λb h=>by subst h;simpa using a
 refine abq (i:=0) tok func66 rfl rfl (by simp only[cV,k];rfl) ?_
 repeat first|refine gw ?_|refine eC ?_
 refine go1 tok (eH _) rfl rfl rfl ?_
 repeat first|refine gw ?_|refine eC ?_
 refine go1 tok (eH _) rfl rfl rfl ?_;refine YC rfl rfl abz rfl rfl rfl (λb c=> ?_);by_cases g:n=0
 ·have e:=p true g;subst g e;cases b
  ·refine mz rfl (oC ?_)
   repeat first|refine gw ?_|refine eC ?_
   repeat refine go1 tok (eH _) rfl rfl rfl ?_
   exact oX (Dq rfl rfl rfl)
  ·refine qa rfl ?_
   repeat first|refine gw ?_|refine eC ?_
   repeat refine go1 tok (eH _) rfl rfl rfl ?_
   exact oX (Dq rfl rfl rfl)
 ·have d:b=false:=by
   cases b with
   |false=>rfl
   |true=>have:=c rfl;subst this;simp at a;omega
  subst d;have j:Nat.beq n 0=false:=by cases n with|zero=>exact absurd rfl g|succ=>rfl
  refine mz rfl (oC ?_)
  repeat first|refine gw ?_|refine eC ?_
  iterate 2 refine go1 tok (eH _) rfl rfl rfl ?_
  refine goA tok rfl (abT rfl rfl rfl (by omega) a o m (by omega)) rfl ?_
  repeat refine go1 tok (eH _) rfl rfl rfl ?_
  rw[j];exact oX (Dq rfl (abU rfl a) (by simp only[D.pure];exact l))
def acO:fJ prog 66 Nx:=Xj (jB (f:=66) (fn:=f66) (by kernel_rfl)).2 aeT
def VE:prog.underlying 22=some (.slice 5):=by kernel_rfl
def af1:prog.underlying 3=some (.int .i64):=by kernel_rfl
def af2:Bi prog 22 22=some (1,1):=by kernel_rfl
def af3:vA prog 22=some (1,1):=by kernel_rfl
set_option maxRecDepth 20000 in
def af4{n:Nat}(b:n<=cK):PB prog 90 [.list [] 0 true,.int .i64 n] [] 0 1:=by
 have c:n<=1099511627776:=b;refine Rm rfl rfl ?_;refine wQ tok func90 rfl (ahR rfl) ?_
 repeat first|refine gw ?_|refine eC ?_
 refine go1 tok (eH _) rfl rfl rfl ?_
 repeat first|refine gw ?_|refine eC ?_
 refine go1 tok (eH _) rfl rfl rfl ?_;refine go1 tok (eH _) rfl rfl rfl ?_;rw[show decide ((n:Int)<0)=false from by simp];refine mz rfl (oC ?_)
 repeat first|refine gw ?_|refine eC ?_
 refine go1 tok (eH _) rfl rfl rfl ?_;refine go1 tok (eH _) rfl rfl rfl ?_;refine goP rfl (TL rfl VE rfl) rfl ?_;refine go1 tok (eH _) rfl rfl rfl ?_;refine go1 tok (eH _) rfl rfl rfl ?_;refine go1 tok (eH _) rfl rfl rfl ?_;refine go1 (d:=.int .i64 n) tok (eH _) rfl (by
  show some (D.int .i64 (IntKind.i64.wrap ((n:Int)-0)),([]:Sto))=_;rw[Int.sub_zero,aie _ (by omega)]) rfl ?_
 refine go1 tok (eH _) rfl rfl rfl ?_
 repeat first|refine gw ?_|refine eC ?_
 refine go1 tok (eH _) rfl rfl rfl ?_;refine go1 (d:=.bool (decide ((n:Int)>0))) tok (eH _) rfl rfl rfl ?_;by_cases a:0<n
 ·rw[show decide ((n:Int)>0)=true from by simpa using a];refine qa rfl ?_
  repeat first|refine gw ?_|refine eC ?_
  refine go1 tok (eH _) rfl rfl rfl ?_;refine go1 tok (eH _) rfl rfl rfl ?_;refine goP rfl (TL rfl VE rfl) rfl ?_;refine go1 tok (eH _) rfl rfl rfl ?_;refine go1 tok (eH _) rfl rfl rfl ?_;refine goP rfl (SZ rfl af2 af1 rfl rfl a b (by omega)) rfl ?_;refine go1 tok (eH _) rfl rfl rfl ?_;refine go1 tok (eH _) rfl rfl rfl ?_;refine goP (d:=.sl 0 0 0 0 1 false) (σ':=[.cells [] 0 0]) (by rfl) ?_ (by rfl) ?_
  ·refine ZZ (t:=22) (e:=5) (x:=.tmp 22) (y:=.tmp 24) (l:=0) (u:=0) (n:=n) (sz:=1) (by':=1) ?_ VE af3 ?_ ?_
   ·rfl
   ·rfl
   ·rfl
  refine go1 tok (eH _) rfl rfl rfl ?_
  repeat first|refine gw ?_|refine eC ?_
  refine go1 tok (eH _) rfl rfl rfl ?_;refine go1 tok (eH _) rfl rfl rfl ?_;exact oX ⟨.inr rfl,_,rfl,_,_,⟨0,0,rfl,rfl⟩,.refl _ _⟩
 ·have:n=0:=Nat.eq_zero_of_not_pos a;subst this;clear b c a;refine mz rfl (oC ?_)
  repeat first|refine gw ?_|refine eC ?_
  refine go1 tok (eH _) rfl rfl rfl ?_;refine go1 tok (eH _) rfl rfl rfl ?_;exact oX ⟨.inr rfl,_,rfl,.sl 0 0 0 0 1 false,[.cells [] 0 0],⟨0,0,rfl,rfl⟩,λB G w x f g=>⟨G,.refl G,f.newObj,C8 g⟩⟩
def aeU:rl prog 90 Rz:=Z0 (jB (f:=90) (fn:=f90) (by kernel_rfl)).2 af4
noncomputable def VF:D:=.cmap [.int .i64 0,.int .i64 9,.int .i64 14,.int .i64 15,.int .i64 17,.int .i64 18,.int .i64 19,.int .i64 20,.int .i64 21,.int .i64 24,.int .i64 27,.int .i64 28,.int .i64 29,.int .i64 30,.int .i64 31,.int .i64 32,.int .i64 33,.int .i64 35,.int .i64 36,.int .i64 37,.int .i64 46,.int .i64 54,.int .i64 101,.int .i64 111] [.agg [.str [],.str [111,112,97,113,117,101],.iface 301 (.agg [.func (.func 171) [] [],.func (.func 184) [] [],.func (.func 185) [] []])],.agg [.str [50,46,53,46,50,57,46,57],.str [83,117,98,106,101,99,116,68,105,114,101,99,116,111,114,121,65,116,116,114,105,98,117,116,101,115],.iface 319 (.agg [.func (.func 186) [] [],.func (.func 187) [] [],.func (.func 188) [] []])],.agg [.str [50,46,53,46,50,57,46,49,52],.str [83,117,98,106,101,99,116,75,101,121,73,100,101,110,116,105,102,105,101,114],.iface 301 (.agg [.func (.func 171) [] [],.func (.func 189) [] [],.func (.func 190) [] []])],.agg [.str [50,46,53,46,50,57,46,49,53],.str [75,101,121,85,115,97,103,101],.iface 321 (.agg [.func (.func 172) [] [],.func (.func 191) [] [],.func (.func 192) [] []])],.agg [.str [50,46,53,46,50,57,46,49,55],.str [83,117,98,106,101,99,116,65,108,116,78,97,109,101],.iface 299 (.agg [.func (.func 173) [] [],.func (.func 174) [] [],.func (.func 175) [] []])],.agg [.str [50,46,53,46,50,57,46,49,56],.str [73,115,115,117,101,114,65,108,116,78,97,109,101],.iface 299 (.agg [.func (.func 173) [] [],.func (.func 174) [] [],.func (.func 175) [] []])],.agg [.str [50,46,53,46,50,57,46,49,57],.str [66,97,115,105,99,67,111,110,115,116,114,97,105,110,116,115],.iface 327 (.agg [.func (.func 193) [] [],.func (.func 194) [] [],.func (.func 195) [] []])],.agg [.str [50,46,53,46,50,57,46,50,48],.str [67,82,76,78,117,109,98,101,114],.iface 301 (.agg [.func (.func 171) [] [],.func (.func 176) [] [],.func (.func 177) [] []])],.agg [.str [50,46,53,46,50,57,46,50,49],.str [67,82,76,82,101,97,115,111,110],.iface 321 (.agg [.func (.func 172) [] [],.func (.func 196) [] [],.func (.func 197) [] []])],.agg [.str [50,46,53,46,50,57,46,50,52],.str [73,110,118,97,108,105,100,105,116,121,68,97,116,101],.iface 331 (.agg [.func (.func 198) [] [],.func (.func 199) [] [],.func (.func 200) [] []])],.agg [.str [50,46,53,46,50,57,46,50,55],.str [66,97,115,101,67,82,76,78,117,109,98,101,114],.iface 301 (.agg [.func (.func 171) [] [],.func (.func 176) [] [],.func (.func 177) [] []])],.agg [.str [50,46,53,46,50,57,46,50,56],.str [73,115,115,117,105,110,103,68,105,115,116,114,105,98,117,116,105,111,110,80,111,105,110,116],.iface 337 (.agg [.func (.func 201) [] [],.func (.func 202) [] [],.func (.func 203) [] []])],.agg [.str [50,46,53,46,50,57,46,50,57],.str [67,101,114,116,105,102,105,99,97,116,101,73,115,115,117,101,114],.iface 299 (.agg [.func (.func 173) [] [],.func (.func 174) [] [],.func (.func 175) [] []])],.agg [.str [50,46,53,46,50,57,46,51,48],.str [78,97,109,101,67,111,110,115,116,114,97,105,110,116,115],.iface 343 (.agg [.func (.func 204) [] [],.func (.func 205) [] [],.func (.func 206) [] []])],.agg [.str [50,46,53,46,50,57,46,51,49],.str [67,82,76,68,105,115,116,114,105,98,117,116,105,111,110,80,111,105,110,116,115],.iface 307 (.agg [.func (.func 178) [] [],.func (.func 179) [] [],.func (.func 180) [] []])],.agg [.str [50,46,53,46,50,57,46,51,50],.str [67,101,114,116,105,102,105,99,97,116,101,80,111,108,105,99,105,101,115],.iface 349 (.agg [.func (.func 207) [] [],.func (.func 208) [] [],.func (.func 209) [] []])],.agg [.str [50,46,53,46,50,57,46,51,51],.str [80,111,108,105,99,121,77,97,112,112,105,110,103,115],.iface 355 (.agg [.func (.func 210) [] [],.func (.func 211) [] [],.func (.func 212) [] []])],.agg [.str [50,46,53,46,50,57,46,51,53],.str [65,117,116,104,111,114,105,116,121,75,101,121,73,100,101,110,116,105,102,105,101,114],.iface 361 (.agg [.func (.func 213) [] [],.func (.func 214) [] [],.func (.func 215) [] []])],.agg [.str [50,46,53,46,50,57,46,51,54],.str [80,111,108,105,99,121,67,111,110,115,116,114,97,105,110,116,115],.iface 367 (.agg [.func (.func 216) [] [],.func (.func 217) [] [],.func (.func 218) [] []])],.agg [.str [50,46,53,46,50,57,46,51,55],.str [69,120,116,75,101,121,85,115,97,103,101],.iface 373 (.agg [.func (.func 219) [] [],.func (.func 220) [] [],.func (.func 221) [] []])],.agg [.str [50,46,53,46,50,57,46,52,54],.str [70,114,101,115,104,101,115,116,67,82,76],.iface 307 (.agg [.func (.func 178) [] [],.func (.func 179) [] [],.func (.func 180) [] []])],.agg [.str [50,46,53,46,50,57,46,53,52],.str [73,110,104,105,98,105,116,65,110,121,80,111,108,105,99,121],.iface 321 (.agg [.func (.func 172) [] [],.func (.func 222) [] [],.func (.func 223) [] []])],.agg [.str [49,46,51,46,54,46,49,46,53,46,53,46,55,46,49,46,49],.str [65,117,116,104,111,114,105,116,121,73,110,102,111,65,99,99,101,115,115],.iface 313 (.agg [.func (.func 181) [] [],.func (.func 182) [] [],.func (.func 183) [] []])],.agg [.str [49,46,51,46,54,46,49,46,53,46,53,46,55,46,49,46,49,49],.str [83,117,98,106,101,99,116,73,110,102,111,65,99,99,101,115,115],.iface 313 (.agg [.func (.func 181) [] [],.func (.func 182) [] [],.func (.func 183) [] []])]]
noncomputable def Mi:Ctr:=⟨[],.raw VF,λ(_:Unit)=>some ()⟩
def VG:fJ prog 157 Mi:=Hr (jB (f:=157) (fn:=f157) (by kernel_rfl)).2 (by kernel_rfl) (by kernel_rfl) (BW (n:=20) tok (eH _) mixed rfl (by kernel_rfl) (by kernel_rfl) (by kernel_rfl))
noncomputable def VH:D:=.cmap [.int .i64 0,.int .i64 1,.int .i64 2,.int .i64 3,.int .i64 4,.int .i64 5,.int .i64 6,.int .i64 7,.int .i64 8] [.func (.func 357) [] [],.func (.func 358) [] [],.func (.func 358) [] [],.func (.func 359) [] [],.func (.func 360) [] [],.func (.func 361) [] [],.func (.func 358) [] [],.func (.func 359) [] [],.func (.func 362) [] []]
noncomputable def Mj:Ctr:=⟨[],.raw VH,λ(_:Unit)=>some ()⟩
def VI:fJ prog 311 Mj:=Hr (jB (f:=311) (fn:=f311) (by kernel_rfl)).2 (by kernel_rfl) (by kernel_rfl) (BW (n:=20) tok (eH _) mixed rfl (by kernel_rfl) (by kernel_rfl) (by kernel_rfl))
noncomputable def VJ:D:=.pmap [.int .i64 12,.int .i64 19,.int .i64 20,.int .i64 22,.int .i64 26,.int .i64 28,.int .i64 30] [.agg [.func (.func 387) [] [],.int .i64 0],.agg [.func (.func 383) [] [],.int .i64 1],.agg [.func (.func 386) [] [.rptr [.func (.func 395) [] [.rptr [.int .i32 32] 0,.rptr [.int .i32 126] 0]] 0],.int .i64 1],.agg [.func (.func 395) [] [.rptr [.int .i32 0] 0,.rptr [.int .i32 127] 0],.int .i64 1],.agg [.func (.func 395) [] [.rptr [.int .i32 32] 0,.rptr [.int .i32 126] 0],.int .i64 1],.agg [.func (.func 387) [] [],.int .i64 4],.agg [.func (.func 388) [] [],.int .i64 2]]
noncomputable def E5:Ctr:=⟨[],.raw VJ,λ(_:Unit)=>some ()⟩
def mn:fJ prog 376 E5:=Hr (jB (f:=376) (fn:=f376) (by kernel_rfl)).2 (by kernel_rfl) (by kernel_rfl) Kj
noncomputable def x6:Ctr:=⟨[.hole (.int .i32)],.hole .bool,λ(x:Int)=>gW x⟩
noncomputable def Jf(L:List jt):Cx:=⟨prog,T,hH,hO,[(384,Zf)],[],[],L,.nil⟩
def jK:fJ prog 383 (x6):=Ak (cx:=Jf []) tok mixed ⟨ahb,trivial⟩ trivial trivial trivial 383 _ (by kernel_rfl) (by kernel_rfl) (by intro x;kernel_rfl)
noncomputable def nH:Ctr:=⟨[.hole (.int .i32),.rc [.hole (.int .i32)] 0,.rc [.hole (.int .i32)] 0],.hole .bool,λ(x:Int×Int×Int)=>cT x.1 x.2.1 x.2.2⟩
noncomputable def B4(L:List jt):Cx:=⟨prog,T,hH,hO,[],[],[],L,.nil⟩
def gd:fJ prog 395 (nH):=Ak (cx:=B4 []) tok mixed trivial trivial trivial trivial 395 _ (by kernel_rfl) (by kernel_rfl) (by intro x;kernel_rfl)
noncomputable def uo:Ctr:=⟨[.hole (.int .i32),.rc [.func (.func 395) [] [.rc [.hole (.int .i32)] 0,.rc [.hole (.int .i32)] 0]] 0],.hole .bool,λ(x:Int×Int×Int)=>fX x.1 x.2.1 x.2.2⟩
noncomputable def E6(L:List jt):Cx:=⟨prog,T,hH,hO,[(395,nH)],[],[],L,.nil⟩
def iH:fJ prog 386 (uo):=Ak (cx:=E6 []) tok mixed ⟨gd,trivial⟩ trivial trivial trivial 386 _ (by kernel_rfl) (by kernel_rfl) (by intro x;kernel_rfl)
noncomputable def x7:Ctr:=⟨[.hole (.int .i32)],.hole .bool,λ(x:Int)=>gX x⟩
noncomputable def Jg(L:List jt):Cx:=⟨prog,T,hH,hO,[(387,UN)],[],[],L,.nil⟩
def jL:fJ prog 388 (x7):=Ak (cx:=Jg []) tok mixed ⟨Hh,trivial⟩ trivial trivial trivial 388 _ (by kernel_rfl) (by kernel_rfl) (by intro x;kernel_rfl)
noncomputable def Bt(N:Nat):Ctr:=⟨[.hole (.pair (.int .i64) .str)],.hole .bool,λ(x:(Int×Bs))=>kN N x⟩
noncomputable def lS(N:Nat)(L:List jt):Cx:=⟨prog,T,hH,hO,[(376,E5),(382,Ej),(387,UN),(383,x6),(386,uo),(395,nH),(388,x7)],[],[],L,.nil⟩
noncomputable def wT:Pat:=⟨[(3,.ptr 1 0),(24,.ptr 2 0)],[.junk,.cells [.func (.func 387) [] [],.hole (.int .i64)] false,.it]⟩
noncomputable def wU:cB:=[(.ret,⟨[(2,.hole .bool)],[.junk,.junk,.junk]⟩),(.exit 0,⟨[],[.junk,.junk,.junk]⟩)]
noncomputable def kx(N n:Nat):jt:=⟨375,5,0,wT,wU,λx=>ku N n x⟩
def lK(N:Nat):∀n,LOk prog (kx N n):=rZ (cx:=lS N []) tok mixed ⟨mn,qr,Hh,jK,iH,gd,jL,trivial⟩ trivial trivial trivial 375 5 0 wT wU (λn x=>ku N n x) (by kernel_rfl) (by kernel_rfl) (λ_=>rfl) (by intro n x;kernel_rfl)
noncomputable def wV:Pat:=⟨[(3,.ptr 1 0),(24,.ptr 2 0)],[.junk,.cells [.func (.func 383) [] [],.hole (.int .i64)] false,.it]⟩
noncomputable def wW:cB:=[(.ret,⟨[(2,.hole .bool)],[.junk,.junk,.junk]⟩),(.exit 0,⟨[],[.junk,.junk,.junk]⟩)]
noncomputable def lL(N n:Nat):jt:=⟨375,5,0,wV,wW,λx=>lH N n x⟩
def nr(N:Nat):∀n,LOk prog (lL N n):=rZ (cx:=lS N [kx N N]) tok mixed ⟨mn,qr,Hh,jK,iH,gd,jL,trivial⟩ trivial trivial ⟨lK N N,trivial⟩ 375 5 0 wV wW (λn x=>lH N n x) (by kernel_rfl) (by kernel_rfl) (λ_=>rfl) (by intro n x;kernel_rfl)
noncomputable def wX:Pat:=⟨[(3,.ptr 1 0),(24,.ptr 2 0)],[.junk,.cells [.func (.func 386) [] [.rc [.func (.func 395) [] [.rc [.hole (.int .i32)] 0,.rc [.hole (.int .i32)] 0]] 0],.hole (.int .i64)] false,.it]⟩
noncomputable def wY:cB:=[(.ret,⟨[(2,.hole .bool)],[.junk,.junk,.junk]⟩),(.exit 0,⟨[],[.junk,.junk,.junk]⟩)]
noncomputable def nt(N n:Nat):jt:=⟨375,5,0,wX,wY,λx=>lI N n x⟩
def qg(N:Nat):∀n,LOk prog (nt N n):=rZ (cx:=lS N [kx N N,lL N N]) tok mixed ⟨mn,qr,Hh,jK,iH,gd,jL,trivial⟩ trivial trivial ⟨lK N N,nr N N,trivial⟩ 375 5 0 wX wY (λn x=>lI N n x) (by kernel_rfl) (by kernel_rfl) (λ_=>rfl) (by intro n x;kernel_rfl)
noncomputable def wZ:Pat:=⟨[(3,.ptr 1 0),(24,.ptr 2 0)],[.junk,.cells [.func (.func 395) [] [.rc [.hole (.int .i32)] 0,.rc [.hole (.int .i32)] 0],.hole (.int .i64)] false,.it]⟩
noncomputable def w8:cB:=[(.ret,⟨[(2,.hole .bool)],[.junk,.junk,.junk]⟩),(.exit 0,⟨[],[.junk,.junk,.junk]⟩)]
noncomputable def qh(N n:Nat):jt:=⟨375,5,0,wZ,w8,λx=>kw N n x⟩
def w9(N:Nat):∀n,LOk prog (qh N n):=rZ (cx:=lS N [kx N N,lL N N,nt N N]) tok mixed ⟨mn,qr,Hh,jK,iH,gd,jL,trivial⟩ trivial trivial ⟨lK N N,nr N N,qg N N,trivial⟩ 375 5 0 wZ w8 (λn x=>kw N n x) (by kernel_rfl) (by kernel_rfl) (λ_=>rfl) (by intro n x;kernel_rfl)
noncomputable def xb:Pat:=⟨[(3,.ptr 1 0),(24,.ptr 2 0)],[.junk,.cells [.func (.func 388) [] [],.hole (.int .i64)] false,.it]⟩
noncomputable def xc:cB:=[(.ret,⟨[(2,.hole .bool)],[.junk,.junk,.junk]⟩),(.exit 0,⟨[],[.junk,.junk,.junk]⟩)]
noncomputable def xd(N n:Nat):jt:=⟨375,5,0,xb,xc,λx=>lJ N n x⟩
def HD(N:Nat):∀n,LOk prog (xd N n):=rZ (cx:=lS N [kx N N,lL N N,nt N N,qh N N]) tok mixed ⟨mn,qr,Hh,jK,iH,gd,jL,trivial⟩ trivial trivial ⟨lK N N,nr N N,qg N N,w9 N N,trivial⟩ 375 5 0 xb xc (λn x=>lJ N n x) (by kernel_rfl) (by kernel_rfl) (λ_=>rfl) (by intro n x;kernel_rfl)
def pA(N:Nat):fJ prog 375 (Bt N):=Ak (cx:=lS N [kx N N,lL N N,nt N N,qh N N,xd N N]) tok mixed ⟨mn,qr,Hh,jK,iH,gd,jL,trivial⟩ trivial trivial ⟨lK N N,nr N N,qg N N,w9 N N,HD N N,trivial⟩ 375 _ (by kernel_rfl) (by kernel_rfl) (by intro x;kernel_rfl)
noncomputable def Am(N:Nat):Ctr:=⟨[.hole (.pair (.int .i64) .str)],.tup [.hole (.sl .byte),.hole (.int .i64)],λ(x:(Int×Bs))=>bY N x⟩
noncomputable def sc(N:Nat)(L:List jt):Cx:=⟨prog,T,hH,hO,[(375,Bt N),(376,E5)],[],[],L,.nil⟩
noncomputable def uY:Pat:=⟨[(4,.hole (.int .i64)),(5,.own 1),(7,.hole (.int .i32)),(8,.hole (.int .i64)),(24,.ptr 2 0)],[.junk,.arr .byte false false,.it]⟩
noncomputable def uZ:cB:=[(.exit 2,⟨[(4,.hole (.int .i64)),(5,.own 1),(24,.ptr 2 0)],[.junk,.arr .byte false false,.it]⟩)]
noncomputable def pm(N n:Nat):jt:=⟨355,11,0,uY,uZ,λx=>jP N n x⟩
def u0(N:Nat):∀n,LOk prog (pm N n):=rZ (cx:=sc N []) tok mixed ⟨pA N,mn,trivial⟩ trivial trivial trivial 355 11 0 uY uZ (λn x=>jP N n x) (by kernel_rfl) (by kernel_rfl) (λ_=>rfl) (by intro n x;kernel_rfl)
noncomputable def u7:Pat:=⟨[(4,.hole (.int .i64)),(5,.own 1),(24,.ptr 2 0)],[.junk,.arr .byte false false,.it]⟩
noncomputable def vc:cB:=[(.exit 0,⟨[(5,.own 1)],[.junk,.arr .byte false false,.junk]⟩)]
noncomputable def ve(N n:Nat):jt:=⟨355,8,0,u7,vc,λx=>eO N n x⟩
def Ge(N:Nat):∀n,LOk prog (ve N n):=rZ (cx:=sc N [pm N N]) tok mixed ⟨pA N,mn,trivial⟩ trivial trivial ⟨u0 N N,trivial⟩ 355 8 0 u7 vc (λn x=>eO N n x) (by kernel_rfl) (by kernel_rfl) (λ_=>rfl) (by intro n x;kernel_rfl)
def KE(N:Nat):fJ prog 355 (Am N):=Ak (cx:=sc N [pm N N,ve N N]) tok mixed ⟨pA N,mn,trivial⟩ trivial trivial ⟨u0 N N,Ge N N,trivial⟩ 355 _ (by kernel_rfl) (by kernel_rfl) (by intro x;kernel_rfl)
end Go.Proofs.Tryz
namespace Go.Proofs
open Go.Shelf Go.RowKit Go.Sort Go.Lib
def Tryz.lays168_ren:Go.Shelf.Ren:=⟨λ|168=>390|240=>168|242=>397|276=>239|278=>399|n=>n,λ|0=>0|3=>3|4=>4|5=>5|9=>9|20=>20|21=>21|37=>22|46=>173|51=>174|70=>257|72=>259|75=>247|164=>387|80=>263|n=>n,λ|n=>n⟩
def Tryz.lays168:Go.Proofs.Lays.n168 Tryz.prog Tryz.lays168_ren:={
 mixed:=by kernel_rfl
 f168:=Tryz.func390.trans (aii some (by kernel_rfl))
 f240:=Tryz.func168.trans (aii some (by kernel_rfl))
 f242:=Tryz.func397.trans (aii some (by kernel_rfl))
 f276:=Tryz.func239.trans (aii some (by kernel_rfl))
 f278:=Tryz.func399.trans (aii some (by kernel_rfl))
 t0:=ak1
 a0:=Tryz.isAgg0
 z0:=Tryz.sizeOf0
 v0:=ak9
 t3:=ajI
 a3:=akr
 z3:=akf
 v3:=ajR
 t4:=ajJ
 a4:=akt
 z4:=akh
 v4:=ajT
 t5:=ai5
 a5:=aj3
 z5:=ajW
 v5:=ajp
 t9:=ajs
 a9:=aks
 z9:=akg
 v9:=ajS
 t20:=Tryz.underlying20
 a20:=Tryz.isAgg20
 z20:=Tryz.sizeOf20
 v20:=Tryz.zeroValue20
 t21:=aj2
 a21:=akQ
 z21:=akD
 v21:=aj8
 t37:=akS
 a37:=Tryz.isAgg22
 z37:=Tryz.sizeOf22
 v37:=Tryz.zeroValue22
 t46:=Tryz.underlying173
 a46:=Tryz.isAgg173
 z46:=Tryz.sizeOf173
 v46:=Tryz.zeroValue173
 t51:=Tryz.underlying174
 a51:=Tryz.isAgg174
 z51:=Tryz.sizeOf174
 v51:=Tryz.zeroValue174
 t70:=Tryz.underlying257
 a70:=Tryz.isAgg257
 z70:=Tryz.sizeOf257
 v70:=Tryz.zeroValue257
 t72:=Tryz.underlying259
 a72:=Tryz.isAgg259
 z72:=Tryz.sizeOf259
 v72:=Tryz.zeroValue259
 t75:=Tryz.underlying247
 a75:=Tryz.isAgg247
 z75:=Tryz.sizeOf247
 v75:=Tryz.zeroValue247
 t164:=Tryz.underlying387
 a164:=Tryz.isAgg387
 z164:=Tryz.sizeOf387
 v164:=Tryz.zeroValue387}
def Tryz.Builder_Extra_168:Builder.Extra Tryz.prog Tryz.lays168_ren:={
 sizeBuilder:=by kernel_rfl
 liesBuilder:=by kernel_rfl
 t5:=ai5
 a5:=aj3
 z5:=ajW
 v5:=ajp
 infoByte:=by kernel_rfl
 cellsByte:=by kernel_rfl
 sizeByte:=by kernel_rfl
 neB5:=by decide}
def Tryz.Builder_WriteRune_k(B b:Nat)(bs:List Value)(r:Int)(d: -2147483648<=r)(f:r<=2147483647)(w:World)(h:Lib.IsBuilderF 259 5 B b bs w)(a:bs.length+4<=140737488355328)(c:B<=w.heap.size):
 Calls Tryz.prog 390 #[.pointer (some ⟨b,0,none⟩),.int .i32 r] w λe g=>e=.returned (.tuple #[.int .i64 (Lib.runeCells r).length,.nilIface])/\(Lib.BuilderAtF 259 5 B b (.pointer (some ⟨b,0,none⟩)) (bs++Lib.runeCells r) g/\Below B w g/\Lib.OthersKept 5 (some b) w g):=by
 have i:=Any.Builder_WriteRune_k (ρ:=Tryz.lays168_ren) Tryz.lays168 Tryz.Builder_Extra_168 B b bs r d f w h a c;exact i
end Go.Proofs
namespace Go.Fw
def stepU(x:Nat)(o:UInt8):Nat:=x*256 % 4294967296+o.toNat
def af5(l:List UInt8):Nat:=l.foldl stepU 0
def unitAt(c:List UInt8)(wd x:Nat):Nat:=af5 ((c.drop (x*wd)).take wd)
noncomputable def kb(i:Nat)(r:Int):Bool:=match i with
 |1=>(gW r).getD false
 |2=>(fX r 32 126).getD false
 |3=>(cT r 0 127).getD false
 |4=>(cT r 32 126).getD false
 |5=>(Ek r).getD false
 |_=>(gX r).getD false
noncomputable def abA(i:Nat)(c:List UInt8)(wd x:Nat):Bool:=Nat.ble (unitAt c wd x) 1114111&&kb i (unitAt c wd x)
def uq(c:List UInt8)(wd m:Nat):List UInt8:=(List.finRange m).flatMap λx=>Lib.encodeRune (unitAt c wd x.val)
noncomputable def B5(N:Nat)(i wd:Nat)(a:Int)(c:List UInt8):Option ((Int×List UInt8)×Int):=
 bif Nat.beq (c.length % wd) 0 then
  bif (List.finRange (c.length / wd)).all λx=>abA i c wd x.val then
   (kN N (a,uq c wd (c.length / wd))).map λb=>bif b then((a,uq c wd (c.length / wd)),0) else((0,[]),6)
  else some ((0,[]),6)
 else some ((0,[]),6)
noncomputable def VP(N:Nat)(a:Int)(c:List UInt8):Option ((Int×List UInt8)×Int):=
 bif Nat.ble c.length 35184372088831 then
  if a=12 then(kN N (a,c)).map λb=>bif b then((a,c),0) else((0,[]),6)
  else if a=19 then B5 N 1 1 a c
  else if a=20 then B5 N 2 1 a c
  else if a=22 then B5 N 3 1 a c
  else if a=26 then B5 N 4 1 a c
  else if a=28 then B5 N 5 4 a c
  else if a=30 then B5 N 6 2 a c
  else some ((0,[]),3)
 else none
def XG:∃f:Nat->Int->List UInt8->Option ((Int×List UInt8)×Int),f=VP:=⟨_,rfl⟩
noncomputable def bE:Nat->Int->List UInt8->Option ((Int×List UInt8)×Int):=Classical.choose XG
def vf(N:Nat)(a:Int)(c:List UInt8):bE N a c=VP N a c:=congrFun (congrFun (congrFun (Classical.choose_spec XG) N) a) c
noncomputable def An(N:Nat):Ctr:=⟨[.hole (.int .i64),.hole (.sl .byte)],.tup [.hole (.pair (.int .i64) .str),.hole (.int .i64)],λ(x:Int×List UInt8)=>bE N x.1 x.2⟩
end Go.Fw
def aiM:=@List.take_add_one
def ai8:=@Go.KeepsOthers.setCell
def ajk:=@Go.callsIn_wide
def akB:=@Go.callsIn_of_wp_marks
def akR:=@List.flatMap_cons
def alz:=@Bool.false_and
namespace Go.Proofs
open Go.RowKit Go.Shelf
attribute [local go_sem] Oper.semAt_some
def Tryz.Looks(b:Int)(f:Nat)(wd:Nat)(R:Array Value->World->Prop)(w:World):Prop:=
 ∀W,Below w.heap.size w W->Calls Tryz.prog 376 #[] W λe c=>∃d a,e=.returned (.map (some d))/\Below W.heap.size W c/\
  (Instr.lookup 547 (.map (some d)) (.int .i64 b) true).run Tryz.prog c=.ok (.tuple #[.agg #[.func (.func f) #[] a,.int .i64 wd],.bool true]) c/\R a c
def kq(W c:World):Prop:=∀(k:Nat)(a:Array Value)(t:TypeId)(b:Nat×Nat),W.heap[k]?=some (.cells a t b)->c.heap[k]?=some (.cells a t b)
variable{Z:Nat}{Y:Int->Bool}{X:Value}{W:Int}
def kq.of_grown{W b:World}{a:Option Nat}(c:W.grownBy b a)(d:∀r,a=some r->Z<=r/\∃o:Obj,W.heap[r]?=some o/\o.isCells=false):kq W b:=
 λ_ _ _ _ h=>(grownBy_keeps_cells c (λr e=>(d r e).2) h rfl).trans h
def kq.of_below{W a:World}(h:Below W.heap.size W a):kq W a:=λk _ _ _ b=>(h.block k (aig.1 b).1).trans b
def IsBuilderF.kept{T e:TypeId}{B b:Nat}{bs:List Value}{W c:World}(h:Lib.IsBuilderF T e B b bs W)(j:kq W c):Lib.IsBuilderF T e B b bs c:=by
 have a:∀p,Lib.BuilderAtF T e B b p bs W->Lib.BuilderAtF T e B b p bs c:=by
  rintro p ⟨q,v,r,i,s⟩;refine⟨q,v,j _ _ _ _ r,⟨i.1,?_⟩,s⟩;rcases i.2 with t|⟨g,d,f,o,k,l,m,n⟩
  ·exact .inl t
  ·exact .inr ⟨g,d,f,o,k,l,j _ _ _ _ m,n⟩
 exact h.imp (a _) (a _)
def eK(W:World)(o:Obj)(k:Nat):(W.alloc o).heap[k]?=if k=W.heap.size then some o else W.heap[k]? :=by
 show(W.heap.push o)[k]?=_;rw[akz]
def SX{W:World}{n:Nat}(h:W.heap.size=n)(a b c d e:Obj):
 (((((W.alloc a).alloc b).alloc c).alloc d).alloc e).heap[n]?=some a/\(((((W.alloc a).alloc b).alloc c).alloc d).alloc e).heap[n+1]?=some b/\
 (((((W.alloc a).alloc b).alloc c).alloc d).alloc e).heap[n+1+1]?=some c/\(((((W.alloc a).alloc b).alloc c).alloc d).alloc e).heap[n+3]?=some d/\
 (((((W.alloc a).alloc b).alloc c).alloc d).alloc e).heap[n+4]?=some e/\(((((W.alloc a).alloc b).alloc c).alloc d).alloc e).heap.size=n+5:=by
 simp only[eK,World.size_alloc,h];refine⟨?_,?_,?_,?_,?_,?_⟩
 all_goals (repeat (first|rw[ahY trivial]|rw[ahY (by omega)]|rw[ain (by omega)]|rfl|trivial|omega))
def KeepsOthers.of_below{W a:World}(h:Below W.heap.size W a):KeepsOthers W a:=⟨h.size,λk _ b _=>(h.block k (aig.1 b).1).trans b⟩
def KeepsOthers.of_others{n e b:Nat}{W a:World}(l:Below n W a)(h:Lib.OthersKept e (some b) W a)(f:∃i t d,W.heap[b]?=some (.cells i t d)):KeepsOthers W a:=by
 refine⟨l.size,λk o g j=>h k o g ?_ ?_⟩
 ·rintro⟨⟩;obtain⟨i,t,d,f⟩:=f;rw[f]at g;cases g;cases j
 ·rintro c d rfl;cases j
def Tryz.stepU_or(z:Nat)(y:UInt8):bits .or .u32 ((z:Int)*256 % 4294967296) ((y.toNat:Int) % 4294967296)=((Fw.stepU z y:Nat):Int):=by
 have d:y.toNat<2 ^ 8:=y.toNat_lt;have a:(z:Int)*256 % 4294967296=((z*256 % 4294967296:Nat):Int):=by omega
 have b:(y.toNat:Int) % 4294967296=((y.toNat:Nat):Int):=by omega
 rw[a,b,u32_or_nat _ _ (by omega) (by omega)];have c:z*256 % 4294967296=2 ^ 8*(z % 16777216):=by omega
 unfold Fw.stepU;rw[c,<-Nat.two_pow_add_eq_or_of_lt d]
def Tryz.wrap64_nat{j:Nat}(h:j+1<=9223372036854775807):wrap64 ((j:Int)+1)=((j+1:Nat):Int):=by unfold wrap64;omega
def Tryz.take_fold{U:List UInt8}{j:Nat}(h:j<U.length){z:Nat}(a:(U.take j).foldl Fw.stepU 0=z):(U.take (j+1)).foldl Fw.stepU 0=Fw.stepU z (U[j]?.getD 0):=by
 rw[aiM,List.foldl_append,a,ahG h];rfl
def Tryz.three_sets{W:World}{n0:Nat}(a:(W.cell? ⟨n0,0,none⟩).isSome=true)(b:(W.cell? ⟨n0,1,none⟩).isSome=true)(c:(W.cell? ⟨n0+1,0,none⟩).isSome=true)(x y z:Value):
 (((W.setCell ⟨n0,0,none⟩ x).setCell ⟨n0,1,none⟩ y).setCell ⟨n0+1,0,none⟩ z).cell? ⟨n0,0,none⟩=some x/\(((W.setCell ⟨n0,0,none⟩ x).setCell ⟨n0,1,none⟩ y).setCell ⟨n0+1,0,none⟩ z).cell? ⟨n0,1,none⟩=some y/\
 (((W.setCell ⟨n0,0,none⟩ x).setCell ⟨n0,1,none⟩ y).setCell ⟨n0+1,0,none⟩ z).cell? ⟨n0+1,0,none⟩=some z:=by
 refine⟨?_,?_,?_⟩<;>simp[go_sem,a,b,c]
def Tryz.decV(r:(Int×List UInt8)×Int):Value:=.tuple #[.agg #[.int .i64 r.1.1,.string ⟨r.1.2.toArray⟩],.int .i64 r.2]
def Tryz.accC(c:List UInt8)(wd m:Nat)(pre:List (Fin m)):List Value:=pre.flatMap λx=>Lib.runeCells (Fw.unitAt c wd x.val)
def Tryz.goodU(c:List UInt8)(wd:Nat)(a:Int->Bool)(x:Nat):Bool:=Nat.ble (Fw.unitAt c wd x) 1114111&&a (Fw.unitAt c wd x)
def Tryz.HasOK(g:Nat)(c:Int->Bool)(b:Array Value)(d:World):Prop:=
 ∀a,Below d.heap.size d a->∀r:Int,0<=r->r<=1114111->Calls Tryz.prog g (#[.int .i32 r]++b) a λe f=>e=.returned (.bool (c r))/\Below a.heap.size a f
structure Tryz.DecI(c:List UInt8)(kind:Int)(C:ByteArray)(sv:Value)(hf wd m n1:Nat)(caps:Array Value)(has:Int->Bool)(w':World)(pre:List (Fin m))(W:World):Prop where
 below:Below n1 w' W
 b6:W.heap[n1]?=some (.cells #[.func (.func hf) #[] caps,.int .i64 wd] 546 (0,0))
 b8:W.heap[n1+1]?=some (.cells #[.int .i64 kind,.string C] 391 (0,0))
 b9:Lib.IsBuilderF 259 5 n1 (n1+1+1) (Tryz.accC c wd m pre) W
 bx1:W.heap[n1+3]?=some (.cells #[sv] 22 (0,0))
 bx2:W.heap[n1+4]?=some (.cells #[.int .i64 wd] 3 (0,0))
 good:∀x∈pre,Tryz.goodU c wd has x.val=true
def Tryz.DecI.own{c:List UInt8}{f:Int}{C:ByteArray}{r:Value}{o wd m h:Nat}{b:Array Value}{g:Int->Bool}{l:World}{B:Nat}(p:h<=l.heap.size)(n:h<=B):OwnFrom B (Tryz.DecI c f C r o wd m h b g l):=
 λs W t q a i j=>by
  have d:=kq.of_grown i j;exact⟨a.below.grown i (aiW p a.below.size) (λk e=>aiW n (j k e).1),d _ _ _ _ a.b6,d _ _ _ _ a.b8,IsBuilderF.kept a.b9 d,d _ _ _ _ a.bx1,d _ _ _ _ a.bx2,a.good⟩
structure Tryz.DecX(c:List UInt8)(wd m n0:Nat)(has:Int->Bool)(w:World)(t:Code)(pre:List (Fin m))(W:World):Prop where
 ret:t=.ret
 below:Below n0 w W
 c40:W.cell? ⟨n0,0,none⟩=some (.int .i64 0)
 c41:W.cell? ⟨n0,1,none⟩=some (.string ⟨#[]⟩)
 c50:W.cell? ⟨n0+1,0,none⟩=some (.int .i64 6)
 bad:∃x∈pre,Tryz.goodU c wd has x.val=false
def Tryz.DecX.own{c:List UInt8}{wd m n0:Nat}{w:World}(t:Code)(h:n0<=w.heap.size)(g:n0<=Z):OwnFrom Z (Tryz.DecX c wd m n0 Y w t):=
 λs W j i b d f=>by
  have a:=λr e=>(f r e).2;exact⟨b.ret,b.below.grown d (aiW h b.below.size) (λk e=>aiW g (f k e).1),cell_kept b.c40 d a,cell_kept b.c41 d a,cell_kept b.c50 d a,b.bad⟩
def Tryz.cell_of{W:World}{b:Nat}{cs:Array Value}{t:TypeId}(h:W.heap[b]?=some (.cells cs t (0,0)))(i:Nat):W.cell? ⟨b,i,none⟩=cs[i]?/\W.frozen? ⟨b,i,none⟩=false:=by
 unfold World.cell? World.frozen?;simp only[h];exact⟨rfl,by simp⟩
def Tryz.accC_snoc{c:List UInt8}{wd m:Nat}{pre:List (Fin m)}(x:Fin m):Tryz.accC c wd m (pre++[x])=Tryz.accC c wd m pre++Lib.runeCells (Fw.unitAt c wd x.val):=by
 simp[Tryz.accC]
def Tryz.runeCells_len(r:Int):(Lib.runeCells r).length<=4:=by
 unfold Lib.runeCells Lib.encodeRuneZ;rw[aiq]
 repeat' split
 all_goals simp
def Tryz.accC_len{c:List UInt8}{wd m:Nat}:∀(pre:List (Fin m)),(Tryz.accC c wd m pre).length<=4*pre.length
 |[]=>aiH _
 |x::b=>by
  have a:=Tryz.accC_len (c:=c) (wd:=wd) b;have d:=Tryz.runeCells_len (Fw.unitAt c wd x.val);unfold Tryz.accC at a⊢;rw[akR,ahJ,ahL];omega
def Tryz.dec_ret{D:Nat}{w X:World}{tmps:Array Value}{k:Int}{S:ByteArray}{b:Int}
 (t4:tmps[4]?.getD undef=.pointer (some ⟨w.heap.size,0,none⟩))(t5:tmps[5]?.getD undef=.pointer (some ⟨w.heap.size+1,0,none⟩))
 (n:X.cell? ⟨w.heap.size,0,none⟩=some (.int .i64 k))(o:X.cell? ⟨w.heap.size,1,none⟩=some (.string S))(p:X.cell? ⟨w.heap.size+1,0,none⟩=some (.int .i64 b))
 (d:X.heap[D]?=some (.deferred (some [])))(s:w.heap.size<=D)(q:Below w.heap.size w X){c:Value}(f:c=.tuple #[.agg #[.int .i64 k,.string S],.int .i64 b]):
 bodyPostM Fence.wide 9 Tryz.prog Tryz.f379 (λe i=>e=.returned c/\Below w.heap.size w i) .ret {tmps:=tmps,defers:=[{target:=.collected D,args:= #[]}]} X:=by
 refine⟨by simp,.inl ⟨_,_,rfl,run_takeDeferred d,?_⟩⟩;have g:∀{a v},X.cell? a=some v->(X.putObj D (.deferred none)).cell? a=some v:=λh=>cell_kept h (grownBy_putObj' _ D (.deferred none)) (λr e=>by cases e;exact⟨_,d,rfl⟩);have j:=g n;have l:=g o;have m:=g p;refine⟨c,?_,rfl,q.trans (belowK_b (w:=w) (ahO _) X D _ _ s d rfl rfl)⟩;have t:Tryz.f379.results= #[.cell 4 391,.cell 5 40]:=rfl;subst f;unfold results;rw[t];simp[go_sem,t4,t5,j,l,m]
set_option maxRecDepth 100000 in
set_option maxHeartbeats 8000000 in
def Tryz.dec_try(kind:Int)(a:Option Addr)(b off cap m wd:Nat)(c:List UInt8)(hf:Nat)(K:World->Prop)(has:Int->Bool)(w:World)(hwd:1<=wd)(hL:c.length=m*wd)(hcap:m*wd<=cap)(hmax:cap<=9223372036854775807)
 (hm4:m<=35184372088831)(hsv:m=0∨a=some ⟨b,off,none⟩)(hbw:0<m->b<w.heap.size)(hcell:∀(j:Nat) x,c[j]?=some x->w.cell? ⟨b,off+j,none⟩=some (.int .u8 x.toNat))
 (hconv:∀W,Below w.heap.size w W->(convert 22 9 (.slice a c.length cap)).run Tryz.prog W=.ok (.string ⟨c.toArray⟩) W)
 (eh:∀args w,(callFunc hf args).run Tryz.prog w=.ok (.enter hf args) w)(hF:Tryz.Looks kind hf wd (λcaps W=>Tryz.HasOK hf has caps W/\K W) w)
 (T:List UInt8)(hT:Lib.byteCells T=Tryz.accC c wd m (List.finRange m))(vb:Bool)
 (hV:((List.finRange m).all λx=>Tryz.goodU c wd has x.val)=true->∀W',K W'->∀W'',Below W'.heap.size W' W''->Calls Tryz.prog 375 #[.agg #[.int .i64 kind,.string ⟨T.toArray⟩]] W'' λe W3=>e=.returned (.bool vb)/\Below W''.heap.size W'' W3):
 Calls Tryz.prog 379 #[.int .i64 kind,.slice a c.length cap] w λe W'=>e=.returned (Tryz.decV (bif ((List.finRange m).all λx=>Tryz.goodU c wd has x.val) then bif vb then((kind,T),0) else((0,[]),6) else((0,[]),6)))/\Below w.heap.size w W':=by
 have mixed:Tryz.prog.follows .mixedOrders=true:=by kernel_rfl
 obtain⟨GV,hGV⟩:∃GV,((List.finRange m).all λx=>Tryz.goodU c wd has x.val)=GV:=⟨_,rfl⟩;rw[hGV]at hV⊢;have HG:Hid (((List.finRange m).all λx=>Tryz.goodU c wd has x.val)=GV):=hGV;obtain⟨RV,hRV⟩:∃RV,Tryz.decV (bif GV then bif vb then((kind,T),0) else((0,[]),6) else((0,[]),6))=RV:=⟨_,rfl⟩;rw[hRV];have HR:Hid (Tryz.decV (bif GV then bif vb then((kind,T),0) else((0,[]),6) else((0,[]),6))=RV):=hRV;clear hGV hRV;refine(ajk (n:=9)).1 ?_;refine akB Tryz.func379 rfl trivial ?_ rfl;simp only[Tryz.ntmps379,ajn,ahL,ah1,Nat.reduceAdd,Nat.reduceSub,aju,ajv,ajO,ajz,ait,aix];have hB0:Below w.heap.size w ((w.alloc (.cells #[.int .i64 0,.string ⟨#[]⟩] 391)).alloc (.cells #[.int .i64 0] 40)):=((aiS _ w).alloc (ahO _) _).alloc (by simp) _;have hF1:=hF _ hB0;have hrem:(c.length:Int).tmod wd=0:=by
  rw[hL,alr];exact Int.mul_tmod_left _ _
 obtain⟨L,hLe⟩:∃L,c.length=L:=⟨_,rfl⟩;obtain⟨C,hC⟩:∃C,(⟨c.toArray⟩:ByteArray)=C:=⟨_,rfl⟩;rw[hLe]at hrem hconv hL⊢;rw[hC]at hconv;have HL:Hid (L=m*wd):=hL;have HC:Hid (∀(j:Nat) x,c[j]?=some x->w.cell? ⟨b,off+j,none⟩=some (.int .u8 x.toNat)):=hcell;have HS:Hid (m=0∨a=some ⟨b,off,none⟩):=hsv;clear hF hL hcell hsv
 gi_wp2_with (first
  |(refine⟨trivial,?_⟩;gi_at_call 376;refine(ajk.2 hF1).mono ?_;rintro e w' ⟨bm,caps,rfl,hb,hlook,hR,hKw⟩;have hcv:=hconv (w'.alloc (Obj.cells #[Value.func (Fn.func hf) #[] caps,Value.int IntKind.i64 wd] 546)) ((hB0.trans (hb.mono (by simp;omega))).alloc (by have:=hb.size;simp at this;omega) _);clear hconv)
  |(refine⟨trivial,?_⟩;gi_at_call 389;refine(Tryz.chunk_in Fence.wide _ trivial rfl a L cap wd hwd _).mono ?_;rintro e w'' ⟨rfl,rfl⟩))
 all_goals (
  obtain⟨n1,hn1⟩:∃n1,w'.heap.size=n1:=⟨_,rfl⟩;obtain⟨W0,hW0⟩:∃W0,((((w'.alloc (.cells #[.func (.func hf) #[] caps,.int .i64 wd] 546)).alloc (.cells #[.int .i64 kind,.string C] 391)).alloc (.cells #[.pointer none,.slice none 0 0] 259)).alloc (.cells #[.slice a L cap] 22)).alloc (.cells #[.int .i64 wd] 3)=W0:=⟨_,rfl⟩;have h5:=SX hn1 (.cells #[.func (.func hf) #[] caps,.int .i64 wd] 546) (.cells #[.int .i64 kind,.string C] 391) (.cells #[.pointer none,.slice none 0 0] 259) (.cells #[.slice a L cap] 22) (.cells #[.int .i64 wd] 3);have hBW:Below n1 w' W0:=by
   rw[<-hW0];exact(((((aiS _ w').alloc (by omega) _).alloc (by simp;omega) _).alloc (by simp;omega) _).alloc (by simp;omega) _).alloc (by simp;omega) _
  rw[hW0]at h5;obtain⟨ha1,ha2,ha3,ha4,ha5,hE⟩:=h5;have hc1:W0.cell? ⟨n1+3,0,none⟩=some (.slice a L cap):=by unfold World.cell?;simp only[ha4];rfl
  have hc2:W0.cell? ⟨n1+4,0,none⟩=some (.int .i64 wd):=by unfold World.cell?;simp only[ha5];rfl
  have hI0:Tryz.DecI c kind C (.slice a L cap) hf wd m n1 caps has w' [] W0:=
   ⟨hBW,ha1,ha2,.inl ⟨by omega,.slice none 0 0,ha3,⟨rfl,.inl ⟨rfl,rfl⟩⟩,by simp[Value.ownBlock]⟩,ha4,ha5,λx h=>absurd h (by simp)⟩
  have hseq:=Tryz.chunk_stops Fence.wide (9-1) trivial rfl (by omega) (n1+3) (n1+4) n1 b off cap wd m (.slice a L cap) hwd W0 (by omega) (by omega) hc1 hc2 (by
   rcases HS.out with h|h
   ·exact .inl ⟨h,a,cap,by rw[HL.out,h,ajx]⟩
   ·exact .inr ⟨by rw[h,HL.out],hcap,hmax⟩)
  have hKb:∀(W:World)(l:Nat)(o o':Obj),W0.heap.size<=l->W.heap[l]?=some o->o.isCells=false->o.isWalk=false->p8 n1 (n1+3) (n1+4) W (W.putObj l o'):=λW l o o' hl h h1 h2=>
   ⟨belowK_b (w:=W0) (by omega) W l o o' hl h h1 h2,World.putObj_heap_other (by omega),World.putObj_heap_other (by omega)⟩
  have hnw:w.heap.size+2<=n1:=by have:=hb.size;simp at this;omega
  simp only[hn1,hW0];clear hW0 hcv hlook hF1
  refine' wpIn_rangeFunc_ownG rfl (by omega) (gf:=396) (lb:= #[.pointer (some ⟨n1+3,0,none⟩),.pointer (some ⟨n1+4,0,none⟩)]) rfl trivial (ajX Tryz.func396 (by kernel_rfl) rfl) hseq (λh k=>h.trans k) hKb (aiS _ _) (λ_=>rfl)
   (Tryz.DecI c kind C (.slice a L cap) hf wd m n1 caps has w') (Tryz.DecX c wd m w.heap.size has w) (Tryz.DecI.own (by omega) (by omega)) (λt=>Tryz.DecX.own t (ahO _) (by omega)) hI0 _ ?_ ?_ ?_ ?_
  rotate_left
  ·intro l x W K hK
   gi_wp2
   exact hK
  ·rintro l pre x W hI hlen;obtain⟨X,hX⟩:∃X,x.val*wd=X:=⟨_,rfl⟩;obtain⟨U,hU⟩:∃U,(c.drop (x.val*wd)).take wd=U:=⟨_,rfl⟩;have hXL:X+wd<=L:=by
    have:(x.val+1)*wd<=m*wd:=aiD _ x.isLt;rw[ajV,hX,<-HL.out]at this;exact this
   have hUl:U.length=wd:=by
    rw[<-hU,aid,aiC,hX,hLe];omega
   have hUc:Hid (∀j,j<wd->W.cell? ⟨b,off+X+j,none⟩=some (.int .u8 (U[j]?.getD 0).toNat)):=by
    intro j hj;have e:U[j]?=c[X+j]? :=by
     rw[<-hU,ale,ahY hj,akH,hX]
    have hlt:X+j<c.length:=by omega
    rw[e,ahG hlt];have hBn:Below w.heap.size w W:=((hB0.trans (hb.mono (by simp;omega)))).trans (hI.below.mono (by omega));rw[ajL];exact(hBn.cell (p:=⟨b,off+(X+j),none⟩) (hbw (Nat.lt_of_le_of_lt (aiH _) x.isLt))).trans (HC.out (X+j) _ (ahG hlt))
   have hwc:wd<=cap:=by have:=HL.out;omega
   have hc6:W.cell? ⟨n1,0,none⟩=some (.func (.func hf) #[] caps):=by unfold World.cell?;simp only[hI.b6];rfl
   simp only[hX];have HX:=hX;have hU0:Hid ((c.drop (x.val*wd)).take wd=U):=hU;have hnb:∀(k:Nat) o,((w.alloc (.cells #[.int .i64 0,.string ⟨#[]⟩] 391)).alloc (.cells #[.int .i64 0] 40)).heap[k]?=some o->k<w.heap.size+2->W.heap[k]?=some o:=λk o h1 h2=>
    (hI.below.block k (by omega)).trans ((hb.block k (by simp;omega)).trans h1)
   have hq4i:Hid (W.heap[w.heap.size]?=some (.cells #[.int .i64 0,.string ⟨#[]⟩] 391 (0,0))):=hnb _ _ (by rw[eK,eK,ain (by simp),ahY rfl]) (by omega);have hq5i:Hid (W.heap[w.heap.size+1]?=some (.cells #[.int .i64 0] 40 (0,0))):=hnb _ _ (by rw[eK,ahY (by simp)]) (by omega);clear hX hU hXL hnb
   gi_wp2
   gi_loopw [11,51] (λxv iv wr=>∃j:Nat,j<=wd/\iv=.int .i64 j/\xv=.int .u32 (((U.take j).foldl Fw.stepU 0:Nat):Int)/\wr=W) (λ_ iv _=>wd-(intOf iv).toNat)
   case atStart=>exact⟨0,aiH _,rfl,rfl,rfl⟩
   case round=>
    obtain⟨j,hj,rfl,rfl,rfl⟩:=hrel;by_cases hlt:j<wd
    ·have hcj:=hUc.out j hlt;obtain⟨y,hy⟩:∃y,(U[j]?.getD 0)=y:=⟨_,rfl⟩;obtain⟨z,hz⟩:∃z:Nat,(U.take j).foldl Fw.stepU 0=z:=⟨_,rfl⟩;rw[hy]at hcj;simp only[hz];clear HX;have hz1:=Tryz.take_fold (U:=U) (by omega) hz;rw[hy]at hz1;have hj64:=Tryz.wrap64_nat (j:=j) (by omega);have HZ:Hid ((U.take (j+1)).foldl Fw.stepU 0=Fw.stepU z y):=hz1;have HJ:Hid (wrap64 ((j:Int)+1)=((j+1:Nat):Int)):=hj64;clear hz1 hj64 hz
     gi_wp2
     refine⟨⟨j+1,hlt,?_,?_,trivial⟩,?_⟩
     ·first|rw[HJ.out]|simp
     ·rw[Tryz.stepU_or,HZ.out]
     ·first|rw[HJ.out]|skip
      simp only[intOf];omega
    ·obtain rfl:j=wd:=by omega
     rw[aib (by omega)];obtain⟨z,hz⟩:∃z:Nat,U.foldl Fw.stepU 0=z:=⟨_,rfl⟩;simp only[hz];have HZ:Hid (U.foldl Fw.stepU 0=z):=hz;have hzu:Hid (Fw.unitAt c j x.val=z):=by
      unfold Fw.unitAt;rw[hU0.out];exact hz
     have hq4:=hq4i.out;have hq5:=hq5i.out;clear hz HX;by_cases hzm:z<=1114111
     ·have hcall:=hR wr (hI.below.mono (by omega)) (z:Int) (by omega) (by omega);have hlen2:=Tryz.accC_len (c:=c) (wd:=j) pre;have hbs:(Tryz.accC c j m pre).length+4<=140737488355328:=by omega
      obtain⟨bs,hbsE⟩:∃bs,Tryz.accC c j m pre=bs:=⟨_,rfl⟩;have hb9:=hI.b9;rw[hbsE]at hb9 hbs;cases hv:has z with
      |true=>
       rw[hv]at hcall
       gi_wp2_with (first
        |(refine⟨trivial,(CallsIn.inRound l (ajk.2 hcall)).mono ?_⟩;rintro e W3 ⟨rfl,hb3⟩;have hbl3:=IsBuilderF.kept hb9 (kq.of_below hb3))
        |(refine⟨trivial,?_⟩;gi_at_call 390;refine(CallsIn.inRound l (ajk.2 (Tryz.Builder_WriteRune_k n1 (n1+1+1) bs (z:Int) (by omega) (by omega) _ hbl3 hbs (by have:=hb3.size;have:=hI.below.size;omega)))).mono ?_;rintro e W4 ⟨rfl,hbu,hb4,ho4⟩))
       have hb3n:Below n1 wr W3:=hb3.mono (by have:=hI.below.size;omega);have kc:∀(k:Nat) cs (t:TypeId),wr.heap[k]?=some (.cells cs t (0,0))->k≠n1+1+1->t≠5->W4.heap[k]?=some (.cells cs t (0,0)):=λk cs t h1 h2 h3=>
        ho4 k _ (kq.of_below hb3 _ _ _ _ h1) (λe=>h2 (by cases e;rfl)) (λc' fz' e=>h3 (by cases e;rfl))
       have k34:KeepsOthers W3 W4:=KeepsOthers.of_others hb4 ho4 (by
        rcases hbl3 with⟨_,v,h,_⟩|⟨_,v,h,_⟩<;>exact⟨_,_,_,h⟩)
       have hg:=hzu.out;refine⟨((KeepsOthers.of_below hb3).trans k34).from _,⟨hb3n.trans hb4,(kc _ _ _ hI.bx1 (by omega) (by decide)).trans hI.bx1.symm,(kc _ _ _ hI.bx2 (by omega) (by decide)).trans hI.bx2.symm⟩,
        hI.below.trans (hb3n.trans hb4),kc _ _ _ hI.b6 (by omega) (by decide),kc _ _ _ hI.b8 (by omega) (by decide),?_,kc _ _ _ hI.bx1 (by omega) (by decide),kc _ _ _ hI.bx2 (by omega) (by decide),λy hy=> ?_⟩
       ·rw[Tryz.accC_snoc,hbsE,hg];exact .inr hbu
       ·rcases air.1 hy with h|h
        ·exact hI.good y h
        ·obtain rfl:y=x:=by simpa using h
         unfold Tryz.goodU;rw[hg,hv,aiE hzm];rfl
      |false=>
       rw[hv]at hcall
       gi_wp2_with (refine⟨trivial,(CallsIn.inRound l (ajk.2 hcall)).mono ?_⟩;rintro e W3 ⟨rfl,hb3⟩;have hk3:=kq.of_below hb3;have hq41:=Tryz.cell_of (hk3 _ _ _ _ hq4) 0;have hq42:=Tryz.cell_of (hk3 _ _ _ _ hq4) 1;have hq43:=Tryz.cell_of (hk3 _ _ _ _ hq5) 0;simp at hq41 hq42 hq43)
       have h3s:=Tryz.three_sets (W:=W3) (n0:=w.heap.size) (by rw[hq41.1];rfl) (by rw[hq42.1];rfl) (by rw[hq43.1];rfl) (.int .i64 0) (.string ⟨#[]⟩) (.int .i64 6);have hBn0:Below w.heap.size w W3:=((hB0.trans (hb.mono (by simp;omega))).trans (hI.below.mono (by omega))).trans (hb3.mono (by have:=hI.below.size;omega));refine⟨((KeepsOthers.of_below hb3).trans (((ai8 _ _ _).trans (ai8 _ _ _)).trans (ai8 _ _ _))).from _,rfl,?_,h3s.1,h3s.2.1,h3s.2.2,x,air.2 (.inr (aiF.2 rfl)),?_⟩
       ·exact((hBn0.setCell (p:=⟨w.heap.size,0,none⟩) (ahO _) _).setCell (p:=⟨w.heap.size,1,none⟩) (ahO _) _).setCell (p:=⟨w.heap.size+1,0,none⟩) (by simp) _
       ·unfold Tryz.goodU;rw[hzu.out];rw[hv,Bool.and_false]
     ·have hzm2:1114111<z:=by omega
      have hq41:=Tryz.cell_of hq4 0;have hq42:=Tryz.cell_of hq4 1;have hq43:=Tryz.cell_of hq5 0;simp at hq41 hq42 hq43
      gi_wp2
      refine⟨λ_ h=>(by cases h),?_⟩
      gi_wp2
      have h3s:=Tryz.three_sets (W:=wr) (n0:=w.heap.size) (by rw[hq41.1];rfl) (by rw[hq42.1];rfl) (by rw[hq43.1];rfl) (.int .i64 0) (.string ⟨#[]⟩) (.int .i64 6);have hBn0:Below w.heap.size w wr:=(hB0.trans (hb.mono (by simp;omega))).trans (hI.below.mono (by omega));refine⟨((KeepsOthers.refl _).trans (((ai8 _ _ _).trans (ai8 _ _ _)).trans (ai8 _ _ _))).from _,rfl,?_,h3s.1,h3s.2.1,h3s.2.2,x,air.2 (.inr (aiF.2 rfl)),?_⟩
      ·exact((hBn0.setCell (p:=⟨w.heap.size,0,none⟩) (ahO _) _).setCell (p:=⟨w.heap.size,1,none⟩) (ahO _) _).setCell (p:=⟨w.heap.size+1,0,none⟩) (by simp) _
      ·unfold Tryz.goodU;rw[hzu.out];rw[show Nat.ble z 1114111=false from by rw[<-Bool.not_eq_true,Nat.ble_eq];omega,alz]
  ·rintro D xs W hD rfl hI hK;have hall:((List.finRange m).all λx=>Tryz.goodU c wd has x.val)=true:=by
    rw[ah7];exact hI.good
   have hGt:GV=true:=HG.out.symm.trans hall;have hVx:=hV hGt w' hKw;have hbT:Lib.IsBuilderF 259 5 n1 (n1+1+1) (Lib.byteCells T) W:=by rw[hT];exact hI.b9
   have HRt:Hid (Tryz.decV (bif vb then((kind,T),0) else((0,[]),6))=RV):=by
    have:=HR.out;rw[hGt]at this;exact this
   clear hall hGt hV hT HG HR;have hnW:n1<=W.heap.size:=by have:=hI.below.size;omega
   have hb8:=hI.b8;have hIb:=hI.below;obtain⟨TB,hTB⟩:∃TB,(⟨T.toArray⟩:ByteArray)=TB:=⟨_,rfl⟩;have hstr:=Tryz.Builder_String_any_k n1 (n1+1+1) T W hbT hnW;rw[hTB]at hVx hstr;clear hbT;have hnb:∀(k:Nat) o,((w.alloc (.cells #[.int .i64 0,.string ⟨#[]⟩] 391)).alloc (.cells #[.int .i64 0] 40)).heap[k]?=some o->k<w.heap.size+2->W.heap[k]?=some o:=λk o h1 h2=>
    (hI.below.block k (by omega)).trans ((hb.block k (by simp;omega)).trans h1)
   have hq4:W.heap[w.heap.size]?=some (.cells #[.int .i64 0,.string ⟨#[]⟩] 391 (0,0)):=hnb _ _ (by rw[eK,eK,ain (by simp),ahY rfl]) (by omega);have hq5:W.heap[w.heap.size+1]?=some (.cells #[.int .i64 0] 40 (0,0)):=hnb _ _ (by rw[eK,ahY (by simp)]) (by omega);clear hnb hI;cases vb
   all_goals (
    gi_wp2_with (first
     |(refine⟨trivial,?_⟩;gi_at_call 151;refine(ajk.2 hstr).mono ?_;rintro e W5 ⟨rfl,hs5,hb5,ho5⟩;have h80:=Tryz.cell_of (ho5 _ _ hb8 (λe=>by simp at e) (λc' fz' e=>by cases e)) 0;have h81:=Tryz.cell_of (ho5 _ _ hb8 (λe=>by simp at e) (λc' fz' e=>by cases e)) 1;simp at h80 h81)
     |(refine⟨trivial,?_⟩;gi_at_call 375
       have hXB:Below n1 w' (W5.setCell ⟨n1+1,1,none⟩ (.string TB)):=hIb.trans (hb5.setCell (p:=⟨n1+1,1,none⟩) (Nat.le_succ n1) _);refine(ajk.2 (hVx _ (by rw[hn1];exact hXB))).mono ?_;rintro e W6 ⟨rfl,hb6⟩;have hs5:=hb5.size;have hsX:(W5.setCell ⟨n1+1,1,none⟩ (.string TB)).heap.size=W5.heap.size:=by simp
       have hlt1:n1+1<W.heap.size:=(aig.1 hb8).1;have hx0:(W5.setCell ⟨n1+1,1,none⟩ (.string TB)).cell? ⟨n1+1,0,none⟩=some (.int .i64 kind):=by simp[go_sem,h80,h81]
       have hx1:(W5.setCell ⟨n1+1,1,none⟩ (.string TB)).cell? ⟨n1+1,1,none⟩=some (.string TB):=by simp[go_sem,h80,h81]
       have hc80:=(hb6.cell (p:=⟨n1+1,0,none⟩) (by rw[hsX];show n1+1<_;omega)).trans hx0;have hc81:=(hb6.cell (p:=⟨n1+1,1,none⟩) (by rw[hsX];show n1+1<_;omega)).trans hx1;have hblk:∀(k:Nat) o,k<n1->W.heap[k]?=some o->W6.heap[k]?=some o:=λk o h1 h2=>
        (hb6.block k (by rw[hsX];omega)).trans ((Below.heap_setCell _ _ _ k (by show k≠n1+1;omega)).trans ((hb5.block k h1).trans h2))
       have hq41:=Tryz.cell_of (hblk _ _ (by omega) hq4) 0;have hq42:=Tryz.cell_of (hblk _ _ (by omega) hq4) 1;have hq43:=Tryz.cell_of (hblk _ _ (by omega) hq5) 0;have hDl:D<W.heap.size:=(aig.1 hK).1;have hK6:W6.heap[D]?=some (.deferred (some [])):=(hb6.block D (by rw[hsX];omega)).trans ((Below.heap_setCell _ _ _ D (by show D≠n1+1;omega)).trans (ho5 _ _ hK (λe=>by simp at e;omega) (λc' fz' e=>by cases e)));have hB6:Below n1 w' W6:=hXB.trans (hb6.mono (by rw[hsX];omega));clear hx0 hx1 hblk;simp at hq41 hq42 hq43))
    have h3s:=Tryz.three_sets (W:=W6) (n0:=w.heap.size) (by rw[hq41.1];rfl) (by rw[hq42.1];rfl) (by rw[hq43.1];rfl);have hBn0:Below w.heap.size w W6:=(hB0.trans (hb.mono (by simp;omega))).trans (hB6.mono (by omega));have hKs:=λx y z=>(((ai8 W6 ⟨w.heap.size,0,none⟩ x).trans (ai8 _ ⟨w.heap.size,1,none⟩ y)).trans (ai8 _ ⟨w.heap.size+1,0,none⟩ z)).same D _ hK6 rfl;refine Tryz.dec_ret rfl rfl (h3s _ _ _).1 (h3s _ _ _).2.1 (h3s _ _ _).2.2 (hKs _ _ _) (by omega) (((hBn0.setCell (p:=⟨w.heap.size,0,none⟩) (ahO _) _).setCell (p:=⟨w.heap.size,1,none⟩) (ahO _) _).setCell (p:=⟨w.heap.size+1,0,none⟩) (by simp) _) ?_;have hfin:=HRt.out
    first|exact hfin.symm|(subst hTB;exact hfin.symm))
  ·rintro D cd pre W hD hpre hX hK;obtain⟨rfl,hBX,x40,x41,x50,y,hy,hbad⟩:=hX;have hGf:GV=false:=by
    rw[<-HG.out,<-Bool.not_eq_true,ah7];intro h;rw[h y (List.mem_finRange y)]at hbad;cases hbad
   have hfin:=HR.out;rw[hGf]at hfin
   gi_wp2
   exact Tryz.dec_ret rfl rfl x40 x41 x50 hK (by omega) hBX hfin.symm)
end Go.Proofs
namespace Go.Proofs
open Go.RowKit Go.Shelf
attribute [local go_sem] Oper.semAt_some
def Tryz.dec_ret0{w X:World}{tmps:Array Value}{k:Int}{S:ByteArray}{a:Int}
 (t4:tmps[4]?.getD undef=.pointer (some ⟨w.heap.size,0,none⟩))(t5:tmps[5]?.getD undef=.pointer (some ⟨w.heap.size+1,0,none⟩))
 (f:X.cell? ⟨w.heap.size,0,none⟩=some (.int .i64 k))(g:X.cell? ⟨w.heap.size,1,none⟩=some (.string S))(h:X.cell? ⟨w.heap.size+1,0,none⟩=some (.int .i64 a))
 (i:Below w.heap.size w X){b:Value}(c:b=.tuple #[.agg #[.int .i64 k,.string S],.int .i64 a]):
 bodyPostM Fence.wide 9 Tryz.prog Tryz.f379 (λe d=>e=.returned b/\Below w.heap.size w d) .ret {tmps:=tmps,defers:=[]} X:=by
 refine⟨b,?_,rfl,i⟩;have j:Tryz.f379.results= #[.cell 4 391,.cell 5 40]:=rfl;subst c;unfold results;rw[j];simp[go_sem,t4,t5,f,g,h]
def Tryz.LooksNo(a:Int)(w:World):Prop:=
 ∀W,Below w.heap.size w W->Calls Tryz.prog 376 #[] W λe b=>∃c,e=.returned (.map (some c))/\Below W.heap.size W b/\
  (Instr.lookup 547 (.map (some c)) (.int .i64 a) true).run Tryz.prog b=.ok (.tuple #[.agg #[.nilFunc,.int .i64 0],.bool false]) b
set_option maxRecDepth 100000 in
set_option maxHeartbeats 8000000 in
def Tryz.dec_none(f:Int)(a:Option Addr)(L l:Nat)(w:World)(s:Tryz.LooksNo f w):
 Calls Tryz.prog 379 #[.int .i64 f,.slice a L l] w λe u=>e=.returned (Tryz.decV ((0,[]),3))/\Below w.heap.size w u:=by
 have mixed:Tryz.prog.follows .mixedOrders=true:=by kernel_rfl
 refine(ajk (n:=9)).1 ?_;refine akB Tryz.func379 rfl trivial ?_ rfl;simp only[Tryz.ntmps379,ajn,ahL,ah1,Nat.reduceAdd,Nat.reduceSub,aju,ajv,ajO,ajz,ait,aix];have h:Below w.heap.size w ((w.alloc (.cells #[.int .i64 0,.string ⟨#[]⟩] 391)).alloc (.cells #[.int .i64 0] 40)):=((aiS _ w).alloc (ahO _) _).alloc (by simp) _;have o:=s _ h;have i:((w.alloc (.cells #[.int .i64 0,.string ⟨#[]⟩] 391)).alloc (.cells #[.int .i64 0] 40)).heap[w.heap.size]?=some (.cells #[.int .i64 0,.string ⟨#[]⟩] 391 (0,0)):=by rw[eK,eK,ain (by simp),ahY rfl]
 have r:((w.alloc (.cells #[.int .i64 0,.string ⟨#[]⟩] 391)).alloc (.cells #[.int .i64 0] 40)).heap[w.heap.size+1]?=some (.cells #[.int .i64 0] 40 (0,0)):=by rw[eK,ahY (by simp)]
 clear s
 gi_wp2_with (refine⟨trivial,?_⟩;gi_at_call 376;refine(ajk.2 o).mono ?_;rintro e t ⟨v,rfl,j,q⟩
              have k:=kq.of_below (j.alloc j.size (.cells #[Value.nilFunc,.int .i64 0] 546));have b:=Tryz.cell_of (k _ _ _ _ i) 0;have c:=Tryz.cell_of (k _ _ _ _ i) 1;have d:=Tryz.cell_of (k _ _ _ _ r) 0;have m:Below w.heap.size w (t.alloc (.cells #[Value.nilFunc,.int .i64 0] 546)):=(h.trans (j.mono (by simp;omega))).alloc (by have:=j.size;simp at this;omega) _;clear k;simp at b c d)
 have g:=Tryz.three_sets (W:=t.alloc (.cells #[Value.nilFunc,.int .i64 0] 546)) (n0:=w.heap.size) (by rw[b.1];rfl) (by rw[c.1];rfl) (by rw[d.1];rfl);exact Tryz.dec_ret0 rfl rfl (g _ _ _).1 (g _ _ _).2.1 (g _ _ _).2.2 (((m.setCell (p:=⟨w.heap.size,0,none⟩) (ahO _) _).setCell (p:=⟨w.heap.size,1,none⟩) (ahO _) _).setCell (p:=⟨w.heap.size+1,0,none⟩) (by simp) _) rfl
set_option maxRecDepth 100000 in
set_option maxHeartbeats 8000000 in
def Tryz.dec_rem(g:Int)(a:Option Addr)(L q m wd:Nat)(R:Array Value->World->Prop)(w:World)(E:1<wd)(y:¬L % wd=0)(x:Tryz.Looks g m wd R w):
 Calls Tryz.prog 379 #[.int .i64 g,.slice a L q] w λe A=>e=.returned (Tryz.decV ((0,[]),6))/\Below w.heap.size w A:=by
 have mixed:Tryz.prog.follows .mixedOrders=true:=by kernel_rfl
 refine(ajk (n:=9)).1 ?_;refine akB Tryz.func379 rfl trivial ?_ rfl;simp only[Tryz.ntmps379,ajn,ahL,ah1,Nat.reduceAdd,Nat.reduceSub,aju,ajv,ajO,ajz,ait,aix];have j:Below w.heap.size w ((w.alloc (.cells #[.int .i64 0,.string ⟨#[]⟩] 391)).alloc (.cells #[.int .i64 0] 40)):=((aiS _ w).alloc (ahO _) _).alloc (by simp) _;have s:=x _ j;have k:((w.alloc (.cells #[.int .i64 0,.string ⟨#[]⟩] 391)).alloc (.cells #[.int .i64 0] 40)).heap[w.heap.size]?=some (.cells #[.int .i64 0,.string ⟨#[]⟩] 391 (0,0)):=by rw[eK,eK,ain (by simp),ahY rfl]
 have u:((w.alloc (.cells #[.int .i64 0,.string ⟨#[]⟩] 391)).alloc (.cells #[.int .i64 0] 40)).heap[w.heap.size+1]?=some (.cells #[.int .i64 0] 40 (0,0)):=by rw[eK,ahY (by simp)]
 have C:¬((wd:Int)=0):=by omega
 have i:¬((L:Int) % wd=0):=by omega
 have v:((L:Int) % wd !=0)=true:=by simpa using i
 have B:1<(wd:Int):=by omega
 clear x
 gi_wp2_with (refine⟨trivial,?_⟩;gi_at_call 376;refine(ajk.2 s).mono ?_;rintro e z ⟨D,b,rfl,l,t,_⟩
              have o:=kq.of_below (l.alloc l.size (.cells #[.func (.func m) #[] b,.int .i64 wd] 546));have c:=Tryz.cell_of (o _ _ _ _ k) 0;have d:=Tryz.cell_of (o _ _ _ _ k) 1;have f:=Tryz.cell_of (o _ _ _ _ u) 0;have r:Below w.heap.size w (z.alloc (.cells #[.func (.func m) #[] b,.int .i64 wd] 546)):=(j.trans (l.mono (by simp;omega))).alloc (by have:=l.size;simp at this;omega) _;clear o;simp at c d f)
 have h:=Tryz.three_sets (W:=z.alloc (.cells #[.func (.func m) #[] b,.int .i64 wd] 546)) (n0:=w.heap.size) (by rw[c.1];rfl) (by rw[d.1];rfl) (by rw[f.1];rfl);exact Tryz.dec_ret0 rfl rfl (h _ _ _).1 (h _ _ _).2.1 (h _ _ _).2.2 (((r.setCell (p:=⟨w.heap.size,0,none⟩) (ahO _) _).setCell (p:=⟨w.heap.size,1,none⟩) (ahO _) _).setCell (p:=⟨w.heap.size+1,0,none⟩) (by simp) _) rfl
set_option maxRecDepth 100000 in
set_option maxHeartbeats 8000000 in
def Tryz.dec_utf(b:Int)(a:Option Addr)(u x:Nat)(c:List UInt8)(K:World->Prop)(R:Array Value->World->Prop)(w:World)
 (f:∀W,Below w.heap.size w W->(convert 22 9 (.slice a c.length u)).run Tryz.prog W=.ok (.string ⟨c.toArray⟩) W)
 (Q:Tryz.Looks b x 0 (λd W=>R d W/\K W) w)(A:Bool)
 (J:∀t,K t->∀h,Below t.heap.size t h->Calls Tryz.prog 375 #[.agg #[.int .i64 b,.string ⟨c.toArray⟩]] h λe T=>e=.returned (.bool A)/\Below h.heap.size h T):
 Calls Tryz.prog 379 #[.int .i64 b,.slice a c.length u] w λe t=>e=.returned (Tryz.decV (bif A then((b,c),0) else((0,[]),6)))/\Below w.heap.size w t:=by
 have mixed:Tryz.prog.follows .mixedOrders=true:=by kernel_rfl
 refine(ajk (n:=9)).1 ?_;refine akB Tryz.func379 rfl trivial ?_ rfl;simp only[Tryz.ntmps379,ajn,ahL,ah1,Nat.reduceAdd,Nat.reduceSub,aju,ajv,ajO,ajz,ait,aix];have q:Below w.heap.size w ((w.alloc (.cells #[.int .i64 0,.string ⟨#[]⟩] 391)).alloc (.cells #[.int .i64 0] 40)):=((aiS _ w).alloc (ahO _) _).alloc (by simp) _;have H:=Q _ q;have y:((w.alloc (.cells #[.int .i64 0,.string ⟨#[]⟩] 391)).alloc (.cells #[.int .i64 0] 40)).heap[w.heap.size]?=some (.cells #[.int .i64 0,.string ⟨#[]⟩] 391 (0,0)):=by rw[eK,eK,ain (by simp),ahY rfl]
 have N:((w.alloc (.cells #[.int .i64 0,.string ⟨#[]⟩] 391)).alloc (.cells #[.int .i64 0] 40)).heap[w.heap.size+1]?=some (.cells #[.int .i64 0] 40 (0,0)):=by rw[eK,ahY (by simp)]
 obtain⟨C,P⟩:∃C,(⟨c.toArray⟩:ByteArray)=C:=⟨_,rfl⟩;obtain⟨D,r⟩:∃D,Tryz.decV (bif A then((b,c),0) else((0,[]),6))=D:=⟨_,rfl⟩;rw[P]at f J;rw[r];have S:Hid (Tryz.decV (bif A then((b,c),0) else((0,[]),6))=D):=r;clear Q r;cases A
 all_goals (
  gi_wp2_with (first
   |(refine⟨trivial,?_⟩;gi_at_call 376;refine(ajk.2 H).mono ?_;rintro e s ⟨V,d,rfl,i,M,_,I⟩
     have U:=f (s.alloc (Obj.cells #[Value.func (Fn.func x) #[] d,Value.int IntKind.i64 0] 546)) ((q.trans (i.mono (by simp;omega))).alloc (by have:=i.size;simp at this;omega) _);have L:=J s I ((s.alloc (.cells #[.func (.func x) #[] d,.int .i64 0] 546)).alloc (.cells #[.int .i64 b,.string C] 391)) (((aiS _ s).alloc (ahO _) _).alloc (by simp) _);have z:((s.alloc (.cells #[.func (.func x) #[] d,.int .i64 0] 546)).alloc (.cells #[.int .i64 b,.string C] 391)).heap[s.heap.size+1]?=some (.cells #[.int .i64 b,.string C] 391 (0,0)):=by rw[eK,ahY (by simp)]
     clear J f)
   |(refine⟨trivial,?_⟩;gi_at_call 375;refine(ajk.2 L).mono ?_;rintro e O ⟨rfl,v⟩
     have B:=(kq.of_below ((i.alloc i.size (.cells #[.func (.func x) #[] d,.int .i64 0] 546)).alloc (by have:=i.size;simp at this⊢;omega) (.cells #[.int .i64 b,.string C] 391)));have g:=kq.of_below v;have E:=Tryz.cell_of (g _ _ _ _ z) 0;have F:=Tryz.cell_of (g _ _ _ _ z) 1;have k:=Tryz.cell_of (g _ _ _ _ (B _ _ _ _ y)) 0;have l:=Tryz.cell_of (g _ _ _ _ (B _ _ _ _ y)) 1;have m:=Tryz.cell_of (g _ _ _ _ (B _ _ _ _ N)) 0;have G:Below w.heap.size w O:=(((q.trans (i.mono (by simp;omega))).alloc (by have:=i.size;simp at this;omega) _).alloc (by have:=i.size;simp at this;simp;omega) _).trans (v.mono (by have:=i.size;simp at this;simp;omega));clear B g;simp at E F k l m))
  have o:=Tryz.three_sets (W:=O) (n0:=w.heap.size) (by rw[k.1];rfl) (by rw[l.1];rfl) (by rw[m.1];rfl);refine Tryz.dec_ret0 rfl rfl (o _ _ _).1 (o _ _ _).2.1 (o _ _ _).2.2 (((G.setCell (p:=⟨w.heap.size,0,none⟩) (ahO _) _).setCell (p:=⟨w.heap.size,1,none⟩) (ahO _) _).setCell (p:=⟨w.heap.size+1,0,none⟩) (by simp) _) ?_;have j:=S.out
  first|exact j.symm|(subst P;exact j.symm))
end Go.Proofs
def aj9:=@Array.toList_inj
namespace Go.Fw
open Go.RowKit
def Jr{P:Program}{G:Gh}{w:World}(F:nK G w){t:TypeId}{lk:LK}{z:D}(J:yo P t=some (lk,z)){ok:Bool}{ks vs:List D}{k d:D}{mv E:Value}(h:vY lk z ok ks vs k=some d)(B:Rep G (.pmap ks vs) mv)(I:Rep G k E):
 ∃u,(Instr.lookup t mv E ok).run P w=.ok u w/\Rep G d u:=by
 simp only[Rep]at B;obtain⟨b,M,L,rfl,j,r,x,y⟩:=B;obtain⟨H,_⟩:=F.mimm _ _ j;unfold vY at h;split at h<;>try (cases h;done)
 rename_i e;split at h<;>try (cases h;done)
 split at h<;>try (cases h;done)
 obtain⟨e,o⟩:=Eu e;have A:ks.length=vs.length:=by rw[x.length,y.length];simp
 have g:(ks.zip vs).map (·.1)=ks:=akX (by omega);have v:(ks.zip vs).map (·.2)=vs:=akY (by omega);have m:Et G (ks.zip vs) L:=⟨by rw[g];exact x,by rw[v];exact y⟩;obtain⟨s,p1,p2,K⟩:=LJ r m;have C:∀p∈ks.zip vs,mM p.1=true:=λp l=>e _ (by rw[<-g];exact aiz.2 ⟨p,l,rfl⟩);have q:∀p∈s,mM p.1=true:=λp l=>C p (p1.subset l);have f:(ks.zip vs).Pairwise λa b=>jj a.1≠jj b.1:=by
  have c:((ks.zip vs).map (·.1)).Pairwise λa b=>jj a≠jj b:=by rw[g];exact o
  rw[List.pairwise_map]at c;exact c
 have i:=ua (z:=z) (ok:=ok) (n:=‹Int›) C;rw[g,v,h]at i;rw[Jp p1.symm f,<-ua q]at i;exact Bk J i.symm H p2 K I
def ud{P:Program}{G:Gh}{w c:World}(h:GlobOk P G w)(b:Below w.heap.size w c):GlobOk P G c:=
 ⟨λg a e=>⟨aiu (h.1 g a e).1 b.size,(h.1 g a e).2⟩,h.2.below b rfl⟩
def WK{P:Program}{G G':Gh}{w c:World}(h:GlobOk P G w)(a:Em G G' w c):GlobOk P G' c:=
 ⟨λg b e=>⟨aiu (h.1 g b e).1 a.below.size,Rep.mono a.le _ _ (h.1 g b e).2⟩,h.2.below a.below rfl⟩
def Kh{G G':Gh}{w b:World}(a:Em G G' w b):nK G' b:=⟨a.imm,a.mimm,a.siz⟩
def Bl{G:Gh}{w a:World}(h:nK G w)(b:Below w.heap.size w a):nK G a:=Kh (lA h b)
end Go.Fw
namespace Go.Proofs.Tryz
open Go Go.Fw Go.RowKit
def LR:yo prog 547=some (.i,.agg [.nilf,.int .i64 0]):=by kernel_rfl
def rX{f:Nat}{i:Nat}{ds:List D}{G:Gh}{W:World}{a:Array Value}(m:nK G W)(l:GlobOk prog G W)(b:af G ds a.toList)
 (h:∀r:Int,0<=r->r<=1114111->fq prog f (.int .i32 r::ds) (.bool (kb i r))):Tryz.HasOK f (kb i) a W:=by
 intro c d r j k;have:=h r j k G c (.int .i32 r::a.toList) (Bl m d) (ud l d) (by simp only[af,Rep];exact⟨_,_,rfl,rfl,b⟩);rw[show(Value.int .i32 r::a.toList).toArray= #[.int .i32 r]++a from by apply aj9.1;simp]at this;refine this.mono ?_;rintro e p ⟨v,o,rfl,n,g⟩;simp only[Rep]at g;subst g;exact⟨rfl,n.below⟩
def ag5(r:Int)(c:0<=r)(d:r<=1114111):gW r=some (kb 1 r):=by
 have a:rU r=some (inP r):=by
  unfold rU;rw[ahK (by omega),ahK (by omega)];rfl
 have:∃y,gW r=some y:=by
  unfold gW;simp only[a,ahE];cases decide (r>=97)<;>cases decide (r<=122)<;>cases decide (r>=65)<;>cases decide (r<=90)<;>cases decide (r>=48)<;>cases decide (r<=57)<;>exact⟨_,rfl⟩
 obtain⟨y,b⟩:=this;show _=some ((gW r).getD false);rw[b];rfl
def aes(r a b:Int):cT r a b=some ((cT r a b).getD false):=by
 unfold cT;cases decide (r>=a)<;>rfl
def ag6(r:Int):fX r 32 126=some (kb 2 r):=by
 have:∃y,fX r 32 126=some y:=by
  unfold fX;rw[aes];simp only[ahE];cases (cT r 32 126).getD false<;>cases decide (r>=160)<;>exact⟨_,rfl⟩
 obtain⟨y,a⟩:=this;show _=some ((fX r 32 126).getD false);rw[a];rfl
def ag7(r:Int):Ek r=some (kb 5 r):=by
 show _=some ((Ek r).getD false);rw[H9];rfl
def ag8(r:Int):gX r=some (kb 6 r):=by
 have:∃y,gX r=some y:=by
  unfold gX;rw[H9];simp only[ahE];cases Lib.validRune r<;>exact⟨_,rfl⟩
 obtain⟨y,a⟩:=this;show _=some ((gX r).getD false);rw[a];rfl
def p1(r:Int)(a:0<=r)(b:r<=1114111):fq prog 383 (.int .i32 r::[]) (.bool (kb 1 r)):=by
 obtain⟨_,_,_,h⟩:=jK;obtain⟨v,e,_,c⟩:=h r (kb 1 r) (ag5 r a b);have e:some ((SV.bool (kb 1 r),([]:List DV)))=some (v,[]):=e;cases e;exact c [.int .i32 r] rfl _ (by simp only[VRs,VR];exact⟨_,_,rfl,rfl,rfl⟩)
def pB(a b:Int)(i:Nat)(d:∀r,kb i r=(cT r a b).getD false)(r:Int)(_:0<=r)(_:r<=1114111):fq prog 395 (.int .i32 r::[.rptr [.int .i32 a] 0,.rptr [.int .i32 b] 0]) (.bool (kb i r)):=by
 obtain⟨_,_,_,h⟩:=gd;obtain⟨v,e,_,c⟩:=h (r,a,b) (kb i r) (by rw[d];exact aes r a b);have e:some ((SV.bool (kb i r),([]:List DV)))=some (v,[]):=e;cases e;exact c [.int .i32 r,.rc [.int .i32 a] 0,.rc [.int .i32 b] 0] rfl _ (by simp only[VRs,VR];exact⟨_,_,rfl,rfl,_,_,rfl,⟨_,rfl,⟨_,_,rfl,rfl,rfl⟩⟩,_,_,rfl,⟨_,rfl,⟨_,_,rfl,rfl,rfl⟩⟩,rfl⟩)
def p2(r:Int)(_:0<=r)(_:r<=1114111):fq prog 386 (.int .i32 r::[.rptr [dB] 0]) (.bool (kb 2 r)):=by
 obtain⟨_,_,_,h⟩:=iH;obtain⟨v,e,_,a⟩:=h ((r,32,126):Int×Int×Int) (kb 2 r) (ag6 r);have e:some ((SV.bool (kb 2 r),([]:List DV)))=some (v,[]):=e;cases e;exact a [.int .i32 r,.rc [.func (.func 395) [] [.rc [.int .i32 32] 0,.rc [.int .i32 126] 0]] 0] rfl _ (by simp only[VRs,VR,dB,btw];exact⟨_,_,rfl,rfl,_,_,rfl,⟨_,rfl,_,_,rfl,⟨_,_,rfl,rfl,_,_,rfl,⟨_,rfl,_,_,rfl,rfl,rfl⟩,_,_,rfl,⟨_,rfl,_,_,rfl,rfl,rfl⟩,rfl⟩,rfl⟩,rfl⟩)
def p5(r:Int)(_:0<=r)(_:r<=1114111):fq prog 387 (.int .i32 r::[]) (.bool (kb 5 r)):=by
 obtain⟨_,_,_,h⟩:=Hh;obtain⟨v,e,_,a⟩:=h r (kb 5 r) (ag7 r);have e:some ((SV.bool (kb 5 r),([]:List DV)))=some (v,[]):=e;cases e;exact a [.int .i32 r] rfl _ (by simp only[VRs,VR];exact⟨_,_,rfl,rfl,rfl⟩)
def p6(r:Int)(_:0<=r)(_:r<=1114111):fq prog 388 (.int .i32 r::[]) (.bool (kb 6 r)):=by
 obtain⟨_,_,_,h⟩:=jL;obtain⟨v,e,_,a⟩:=h r (kb 6 r) (ag8 r);have e:some ((SV.bool (kb 6 r),([]:List DV)))=some (v,[]):=e;cases e;exact a [.int .i32 r] rfl _ (by simp only[VRs,VR];exact⟨_,_,rfl,rfl,rfl⟩)
def KV(W:World):Prop:=∃G,nK G W/\GlobOk prog G W
variable{Z:Int}
def rY{G:Gh}{w:World}(C:nK G w)(o:GlobOk prog G w){h wd i:Nat}{ds:List D}
 (E:vY .i (.agg [.nilf,.int .i64 0]) true nj nk (.int .i64 Z)=some (.tuple [.agg [.func (.func h) [] ds,.int .i64 (wd:Int)],.bool true]))
 (F:∀W a d,nK d W->GlobOk prog d W->af d ds a.toList->Tryz.HasOK h (kb i) a W):Tryz.Looks Z h wd (λa W=>Tryz.HasOK h (kb i) a W/\KV W) w:=by
 intro W l;refine(Kj G W [] (Bl C l) (ud o l) rfl).mono ?_;rintro e I ⟨v,d,rfl,m,p⟩;have b:=Kh m;have g:=WK (ud o l) m;obtain⟨u,H,k⟩:=Jr b LR E p (show Rep d (.int .i64 Z) (.int .i64 Z) by simp only[Rep]);simp only[Rep,af]at k;obtain⟨q,rfl,M,J,s,⟨n,rfl,N,K,t,⟨f,c,rfl,x,y⟩,O,L,rfl,rfl,rfl⟩,P,r4,rfl,rfl,rfl⟩:=k;have j:=p;simp only[Rep]at j;obtain⟨r,_,_,rfl,_⟩:=j;have z:q= #[.agg n,.bool true]:=aj9.1 s;have A:n= #[.func (.func h) f c,.int .i64 wd]:=aj9.1 t;have B:f= #[]:=aj9.1 x;subst z A B;exact⟨r,c,rfl,m.below,H,F _ _ _ b g y,d,b,g⟩
def ZC{G:Gh}{w:World}(q:nK G w)(p:GlobOk prog G w)
 (r:vY .i (.agg [.nilf,.int .i64 0]) true nj nk (.int .i64 Z)=some (.tuple [.agg [.nilf,.int .i64 0],.bool false])):Tryz.LooksNo Z w:=by
 intro W f;refine(Kj G W [] (Bl q f) (ud p f) rfl).mono ?_;rintro e t ⟨v,i,rfl,g,h⟩;have c:=Kh g;obtain⟨u,s,b⟩:=Jr c LR r h (show Rep i (.int .i64 Z) (.int .i64 Z) by simp only[Rep]);simp only[Rep,af]at b;obtain⟨j,rfl,A,x,l,⟨d,rfl,B,y,m,rfl,C,z,rfl,rfl,rfl⟩,D,r4,rfl,rfl,rfl⟩:=b;have a:=h;simp only[Rep]at a;obtain⟨k,_,_,rfl,_⟩:=a;have n:j= #[.agg d,.bool false]:=aj9.1 l;have o:d= #[.nilFunc,.int .i64 0]:=aj9.1 m;subst n o;exact⟨k,rfl,g.below,s⟩
def WL(h:Z≠12/\Z≠19/\Z≠20/\Z≠22/\Z≠26/\Z≠28/\Z≠30):
 vY .i (.agg [.nilf,.int .i64 0]) true nj nk (.int .i64 Z)=some (.tuple [.agg [.nilf,.int .i64 0],.bool false]):=by
 have k:∀p∈nj.zip nk,mM p.1=true:=by intro p a;simp[nj,nk]at a;rcases a with rfl|rfl|rfl|rfl|rfl|rfl|rfl<;>rfl
 have b:vY .i (.agg [.nilf,.int .i64 0]) true nj nk (.int .i64 Z)=og .i (.agg [.nilf,.int .i64 0]) true ((nj.zip nk).map (·.1)) ((nj.zip nk).map (·.2)) (.int .i64 Z):=rfl;rw[b,ua k];obtain⟨c,d,e,f,g,i,j⟩:=h;have:mJ Z (nj.zip nk)=none:=by
  simp[nj,nk,mJ,jj,c.symm,d.symm,e.symm,f.symm,g.symm,i.symm,j.symm]
 rw[this];rfl
def Js(N:Nat)(a:Int)(T:List UInt8)(d:Bool)(h:kN N (a,T)=some d):∀c,KV c->∀b,Below c.heap.size c b->
 Calls prog 375 #[.agg #[.int .i64 a,.string ⟨T.toArray⟩]] b λe i=>e=.returned (.bool d)/\Below b.heap.size b i:=by
 rintro c ⟨G,l,k⟩ b f;obtain⟨_,_,_,m⟩:=pA N;obtain⟨v,e,_,j⟩:=m ((a,T):Int×Bs) d h;have e:some ((SV.bool d,([]:List DV)))=some (v,[]):=e;cases e;have o:=j [.agg [.int .i64 a,.str T]] rfl [.agg [.int .i64 a,.str T]] (by simp only[VRs,VR];exact⟨_,_,rfl,⟨_,rfl,_,_,rfl,rfl,_,_,rfl,rfl,rfl⟩,rfl⟩);refine(o G b [.agg #[.int .i64 a,.string ⟨T.toArray⟩]] (Bl l f) (ud k f) (by simp only[af,Rep];exact⟨_,_,rfl,⟨_,rfl,_,_,rfl,rfl,_,_,rfl,rfl,rfl⟩,rfl⟩)).mono ?_;rintro e q ⟨v,p,rfl,n,g⟩;simp only[SV.can,Rep]at g;subst g;exact⟨rfl,n.below⟩
end Go.Proofs.Tryz
namespace Go.Proofs.Tryz
open Go Go.Fw Go.RowKit
def Q8{G:Gh}{w:World}(e:nK G w){b:Nat}:∀{xs:List UInt8}{o:Nat},Cells G b o (dC mt xs)->∀(j:Nat) x,xs[j]?=some x->w.cell? ⟨b,o+j,none⟩=some (.int .u8 (x.toNat:Int))
 |[],_,_,j,x,a=>by simp at a
 |y::c,o,h,j,x,a=>by
  rw[show dC mt (y::c)=.int .u8 (y.toNat:Int)::dC mt c from mt.fcons y c]at h;simp only[Cells]at h;obtain⟨⟨v,f,d⟩,g⟩:=h;cases j with
  |zero=>
   simp at a;subst a;simp only[Rep]at d;rw[aj1,e.imm _ _ _ f,d]
  |succ j=>
   have:=Q8 e g j x (by simpa using a);rw[show o+(j+1)=o+1+j from by omega];exact this
variable{Z:Nat}
def EB{a:Option Addr}{c:List UInt8}{w:World}
 (h:(∃b o,a=some ⟨b,o,none⟩/\∀j x,c[j]?=some x->w.cell? ⟨b,o+j,none⟩=some (.int .u8 (x.toNat:Int)))∨c=[])(W:World)(l:Below w.heap.size w W):
 (convert 22 9 (.slice a c.length Z)).run prog W=.ok (.string ⟨c.toArray⟩) W:=by
 have g:∀x:Addr,(∀j (d:j<c.length),W.cell? (x.add j)=some (.int .u8 (c[j].toNat:Int)))->(convert 22 9 (.slice (some x) c.length Z)).run prog W=.ok (.string ⟨c.toArray⟩) W:=λx f=>
  run_convert_bytes_back W 22 9 5 x Z c (by kernel_rfl) (by kernel_rfl) (by kernel_rfl) f
 rcases h with⟨b,o,rfl,f⟩|rfl
 ·refine g _ λj d=> ?_;have i:=f j _ (ahG d);have k:=(l.cell (p:=⟨b,o+j,none⟩) (iD i)).trans i;have e:(⟨b,o,none⟩:Addr).add j=⟨b,o+j,none⟩:=by cases j<;>simp[Addr.add]
  rw[e];exact k
 ·cases a with
  |none=>exact Lib.run_convert_nil_bytes W 22 9 5 Z (by kernel_rfl) (by kernel_rfl) (by kernel_rfl)
  |some x=>exact g x λj d=>absurd d (akE _)
def LS(c:List UInt8)(wd m:Nat):Lib.byteCells (uq c wd m)=Tryz.accC c wd m (List.finRange m):=by
 unfold uq Tryz.accC;induction List.finRange m with
 |nil=>rfl
 |cons x b a=>
  rw[akR,akR,<-a,<-Lib.byteCells_encodeRune];simp[Lib.byteCells]
structure Arg(w:World)(a:Option Addr)(c:List UInt8)(cap:Nat):Prop where
 le:c.length<=cap
 max:cap<=9223372036854775807
 cells:(∃b o,a=some ⟨b,o,none⟩/\∀j x,c[j]?=some x->w.cell? ⟨b,o+j,none⟩=some (.int .u8 (x.toNat:Int)))∨c=[]
def sL{N i wd p:Nat}{d:Int}{c:List UInt8}{a:Option Addr}{w:World}{y:(Int×List UInt8)×Int}(n:Arg w a c Z)(u:c.length<=35184372088831)(B:1<=wd)
 (H:∀l w,(callFunc p l).run prog w=.ok (.enter p l) w)
 (E:Tryz.Looks d p wd (λq W=>Tryz.HasOK p (kb i) q W/\KV W) w)(k:B5 N i wd d c=some y):
 Calls prog 379 #[.int .i64 d,.slice a c.length Z] w λe K=>e=.returned (Tryz.decV y)/\Below w.heap.size w K:=by
 unfold B5 at k;cases z:Nat.beq (c.length % wd) 0 with
 |false=>
  rw[z]at k;cases k;have C:¬c.length % wd=0:=λh=>by rw[h]at z;cases z
  exact Tryz.dec_rem d a c.length Z p wd _ w (by
   rcases ahW 1 wd with h|h
   ·exact h
   ·exfalso;obtain rfl:wd=1:=by omega
    exact C (Nat.mod_one _)) C E
 |true=>
  rw[z]at k;have C:c.length % wd=0:=aiX z;obtain⟨m,D⟩:∃m,c.length / wd=m:=⟨_,rfl⟩;have g:c.length=m*wd:=by rw[<-D,Nat.mul_comm];exact(Nat.mul_div_cancel' (Nat.dvd_of_mod_eq_zero C)).symm
  rw[D]at k;have v:m<=35184372088831:=aiW (by rw[<-D];exact Nat.div_le_self _ _) u;obtain⟨b,o,A,s,f⟩:∃b o,(m=0∨a=some ⟨b,o,none⟩)/\(0<m->b<w.heap.size)/\∀(j:Nat) x,c[j]?=some x->w.cell? ⟨b,o+j,none⟩=some (.int .u8 (x.toNat:Int)):=by
   rcases n.cells with⟨b,o,rfl,I⟩|rfl
   ·refine⟨b,o,.inr rfl,λh=> ?_,I⟩;have L:0<c.length:=by rw[g];exact alx h (by omega)
    exact iD (I 0 _ (ahG L))
   ·have:m=0:=by rw[<-D];simp
    exact⟨0,0,.inl this,λh=>by omega,λj x h=>by simp at h⟩
  have r:((List.finRange m).all λx=>abA i c wd x.val)=((List.finRange m).all λx=>Tryz.goodU c wd (kb i) x.val):=rfl;rw[r]at k;cases t:((List.finRange m).all λx=>Tryz.goodU c wd (kb i) x.val) with
  |true=>
   rw[t]at k;obtain⟨J,F,G⟩:=ajg.1 k;have:=Tryz.dec_try d a b o Z m wd c p KV (kb i) w B g (g▸n.le) n.max v A s f (EB n.cells) H E (uq c wd m) (LS c wd m) J (λ_=>Js N d _ J F);rw[t]at this;rw[<-G];exact this
  |false=>
   rw[t]at k;have:=Tryz.dec_try d a b o Z m wd c p KV (kb i) w B g (g▸n.le) n.max v A s f (EB n.cells) H E (uq c wd m) (LS c wd m) true (λh=>by rw[t]at h;cases h);rw[t]at this;cases k;exact this
def WM(N:Nat)(b:Int)(c:List UInt8)(y:(Int×List UInt8)×Int)(d:bE N b c=some y){G:Gh}{w:World}(m:nK G w)(l:GlobOk prog G w){a:Option Addr}(n:Arg w a c Z):
 Calls prog 379 #[.int .i64 b,.slice a c.length Z] w λe B=>e=.returned (Tryz.decV y)/\Below w.heap.size w B:=by
 rw[vf]at d;unfold VP at d;cases x:Nat.ble c.length 35184372088831 with
 |false=>rw[x]at d;cases d
 |true=>
  have g:=ahR x;rw[x]at d;simp only[ahS]at d;by_cases o:b=12
  ·subst o;rw[ahY rfl]at d;obtain⟨A,z,rfl⟩:=ajg.1 d;exact Tryz.dec_utf 12 a Z 387 c KV (λf W=>Tryz.HasOK 387 (kb 5) f W) w (EB n.cells) (rY (i:=5) (ds:=[]) (wd:=0) m l rfl λW f v h j k=>rX h j k p5) A (Js N 12 c A z)
  rw[ain o]at d;by_cases p:b=19
  ·subst p;rw[ahY rfl]at d;exact sL n g (by decide) (ajX Tryz.func383 (by kernel_rfl) rfl) (rY (i:=1) (ds:=[]) (wd:=1) m l rfl λW f v h j k=>rX h j k p1) d
  rw[ain p]at d;by_cases q:b=20
  ·subst q;rw[ahY rfl]at d;exact sL n g (by decide) (ajX Tryz.func386 (by kernel_rfl) rfl) (rY (i:=2) (ds:=[.rptr [dB] 0]) (wd:=1) m l rfl λW f v h j k=>rX h j k p2) d
  rw[ain q]at d;by_cases r:b=22
  ·subst r;rw[ahY rfl]at d;exact sL n g (by decide) (ajX Tryz.func395 (by kernel_rfl) rfl) (rY (i:=3) (ds:=[.rptr [.int .i32 0] 0,.rptr [.int .i32 127] 0]) (wd:=1) m l rfl λW f v h j k=>rX h j k (pB 0 127 3 λ_=>rfl)) d
  rw[ain r]at d;by_cases s:b=26
  ·subst s;rw[ahY rfl]at d;exact sL n g (by decide) (ajX Tryz.func395 (by kernel_rfl) rfl) (rY (i:=4) (ds:=[.rptr [.int .i32 32] 0,.rptr [.int .i32 126] 0]) (wd:=1) m l rfl λW f v h j k=>rX h j k (pB 32 126 4 λ_=>rfl)) d
  rw[ain s]at d;by_cases t:b=28
  ·subst t;rw[ahY rfl]at d;exact sL n g (by decide) (ajX Tryz.func387 (by kernel_rfl) rfl) (rY (i:=5) (ds:=[]) (wd:=4) m l rfl λW f v h j k=>rX h j k p5) d
  rw[ain t]at d;by_cases u:b=30
  ·subst u;rw[ahY rfl]at d;exact sL n g (by decide) (ajX Tryz.func388 (by kernel_rfl) rfl) (rY (i:=6) (ds:=[]) (wd:=2) m l rfl λW f v h j k=>rX h j k p6) d
  rw[ain u]at d;cases d;exact Tryz.dec_none b a c.length Z w (ZC m l (WL ⟨o,p,q,r,s,t,u⟩))
def ab7:jC prog 379:=(jB (f:=379) (fn:=f379) (by kernel_rfl)).2
def Ki(N:Nat):fJ prog 379 (An N):=by
 refine⟨ab7,rfl,rfl,λ(x:Int×List UInt8)(y:(Int×List UInt8)×Int) n=> ?_⟩;obtain⟨d,c⟩:=x;have n:bE N d c=some y:=n;obtain⟨⟨D,E⟩,v⟩:=y;refine⟨.tup [.agg [.int .i64 D,.str E],.int .i64 v],rfl,λ_ _=>by simp only[SV.can,SV.cans,VR,VRs];exact⟨_,rfl,_,_,rfl,⟨_,rfl,_,_,rfl,rfl,_,_,rfl,rfl,rfl⟩,_,_,rfl,rfl,rfl⟩,?_⟩;intro K m F g;cases m;simp only[VRs]at g;obtain⟨z,_,rfl,i,d2,_,rfl,q,rfl⟩:=g;intro G w u j A r;have i:z=.int .i64 d:=by simpa only[mZ,VR] using i
 simp only[mZ,VR]at q;obtain⟨H,rfl,_⟩:=q;subst i;simp only[af]at r;obtain⟨I,_,rfl,s,J,_,rfl,t,rfl⟩:=r;simp only[Rep]at s t;subst s;obtain⟨a,h,rfl,k,l,_,f⟩:=t;have B:Arg w a c h:=⟨k,l,by
  rcases f with⟨b,o,rfl,f⟩|f
  ·exact .inl ⟨b,o,rfl,Q8 j f⟩
  ·refine .inr ?_;cases c with
   |nil=>rfl
   |cons y p=>rw[show TC.flat .byte (y::p)=.int .u8 (y.toNat:Int)::dC mt p from mt.fcons y p]at f;cases f⟩
 refine(WM N d c _ n j A B).mono ?_;rintro e L ⟨rfl,C⟩;refine⟨_,G,rfl,lA j C,?_⟩;simp only[SV.can,SV.cans,Tryz.decV,Rep,af];exact⟨_,rfl,_,_,rfl,⟨_,rfl,_,_,rfl,rfl,_,_,rfl,rfl,rfl⟩,_,_,rfl,rfl,rfl⟩
end Go.Proofs.Tryz
namespace Go.Proofs.Tryz
open Go Go.Fw
def Aa:List D:=((D.int IntKind.i64 0)::((D.int IntKind.i64 9)::((D.int IntKind.i64 14)::((D.int IntKind.i64 15)::((D.int IntKind.i64 17)::((D.int IntKind.i64 18)::((D.int IntKind.i64 19)::((D.int IntKind.i64 20)::((D.int IntKind.i64 21)::((D.int IntKind.i64 24)::((D.int IntKind.i64 27)::((D.int IntKind.i64 28)::((D.int IntKind.i64 29)::((D.int IntKind.i64 30)::((D.int IntKind.i64 31)::((D.int IntKind.i64 32)::((D.int IntKind.i64 33)::((D.int IntKind.i64 35)::((D.int IntKind.i64 36)::((D.int IntKind.i64 37)::((D.int IntKind.i64 46)::((D.int IntKind.i64 54)::((D.int IntKind.i64 101)::((D.int IntKind.i64 111)::[]))))))))))))))))))))))))
def Ab:List D:=((D.agg ((D.str [])::((D.str (111::(112::(97::(113::(117::(101::[])))))))::((D.iface 301 (D.agg ((D.func (Fn.func 171) [] [])::((D.func (Fn.func 184) [] [])::((D.func (Fn.func 185) [] [])::[])))))::[]))))::((D.agg ((D.str (50::(46::(53::(46::(50::(57::(46::(57::[])))))))))::((D.str (83::(117::(98::(106::(101::(99::(116::(68::(105::(114::(101::(99::(116::(111::(114::(121::(65::(116::(116::(114::(105::(98::(117::(116::(101::(115::[])))))))))))))))))))))))))))::((D.iface 319 (D.agg ((D.func (Fn.func 186) [] [])::((D.func (Fn.func 187) [] [])::((D.func (Fn.func 188) [] [])::[])))))::[]))))::((D.agg ((D.str (50::(46::(53::(46::(50::(57::(46::(49::(52::[]))))))))))::((D.str (83::(117::(98::(106::(101::(99::(116::(75::(101::(121::(73::(100::(101::(110::(116::(105::(102::(105::(101::(114::[])))))))))))))))))))))::((D.iface 301 (D.agg ((D.func (Fn.func 171) [] [])::((D.func (Fn.func 189) [] [])::((D.func (Fn.func 190) [] [])::[])))))::[]))))::((D.agg ((D.str (50::(46::(53::(46::(50::(57::(46::(49::(53::[]))))))))))::((D.str (75::(101::(121::(85::(115::(97::(103::(101::[])))))))))::((D.iface 321 (D.agg ((D.func (Fn.func 172) [] [])::((D.func (Fn.func 191) [] [])::((D.func (Fn.func 192) [] [])::[])))))::[]))))::((D.agg ((D.str (50::(46::(53::(46::(50::(57::(46::(49::(55::[]))))))))))::((D.str (83::(117::(98::(106::(101::(99::(116::(65::(108::(116::(78::(97::(109::(101::[])))))))))))))))::((D.iface 299 (D.agg ((D.func (Fn.func 173) [] [])::((D.func (Fn.func 174) [] [])::((D.func (Fn.func 175) [] [])::[])))))::[]))))::((D.agg ((D.str (50::(46::(53::(46::(50::(57::(46::(49::(56::[]))))))))))::((D.str (73::(115::(115::(117::(101::(114::(65::(108::(116::(78::(97::(109::(101::[]))))))))))))))::((D.iface 299 (D.agg ((D.func (Fn.func 173) [] [])::((D.func (Fn.func 174) [] [])::((D.func (Fn.func 175) [] [])::[])))))::[]))))::((D.agg ((D.str (50::(46::(53::(46::(50::(57::(46::(49::(57::[]))))))))))::((D.str (66::(97::(115::(105::(99::(67::(111::(110::(115::(116::(114::(97::(105::(110::(116::(115::[])))))))))))))))))::((D.iface 327 (D.agg ((D.func (Fn.func 193) [] [])::((D.func (Fn.func 194) [] [])::((D.func (Fn.func 195) [] [])::[])))))::[]))))::((D.agg ((D.str (50::(46::(53::(46::(50::(57::(46::(50::(48::[]))))))))))::((D.str (67::(82::(76::(78::(117::(109::(98::(101::(114::[]))))))))))::((D.iface 301 (D.agg ((D.func (Fn.func 171) [] [])::((D.func (Fn.func 176) [] [])::((D.func (Fn.func 177) [] [])::[])))))::[]))))::((D.agg ((D.str (50::(46::(53::(46::(50::(57::(46::(50::(49::[]))))))))))::((D.str (67::(82::(76::(82::(101::(97::(115::(111::(110::[]))))))))))::((D.iface 321 (D.agg ((D.func (Fn.func 172) [] [])::((D.func (Fn.func 196) [] [])::((D.func (Fn.func 197) [] [])::[])))))::[]))))::((D.agg ((D.str (50::(46::(53::(46::(50::(57::(46::(50::(52::[]))))))))))::((D.str (73::(110::(118::(97::(108::(105::(100::(105::(116::(121::(68::(97::(116::(101::[])))))))))))))))::((D.iface 331 (D.agg ((D.func (Fn.func 198) [] [])::((D.func (Fn.func 199) [] [])::((D.func (Fn.func 200) [] [])::[])))))::[]))))::((D.agg ((D.str (50::(46::(53::(46::(50::(57::(46::(50::(55::[]))))))))))::((D.str (66::(97::(115::(101::(67::(82::(76::(78::(117::(109::(98::(101::(114::[]))))))))))))))::((D.iface 301 (D.agg ((D.func (Fn.func 171) [] [])::((D.func (Fn.func 176) [] [])::((D.func (Fn.func 177) [] [])::[])))))::[]))))::((D.agg ((D.str (50::(46::(53::(46::(50::(57::(46::(50::(56::[]))))))))))::((D.str (73::(115::(115::(117::(105::(110::(103::(68::(105::(115::(116::(114::(105::(98::(117::(116::(105::(111::(110::(80::(111::(105::(110::(116::[])))))))))))))))))))))))))::((D.iface 337 (D.agg ((D.func (Fn.func 201) [] [])::((D.func (Fn.func 202) [] [])::((D.func (Fn.func 203) [] [])::[])))))::[]))))::((D.agg ((D.str (50::(46::(53::(46::(50::(57::(46::(50::(57::[]))))))))))::((D.str (67::(101::(114::(116::(105::(102::(105::(99::(97::(116::(101::(73::(115::(115::(117::(101::(114::[]))))))))))))))))))::((D.iface 299 (D.agg ((D.func (Fn.func 173) [] [])::((D.func (Fn.func 174) [] [])::((D.func (Fn.func 175) [] [])::[])))))::[]))))::((D.agg ((D.str (50::(46::(53::(46::(50::(57::(46::(51::(48::[]))))))))))::((D.str (78::(97::(109::(101::(67::(111::(110::(115::(116::(114::(97::(105::(110::(116::(115::[]))))))))))))))))::((D.iface 343 (D.agg ((D.func (Fn.func 204) [] [])::((D.func (Fn.func 205) [] [])::((D.func (Fn.func 206) [] [])::[])))))::[]))))::((D.agg ((D.str (50::(46::(53::(46::(50::(57::(46::(51::(49::[]))))))))))::((D.str (67::(82::(76::(68::(105::(115::(116::(114::(105::(98::(117::(116::(105::(111::(110::(80::(111::(105::(110::(116::(115::[]))))))))))))))))))))))::((D.iface 307 (D.agg ((D.func (Fn.func 178) [] [])::((D.func (Fn.func 179) [] [])::((D.func (Fn.func 180) [] [])::[])))))::[]))))::((D.agg ((D.str (50::(46::(53::(46::(50::(57::(46::(51::(50::[]))))))))))::((D.str (67::(101::(114::(116::(105::(102::(105::(99::(97::(116::(101::(80::(111::(108::(105::(99::(105::(101::(115::[]))))))))))))))))))))::((D.iface 349 (D.agg ((D.func (Fn.func 207) [] [])::((D.func (Fn.func 208) [] [])::((D.func (Fn.func 209) [] [])::[])))))::[]))))::((D.agg ((D.str (50::(46::(53::(46::(50::(57::(46::(51::(51::[]))))))))))::((D.str (80::(111::(108::(105::(99::(121::(77::(97::(112::(112::(105::(110::(103::(115::[])))))))))))))))::((D.iface 355 (D.agg ((D.func (Fn.func 210) [] [])::((D.func (Fn.func 211) [] [])::((D.func (Fn.func 212) [] [])::[])))))::[]))))::((D.agg ((D.str (50::(46::(53::(46::(50::(57::(46::(51::(53::[]))))))))))::((D.str (65::(117::(116::(104::(111::(114::(105::(116::(121::(75::(101::(121::(73::(100::(101::(110::(116::(105::(102::(105::(101::(114::[])))))))))))))))))))))))::((D.iface 361 (D.agg ((D.func (Fn.func 213) [] [])::((D.func (Fn.func 214) [] [])::((D.func (Fn.func 215) [] [])::[])))))::[]))))::((D.agg ((D.str (50::(46::(53::(46::(50::(57::(46::(51::(54::[]))))))))))::((D.str (80::(111::(108::(105::(99::(121::(67::(111::(110::(115::(116::(114::(97::(105::(110::(116::(115::[]))))))))))))))))))::((D.iface 367 (D.agg ((D.func (Fn.func 216) [] [])::((D.func (Fn.func 217) [] [])::((D.func (Fn.func 218) [] [])::[])))))::[]))))::((D.agg ((D.str (50::(46::(53::(46::(50::(57::(46::(51::(55::[]))))))))))::((D.str (69::(120::(116::(75::(101::(121::(85::(115::(97::(103::(101::[]))))))))))))::((D.iface 373 (D.agg ((D.func (Fn.func 219) [] [])::((D.func (Fn.func 220) [] [])::((D.func (Fn.func 221) [] [])::[])))))::[]))))::((D.agg ((D.str (50::(46::(53::(46::(50::(57::(46::(52::(54::[]))))))))))::((D.str (70::(114::(101::(115::(104::(101::(115::(116::(67::(82::(76::[]))))))))))))::((D.iface 307 (D.agg ((D.func (Fn.func 178) [] [])::((D.func (Fn.func 179) [] [])::((D.func (Fn.func 180) [] [])::[])))))::[]))))::((D.agg ((D.str (50::(46::(53::(46::(50::(57::(46::(53::(52::[]))))))))))::((D.str (73::(110::(104::(105::(98::(105::(116::(65::(110::(121::(80::(111::(108::(105::(99::(121::[])))))))))))))))))::((D.iface 321 (D.agg ((D.func (Fn.func 172) [] [])::((D.func (Fn.func 222) [] [])::((D.func (Fn.func 223) [] [])::[])))))::[]))))::((D.agg ((D.str (49::(46::(51::(46::(54::(46::(49::(46::(53::(46::(53::(46::(55::(46::(49::(46::(49::[]))))))))))))))))))::((D.str (65::(117::(116::(104::(111::(114::(105::(116::(121::(73::(110::(102::(111::(65::(99::(99::(101::(115::(115::[]))))))))))))))))))))::((D.iface 313 (D.agg ((D.func (Fn.func 181) [] [])::((D.func (Fn.func 182) [] [])::((D.func (Fn.func 183) [] [])::[])))))::[]))))::((D.agg ((D.str (49::(46::(51::(46::(54::(46::(49::(46::(53::(46::(53::(46::(55::(46::(49::(46::(49::(49::[])))))))))))))))))))::((D.str (83::(117::(98::(106::(101::(99::(116::(73::(110::(102::(111::(65::(99::(99::(101::(115::(115::[]))))))))))))))))))::((D.iface 313 (D.agg ((D.func (Fn.func 181) [] [])::((D.func (Fn.func 182) [] [])::((D.func (Fn.func 183) [] [])::[])))))::[]))))::[]))))))))))))))))))))))))
def nl(P:Program):KOk P noK:=eH P
def ZF:fq prog 157 [] (.cmap Aa Ab):=BW (n:=20) tok (eH _) mixed rfl (by kernel_rfl) (by kernel_rfl) (by kernel_rfl)
end Go.Proofs.Tryz
namespace Go.Fw
open Go.RowKit
section
variable {P:Program}{N:Nat}{all:Array Oper}{o:Oper}{r:List Oper}{τ τ' :Env}{σ σ' :Sto}{Kt:Env→Sto→Prop}
variable{Z:Operand}{Y:List Nat}
def ZI{t l:Nat}{ks vs:List D}{f:Option Nat}(c:dj all τ o=some true)(n:o.op=.next Z false)(hit:ev τ Z=some (.ptr l 0 0))(m:σ[l]?=some (.miter ks vs Y f))
 (hd:o.dst=some t)(p:Nat.blt t N=true)(e:Y=[]->iZ P N all r ((t,.tuple [.bool false])::τ) σ Kt)
 (g:∀i a b,i∈Y->ks[i]?=some a->vs[i]?=some b->iZ P N all r ((t,.tuple [.bool true,a,b])::τ) (σ.set l (.miter ks vs (Y.filter (· !=i)) (some i))) Kt):iZ P N all (o::r) τ σ Kt:=by
 have h:∀d,iF N o.dst d τ=some ((t,d)::τ):=λd=>by
  unfold iF;rw[hd];simp only;exact ahY (ahR p)
 refine .inl ⟨c,(Xa n hit m).mono ?_⟩;rintro d s (⟨c,rfl,rfl⟩|⟨i,a,b,c,j,k,rfl,rfl⟩)
 ·exact⟨_,h _,e c⟩
 ·exact⟨_,h _,g i a b c j k⟩
def acb{T:Tys}{K:FuncId->List D->Option D}{l i:Nat}{ks vs:List D}{a b:D}(hit:ev τ Z=some (.ptr l 0 0))(e:σ[l]?=some (.miter ks vs Y (some i)))
 (c:ks[i]?=some a)(d:vs[i]?=some b):opE T K τ σ (.entry Z)=some (.tuple [a,b],σ):=by
 simp[opE,aop,P6,hit,LC,e,c,d]
def goC{T:Tys}(tok:TOk T P){c:Call}{f:FuncId}{ds a:List D}{d:D}(b:dj all τ o=some true)(k:o.op=.call c)(i:nn T τ c=some (f,ds))(l:vX σ ds=some (a,σ'))
 (j:jC P f)(h:fq P f a d)(e:iF N o.dst d τ=some τ')(g:iZ P N all r τ' σ' Kt):iZ P N all (o::r) τ σ Kt:=
 .inl ⟨b,(Rb tok k i l j (h.acall _)).mono (by rintro m s ⟨rfl,rfl⟩;exact⟨τ',e,g⟩)⟩
end
end Go.Fw
namespace Go.Proofs.Tryz
open Go Go.Fw
set_option maxHeartbeats 1000000
def aeA:jC prog 157:=(jB (f:=157) (fn:=f157) (by kernel_rfl)).2
def oq:List (List UInt8):=Ab.map λd=>match d with|.agg (.str s::_)=>s|_=>[]
def sM:List Int:=Aa.map λd=>match d with|.int _ n=>n|_=>0
def ue(s:List UInt8):List (List UInt8)->List Int->Int
 |i::a,n::b=>if i=s then n else ue s a b
 |_,_=>0
def Ac(s:List UInt8):Int:=if s=[] then 0 else ue s oq sM
def hit(s:List UInt8)(i:Nat):Bool:=decide (oq[i]?=some s)&&decide (s≠[])
def KI(s:List UInt8)(n:Nat)(τ:Env)(σ:Sto):Prop:=∃l a b,get τ 0=some (.str s)/\get τ 6=some (.ptr l 0 0)/\σ[l]?=some (.miter Aa Ab a b)/\
 a.length=n/\(∀i,i<24->i ∉ a->hit s i=false)/\(∀i∈a,i<24)
def WQ(i:Nat):Bool:=
 match Aa[i]?,Ab[i]?,oq[i]?,sM[i]? with
 |some (.int .i64 k),some (.agg [.str id,.str _,.iface _ _]),some a,some b=>decide (id=a)&&decide (k=b)&&decide (ue id oq sM=k)
 |_,_,_,_=>false
def ZJ:(List.range 24).all WQ=true:=by kernel_rfl
def acd{i:Nat}(q:i<24){a b:D}(n:Aa[i]?=some a)(p:Ab[i]?=some b):
 ∃k id e c d,a=.int .i64 k/\b=.agg [.str id,.str e,.iface c d]/\oq[i]?=some id/\sM[i]?=some k/\ue id oq sM=k:=by
 have h:=ah7.1 ZJ i (aj6.2 q);unfold WQ at h;rw[n,p]at h;split at h
 ·rename_i k id e c d s t f g j l;cases f;cases g;simp only[ahF,aij]at h;obtain⟨⟨rfl,rfl⟩,m⟩:=h;exact⟨_,_,_,_,_,rfl,rfl,j,l,m⟩
 ·cases h
def TD(s:List UInt8):∀(a:List (List UInt8))(b:List Int),(∀(i:Nat),a[i]?≠some s)->ue s a b=0
 |[],_,_=>rfl
 |i::a,[],_=>rfl
 |i::a,n::b,h=>by
  have c:i≠s:=λe=>h 0 (by simp[e]);simp only[ue,c,aiB];exact TD s a b λj d=>h (j+1) (by simpa using d)
def ace:oq.length=24:=by kernel_rfl
def WR{s id:List UInt8}{n i:Nat}{a:List Nat}{τ:Env}{σ:Sto}(t:a.length=n)(f:∀i,i<24->i ∉ a->hit s i=false)(c:∀i∈a,i<24)(l:i∈a)
 (hid:oq[i]?=some id)(k:hit s i=false)(g:Go.Fw.get τ 0=some (.str s))(h:Go.Fw.get τ 6=some (.ptr 0 0 0))(p:σ[0]?=some (.miter Aa Ab (a.filter (· !=i)) (some i))):
 ∃m,m<n/\KI s m τ σ:=by
 refine⟨(a.filter (· !=i)).length,?_,0,_,_,g,h,p,rfl,λj b d=> ?_,λj b=>c j (aki.1 b).1⟩
 ·rw[<-t];exact List.length_filter_lt_length_iff_exists.2 ⟨i,l,by simp⟩
 ·by_cases e:j=i
  ·subst e;exact k
  ·exact f j b λq=>d (aki.2 ⟨q,by simpa using e⟩)
def acf(s:List UInt8):fq prog 156 [.str s] (.int .i64 (Ac s)):=by
 refine abq (i:=0) tok func156 rfl rfl rfl ?_
 repeat first|refine gw ?_|refine eC ?_
 refine go1 tok (nl _) rfl rfl rfl ?_
 repeat first|refine gw ?_|refine eC ?_
 refine goC tok rfl rfl rfl rfl aeA ZF rfl ?_;refine go1 tok (nl _) rfl rfl rfl ?_
 repeat first|refine gw ?_|refine eC ?_|refine AH ?_
 refine YD (KI s) (n:=24) ⟨0,List.range 24,none,rfl,rfl,rfl,rfl,λi c y=>absurd (aj6.2 c) y,λi c=>aj6.1 c⟩ ?_;rintro n τ σ ⟨l,E,z,A,M,Q,y,p,m⟩;refine AWp.gc [l] (λ_ h=>absurd h (akE _)) (by simp) (σ':=[.miter Aa Ab E z]) (τ':=[(6,.ptr 0 0 0),(0,.str s)]) rfl ?_ ?_ ?_
 ·intro j S T u f
  match j,u,f with
  |0,u,f=>
   simp at u f;subst u f;exact⟨Q,by kernel_rfl⟩
  |j+1,u,_=>simp at u
 ·intro t d q;simp only[Go.Fw.get]at q;split at q
  ·rename_i e;subst e;cases q;exact⟨M,rfl⟩
  ·split at q
   ·rename_i e;subst e;cases q;exact⟨A,rfl⟩
   ·cases q
 repeat first|refine gw ?_|refine eC ?_
 refine ZI rfl rfl rfl rfl rfl rfl (λx=> ?_) (λi a b c H I=> ?_)
 ·refine go1 tok (nl _) rfl rfl rfl ?_;refine gw (mz rfl (JE ?_))
  repeat first|refine gw ?_|refine eC ?_
  refine go1 tok (nl _) rfl rfl rfl ?_;subst x;have A:Ac s=0:=by
   unfold Ac;split
   ·rfl
   ·rename_i R;refine TD s _ _ λi c=> ?_;have w:i<24:=by rw[<-ace];exact ah c
    have:=p i w (by simp);simp[hit,c,R]at this
  rw[A];exact oX (Dq rfl rfl rfl)
 ·have v:=m i c;refine go1 tok (nl _) rfl rfl rfl ?_;refine gw (qa rfl (oC ?_));refine AH ?_;have g:∃k id L F G,a=.int .i64 k/\b=.agg [.str id,.str L,.iface F G]/\oq[i]?=some id/\sM[i]?=some k/\ue id oq sM=k:=acd v H I;obtain⟨k,id,L,F,G,rfl,rfl,hid,K,D⟩:=g
  repeat first|refine gw ?_|refine eC ?_
  refine go1 tok (nl _) rfl (acb rfl rfl H I) rfl ?_
  repeat refine go1 tok (nl _) rfl rfl rfl ?_
  repeat first|refine gw ?_|refine eC ?_
  iterate 5 refine go1 tok (nl _) rfl rfl rfl ?_
  cases J:(id==s)
  ·have B:id≠s:=by simpa using J
   refine no1 rfl rfl ?_;refine no1 rfl rfl ?_;refine go1 tok (nl _) rfl rfl rfl ?_;refine mz rfl (oC ?_);exact WR y p m c hid (by simp[hit,hid,B]) rfl rfl rfl
  ·refine go1 tok (nl _) rfl rfl rfl ?_;refine go1 tok (nl _) rfl rfl rfl ?_;cases C:(s==(⟨#[]⟩:ByteArray).data.toList)
   ·refine go1 tok (nl _) rfl rfl rfl ?_;refine qa rfl ?_
    repeat first|refine gw ?_|refine eC ?_
    repeat refine go1 tok (nl _) rfl rfl rfl ?_
    have O:Ac s=k:=by
     have e:id=s:=by simpa using J
     subst e;unfold Ac;rw[ain (λh=>by subst h;cases C),D]
    rw[O];exact oX (Dq rfl rfl rfl)
   ·refine go1 tok (nl _) rfl rfl rfl ?_;refine mz rfl (oC ?_);exact WR y p m c hid (by simp at C;simp[hit,C]) rfl rfl rfl
end Go.Proofs.Tryz
namespace Go.Fw
def R4:List (List UInt8):=[[],[50,46,53,46,50,57,46,57],[50,46,53,46,50,57,46,49,52],[50,46,53,46,50,57,46,49,53],[50,46,53,46,50,57,46,49,55],[50,46,53,46,50,57,46,49,56],[50,46,53,46,50,57,46,49,57],[50,46,53,46,50,57,46,50,48],[50,46,53,46,50,57,46,50,49],[50,46,53,46,50,57,46,50,52],[50,46,53,46,50,57,46,50,55],[50,46,53,46,50,57,46,50,56],[50,46,53,46,50,57,46,50,57],[50,46,53,46,50,57,46,51,48],[50,46,53,46,50,57,46,51,49],[50,46,53,46,50,57,46,51,50],[50,46,53,46,50,57,46,51,51],[50,46,53,46,50,57,46,51,53],[50,46,53,46,50,57,46,51,54],[50,46,53,46,50,57,46,51,55],[50,46,53,46,50,57,46,52,54],[50,46,53,46,50,57,46,53,52],[49,46,51,46,54,46,49,46,53,46,53,46,55,46,49,46,49],[49,46,51,46,54,46,49,46,53,46,53,46,55,46,49,46,49,49]]
def E7:List Int:=[0,9,14,15,17,18,19,20,21,24,27,28,29,30,31,32,33,35,36,37,46,54,101,111]
def sS(s:List UInt8):List (List UInt8)->List Int->Int
 |i::a,n::b=>if i=s then n else sS s a b
 |_,_=>0
def Bu(s:List UInt8):Int:=if s=[] then 0 else sS s R4 E7
def T1:∃f:List UInt8->Option Int,f=λs=>some (Bu s):=⟨_,rfl⟩
noncomputable def cm:List UInt8->Option Int:=Classical.choose T1
def xe(s:List UInt8):cm s=some (Bu s):=congrFun (Classical.choose_spec T1) s
noncomputable def Bv:Ctr:=⟨[.hole .str],.hole (.int .i64),λ(x:List UInt8)=>cm x⟩
end Go.Fw
namespace Go.Proofs.Tryz
open Go Go.Fw Go.RowKit
def ZG:oq=R4:=by kernel_rfl
def ZH:sM=E7:=by kernel_rfl
def TA(s:List UInt8):∀(a:List (List UInt8))(b:List Int),ue s a b=sS s a b
 |[],_=>rfl
 |_::_,[]=>rfl
 |i::a,n::b=>by
  unfold ue sS;rw[TA s a b]
def U7(s:List UInt8):Ac s=Bu s:=by
 unfold Ac Bu;rw[ZG,ZH,TA]
def aez:jC prog 156:=(jB (f:=156) (fn:=f156) (by kernel_rfl)).2
def LV:fJ prog 156 Bv:=by
 refine⟨aez,rfl,rfl,λ(x:List UInt8)(y:Int) b=> ?_⟩;have b:cm x=some y:=b;rw[xe]at b;cases b;refine⟨.int .i64 (Bu x),rfl,λ_ _=>by simp only[SV.can,VR],?_⟩;intro g d f a;cases d;simp only[VRs]at a;obtain⟨e,_,rfl,c,rfl⟩:=a;have c:e=.str x:=by simpa only[mZ,VR] using c
 subst c;have:=acf x;rw[U7]at this;exact this
end Go.Proofs.Tryz
