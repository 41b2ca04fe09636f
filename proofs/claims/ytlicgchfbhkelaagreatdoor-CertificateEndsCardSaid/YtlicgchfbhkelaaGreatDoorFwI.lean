/- A framework for proofs about Go programs in this model: part I. Everything is proved; no condition is added. -/
import Derived.Test.YtlicgchfbhkelaaGreatDoorFwH
set_option linter.unusedVariables false
set_option linter.unusedSimpArgs false
set_option linter.defProp false
namespace Go.Fw
open Go
noncomputable section
def gR(a:Int):Option Bool:=
 bif decide (a>=97) then(
 bif decide (a<=122) then(
 some true)
 else
 bif decide (a>=65) then(
 bif decide (a<=90) then(
 some true)
 else
 bif decide (a>=48) then(
 bif decide (a<=57) then(
 some true)
 else
 (sn a).bind λc1=>
 some c1)
 else
 (sn a).bind λb=>
 some b)
 else
 bif decide (a>=48) then(
 bif decide (a<=57) then(
 some true)
 else
 (sn a).bind λc=>
 some c)
 else
 (sn a).bind λd=>
 some d)
 else
 bif decide (a>=65) then(
 bif decide (a<=90) then(
 some true)
 else
 bif decide (a>=48) then(
 bif decide (a<=57) then(
 some true)
 else
 (sn a).bind λe=>
 some e)
 else
 (sn a).bind λf=>
 some f)
 else
 bif decide (a>=48) then(
 bif decide (a<=57) then(
 some true)
 else
 (sn a).bind λg=>
 some g)
 else
 (sn a).bind λh=>
 some h
def cU(a:Int)(a2:Int)(a3:Int):Option Bool:=
 bif decide (a>=a2) then(
 some (decide (a<=a3)))
 else
 some false
def fT(a:Int)(a2:Int)(a3:Int):Option Bool:=
 (cU a a2 a3).bind λc1=>
 bif c1 then(
 some true)
 else
 bif decide (a>=160) then(
 some (decide (a<=255)))
 else
 some false
def gS(a:Int):Option Bool:=
 (Ey a).bind λc1=>
 bif c1 then(
 some (decide (a<=65535)))
 else
 some false
def kC(N n:Nat):(Int×Bs×Int)->Option ((Bool)⊕(Unit)):=Nat.rec (λ_=>none) (λ_ L (d,b,a)=>
 bif decide (a<(b.length:Int)) then(
 bif decide (0<=a) then(
 (Ey ((kS b a).1)).bind λc=>
 bif (!c) then(
 some (Sum.inl false))
 else
 L (d,b,a+(kS b a).2))
 else
 none)
 else
 some (Sum.inr ())) n
def lO(N n:Nat):(Int×Bs×Int)->Option ((Bool)⊕(Unit)):=Nat.rec (λ_=>none) (λ_ L (d,b,a)=>
 bif decide (a<(b.length:Int)) then(
 bif decide (0<=a) then(
 (gR ((kS b a).1)).bind λc=>
 bif (!c) then(
 some (Sum.inl false))
 else
 L (d,b,a+(kS b a).2))
 else
 none)
 else
 some (Sum.inr ())) n
def lP(N n:Nat):(Int×Int×Int×Bs×Int)->Option ((Bool)⊕(Unit)):=Nat.rec (λ_=>none) (λ_ L (c,d,f,b,a)=>
 bif decide (a<(b.length:Int)) then(
 bif decide (0<=a) then(
 (fT ((kS b a).1) c d).bind λe=>
 bif (!e) then(
 some (Sum.inl false))
 else
 L (c,d,f,b,a+(kS b a).2))
 else
 none)
 else
 some (Sum.inr ())) n
def kD(N n:Nat):(Int×Int×Int×Bs×Int)->Option ((Bool)⊕(Unit)):=Nat.rec (λ_=>none) (λ_ L (c,d,f,b,a)=>
 bif decide (a<(b.length:Int)) then(
 bif decide (0<=a) then(
 (cU ((kS b a).1) c d).bind λe=>
 bif (!e) then(
 some (Sum.inl false))
 else
 L (c,d,f,b,a+(kS b a).2))
 else
 none)
 else
 some (Sum.inr ())) n
def lQ(N n:Nat):(Int×Bs×Int)->Option ((Bool)⊕(Unit)):=Nat.rec (λ_=>none) (λ_ L (d,b,a)=>
 bif decide (a<(b.length:Int)) then(
 bif decide (0<=a) then(
 (gS ((kS b a).1)).bind λc=>
 bif (!c) then(
 some (Sum.inl false))
 else
 L (d,b,a+(kS b a).2))
 else
 none)
 else
 some (Sum.inr ())) n
def kU(N:Nat)(a:(Int×Bs)):Option Bool:=
 bif (a.1==12) then(
 (jT a.2).bind λc1=>
 bif (!c1) then(
 some false)
 else
 (kC N N (0,a.2,0)).bind λu=>(match u with
 |Sum.inl s=>some s
 |Sum.inr _=>some true))
 else
 bif (a.1==19) then(
 (jT a.2).bind λt=>
 bif (!t) then(
 some false)
 else
 (lO N N (1,a.2,0)).bind λm=>(match m with
 |Sum.inl b=>some b
 |Sum.inr _=>some true))
 else
 bif (a.1==20) then(
 (jT a.2).bind λc=>
 bif (!c) then(
 some false)
 else
 (lP N N (32,126,1,a.2,0)).bind λn=>(match n with
 |Sum.inl d=>some d
 |Sum.inr _=>some true))
 else
 bif (a.1==22) then(
 (jT a.2).bind λe=>
 bif (!e) then(
 some false)
 else
 (kD N N (0,127,1,a.2,0)).bind λo=>(match o with
 |Sum.inl f=>some f
 |Sum.inr _=>some true))
 else
 bif (a.1==26) then(
 (jT a.2).bind λg=>
 bif (!g) then(
 some false)
 else
 (kD N N (32,126,1,a.2,0)).bind λp=>(match p with
 |Sum.inl h=>some h
 |Sum.inr _=>some true))
 else
 bif (a.1==28) then(
 (jT a.2).bind λi=>
 bif (!i) then(
 some false)
 else
 (kC N N (4,a.2,0)).bind λq=>(match q with
 |Sum.inl j=>some j
 |Sum.inr _=>some true))
 else
 bif (a.1==30) then(
 (jT a.2).bind λk=>
 bif (!k) then(
 some false)
 else
 (lQ N N (2,a.2,0)).bind λr=>(match r with
 |Sum.inl l=>some l
 |Sum.inr _=>some true))
 else
 some false
def jJ(N n:Nat):(Int×Int×Int×Bs×Bs×Int)->Option (Int×Bs×Bs×Int):=Nat.rec (λ_=>none) (λ_ L (g,h,d,b,c,a)=>
 bif decide (d>=0) then(
 bif decide (0<=lm .i64 8 d) then(
 (toB (IntKind.wrap .u8 (wj .i32 h (lm .i64 8 d)))).bind λe=>
 (app 1 b [e]).bind λf=>
 L (g,h,aU .i64 d 1,f,c,a))
 else
 none)
 else
 some (g,b,c,a)) n
def eG(N n:Nat):(Int×Bs×Bs×Int)->Option Bs:=Nat.rec (λ_=>none) (λ_ L (d,e,b,a)=>
 bif decide (a<(b.length:Int)) then(
 bif decide (0<=a) then(
 (jJ N N (d,(kS b a).1,aU .i64 d 1,e,b,a+(kS b a).2)).bind λ(f,g,h,c)=>
 L (f,g,h,c))
 else
 none)
 else
 some e) n
def bZ(N:Nat)(a:(Int×Bs)):Option (Bs×Int):=
 (kU N a).bind λc1=>
 bif (!c1) then(
 some ([],8))
 else
 bif (a.1==12) then(
 (FA a.2).bind λi=>
 some (i,0))
 else
 bif (a.1==19) then(
 (eG N N (1,[],a.2,0)).bind λb=>
 some (b,0))
 else
 bif (a.1==20) then(
 (eG N N (1,[],a.2,0)).bind λc=>
 some (c,0))
 else
 bif (a.1==22) then(
 (eG N N (1,[],a.2,0)).bind λd=>
 some (d,0))
 else
 bif (a.1==26) then(
 (eG N N (1,[],a.2,0)).bind λe=>
 some (e,0))
 else
 bif (a.1==28) then(
 (eG N N (4,[],a.2,0)).bind λf=>
 some (f,0))
 else
 bif (a.1==30) then(
 (eG N N (2,[],a.2,0)).bind λg=>
 some (g,0))
 else
 (FA a.2).bind λh=>
 some (h,0)
end
end Go.Fw
namespace Go.Proofs.Tryz
open Go Go.Fw
def mixed:prog.follows .mixedOrders=true:=by kernel_rfl
noncomputable def hH:Tr TC:=(.node .nil 22 .byte .nil)
noncomputable def hO:Tr OH:=(.node .nil 22544389 (.val .byte) .nil)
def abn:prog.underlying 22=some (.slice 5):=by kernel_rfl
def noK:FuncId->List D->Option D:=λ_ _=>none
def eA(P:Program):KOk P noK:=λ_ _ _ h=>by cases h
set_option maxHeartbeats 1000000
def aeE{cs:List D}{n:Nat}{f:Bool}(a:cs.length=n*1)(o:cs.all D.isCell=true)(l:cW cs=true)(m:n*1<=cH):fh prog 67 [.list cs n f] (.list cs n (Nat.beq n 0)):=by
 have k:(D.list cs n f).pure=true:=by simp only[D.pure];exact l
 have p:∀b:Bool,n=0->cs=[]:=λb h=>by subst h;simpa using a
 refine abe (i:=0) tok func67 rfl rfl (by simp only[cW,k];rfl) ?_
 repeat first|refine gq ?_|refine eu ?_
 refine go1 tok (eA _) rfl rfl rfl ?_
 repeat first|refine gq ?_|refine eu ?_
 refine go1 tok (eA _) rfl rfl rfl ?_;refine Yw rfl rfl abn rfl rfl rfl (λb c=> ?_);by_cases g:n=0
 ·have e:=p true g;subst g e;cases b
  ·refine mE rfl (oU ?_)
   repeat first|refine gq ?_|refine eu ?_
   repeat refine go1 tok (eA _) rfl rfl rfl ?_
   exact pq (DB rfl rfl rfl)
  ·refine qw rfl ?_
   repeat first|refine gq ?_|refine eu ?_
   repeat refine go1 tok (eA _) rfl rfl rfl ?_
   exact pq (DB rfl rfl rfl)
 ·have d:b=false:=by
   cases b with
   |false=>rfl
   |true=>have:=c rfl;subst this;simp at a;omega
  subst d;have j:Nat.beq n 0=false:=by cases n with|zero=>exact absurd rfl g|succ=>rfl
  refine mE rfl (oU ?_)
  repeat first|refine gq ?_|refine eu ?_
  iterate 2 refine go1 tok (eA _) rfl rfl rfl ?_
  refine goA tok rfl (abG rfl rfl rfl (by omega) a o m (by omega)) rfl ?_
  repeat refine go1 tok (eA _) rfl rfl rfl ?_
  rw[j];exact pq (DB rfl (abH rfl a) (by simp only[D.pure];exact l))
def acB:fG prog 67 Np:=Xc (jr (f:=67) (fn:=f67) (by kernel_rfl)).2 aeE
def Vy:prog.underlying 22=some (.slice 5):=by kernel_rfl
def afZ:prog.underlying 3=some (.int .i64):=by kernel_rfl
def af0:BB prog 22 22=some (1,1):=by kernel_rfl
def af1:vX prog 22=some (1,1):=by kernel_rfl
set_option maxRecDepth 20000 in
def af2{n:Nat}(b:n<=cH):Pm prog 94 [.list [] 0 true,.int .i64 n] [] 0 1:=by
 have c:n<=1099511627776:=b;refine Q7 rfl rfl ?_;refine xi tok func94 rfl (ahV rfl) ?_
 repeat first|refine gq ?_|refine eu ?_
 refine go1 tok (eA _) rfl rfl rfl ?_
 repeat first|refine gq ?_|refine eu ?_
 refine go1 tok (eA _) rfl rfl rfl ?_;refine go1 tok (eA _) rfl rfl rfl ?_;rw[show decide ((n:Int)<0)=false from by simp];refine mE rfl (oU ?_)
 repeat first|refine gq ?_|refine eu ?_
 refine go1 tok (eA _) rfl rfl rfl ?_;refine go1 tok (eA _) rfl rfl rfl ?_;refine goP rfl (TA rfl Vy rfl) rfl ?_;refine go1 tok (eA _) rfl rfl rfl ?_;refine go1 tok (eA _) rfl rfl rfl ?_;refine go1 tok (eA _) rfl rfl rfl ?_;refine go1 (d:=.int .i64 n) tok (eA _) rfl (by
  show some (D.int .i64 (IntKind.i64.wrap ((n:Int)-0)),([]:Sto))=_;rw[Int.sub_zero,aij _ (by omega)]) rfl ?_
 refine go1 tok (eA _) rfl rfl rfl ?_
 repeat first|refine gq ?_|refine eu ?_
 refine go1 tok (eA _) rfl rfl rfl ?_;refine go1 (d:=.bool (decide ((n:Int)>0))) tok (eA _) rfl rfl rfl ?_;by_cases a:0<n
 ·rw[show decide ((n:Int)>0)=true from by simpa using a];refine qw rfl ?_
  repeat first|refine gq ?_|refine eu ?_
  refine go1 tok (eA _) rfl rfl rfl ?_;refine go1 tok (eA _) rfl rfl rfl ?_;refine goP rfl (TA rfl Vy rfl) rfl ?_;refine go1 tok (eA _) rfl rfl rfl ?_;refine go1 tok (eA _) rfl rfl rfl ?_;refine goP rfl (SP rfl af0 afZ rfl rfl a b (by omega)) rfl ?_;refine go1 tok (eA _) rfl rfl rfl ?_;refine go1 tok (eA _) rfl rfl rfl ?_;refine goP (d:=.sl 0 0 0 0 1 false) (σ':=[.cells [] 0 0]) (by rfl) ?_ (by rfl) ?_
  ·refine ZQ (t:=22) (e:=5) (x:=.tmp 22) (y:=.tmp 24) (l:=0) (u:=0) (n:=n) (sz:=1) (by':=1) ?_ Vy af1 ?_ ?_
   ·rfl
   ·rfl
   ·rfl
  refine go1 tok (eA _) rfl rfl rfl ?_
  repeat first|refine gq ?_|refine eu ?_
  refine go1 tok (eA _) rfl rfl rfl ?_;refine go1 tok (eA _) rfl rfl rfl ?_;exact pq ⟨.inr rfl,_,rfl,_,_,⟨0,0,rfl,rfl⟩,.refl _ _⟩
 ·have:n=0:=Nat.eq_zero_of_not_pos a;subst this;clear b c a;refine mE rfl (oU ?_)
  repeat first|refine gq ?_|refine eu ?_
  refine go1 tok (eA _) rfl rfl rfl ?_;refine go1 tok (eA _) rfl rfl rfl ?_;exact pq ⟨.inr rfl,_,rfl,.sl 0 0 0 0 1 false,[.cells [] 0 0],⟨0,0,rfl,rfl⟩,λB G w x f g=>⟨G,.refl G,f.newObj,Dj g⟩⟩
def aeF:rM prog 94 Rn:=ZR (jr (f:=94) (fn:=f94) (by kernel_rfl)).2 af2
noncomputable def Vz:D:=.cmap [.int .i64 0,.int .i64 9,.int .i64 14,.int .i64 15,.int .i64 17,.int .i64 18,.int .i64 19,.int .i64 20,.int .i64 21,.int .i64 24,.int .i64 27,.int .i64 28,.int .i64 29,.int .i64 30,.int .i64 31,.int .i64 32,.int .i64 33,.int .i64 35,.int .i64 36,.int .i64 37,.int .i64 46,.int .i64 54,.int .i64 101,.int .i64 111] [.agg [.str [],.str [111,112,97,113,117,101],.iface 283 (.agg [.func (.func 152) [] [],.func (.func 165) [] [],.func (.func 166) [] []])],.agg [.str [50,46,53,46,50,57,46,57],.str [83,117,98,106,101,99,116,68,105,114,101,99,116,111,114,121,65,116,116,114,105,98,117,116,101,115],.iface 301 (.agg [.func (.func 167) [] [],.func (.func 168) [] [],.func (.func 169) [] []])],.agg [.str [50,46,53,46,50,57,46,49,52],.str [83,117,98,106,101,99,116,75,101,121,73,100,101,110,116,105,102,105,101,114],.iface 283 (.agg [.func (.func 152) [] [],.func (.func 170) [] [],.func (.func 171) [] []])],.agg [.str [50,46,53,46,50,57,46,49,53],.str [75,101,121,85,115,97,103,101],.iface 304 (.agg [.func (.func 153) [] [],.func (.func 172) [] [],.func (.func 173) [] []])],.agg [.str [50,46,53,46,50,57,46,49,55],.str [83,117,98,106,101,99,116,65,108,116,78,97,109,101],.iface 280 (.agg [.func (.func 154) [] [],.func (.func 155) [] [],.func (.func 156) [] []])],.agg [.str [50,46,53,46,50,57,46,49,56],.str [73,115,115,117,101,114,65,108,116,78,97,109,101],.iface 280 (.agg [.func (.func 154) [] [],.func (.func 155) [] [],.func (.func 156) [] []])],.agg [.str [50,46,53,46,50,57,46,49,57],.str [66,97,115,105,99,67,111,110,115,116,114,97,105,110,116,115],.iface 310 (.agg [.func (.func 174) [] [],.func (.func 175) [] [],.func (.func 176) [] []])],.agg [.str [50,46,53,46,50,57,46,50,48],.str [67,82,76,78,117,109,98,101,114],.iface 283 (.agg [.func (.func 152) [] [],.func (.func 157) [] [],.func (.func 158) [] []])],.agg [.str [50,46,53,46,50,57,46,50,49],.str [67,82,76,82,101,97,115,111,110],.iface 304 (.agg [.func (.func 153) [] [],.func (.func 177) [] [],.func (.func 178) [] []])],.agg [.str [50,46,53,46,50,57,46,50,52],.str [73,110,118,97,108,105,100,105,116,121,68,97,116,101],.iface 314 (.agg [.func (.func 179) [] [],.func (.func 180) [] [],.func (.func 181) [] []])],.agg [.str [50,46,53,46,50,57,46,50,55],.str [66,97,115,101,67,82,76,78,117,109,98,101,114],.iface 283 (.agg [.func (.func 152) [] [],.func (.func 157) [] [],.func (.func 158) [] []])],.agg [.str [50,46,53,46,50,57,46,50,56],.str [73,115,115,117,105,110,103,68,105,115,116,114,105,98,117,116,105,111,110,80,111,105,110,116],.iface 320 (.agg [.func (.func 182) [] [],.func (.func 183) [] [],.func (.func 184) [] []])],.agg [.str [50,46,53,46,50,57,46,50,57],.str [67,101,114,116,105,102,105,99,97,116,101,73,115,115,117,101,114],.iface 280 (.agg [.func (.func 154) [] [],.func (.func 155) [] [],.func (.func 156) [] []])],.agg [.str [50,46,53,46,50,57,46,51,48],.str [78,97,109,101,67,111,110,115,116,114,97,105,110,116,115],.iface 326 (.agg [.func (.func 185) [] [],.func (.func 186) [] [],.func (.func 187) [] []])],.agg [.str [50,46,53,46,50,57,46,51,49],.str [67,82,76,68,105,115,116,114,105,98,117,116,105,111,110,80,111,105,110,116,115],.iface 289 (.agg [.func (.func 159) [] [],.func (.func 160) [] [],.func (.func 161) [] []])],.agg [.str [50,46,53,46,50,57,46,51,50],.str [67,101,114,116,105,102,105,99,97,116,101,80,111,108,105,99,105,101,115],.iface 332 (.agg [.func (.func 188) [] [],.func (.func 189) [] [],.func (.func 190) [] []])],.agg [.str [50,46,53,46,50,57,46,51,51],.str [80,111,108,105,99,121,77,97,112,112,105,110,103,115],.iface 338 (.agg [.func (.func 191) [] [],.func (.func 192) [] [],.func (.func 193) [] []])],.agg [.str [50,46,53,46,50,57,46,51,53],.str [65,117,116,104,111,114,105,116,121,75,101,121,73,100,101,110,116,105,102,105,101,114],.iface 344 (.agg [.func (.func 194) [] [],.func (.func 195) [] [],.func (.func 196) [] []])],.agg [.str [50,46,53,46,50,57,46,51,54],.str [80,111,108,105,99,121,67,111,110,115,116,114,97,105,110,116,115],.iface 350 (.agg [.func (.func 197) [] [],.func (.func 198) [] [],.func (.func 199) [] []])],.agg [.str [50,46,53,46,50,57,46,51,55],.str [69,120,116,75,101,121,85,115,97,103,101],.iface 356 (.agg [.func (.func 200) [] [],.func (.func 201) [] [],.func (.func 202) [] []])],.agg [.str [50,46,53,46,50,57,46,52,54],.str [70,114,101,115,104,101,115,116,67,82,76],.iface 289 (.agg [.func (.func 159) [] [],.func (.func 160) [] [],.func (.func 161) [] []])],.agg [.str [50,46,53,46,50,57,46,53,52],.str [73,110,104,105,98,105,116,65,110,121,80,111,108,105,99,121],.iface 304 (.agg [.func (.func 153) [] [],.func (.func 203) [] [],.func (.func 204) [] []])],.agg [.str [49,46,51,46,54,46,49,46,53,46,53,46,55,46,49,46,49],.str [65,117,116,104,111,114,105,116,121,73,110,102,111,65,99,99,101,115,115],.iface 295 (.agg [.func (.func 162) [] [],.func (.func 163) [] [],.func (.func 164) [] []])],.agg [.str [49,46,51,46,54,46,49,46,53,46,53,46,55,46,49,46,49,49],.str [83,117,98,106,101,99,116,73,110,102,111,65,99,99,101,115,115],.iface 295 (.agg [.func (.func 162) [] [],.func (.func 163) [] [],.func (.func 164) [] []])]]
noncomputable def Md:Ctr:=⟨[],.raw Vz,λ(_:Unit)=>some ()⟩
def VA:fG prog 135 Md:=HD (jr (f:=135) (fn:=f135) (by kernel_rfl)).2 (by kernel_rfl) (by kernel_rfl) (Cf (n:=20) tok (eA _) mixed rfl (by kernel_rfl) (by kernel_rfl) (by kernel_rfl))
noncomputable def VC:D:=.cmap [.int .i64 0,.int .i64 1,.int .i64 2,.int .i64 3,.int .i64 4,.int .i64 5,.int .i64 6,.int .i64 7,.int .i64 8] [.func (.func 346) [] [],.func (.func 347) [] [],.func (.func 347) [] [],.func (.func 348) [] [],.func (.func 349) [] [],.func (.func 350) [] [],.func (.func 347) [] [],.func (.func 348) [] [],.func (.func 351) [] []]
noncomputable def Me:Ctr:=⟨[],.raw VC,λ(_:Unit)=>some ()⟩
def VD:fG prog 297 Me:=HD (jr (f:=297) (fn:=f297) (by kernel_rfl)).2 (by kernel_rfl) (by kernel_rfl) (Cf (n:=20) tok (eA _) mixed rfl (by kernel_rfl) (by kernel_rfl) (by kernel_rfl))
noncomputable def VE:D:=.pmap [.int .i64 12,.int .i64 19,.int .i64 20,.int .i64 22,.int .i64 26,.int .i64 28,.int .i64 30] [.agg [.func (.func 382) [] [],.int .i64 0],.agg [.func (.func 378) [] [],.int .i64 1],.agg [.func (.func 381) [] [.rptr [.func (.func 390) [] [.rptr [.int .i32 32] 0,.rptr [.int .i32 126] 0]] 0],.int .i64 1],.agg [.func (.func 390) [] [.rptr [.int .i32 0] 0,.rptr [.int .i32 127] 0],.int .i64 1],.agg [.func (.func 390) [] [.rptr [.int .i32 32] 0,.rptr [.int .i32 126] 0],.int .i64 1],.agg [.func (.func 382) [] [],.int .i64 4],.agg [.func (.func 383) [] [],.int .i64 2]]
noncomputable def Fi:Ctr:=⟨[],.raw VE,λ(_:Unit)=>some ()⟩
def mA:fG prog 368 Fi:=HD (jr (f:=368) (fn:=f368) (by kernel_rfl)).2 (by kernel_rfl) (by kernel_rfl) Kg
noncomputable def yq:Ctr:=⟨[.hole (.int .i32)],.hole .bool,λ(x:Int)=>gR x⟩
noncomputable def Jg(L:List jl):Cx:=⟨prog,T,hH,hO,[(379,YX)],[],[],L,.nil⟩
def jE:fG prog 378 (yq):=AG (cx:=Jg []) tok mixed ⟨ahd,trivial⟩ trivial trivial trivial 378 _ (by kernel_rfl) (by kernel_rfl) (by intro x;kernel_rfl)
noncomputable def nV:Ctr:=⟨[.hole (.int .i32),.rc [.hole (.int .i32)] 0,.rc [.hole (.int .i32)] 0],.hole .bool,λ(x:Int×Int×Int)=>cU x.1 x.2.1 x.2.2⟩
noncomputable def Cm(L:List jl):Cx:=⟨prog,T,hH,hO,[],[],[],L,.nil⟩
def fY:fG prog 390 (nV):=AG (cx:=Cm []) tok mixed trivial trivial trivial trivial 390 _ (by kernel_rfl) (by kernel_rfl) (by intro x;kernel_rfl)
noncomputable def uM:Ctr:=⟨[.hole (.int .i32),.rc [.func (.func 390) [] [.rc [.hole (.int .i32)] 0,.rc [.hole (.int .i32)] 0]] 0],.hole .bool,λ(x:Int×Int×Int)=>fT x.1 x.2.1 x.2.2⟩
noncomputable def Fj(L:List jl):Cx:=⟨prog,T,hH,hO,[(390,nV)],[],[],L,.nil⟩
def ir:fG prog 381 (uM):=AG (cx:=Fj []) tok mixed ⟨fY,trivial⟩ trivial trivial trivial 381 _ (by kernel_rfl) (by kernel_rfl) (by intro x;kernel_rfl)
noncomputable def yr:Ctr:=⟨[.hole (.int .i32)],.hole .bool,λ(x:Int)=>gS x⟩
noncomputable def Jh(L:List jl):Cx:=⟨prog,T,hH,hO,[(382,UI)],[],[],L,.nil⟩
def jF:fG prog 383 (yr):=AG (cx:=Jh []) tok mixed ⟨Hs,trivial⟩ trivial trivial trivial 383 _ (by kernel_rfl) (by kernel_rfl) (by intro x;kernel_rfl)
noncomputable def BL(N:Nat):Ctr:=⟨[.hole (.pair (.int .i64) .str)],.hole .bool,λ(x:(Int×Bs))=>kU N x⟩
noncomputable def lZ(N:Nat)(L:List jl):Cx:=⟨prog,T,hH,hO,[(368,Fi),(377,Ex),(382,UI),(378,yq),(381,uM),(390,nV),(383,yr)],[],[],L,.nil⟩
noncomputable def xk:Pat:=⟨[(3,.ptr 1 0),(24,.ptr 2 0)],[.junk,.cells [.func (.func 382) [] [],.hole (.int .i64)] false,.it]⟩
noncomputable def xl:cI:=[(.ret,⟨[(2,.hole .bool)],[.junk,.junk,.junk]⟩),(.exit 0,⟨[],[.junk,.junk,.junk]⟩)]
noncomputable def kE(N n:Nat):jl:=⟨367,5,0,xk,xl,λx=>kC N n x⟩
def lR(N:Nat):∀n,LOk prog (kE N n):=sw (cx:=lZ N []) tok mixed ⟨mA,qM,Hs,jE,ir,fY,jF,trivial⟩ trivial trivial trivial 367 5 0 xk xl (λn x=>kC N n x) (by kernel_rfl) (by kernel_rfl) (λ_=>rfl) (by intro n x;kernel_rfl)
noncomputable def xm:Pat:=⟨[(3,.ptr 1 0),(24,.ptr 2 0)],[.junk,.cells [.func (.func 378) [] [],.hole (.int .i64)] false,.it]⟩
noncomputable def xn:cI:=[(.ret,⟨[(2,.hole .bool)],[.junk,.junk,.junk]⟩),(.exit 0,⟨[],[.junk,.junk,.junk]⟩)]
noncomputable def lS(N n:Nat):jl:=⟨367,5,0,xm,xn,λx=>lO N n x⟩
def nJ(N:Nat):∀n,LOk prog (lS N n):=sw (cx:=lZ N [kE N N]) tok mixed ⟨mA,qM,Hs,jE,ir,fY,jF,trivial⟩ trivial trivial ⟨lR N N,trivial⟩ 367 5 0 xm xn (λn x=>lO N n x) (by kernel_rfl) (by kernel_rfl) (λ_=>rfl) (by intro n x;kernel_rfl)
noncomputable def xo:Pat:=⟨[(3,.ptr 1 0),(24,.ptr 2 0)],[.junk,.cells [.func (.func 381) [] [.rc [.func (.func 390) [] [.rc [.hole (.int .i32)] 0,.rc [.hole (.int .i32)] 0]] 0],.hole (.int .i64)] false,.it]⟩
noncomputable def xp:cI:=[(.ret,⟨[(2,.hole .bool)],[.junk,.junk,.junk]⟩),(.exit 0,⟨[],[.junk,.junk,.junk]⟩)]
noncomputable def nK(N n:Nat):jl:=⟨367,5,0,xo,xp,λx=>lP N n x⟩
def qB(N:Nat):∀n,LOk prog (nK N n):=sw (cx:=lZ N [kE N N,lS N N]) tok mixed ⟨mA,qM,Hs,jE,ir,fY,jF,trivial⟩ trivial trivial ⟨lR N N,nJ N N,trivial⟩ 367 5 0 xo xp (λn x=>lP N n x) (by kernel_rfl) (by kernel_rfl) (λ_=>rfl) (by intro n x;kernel_rfl)
noncomputable def xq:Pat:=⟨[(3,.ptr 1 0),(24,.ptr 2 0)],[.junk,.cells [.func (.func 390) [] [.rc [.hole (.int .i32)] 0,.rc [.hole (.int .i32)] 0],.hole (.int .i64)] false,.it]⟩
noncomputable def xt:cI:=[(.ret,⟨[(2,.hole .bool)],[.junk,.junk,.junk]⟩),(.exit 0,⟨[],[.junk,.junk,.junk]⟩)]
noncomputable def qC(N n:Nat):jl:=⟨367,5,0,xq,xt,λx=>kD N n x⟩
def xu(N:Nat):∀n,LOk prog (qC N n):=sw (cx:=lZ N [kE N N,lS N N,nK N N]) tok mixed ⟨mA,qM,Hs,jE,ir,fY,jF,trivial⟩ trivial trivial ⟨lR N N,nJ N N,qB N N,trivial⟩ 367 5 0 xq xt (λn x=>kD N n x) (by kernel_rfl) (by kernel_rfl) (λ_=>rfl) (by intro n x;kernel_rfl)
noncomputable def xw:Pat:=⟨[(3,.ptr 1 0),(24,.ptr 2 0)],[.junk,.cells [.func (.func 383) [] [],.hole (.int .i64)] false,.it]⟩
noncomputable def xx:cI:=[(.ret,⟨[(2,.hole .bool)],[.junk,.junk,.junk]⟩),(.exit 0,⟨[],[.junk,.junk,.junk]⟩)]
noncomputable def xy(N n:Nat):jl:=⟨367,5,0,xw,xx,λx=>lQ N n x⟩
def HU(N:Nat):∀n,LOk prog (xy N n):=sw (cx:=lZ N [kE N N,lS N N,nK N N,qC N N]) tok mixed ⟨mA,qM,Hs,jE,ir,fY,jF,trivial⟩ trivial trivial ⟨lR N N,nJ N N,qB N N,xu N N,trivial⟩ 367 5 0 xw xx (λn x=>lQ N n x) (by kernel_rfl) (by kernel_rfl) (λ_=>rfl) (by intro n x;kernel_rfl)
def pQ(N:Nat):fG prog 367 (BL N):=AG (cx:=lZ N [kE N N,lS N N,nK N N,qC N N,xy N N]) tok mixed ⟨mA,qM,Hs,jE,ir,fY,jF,trivial⟩ trivial trivial ⟨lR N N,nJ N N,qB N N,xu N N,HU N N,trivial⟩ 367 _ (by kernel_rfl) (by kernel_rfl) (by intro x;kernel_rfl)
noncomputable def AI(N:Nat):Ctr:=⟨[.hole (.pair (.int .i64) .str)],.tup [.hole (.sl .byte),.hole (.int .i64)],λ(x:(Int×Bs))=>bZ N x⟩
noncomputable def sA(N:Nat)(L:List jl):Cx:=⟨prog,T,hH,hO,[(367,BL N),(368,Fi)],[],[],L,.nil⟩
noncomputable def vC:Pat:=⟨[(4,.hole (.int .i64)),(5,.own 1),(7,.hole (.int .i32)),(8,.hole (.int .i64)),(24,.ptr 2 0)],[.junk,.arr .byte false false,.it]⟩
noncomputable def vD:cI:=[(.exit 2,⟨[(4,.hole (.int .i64)),(5,.own 1),(24,.ptr 2 0)],[.junk,.arr .byte false false,.it]⟩)]
noncomputable def pH(N n:Nat):jl:=⟨344,11,0,vC,vD,λx=>jJ N n x⟩
def vG(N:Nat):∀n,LOk prog (pH N n):=sw (cx:=sA N []) tok mixed ⟨pQ N,mA,trivial⟩ trivial trivial trivial 344 11 0 vC vD (λn x=>jJ N n x) (by kernel_rfl) (by kernel_rfl) (λ_=>rfl) (by intro n x;kernel_rfl)
noncomputable def vH:Pat:=⟨[(4,.hole (.int .i64)),(5,.own 1),(24,.ptr 2 0)],[.junk,.arr .byte false false,.it]⟩
noncomputable def vI:cI:=[(.exit 0,⟨[(5,.own 1)],[.junk,.arr .byte false false,.junk]⟩)]
noncomputable def vJ(N n:Nat):jl:=⟨344,8,0,vH,vI,λx=>eG N n x⟩
def Gs(N:Nat):∀n,LOk prog (vJ N n):=sw (cx:=sA N [pH N N]) tok mixed ⟨pQ N,mA,trivial⟩ trivial trivial ⟨vG N N,trivial⟩ 344 8 0 vH vI (λn x=>eG N n x) (by kernel_rfl) (by kernel_rfl) (λ_=>rfl) (by intro n x;kernel_rfl)
def KA(N:Nat):fG prog 344 (AI N):=AG (cx:=sA N [pH N N,vJ N N]) tok mixed ⟨pQ N,mA,trivial⟩ trivial trivial ⟨vG N N,Gs N N,trivial⟩ 344 _ (by kernel_rfl) (by kernel_rfl) (by intro x;kernel_rfl)
end Go.Proofs.Tryz
