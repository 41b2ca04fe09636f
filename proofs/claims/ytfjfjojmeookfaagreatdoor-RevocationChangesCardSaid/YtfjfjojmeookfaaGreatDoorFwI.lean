/- A framework for proofs about Go programs in this model: part I. Everything is proved; no condition is added. -/
import Derived.Test.YtfjfjojmeookfaaGreatDoorFwH
set_option linter.unusedVariables false
set_option linter.unusedSimpArgs false
set_option linter.defProp false
namespace Go.Proofs.Tryz
open Go Go.Fw
def mixed:prog.follows .mixedOrders=true:=krq
noncomputable def hH:Tr TC:=(.node .nil 22 .byte .nil)
noncomputable def hO:Tr OH:=(.node .nil 23265285 (.val .byte) .nil)
def akp:prog.underlying 22=some (.slice 5):=krq
def noK:FuncId->List D->Option D:=λ_ _=>none
def bU(P:Program):KOk P noK:=λ_ _ _ h=>by cases h
set_option maxHeartbeats 1000000
def aiM{cs:List D}{n:Nat}{f:Bool}(a:cs.length=n*1)(o:cs.all D.isCell=true)(l:br cs=true)(m:n*1<=bj):cy prog 66 [.list cs n f] (.list cs n (Nat.beq n 0)):=by
 have k:(D.list cs n f).pure=true:=by simp only[D.pure];exact l
 have p:∀b:Bool,n=0->cs=[]:=λb h=>by subst h;simpa using a
 refine aeV (i:=0) tok func66 rfl rfl (by simp only[br,k];rfl) ?_
 repeat first|refine du ?_|refine bS ?_
 refine go1 tok (bU _) rfl rfl rfl ?_
 repeat first|refine du ?_|refine bS ?_
 refine go1 tok (bU _) rfl rfl rfl ?_;refine ab6 rfl rfl akp rfl rfl rfl (λb c=> ?_);by_cases g:n=0
 ·have e:=p true g;subst g e;cases b
  ·refine kg rfl (nJ ?_)
   repeat first|refine du ?_|refine bS ?_
   repeat refine go1 tok (bU _) rfl rfl rfl ?_
   exact oy (FM rfl rfl rfl)
  ·refine qg rfl ?_
   repeat first|refine du ?_|refine bS ?_
   repeat refine go1 tok (bU _) rfl rfl rfl ?_
   exact oy (FM rfl rfl rfl)
 ·have d:b=false:=by
   cases b with
   |false=>rfl
   |true=>have:=c rfl;subst this;simp at a;omega
  subst d;have j:Nat.beq n 0=false:=by cases n with|zero=>exact absurd rfl g|succ=>rfl
  refine kg rfl (nJ ?_)
  repeat first|refine du ?_|refine bS ?_
  iterate 2 refine go1 tok (bU _) rfl rfl rfl ?_
  refine goA tok rfl (afp rfl rfl rfl omq a o m omq) rfl ?_
  repeat refine go1 tok (bU _) rfl rfl rfl ?_
  rw[j];exact oy (FM rfl (afq rfl a) (by simp only[D.pure];exact l))
def agj:cI prog 66 Qv:=aaH (fD (f:=66) (fn:=f66) krq).2 aiM
def YU:prog.underlying 22=some (.slice 5):=krq
def akq:prog.underlying 3=some (.int .i64):=krq
def akr:DE prog 22 22=some (1,1):=krq
def aks:xF prog 22=some (1,1):=krq
set_option maxRecDepth 20000 in
def akt{n:Nat}(b:n<=bj):SB prog 90 [.list [] 0 true,.int .i64 n] [] 0 1:=by
 have c:n<=1099511627776:=b;refine J3 rfl rfl ?_;refine uj tok func90 rfl (amx rfl) ?_
 repeat first|refine du ?_|refine bS ?_
 refine go1 tok (bU _) rfl rfl rfl ?_
 repeat first|refine du ?_|refine bS ?_
 refine go1 tok (bU _) rfl rfl rfl ?_;refine go1 tok (bU _) rfl rfl rfl ?_;rw[show decide ((n:Int)<0)=false from by simp];refine kg rfl (nJ ?_)
 repeat first|refine du ?_|refine bS ?_
 refine go1 tok (bU _) rfl rfl rfl ?_;refine go1 tok (bU _) rfl rfl rfl ?_;refine goP rfl (WO rfl YU rfl) rfl ?_;refine go1 tok (bU _) rfl rfl rfl ?_;refine go1 tok (bU _) rfl rfl rfl ?_;refine go1 tok (bU _) rfl rfl rfl ?_;refine go1 (d:=.int .i64 n) tok (bU _) rfl (by
  show some (D.int .i64 (IntKind.i64.wrap ((n:Int)-0)),([]:Sto))=_;rw[Int.sub_zero,amU _ omq]) rfl ?_
 refine go1 tok (bU _) rfl rfl rfl ?_
 repeat first|refine du ?_|refine bS ?_
 refine go1 tok (bU _) rfl rfl rfl ?_;refine go1 (d:=.bool (decide ((n:Int)>0))) tok (bU _) rfl rfl rfl ?_;by_cases a:0<n
 ·rw[show decide ((n:Int)>0)=true from by simpa using a];refine qg rfl ?_
  repeat first|refine du ?_|refine bS ?_
  refine go1 tok (bU _) rfl rfl rfl ?_;refine go1 tok (bU _) rfl rfl rfl ?_;refine goP rfl (WO rfl YU rfl) rfl ?_;refine go1 tok (bU _) rfl rfl rfl ?_;refine go1 tok (bU _) rfl rfl rfl ?_;refine goP rfl (Wh rfl akr akq rfl rfl a b omq) rfl ?_;refine go1 tok (bU _) rfl rfl rfl ?_;refine go1 tok (bU _) rfl rfl rfl ?_;refine goP (d:=.sl 0 0 0 0 1 false) (σ':=[.cells [] 0 0]) (by rfl) ?_ (by rfl) ?_
  ·refine adk (t:=22) (e:=5) (x:=.tmp 22) (y:=.tmp 24) (l:=0) (u:=0) (n:=n) (sz:=1) (by':=1) ?_ YU aks ?_ ?_
   ·rfl
   ·rfl
   ·rfl
  refine go1 tok (bU _) rfl rfl rfl ?_
  repeat first|refine du ?_|refine bS ?_
  refine go1 tok (bU _) rfl rfl rfl ?_;refine go1 tok (bU _) rfl rfl rfl ?_;exact oy ⟨.inr rfl,_,rfl,_,_,⟨0,0,rfl,rfl⟩,.refl _ _⟩
 ·have:n=0:=Nat.eq_zero_of_not_pos a;subst this;clear b c a;refine kg rfl (nJ ?_)
  repeat first|refine du ?_|refine bS ?_
  refine go1 tok (bU _) rfl rfl rfl ?_;refine go1 tok (bU _) rfl rfl rfl ?_;exact oy ⟨.inr rfl,_,rfl,.sl 0 0 0 0 1 false,[.cells [] 0 0],⟨0,0,rfl,rfl⟩,λB G w x f g=>⟨G,.refl G,f.newObj,Ft g⟩⟩
def aiN:qi prog 90 UO:=adl (fD (f:=90) (fn:=f90) krq).2 akt
noncomputable def YV:D:=.cmap [.int .i64 0,.int .i64 9,.int .i64 14,.int .i64 15,.int .i64 17,.int .i64 18,.int .i64 19,.int .i64 20,.int .i64 21,.int .i64 24,.int .i64 27,.int .i64 28,.int .i64 29,.int .i64 30,.int .i64 31,.int .i64 32,.int .i64 33,.int .i64 35,.int .i64 36,.int .i64 37,.int .i64 46,.int .i64 54,.int .i64 101,.int .i64 111] [.agg [.str [],.str [111,112,97,113,117,101],.iface 301 (.agg [.func (.func 171) [] [],.func (.func 184) [] [],.func (.func 185) [] []])],.agg [.str [50,46,53,46,50,57,46,57],.str [83,117,98,106,101,99,116,68,105,114,101,99,116,111,114,121,65,116,116,114,105,98,117,116,101,115],.iface 319 (.agg [.func (.func 186) [] [],.func (.func 187) [] [],.func (.func 188) [] []])],.agg [.str [50,46,53,46,50,57,46,49,52],.str [83,117,98,106,101,99,116,75,101,121,73,100,101,110,116,105,102,105,101,114],.iface 301 (.agg [.func (.func 171) [] [],.func (.func 189) [] [],.func (.func 190) [] []])],.agg [.str [50,46,53,46,50,57,46,49,53],.str [75,101,121,85,115,97,103,101],.iface 321 (.agg [.func (.func 172) [] [],.func (.func 191) [] [],.func (.func 192) [] []])],.agg [.str [50,46,53,46,50,57,46,49,55],.str [83,117,98,106,101,99,116,65,108,116,78,97,109,101],.iface 299 (.agg [.func (.func 173) [] [],.func (.func 174) [] [],.func (.func 175) [] []])],.agg [.str [50,46,53,46,50,57,46,49,56],.str [73,115,115,117,101,114,65,108,116,78,97,109,101],.iface 299 (.agg [.func (.func 173) [] [],.func (.func 174) [] [],.func (.func 175) [] []])],.agg [.str [50,46,53,46,50,57,46,49,57],.str [66,97,115,105,99,67,111,110,115,116,114,97,105,110,116,115],.iface 327 (.agg [.func (.func 193) [] [],.func (.func 194) [] [],.func (.func 195) [] []])],.agg [.str [50,46,53,46,50,57,46,50,48],.str [67,82,76,78,117,109,98,101,114],.iface 301 (.agg [.func (.func 171) [] [],.func (.func 176) [] [],.func (.func 177) [] []])],.agg [.str [50,46,53,46,50,57,46,50,49],.str [67,82,76,82,101,97,115,111,110],.iface 321 (.agg [.func (.func 172) [] [],.func (.func 196) [] [],.func (.func 197) [] []])],.agg [.str [50,46,53,46,50,57,46,50,52],.str [73,110,118,97,108,105,100,105,116,121,68,97,116,101],.iface 331 (.agg [.func (.func 198) [] [],.func (.func 199) [] [],.func (.func 200) [] []])],.agg [.str [50,46,53,46,50,57,46,50,55],.str [66,97,115,101,67,82,76,78,117,109,98,101,114],.iface 301 (.agg [.func (.func 171) [] [],.func (.func 176) [] [],.func (.func 177) [] []])],.agg [.str [50,46,53,46,50,57,46,50,56],.str [73,115,115,117,105,110,103,68,105,115,116,114,105,98,117,116,105,111,110,80,111,105,110,116],.iface 337 (.agg [.func (.func 201) [] [],.func (.func 202) [] [],.func (.func 203) [] []])],.agg [.str [50,46,53,46,50,57,46,50,57],.str [67,101,114,116,105,102,105,99,97,116,101,73,115,115,117,101,114],.iface 299 (.agg [.func (.func 173) [] [],.func (.func 174) [] [],.func (.func 175) [] []])],.agg [.str [50,46,53,46,50,57,46,51,48],.str [78,97,109,101,67,111,110,115,116,114,97,105,110,116,115],.iface 343 (.agg [.func (.func 204) [] [],.func (.func 205) [] [],.func (.func 206) [] []])],.agg [.str [50,46,53,46,50,57,46,51,49],.str [67,82,76,68,105,115,116,114,105,98,117,116,105,111,110,80,111,105,110,116,115],.iface 307 (.agg [.func (.func 178) [] [],.func (.func 179) [] [],.func (.func 180) [] []])],.agg [.str [50,46,53,46,50,57,46,51,50],.str [67,101,114,116,105,102,105,99,97,116,101,80,111,108,105,99,105,101,115],.iface 349 (.agg [.func (.func 207) [] [],.func (.func 208) [] [],.func (.func 209) [] []])],.agg [.str [50,46,53,46,50,57,46,51,51],.str [80,111,108,105,99,121,77,97,112,112,105,110,103,115],.iface 355 (.agg [.func (.func 210) [] [],.func (.func 211) [] [],.func (.func 212) [] []])],.agg [.str [50,46,53,46,50,57,46,51,53],.str [65,117,116,104,111,114,105,116,121,75,101,121,73,100,101,110,116,105,102,105,101,114],.iface 361 (.agg [.func (.func 213) [] [],.func (.func 214) [] [],.func (.func 215) [] []])],.agg [.str [50,46,53,46,50,57,46,51,54],.str [80,111,108,105,99,121,67,111,110,115,116,114,97,105,110,116,115],.iface 367 (.agg [.func (.func 216) [] [],.func (.func 217) [] [],.func (.func 218) [] []])],.agg [.str [50,46,53,46,50,57,46,51,55],.str [69,120,116,75,101,121,85,115,97,103,101],.iface 373 (.agg [.func (.func 219) [] [],.func (.func 220) [] [],.func (.func 221) [] []])],.agg [.str [50,46,53,46,50,57,46,52,54],.str [70,114,101,115,104,101,115,116,67,82,76],.iface 307 (.agg [.func (.func 178) [] [],.func (.func 179) [] [],.func (.func 180) [] []])],.agg [.str [50,46,53,46,50,57,46,53,52],.str [73,110,104,105,98,105,116,65,110,121,80,111,108,105,99,121],.iface 321 (.agg [.func (.func 172) [] [],.func (.func 222) [] [],.func (.func 223) [] []])],.agg [.str [49,46,51,46,54,46,49,46,53,46,53,46,55,46,49,46,49],.str [65,117,116,104,111,114,105,116,121,73,110,102,111,65,99,99,101,115,115],.iface 313 (.agg [.func (.func 181) [] [],.func (.func 182) [] [],.func (.func 183) [] []])],.agg [.str [49,46,51,46,54,46,49,46,53,46,53,46,55,46,49,46,49,49],.str [83,117,98,106,101,99,116,73,110,102,111,65,99,99,101,115,115],.iface 313 (.agg [.func (.func 181) [] [],.func (.func 182) [] [],.func (.func 183) [] []])]]
noncomputable def Pa:Ctr:=⟨[],.raw YV,λ(_:Unit)=>some ()⟩
def YW:cI prog 157 Pa:=Ka (fD (f:=157) (fn:=f157) krq).2 krq krq (Ei (n:=20) tok (bU _) mixed rfl krq krq krq)
noncomputable def YX:D:=.cmap [.int .i64 0,.int .i64 1,.int .i64 2,.int .i64 3,.int .i64 4,.int .i64 5,.int .i64 6,.int .i64 7,.int .i64 8] [.func (.func 357) [] [],.func (.func 358) [] [],.func (.func 358) [] [],.func (.func 359) [] [],.func (.func 360) [] [],.func (.func 361) [] [],.func (.func 358) [] [],.func (.func 359) [] [],.func (.func 362) [] []]
noncomputable def Pb:Ctr:=⟨[],.raw YX,λ(_:Unit)=>some ()⟩
def YY:cI prog 311 Pb:=Ka (fD (f:=311) (fn:=f311) krq).2 krq krq (Ei (n:=20) tok (bU _) mixed rfl krq krq krq)
noncomputable def YZ:D:=.pmap [.int .i64 12,.int .i64 19,.int .i64 20,.int .i64 22,.int .i64 26,.int .i64 28,.int .i64 30] [.agg [.func (.func 387) [] [],.int .i64 0],.agg [.func (.func 383) [] [],.int .i64 1],.agg [.func (.func 386) [] [.rptr [.func (.func 395) [] [.rptr [.int .i32 32] 0,.rptr [.int .i32 126] 0]] 0],.int .i64 1],.agg [.func (.func 395) [] [.rptr [.int .i32 0] 0,.rptr [.int .i32 127] 0],.int .i64 1],.agg [.func (.func 395) [] [.rptr [.int .i32 32] 0,.rptr [.int .i32 126] 0],.int .i64 1],.agg [.func (.func 387) [] [],.int .i64 4],.agg [.func (.func 388) [] [],.int .i64 2]]
noncomputable def HD:Ctr:=⟨[],.raw YZ,λ(_:Unit)=>some ()⟩
def jY:cI prog 376 HD:=Ka (fD (f:=376) (fn:=f376) krq).2 krq krq Nh
noncomputable def Av:Ctr:=⟨[.hole (.int .i32)],.hole .bool,λ(x:Int)=>dZ x⟩
noncomputable def L9(L:List fN):Cx:=⟨prog,T,hH,hO,[(384,acB)],[],[],L,.nil⟩
def ge:cI prog 383 (Av):=CD (cx:=L9 []) tok mixed ⟨alM,trivial⟩ trivial trivial trivial 383 _ krq krq (by intro x;kernel_rfl)
noncomputable def mn:Ctr:=⟨[.hole (.int .i32),.rc [.hole (.int .i32)] 0,.rc [.hole (.int .i32)] 0],.hole .bool,λ(x:Int×Int×Int)=>bp x.1 x.2.1 x.2.2⟩
noncomputable def Ep(L:List fN):Cx:=⟨prog,T,hH,hO,[],[],[],L,.nil⟩
def cT:cI prog 395 (mn):=CD (cx:=Ep []) tok mixed trivial trivial trivial trivial 395 _ krq krq (by intro x;kernel_rfl)
noncomputable def wh:Ctr:=⟨[.hole (.int .i32),.rc [.func (.func 395) [] [.rc [.hole (.int .i32)] 0,.rc [.hole (.int .i32)] 0]] 0],.hole .bool,λ(x:Int×Int×Int)=>cP x.1 x.2.1 x.2.2⟩
noncomputable def HE(L:List fN):Cx:=⟨prog,T,hH,hO,[(395,mn)],[],[],L,.nil⟩
def eS:cI prog 386 (wh):=CD (cx:=HE []) tok mixed ⟨cT,trivial⟩ trivial trivial trivial 386 _ krq krq (by intro x;kernel_rfl)
noncomputable def Aw:Ctr:=⟨[.hole (.int .i32)],.hole .bool,λ(x:Int)=>ec x⟩
noncomputable def Ma(L:List fN):Cx:=⟨prog,T,hH,hO,[(387,X5)],[],[],L,.nil⟩
def gg:cI prog 388 (Aw):=CD (cx:=Ma []) tok mixed ⟨JZ,trivial⟩ trivial trivial trivial 388 _ krq krq (by intro x;kernel_rfl)
noncomputable def DP(N:Nat):Ctr:=⟨[.hole (.pair (.int .i64) .str)],.hole .bool,λ(x:(Int×Bs))=>iE N x⟩
noncomputable def js(N:Nat)(L:List fN):Cx:=⟨prog,T,hH,hO,[(376,HD),(382,GS),(387,X5),(383,Av),(386,wh),(395,mn),(388,Aw)],[],[],L,.nil⟩
noncomputable def yY:Pat:=⟨[(3,.ptr 1 0),(24,.ptr 2 0)],[.junk,.cells [.func (.func 387) [] [],.hole (.int .i64)] false,.it]⟩
noncomputable def yZ:bh:=[(.ret,⟨[(2,.hole .bool)],[.junk,.junk,.junk]⟩),(.exit 0,⟨[],[.junk,.junk,.junk]⟩)]
noncomputable def gY(N n:Nat):fN:=⟨375,5,0,yY,yZ,λx=>gW N n x⟩
def jk(N:Nat):∀n,LOk prog (gY N n):=ti (cx:=js N []) tok mixed ⟨jY,qD,JZ,ge,eS,cT,gg,trivial⟩ trivial trivial trivial 375 5 0 yY yZ (λn x=>gW N n x) krq krq (λ_=>rfl) (by intro n x;kernel_rfl)
noncomputable def za:Pat:=⟨[(3,.ptr 1 0),(24,.ptr 2 0)],[.junk,.cells [.func (.func 383) [] [],.hole (.int .i64)] false,.it]⟩
noncomputable def zb:bh:=[(.ret,⟨[(2,.hole .bool)],[.junk,.junk,.junk]⟩),(.exit 0,⟨[],[.junk,.junk,.junk]⟩)]
noncomputable def jl(N n:Nat):fN:=⟨375,5,0,za,zb,λx=>jh N n x⟩
def lR(N:Nat):∀n,LOk prog (jl N n):=ti (cx:=js N [gY N N]) tok mixed ⟨jY,qD,JZ,ge,eS,cT,gg,trivial⟩ trivial trivial ⟨jk N N,trivial⟩ 375 5 0 za zb (λn x=>jh N n x) krq krq (λ_=>rfl) (by intro n x;kernel_rfl)
noncomputable def zc:Pat:=⟨[(3,.ptr 1 0),(24,.ptr 2 0)],[.junk,.cells [.func (.func 386) [] [.rc [.func (.func 395) [] [.rc [.hole (.int .i32)] 0,.rc [.hole (.int .i32)] 0]] 0],.hole (.int .i64)] false,.it]⟩
noncomputable def zd:bh:=[(.ret,⟨[(2,.hole .bool)],[.junk,.junk,.junk]⟩),(.exit 0,⟨[],[.junk,.junk,.junk]⟩)]
noncomputable def lS(N n:Nat):fN:=⟨375,5,0,zc,zd,λx=>ji N n x⟩
def qm(N:Nat):∀n,LOk prog (lS N n):=ti (cx:=js N [gY N N,jl N N]) tok mixed ⟨jY,qD,JZ,ge,eS,cT,gg,trivial⟩ trivial trivial ⟨jk N N,lR N N,trivial⟩ 375 5 0 zc zd (λn x=>ji N n x) krq krq (λ_=>rfl) (by intro n x;kernel_rfl)
noncomputable def ze:Pat:=⟨[(3,.ptr 1 0),(24,.ptr 2 0)],[.junk,.cells [.func (.func 395) [] [.rc [.hole (.int .i32)] 0,.rc [.hole (.int .i32)] 0],.hole (.int .i64)] false,.it]⟩
noncomputable def zf:bh:=[(.ret,⟨[(2,.hole .bool)],[.junk,.junk,.junk]⟩),(.exit 0,⟨[],[.junk,.junk,.junk]⟩)]
noncomputable def qn(N n:Nat):fN:=⟨375,5,0,ze,zf,λx=>gX N n x⟩
def zg(N:Nat):∀n,LOk prog (qn N n):=ti (cx:=js N [gY N N,jl N N,lS N N]) tok mixed ⟨jY,qD,JZ,ge,eS,cT,gg,trivial⟩ trivial trivial ⟨jk N N,lR N N,qm N N,trivial⟩ 375 5 0 ze zf (λn x=>gX N n x) krq krq (λ_=>rfl) (by intro n x;kernel_rfl)
noncomputable def zh:Pat:=⟨[(3,.ptr 1 0),(24,.ptr 2 0)],[.junk,.cells [.func (.func 388) [] [],.hole (.int .i64)] false,.it]⟩
noncomputable def zi:bh:=[(.ret,⟨[(2,.hole .bool)],[.junk,.junk,.junk]⟩),(.exit 0,⟨[],[.junk,.junk,.junk]⟩)]
noncomputable def zj(N n:Nat):fN:=⟨375,5,0,zh,zi,λx=>jj N n x⟩
def Kl(N:Nat):∀n,LOk prog (zj N n):=ti (cx:=js N [gY N N,jl N N,lS N N,qn N N]) tok mixed ⟨jY,qD,JZ,ge,eS,cT,gg,trivial⟩ trivial trivial ⟨jk N N,lR N N,qm N N,zg N N,trivial⟩ 375 5 0 zh zi (λn x=>jj N n x) krq krq (λ_=>rfl) (by intro n x;kernel_rfl)
def pm(N:Nat):cI prog 375 (DP N):=CD (cx:=js N [gY N N,jl N N,lS N N,qn N N,zj N N]) tok mixed ⟨jY,qD,JZ,ge,eS,cT,gg,trivial⟩ trivial trivial ⟨jk N N,lR N N,qm N N,zg N N,Kl N N,trivial⟩ 375 _ krq krq (by intro x;kernel_rfl)
noncomputable def CF(N:Nat):Ctr:=⟨[.hole (.pair (.int .i64) .str)],.tup [.hole (.sl .byte),.hole (.int .i64)],λ(x:(Int×Bs))=>aV N x⟩
noncomputable def tk(N:Nat)(L:List fN):Cx:=⟨prog,T,hH,hO,[(375,DP N),(376,HD)],[],[],L,.nil⟩
noncomputable def xc:Pat:=⟨[(4,.hole (.int .i64)),(5,.own 1),(7,.hole (.int .i32)),(8,.hole (.int .i64)),(24,.ptr 2 0)],[.junk,.arr .byte false false,.it]⟩
noncomputable def xd:bh:=[(.exit 2,⟨[(4,.hole (.int .i64)),(5,.own 1),(24,.ptr 2 0)],[.junk,.arr .byte false false,.it]⟩)]
noncomputable def oS(N n:Nat):fN:=⟨355,11,0,xc,xd,λx=>gq N n x⟩
def xe(N:Nat):∀n,LOk prog (oS N n):=ti (cx:=tk N []) tok mixed ⟨pm N,jY,trivial⟩ trivial trivial trivial 355 11 0 xc xd (λn x=>gq N n x) krq krq (λ_=>rfl) (by intro n x;kernel_rfl)
noncomputable def xf:Pat:=⟨[(4,.hole (.int .i64)),(5,.own 1),(24,.ptr 2 0)],[.junk,.arr .byte false false,.it]⟩
noncomputable def xg:bh:=[(.exit 0,⟨[(5,.own 1)],[.junk,.arr .byte false false,.junk]⟩)]
noncomputable def xh(N n:Nat):fN:=⟨355,8,0,xf,xg,λx=>bY N n x⟩
def IW(N:Nat):∀n,LOk prog (xh N n):=ti (cx:=tk N [oS N N]) tok mixed ⟨pm N,jY,trivial⟩ trivial trivial ⟨xe N N,trivial⟩ 355 8 0 xf xg (λn x=>bY N n x) krq krq (λ_=>rfl) (by intro n x;kernel_rfl)
def Nz(N:Nat):cI prog 355 (CF N):=CD (cx:=tk N [oS N N,xh N N]) tok mixed ⟨pm N,jY,trivial⟩ trivial trivial ⟨xe N N,IW N N,trivial⟩ 355 _ krq krq (by intro x;kernel_rfl)
end Go.Proofs.Tryz
