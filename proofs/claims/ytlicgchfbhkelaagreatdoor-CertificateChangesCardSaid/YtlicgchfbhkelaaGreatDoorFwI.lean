/- A framework for proofs about Go programs in this model: part I. Everything is proved; no condition is added. -/
import Derived.Test.YtlicgchfbhkelaaGreatDoorFwH
set_option linter.unusedVariables false
set_option linter.unusedSimpArgs false
set_option linter.defProp false
namespace Go.Proofs.Tryz
open Go Go.Fw
def mixed:prog.follows .mixedOrders=true:=krq
noncomputable def hH:Tr TC:=(.node .nil 22 .byte .nil)
noncomputable def hO:Tr OH:=(.node .nil 22544389 (.val .byte) .nil)
def aja:prog.underlying 22=some (.slice 5):=krq
def noK:FuncId->List D->Option D:=λ_ _=>none
def bL(P:Program):KOk P noK:=λ_ _ _ h=>by cases h
set_option maxHeartbeats 1000000
def ahA{cs:List D}{n:Nat}{f:Bool}(a:cs.length=n*1)(o:cs.all D.isCell=true)(l:bo cs=true)(m:n*1<=ba):cq prog 67 [.list cs n f] (.list cs n (Nat.beq n 0)):=by
 have k:(D.list cs n f).pure=true:=by simp only[D.pure];exact l
 have p:∀b:Bool,n=0->cs=[]:=λb h=>by subst h;simpa using a
 refine adP (i:=0) tok func67 rfl rfl (by simp only[bo,k];rfl) ?_
 repeat first|refine cV ?_|refine bJ ?_
 refine go1 tok (bL _) rfl rfl rfl ?_
 repeat first|refine cV ?_|refine bJ ?_
 refine go1 tok (bL _) rfl rfl rfl ?_;refine aa6 rfl rfl aja rfl rfl rfl (λb c=> ?_);by_cases g:n=0
 ·have e:=p true g;subst g e;cases b
  ·refine jU rfl (nq ?_)
   repeat first|refine cV ?_|refine bJ ?_
   repeat refine go1 tok (bL _) rfl rfl rfl ?_
   exact nT (ES rfl rfl rfl)
  ·refine pJ rfl ?_
   repeat first|refine cV ?_|refine bJ ?_
   repeat refine go1 tok (bL _) rfl rfl rfl ?_
   exact nT (ES rfl rfl rfl)
 ·have d:b=false:=by
   cases b with
   |false=>rfl
   |true=>have:=c rfl;subst this;simp at a;omega
  subst d;have j:Nat.beq n 0=false:=by cases n with|zero=>exact absurd rfl g|succ=>rfl
  refine jU rfl (nq ?_)
  repeat first|refine cV ?_|refine bJ ?_
  iterate 2 refine go1 tok (bL _) rfl rfl rfl ?_
  refine goA tok rfl (aer rfl rfl rfl omq a o m omq) rfl ?_
  repeat refine go1 tok (bL _) rfl rfl rfl ?_
  rw[j];exact nT (ES rfl (aes rfl a) (by simp only[D.pure];exact l))
def afk:cD prog 67 Pe:=Zv (eY (f:=67) (fn:=f67) krq).2 ahA
def XL:prog.underlying 22=some (.slice 5):=krq
def ajb:prog.underlying 3=some (.int .i64):=krq
def ajc:CG prog 22 22=some (1,1):=krq
def ajd:wO prog 22=some (1,1):=krq
set_option maxRecDepth 20000 in
def aje{n:Nat}(b:n<=ba):Ro prog 94 [.list [] 0 true,.int .i64 n] [] 0 1:=by
 have c:n<=1099511627776:=b;refine I8 rfl rfl ?_;refine tn tok func94 rfl (alb rfl) ?_
 repeat first|refine cV ?_|refine bJ ?_
 refine go1 tok (bL _) rfl rfl rfl ?_
 repeat first|refine cV ?_|refine bJ ?_
 refine go1 tok (bL _) rfl rfl rfl ?_;refine go1 tok (bL _) rfl rfl rfl ?_;rw[show decide ((n:Int)<0)=false from by simp];refine jU rfl (nq ?_)
 repeat first|refine cV ?_|refine bJ ?_
 refine go1 tok (bL _) rfl rfl rfl ?_;refine go1 tok (bL _) rfl rfl rfl ?_;refine goP rfl (VD rfl XL rfl) rfl ?_;refine go1 tok (bL _) rfl rfl rfl ?_;refine go1 tok (bL _) rfl rfl rfl ?_;refine go1 tok (bL _) rfl rfl rfl ?_;refine go1 (d:=.int .i64 n) tok (bL _) rfl (by
  show some (D.int .i64 (IntKind.i64.wrap ((n:Int)-0)),([]:Sto))=_;rw[Int.sub_zero,alA _ omq]) rfl ?_
 refine go1 tok (bL _) rfl rfl rfl ?_
 repeat first|refine cV ?_|refine bJ ?_
 refine go1 tok (bL _) rfl rfl rfl ?_;refine go1 (d:=.bool (decide ((n:Int)>0))) tok (bL _) rfl rfl rfl ?_;by_cases a:0<n
 ·rw[show decide ((n:Int)>0)=true from by simpa using a];refine pJ rfl ?_
  repeat first|refine cV ?_|refine bJ ?_
  refine go1 tok (bL _) rfl rfl rfl ?_;refine go1 tok (bL _) rfl rfl rfl ?_;refine goP rfl (VD rfl XL rfl) rfl ?_;refine go1 tok (bL _) rfl rfl rfl ?_;refine go1 tok (bL _) rfl rfl rfl ?_;refine goP rfl (U6 rfl ajc ajb rfl rfl a b omq) rfl ?_;refine go1 tok (bL _) rfl rfl rfl ?_;refine go1 tok (bL _) rfl rfl rfl ?_;refine goP (d:=.sl 0 0 0 0 1 false) (σ':=[.cells [] 0 0]) (by rfl) ?_ (by rfl) ?_
  ·refine acg (t:=22) (e:=5) (x:=.tmp 22) (y:=.tmp 24) (l:=0) (u:=0) (n:=n) (sz:=1) (by':=1) ?_ XL ajd ?_ ?_
   ·rfl
   ·rfl
   ·rfl
  refine go1 tok (bL _) rfl rfl rfl ?_
  repeat first|refine cV ?_|refine bJ ?_
  refine go1 tok (bL _) rfl rfl rfl ?_;refine go1 tok (bL _) rfl rfl rfl ?_;exact nT ⟨.inr rfl,_,rfl,_,_,⟨0,0,rfl,rfl⟩,.refl _ _⟩
 ·have:n=0:=Nat.eq_zero_of_not_pos a;subst this;clear b c a;refine jU rfl (nq ?_)
  repeat first|refine cV ?_|refine bJ ?_
  refine go1 tok (bL _) rfl rfl rfl ?_;refine go1 tok (bL _) rfl rfl rfl ?_;exact nT ⟨.inr rfl,_,rfl,.sl 0 0 0 0 1 false,[.cells [] 0 0],⟨0,0,rfl,rfl⟩,λB G w x f g=>⟨G,.refl G,f.newObj,Ew g⟩⟩
def ahB:pL prog 94 TH:=ach (eY (f:=94) (fn:=f94) krq).2 aje
noncomputable def XM:D:=.cmap [.int .i64 0,.int .i64 9,.int .i64 14,.int .i64 15,.int .i64 17,.int .i64 18,.int .i64 19,.int .i64 20,.int .i64 21,.int .i64 24,.int .i64 27,.int .i64 28,.int .i64 29,.int .i64 30,.int .i64 31,.int .i64 32,.int .i64 33,.int .i64 35,.int .i64 36,.int .i64 37,.int .i64 46,.int .i64 54,.int .i64 101,.int .i64 111] [.agg [.str [],.str [111,112,97,113,117,101],.iface 283 (.agg [.func (.func 152) [] [],.func (.func 165) [] [],.func (.func 166) [] []])],.agg [.str [50,46,53,46,50,57,46,57],.str [83,117,98,106,101,99,116,68,105,114,101,99,116,111,114,121,65,116,116,114,105,98,117,116,101,115],.iface 301 (.agg [.func (.func 167) [] [],.func (.func 168) [] [],.func (.func 169) [] []])],.agg [.str [50,46,53,46,50,57,46,49,52],.str [83,117,98,106,101,99,116,75,101,121,73,100,101,110,116,105,102,105,101,114],.iface 283 (.agg [.func (.func 152) [] [],.func (.func 170) [] [],.func (.func 171) [] []])],.agg [.str [50,46,53,46,50,57,46,49,53],.str [75,101,121,85,115,97,103,101],.iface 304 (.agg [.func (.func 153) [] [],.func (.func 172) [] [],.func (.func 173) [] []])],.agg [.str [50,46,53,46,50,57,46,49,55],.str [83,117,98,106,101,99,116,65,108,116,78,97,109,101],.iface 280 (.agg [.func (.func 154) [] [],.func (.func 155) [] [],.func (.func 156) [] []])],.agg [.str [50,46,53,46,50,57,46,49,56],.str [73,115,115,117,101,114,65,108,116,78,97,109,101],.iface 280 (.agg [.func (.func 154) [] [],.func (.func 155) [] [],.func (.func 156) [] []])],.agg [.str [50,46,53,46,50,57,46,49,57],.str [66,97,115,105,99,67,111,110,115,116,114,97,105,110,116,115],.iface 310 (.agg [.func (.func 174) [] [],.func (.func 175) [] [],.func (.func 176) [] []])],.agg [.str [50,46,53,46,50,57,46,50,48],.str [67,82,76,78,117,109,98,101,114],.iface 283 (.agg [.func (.func 152) [] [],.func (.func 157) [] [],.func (.func 158) [] []])],.agg [.str [50,46,53,46,50,57,46,50,49],.str [67,82,76,82,101,97,115,111,110],.iface 304 (.agg [.func (.func 153) [] [],.func (.func 177) [] [],.func (.func 178) [] []])],.agg [.str [50,46,53,46,50,57,46,50,52],.str [73,110,118,97,108,105,100,105,116,121,68,97,116,101],.iface 314 (.agg [.func (.func 179) [] [],.func (.func 180) [] [],.func (.func 181) [] []])],.agg [.str [50,46,53,46,50,57,46,50,55],.str [66,97,115,101,67,82,76,78,117,109,98,101,114],.iface 283 (.agg [.func (.func 152) [] [],.func (.func 157) [] [],.func (.func 158) [] []])],.agg [.str [50,46,53,46,50,57,46,50,56],.str [73,115,115,117,105,110,103,68,105,115,116,114,105,98,117,116,105,111,110,80,111,105,110,116],.iface 320 (.agg [.func (.func 182) [] [],.func (.func 183) [] [],.func (.func 184) [] []])],.agg [.str [50,46,53,46,50,57,46,50,57],.str [67,101,114,116,105,102,105,99,97,116,101,73,115,115,117,101,114],.iface 280 (.agg [.func (.func 154) [] [],.func (.func 155) [] [],.func (.func 156) [] []])],.agg [.str [50,46,53,46,50,57,46,51,48],.str [78,97,109,101,67,111,110,115,116,114,97,105,110,116,115],.iface 326 (.agg [.func (.func 185) [] [],.func (.func 186) [] [],.func (.func 187) [] []])],.agg [.str [50,46,53,46,50,57,46,51,49],.str [67,82,76,68,105,115,116,114,105,98,117,116,105,111,110,80,111,105,110,116,115],.iface 289 (.agg [.func (.func 159) [] [],.func (.func 160) [] [],.func (.func 161) [] []])],.agg [.str [50,46,53,46,50,57,46,51,50],.str [67,101,114,116,105,102,105,99,97,116,101,80,111,108,105,99,105,101,115],.iface 332 (.agg [.func (.func 188) [] [],.func (.func 189) [] [],.func (.func 190) [] []])],.agg [.str [50,46,53,46,50,57,46,51,51],.str [80,111,108,105,99,121,77,97,112,112,105,110,103,115],.iface 338 (.agg [.func (.func 191) [] [],.func (.func 192) [] [],.func (.func 193) [] []])],.agg [.str [50,46,53,46,50,57,46,51,53],.str [65,117,116,104,111,114,105,116,121,75,101,121,73,100,101,110,116,105,102,105,101,114],.iface 344 (.agg [.func (.func 194) [] [],.func (.func 195) [] [],.func (.func 196) [] []])],.agg [.str [50,46,53,46,50,57,46,51,54],.str [80,111,108,105,99,121,67,111,110,115,116,114,97,105,110,116,115],.iface 350 (.agg [.func (.func 197) [] [],.func (.func 198) [] [],.func (.func 199) [] []])],.agg [.str [50,46,53,46,50,57,46,51,55],.str [69,120,116,75,101,121,85,115,97,103,101],.iface 356 (.agg [.func (.func 200) [] [],.func (.func 201) [] [],.func (.func 202) [] []])],.agg [.str [50,46,53,46,50,57,46,52,54],.str [70,114,101,115,104,101,115,116,67,82,76],.iface 289 (.agg [.func (.func 159) [] [],.func (.func 160) [] [],.func (.func 161) [] []])],.agg [.str [50,46,53,46,50,57,46,53,52],.str [73,110,104,105,98,105,116,65,110,121,80,111,108,105,99,121],.iface 304 (.agg [.func (.func 153) [] [],.func (.func 203) [] [],.func (.func 204) [] []])],.agg [.str [49,46,51,46,54,46,49,46,53,46,53,46,55,46,49,46,49],.str [65,117,116,104,111,114,105,116,121,73,110,102,111,65,99,99,101,115,115],.iface 295 (.agg [.func (.func 162) [] [],.func (.func 163) [] [],.func (.func 164) [] []])],.agg [.str [49,46,51,46,54,46,49,46,53,46,53,46,55,46,49,46,49,49],.str [83,117,98,106,101,99,116,73,110,102,111,65,99,99,101,115,115],.iface 295 (.agg [.func (.func 162) [] [],.func (.func 163) [] [],.func (.func 164) [] []])]]
noncomputable def N2:Ctr:=⟨[],.raw XM,λ(_:Unit)=>some ()⟩
def XN:cD prog 135 N2:=Jf (eY (f:=135) (fn:=f135) krq).2 krq krq (Dq (n:=20) tok (bL _) mixed rfl krq krq krq)
noncomputable def XO:D:=.cmap [.int .i64 0,.int .i64 1,.int .i64 2,.int .i64 3,.int .i64 4,.int .i64 5,.int .i64 6,.int .i64 7,.int .i64 8] [.func (.func 346) [] [],.func (.func 347) [] [],.func (.func 347) [] [],.func (.func 348) [] [],.func (.func 349) [] [],.func (.func 350) [] [],.func (.func 347) [] [],.func (.func 348) [] [],.func (.func 351) [] []]
noncomputable def N3:Ctr:=⟨[],.raw XO,λ(_:Unit)=>some ()⟩
def XP:cD prog 297 N3:=Jf (eY (f:=297) (fn:=f297) krq).2 krq krq (Dq (n:=20) tok (bL _) mixed rfl krq krq krq)
noncomputable def XQ:D:=.pmap [.int .i64 12,.int .i64 19,.int .i64 20,.int .i64 22,.int .i64 26,.int .i64 28,.int .i64 30] [.agg [.func (.func 382) [] [],.int .i64 0],.agg [.func (.func 378) [] [],.int .i64 1],.agg [.func (.func 381) [] [.rptr [.func (.func 390) [] [.rptr [.int .i32 32] 0,.rptr [.int .i32 126] 0]] 0],.int .i64 1],.agg [.func (.func 390) [] [.rptr [.int .i32 0] 0,.rptr [.int .i32 127] 0],.int .i64 1],.agg [.func (.func 390) [] [.rptr [.int .i32 32] 0,.rptr [.int .i32 126] 0],.int .i64 1],.agg [.func (.func 382) [] [],.int .i64 4],.agg [.func (.func 383) [] [],.int .i64 2]]
noncomputable def GC:Ctr:=⟨[],.raw XQ,λ(_:Unit)=>some ()⟩
def jP:cD prog 368 GC:=Jf (eY (f:=368) (fn:=f368) krq).2 krq krq Ma
noncomputable def zn:Ctr:=⟨[.hole (.int .i32)],.hole .bool,λ(x:Int)=>dJ x⟩
noncomputable def K0(L:List fA):Cx:=⟨prog,T,hH,hO,[(379,abx)],[],[],L,.nil⟩
def fS:cD prog 378 (zn):=BC (cx:=K0 []) tok mixed ⟨akq,trivial⟩ trivial trivial trivial 378 _ krq krq (by intro x;kernel_rfl)
noncomputable def ma:Ctr:=⟨[.hole (.int .i32),.rc [.hole (.int .i32)] 0,.rc [.hole (.int .i32)] 0],.hole .bool,λ(x:Int×Int×Int)=>bh x.1 x.2.1 x.2.2⟩
noncomputable def Dw(L:List fA):Cx:=⟨prog,T,hH,hO,[],[],[],L,.nil⟩
def cL:cD prog 390 (ma):=BC (cx:=Dw []) tok mixed trivial trivial trivial trivial 390 _ krq krq (by intro x;kernel_rfl)
noncomputable def vo:Ctr:=⟨[.hole (.int .i32),.rc [.func (.func 390) [] [.rc [.hole (.int .i32)] 0,.rc [.hole (.int .i32)] 0]] 0],.hole .bool,λ(x:Int×Int×Int)=>cK x.1 x.2.1 x.2.2⟩
noncomputable def GD(L:List fA):Cx:=⟨prog,T,hH,hO,[(390,ma)],[],[],L,.nil⟩
def em:cD prog 381 (vo):=BC (cx:=GD []) tok mixed ⟨cL,trivial⟩ trivial trivial trivial 381 _ krq krq (by intro x;kernel_rfl)
noncomputable def zo:Ctr:=⟨[.hole (.int .i32)],.hole .bool,λ(x:Int)=>dK x⟩
noncomputable def K1(L:List fA):Cx:=⟨prog,T,hH,hO,[(382,WL)],[],[],L,.nil⟩
def fT:cD prog 383 (zo):=BC (cx:=K1 []) tok mixed ⟨I4,trivial⟩ trivial trivial trivial 383 _ krq krq (by intro x;kernel_rfl)
noncomputable def CT(N:Nat):Ctr:=⟨[.hole (.pair (.int .i64) .str)],.hole .bool,λ(x:(Int×Bs))=>ip N x⟩
noncomputable def jn(N:Nat)(L:List fA):Cx:=⟨prog,T,hH,hO,[(368,GC),(377,FT),(382,WL),(378,zn),(381,vo),(390,ma),(383,zo)],[],[],L,.nil⟩
noncomputable def xZ:Pat:=⟨[(3,.ptr 1 0),(24,.ptr 2 0)],[.junk,.cells [.func (.func 382) [] [],.hole (.int .i64)] false,.it]⟩
noncomputable def yc:aZ:=[(.ret,⟨[(2,.hole .bool)],[.junk,.junk,.junk]⟩),(.exit 0,⟨[],[.junk,.junk,.junk]⟩)]
noncomputable def gM(N n:Nat):fA:=⟨367,5,0,xZ,yc,λx=>gJ N n x⟩
def jd(N:Nat):∀n,LOk prog (gM N n):=sn (cx:=jn N []) tok mixed ⟨jP,qf,I4,fS,em,cL,fT,trivial⟩ trivial trivial trivial 367 5 0 xZ yc (λn x=>gJ N n x) krq krq (λ_=>rfl) (by intro n x;kernel_rfl)
noncomputable def yd:Pat:=⟨[(3,.ptr 1 0),(24,.ptr 2 0)],[.junk,.cells [.func (.func 378) [] [],.hole (.int .i64)] false,.it]⟩
noncomputable def ye:aZ:=[(.ret,⟨[(2,.hole .bool)],[.junk,.junk,.junk]⟩),(.exit 0,⟨[],[.junk,.junk,.junk]⟩)]
noncomputable def je(N n:Nat):fA:=⟨367,5,0,yd,ye,λx=>ja N n x⟩
def lM(N:Nat):∀n,LOk prog (je N n):=sn (cx:=jn N [gM N N]) tok mixed ⟨jP,qf,I4,fS,em,cL,fT,trivial⟩ trivial trivial ⟨jd N N,trivial⟩ 367 5 0 yd ye (λn x=>ja N n x) krq krq (λ_=>rfl) (by intro n x;kernel_rfl)
noncomputable def yf:Pat:=⟨[(3,.ptr 1 0),(24,.ptr 2 0)],[.junk,.cells [.func (.func 381) [] [.rc [.func (.func 390) [] [.rc [.hole (.int .i32)] 0,.rc [.hole (.int .i32)] 0]] 0],.hole (.int .i64)] false,.it]⟩
noncomputable def yg:aZ:=[(.ret,⟨[(2,.hole .bool)],[.junk,.junk,.junk]⟩),(.exit 0,⟨[],[.junk,.junk,.junk]⟩)]
noncomputable def lN(N n:Nat):fA:=⟨367,5,0,yf,yg,λx=>jb N n x⟩
def pP(N:Nat):∀n,LOk prog (lN N n):=sn (cx:=jn N [gM N N,je N N]) tok mixed ⟨jP,qf,I4,fS,em,cL,fT,trivial⟩ trivial trivial ⟨jd N N,lM N N,trivial⟩ 367 5 0 yf yg (λn x=>jb N n x) krq krq (λ_=>rfl) (by intro n x;kernel_rfl)
noncomputable def yh:Pat:=⟨[(3,.ptr 1 0),(24,.ptr 2 0)],[.junk,.cells [.func (.func 390) [] [.rc [.hole (.int .i32)] 0,.rc [.hole (.int .i32)] 0],.hole (.int .i64)] false,.it]⟩
noncomputable def yi:aZ:=[(.ret,⟨[(2,.hole .bool)],[.junk,.junk,.junk]⟩),(.exit 0,⟨[],[.junk,.junk,.junk]⟩)]
noncomputable def pQ(N n:Nat):fA:=⟨367,5,0,yh,yi,λx=>gK N n x⟩
def yj(N:Nat):∀n,LOk prog (pQ N n):=sn (cx:=jn N [gM N N,je N N,lN N N]) tok mixed ⟨jP,qf,I4,fS,em,cL,fT,trivial⟩ trivial trivial ⟨jd N N,lM N N,pP N N,trivial⟩ 367 5 0 yh yi (λn x=>gK N n x) krq krq (λ_=>rfl) (by intro n x;kernel_rfl)
noncomputable def yk:Pat:=⟨[(3,.ptr 1 0),(24,.ptr 2 0)],[.junk,.cells [.func (.func 383) [] [],.hole (.int .i64)] false,.it]⟩
noncomputable def yl:aZ:=[(.ret,⟨[(2,.hole .bool)],[.junk,.junk,.junk]⟩),(.exit 0,⟨[],[.junk,.junk,.junk]⟩)]
noncomputable def ym(N n:Nat):fA:=⟨367,5,0,yk,yl,λx=>jc N n x⟩
def Jp(N:Nat):∀n,LOk prog (ym N n):=sn (cx:=jn N [gM N N,je N N,lN N N,pQ N N]) tok mixed ⟨jP,qf,I4,fS,em,cL,fT,trivial⟩ trivial trivial ⟨jd N N,lM N N,pP N N,yj N N,trivial⟩ 367 5 0 yk yl (λn x=>jc N n x) krq krq (λ_=>rfl) (by intro n x;kernel_rfl)
def oQ(N:Nat):cD prog 367 (CT N):=BC (cx:=jn N [gM N N,je N N,lN N N,pQ N N,ym N N]) tok mixed ⟨jP,qf,I4,fS,em,cL,fT,trivial⟩ trivial trivial ⟨jd N N,lM N N,pP N N,yj N N,Jp N N,trivial⟩ 367 _ krq krq (by intro x;kernel_rfl)
noncomputable def BE(N:Nat):Ctr:=⟨[.hole (.pair (.int .i64) .str)],.tup [.hole (.sl .byte),.hole (.int .i64)],λ(x:(Int×Bs))=>aP N x⟩
noncomputable def sq(N:Nat)(L:List fA):Cx:=⟨prog,T,hH,hO,[(367,CT N),(368,GC)],[],[],L,.nil⟩
noncomputable def wj:Pat:=⟨[(4,.hole (.int .i64)),(5,.own 1),(7,.hole (.int .i32)),(8,.hole (.int .i64)),(24,.ptr 2 0)],[.junk,.arr .byte false false,.it]⟩
noncomputable def wk:aZ:=[(.exit 2,⟨[(4,.hole (.int .i64)),(5,.own 1),(24,.ptr 2 0)],[.junk,.arr .byte false false,.it]⟩)]
noncomputable def oB(N n:Nat):fA:=⟨344,11,0,wj,wk,λx=>gb N n x⟩
def wl(N:Nat):∀n,LOk prog (oB N n):=sn (cx:=sq N []) tok mixed ⟨oQ N,jP,trivial⟩ trivial trivial trivial 344 11 0 wj wk (λn x=>gb N n x) krq krq (λ_=>rfl) (by intro n x;kernel_rfl)
noncomputable def wm:Pat:=⟨[(4,.hole (.int .i64)),(5,.own 1),(24,.ptr 2 0)],[.junk,.arr .byte false false,.it]⟩
noncomputable def wn:aZ:=[(.exit 0,⟨[(5,.own 1)],[.junk,.arr .byte false false,.junk]⟩)]
noncomputable def wo(N n:Nat):fA:=⟨344,8,0,wm,wn,λx=>bR N n x⟩
def H0(N:Nat):∀n,LOk prog (wo N n):=sn (cx:=sq N [oB N N]) tok mixed ⟨oQ N,jP,trivial⟩ trivial trivial ⟨wl N N,trivial⟩ 344 8 0 wm wn (λn x=>bR N n x) krq krq (λ_=>rfl) (by intro n x;kernel_rfl)
def Ms(N:Nat):cD prog 344 (BE N):=BC (cx:=sq N [oB N N,wo N N]) tok mixed ⟨oQ N,jP,trivial⟩ trivial trivial ⟨wl N N,H0 N N,trivial⟩ 344 _ krq krq (by intro x;kernel_rfl)
end Go.Proofs.Tryz
