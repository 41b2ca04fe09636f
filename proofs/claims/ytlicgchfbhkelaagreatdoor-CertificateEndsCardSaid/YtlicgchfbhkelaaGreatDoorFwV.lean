/- A framework for proofs about Go programs in this model: part V. Everything is proved; no condition is added. -/
import Derived.Test.YtlicgchfbhkelaaGreatDoorFwU
set_option linter.unusedVariables false
set_option linter.unusedSimpArgs false
set_option linter.defProp false
namespace Go.Fw
open Go Go.Proofs.Tryz
noncomputable section
set_option maxRecDepth 100000
set_option maxHeartbeats 0
attribute [local irreducible] ix app slc fM toB agree jO jP jN mz gW bE bZ cg cy dV bq aZ bS aM dO eB gp eP cG aQ bK aW bu aX bO cb eV cz dt cp cq cA cB cC cD dE dI aB aC aO bP bx aN cQ fI eW aD aH bW bM dL cR cr aq aA du bp cO ba bQ ed dw bj cf eY ig gi gj dW dM bY cE bo dA cw cn bR bF bz bX br aF eO ii bg eH cm gb fj aI aK aP gd bA cJ aR aJ aT cX cF bt fo fq bh be eg cK eD ge gg dJ gy ey fu dX dK fB cu bv dq cT gP cS eZ dP dQ em dR eI dZ bL cP gY dS gk fF gZ eQ iu iD fD fv fw eR dY iV lK jQ jf ez eK cL gu mb nO ec dT gz gQ fc fy cY jR gN gO ij fN jv ku iW iM lg lh il gv jS kh
def fZ(L:List (KL B0)):Ctx B0:=⟨[JX],[],[],L,.nil⟩
def iw:LD:=⟨358,2,0,⟨[(0,hc2),(1,.func (.func 324) [] []),(7,hc4),(8,hc4)],[]⟩,[(.ret,⟨[(4,hc4)],[]⟩),(.exit 0,⟨[],[]⟩)]⟩
@[local irreducible] noncomputable def bw(N n:Nat):(Y1×Y3)->Option ((Int)⊕(Unit)):=Nat.rec (λ_=>none) (λ_ L x=>syv N (iw.round (fZ []).cxs L x)) n
def md:KL B0:=gL (fZ []) iw (bw NN) (by kernel_rfl)
def iP:AD B0:=⟨358,(fZ [md]),[hc2,.func (.func 324) [] []],hc4⟩
@[local irreducible] noncomputable def bJ(N:Nat)(a:Y1):Option Int:=syv N (iP.go (a))
def mG:KC B0:=gA iP (bJ NN) (by kernel_rfl)
def iy:AD B0:=⟨323,(c1 [mG]),[hc2,.func (.func 324) [] []],ay⟩
@[local irreducible] noncomputable def aY(N:Nat)(a:Y1):Option Bool:=syv N (iy.go (a))
def me:KC B0:=gA iy (aY NN) (by kernel_rfl)
def vV(L:List (KL B0)):Ctx B0:=⟨[px,me],[],[],L,.nil⟩
def ye:LD:=⟨256,3,0,⟨[(0,MQ),(3,.mp 0),(7,MQ),(8,hc4),(9,hc4)],[.smap]⟩,[(.ret,⟨[(2,vF)],[.junk]⟩),(.exit 0,⟨[(0,MQ)],[.junk]⟩)]⟩
@[local irreducible] noncomputable def kW(N n:Nat):(Y38×Y38×Y23)->Option ((Unit)⊕Y38):=Nat.rec (λ_=>none) (λ_ L x=>syv N (ye.round (vV []).cxs L x)) n
def I2:KL B0:=gL (vV []) ye (kW NN) (by kernel_rfl)
def C1:AD B0:=⟨256,(vV [I2]),[MQ],ay⟩
@[local irreducible] noncomputable def lC(N:Nat)(a:Y38):Option Bool:=syv N (C1.go (a))
def M0:KC B0:=gA C1 (lC NN) (by kernel_rfl)
def G4:AD B0:=⟨265,(c1 []),[hc4],hc5⟩
@[local irreducible] noncomputable def gV(a:Int):Option Y3:=syv NN (G4.go (a))
def G5:KC B0:=gA G4 gV (by kernel_rfl)
def ji(L:List (KL B0)):Ctx B0:=⟨[bc,M0,G5,eC,bV,jK,lU,F2],[],[],L,.nil⟩
def yf:LD:=⟨259,7,16,⟨[(0,hc0),(3,.func (.func 326) [] [.rc [.ptr 14 0] 0]),(8,.ptr 16 0),(33,ic),(34,hc4),(35,hc4)],[oo5,py,.arr se false true,oo5,.junk,gr,D6,.arr tc1 false true,oo5,.junk,gr,oo5,.junk,gr,GD,.junk,oo5,.junk]⟩,[(.ret,⟨[(8,.ptr 16 0)],[oo5,py,.arr se false true,oo5,.junk,gr,D6,.arr tc1 false true,oo5,.junk,gr,oo5,.junk,gr,GD,.junk,oo0,.junk]⟩),(.exit 0,⟨[(8,.ptr 16 0)],[oo5,py,.arr se false true,oo5,.junk,gr,D6,.arr tc1 false true,oo5,.junk,gr,oo5,.junk,gr,GD,.junk,oo5,.junk]⟩)]⟩
@[local irreducible] noncomputable def jw(N n:Nat):(Bs×Y22×Int×Int×Y39)->Option ((Y38×Int×Int×Bool×Int×Int×Int×Bs×Y1×Int×Int×Bool×Int×Int×Int×Y40)⊕Y39):=Nat.rec (λ_=>none) (λ_ L x=>syv N (yf.round (ji []).cxs L x)) n
def jx:KL B0:=gL (ji []) yf (jw NN) (by kernel_rfl)
def yg:LD:=⟨259,7,11,⟨[(0,hc0),(3,.func (.func 263) [] [.ptr 6 0]),(8,.ptr 11 0),(33,ic),(34,hc4),(35,hc4)],[oo5,py,.arr se false true,oo5,.junk,gr,D6,.arr tc1 false false,oo5,.junk,gr,oo5,.junk]⟩,[(.ret,⟨[(8,.ptr 11 0)],[oo5,py,.arr se false true,oo5,.junk,gr,D6,.arr tc1 false false,oo5,.junk,gr,oo0,.junk]⟩),(.exit 0,⟨[(8,.ptr 11 0)],[oo5,py,.arr se false true,oo5,.junk,gr,D6,.arr tc1 false false,oo5,.junk,gr,oo5,.junk]⟩)]⟩
@[local irreducible] noncomputable def jy(N n:Nat):(Bs×Y22×Int×Int×Y41)->Option ((Y38×Int×Int×Bool×Int×Int×Int×Bs×Y1×Int×Int×Bool×Y4)⊕Y41):=Nat.rec (λ_=>none) (λ_ L x=>syv N (yg.round (ji [jx]).cxs L x)) n
def ml:KL B0:=gL (ji [jx]) yg (jy NN) (by kernel_rfl)
def yh:LD:=⟨259,7,8,⟨[(0,hc0),(3,.func (.func 261) [] [.ptr 6 0]),(8,.ptr 8 0),(33,ic),(34,hc4),(35,hc4)],[oo5,py,.arr se false true,oo5,.junk,gr,D6,.arr tc1 false false,oo5,.junk]⟩,[(.ret,⟨[(8,.ptr 8 0)],[oo5,py,.arr se false true,oo5,.junk,gr,D6,.arr tc1 false false,oo0,.junk]⟩),(.exit 0,⟨[(8,.ptr 8 0)],[oo5,py,.arr se false true,oo5,.junk,gr,D6,.arr tc1 false false,oo5,.junk]⟩)]⟩
@[local irreducible] noncomputable def jz(N n:Nat):(Bs×Y22×Int×Int×Y42)->Option ((Y38×Int×Int×Bool×Int×Int×Int×Bs×Y1×Y3)⊕Y42):=Nat.rec (λ_=>none) (λ_ L x=>syv N (yh.round (ji [jx,ml]).cxs L x)) n
def rl:KL B0:=gL (ji [jx,ml]) yh (jz NN) (by kernel_rfl)
def yi:LD:=⟨259,7,3,⟨[(0,hc0),(3,.func (.func 260) [] [.ptr 1 0]),(8,.ptr 3 0),(33,ic),(34,hc4),(35,hc4)],[oo5,py,.arr se false false,oo5,.junk]⟩,[(.ret,⟨[(8,.ptr 3 0)],[oo5,py,.arr se false false,oo0,.junk]⟩),(.exit 0,⟨[(8,.ptr 3 0)],[oo5,py,.arr se false false,oo5,.junk]⟩)]⟩
@[local irreducible] noncomputable def jA(N n:Nat):(Bs×Y22×Int×Int×Y38)->Option ((Y38×Y3)⊕Y38):=Nat.rec (λ_=>none) (λ_ L x=>syv N (yi.round (ji [jx,ml,rl]).cxs L x)) n
def I3:KL B0:=gL (ji [jx,ml,rl]) yi (jA NN) (by kernel_rfl)
def C2:AD B0:=⟨190,(ji [jx,ml,rl,I3]),[hc0],(.tup [MQ,hc5])⟩
@[local irreducible] noncomputable def kw(N:Nat)(a:Bs):Option (Y38×Y3):=syv N (C2.go (a))
def M2:KC B0:=gA C2 (kw NN) (by kernel_rfl)
def qh:AD B0:=⟨327,(c1 [px]),[dr],ay⟩
@[local irreducible] noncomputable def gm(N:Nat)(a:Bs):Option Bool:=syv N (qh.go (a))
def zV:KC B0:=gA qh (gm NN) (by kernel_rfl)
def nP(L:List (KL B0)):Ctx B0:=⟨[zV],[],[],L,.nil⟩
def pM:LD:=⟨359,2,1,⟨[(0,Uv),(1,.func (.func 329) [] [.ptr 0 0]),(7,hc4),(8,hc4)],[.cells [.func (.func 327) [] []] false]⟩,[(.ret,⟨[(4,hc4)],[.junk]⟩),(.exit 0,⟨[],[.junk]⟩)]⟩
@[local irreducible] noncomputable def gI(N n:Nat):(Y1×Y3)->Option ((Int)⊕(Unit)):=Nat.rec (λ_=>none) (λ_ L x=>syv N (pM.round (nP []).cxs L x)) n
def yx:KL B0:=gL (nP []) pM (gI NN) (by kernel_rfl)
def rG:AD B0:=⟨266,(nP [yx]),[Uv],ay⟩
@[local irreducible] noncomputable def gF(N:Nat)(a:Y1):Option Bool:=syv N (rG.go (a))
def B6:KC B0:=gA rG (gF NN) (by kernel_rfl)
def jM(L:List (KL B0)):Ctx B0:=⟨[bc,B6,G5,eC,bV,jK],[],[],L,.nil⟩
def pN:LD:=⟨259,7,7,⟨[(0,hc0),(3,.func (.func 268) [] [.ptr 6 0]),(8,.ptr 7 0),(33,ic),(34,hc4),(35,hc4)],[oo5,py,.arr D4 false true,oo5,.junk,gr,YK,oo5,.junk]⟩,[(.ret,⟨[(8,.ptr 7 0)],[oo5,py,.arr D4 false true,oo5,.junk,gr,YK,oo0,.junk]⟩),(.exit 0,⟨[(8,.ptr 7 0)],[oo5,py,.arr D4 false true,oo5,.junk,gr,YK,oo5,.junk]⟩)]⟩
@[local irreducible] noncomputable def fO(N n:Nat):(Bs×Y22×Int×Int×Y43)->Option ((Y1×Y40)⊕Y43):=Nat.rec (λ_=>none) (λ_ L x=>syv N (pN.round (jM []).cxs L x)) n
def mw:KL B0:=gL (jM []) pN (fO NN) (by kernel_rfl)
def pO:LD:=⟨259,7,3,⟨[(0,hc0),(3,.func (.func 267) [] [.ptr 1 0]),(8,.ptr 3 0),(33,ic),(34,hc4),(35,hc4)],[oo5,py,.arr D4 false false,oo5,.junk]⟩,[(.ret,⟨[(8,.ptr 3 0)],[oo5,py,.arr D4 false false,oo0,.junk]⟩),(.exit 0,⟨[(8,.ptr 3 0)],[oo5,py,.arr D4 false false,oo5,.junk]⟩)]⟩
@[local irreducible] noncomputable def fP(N n:Nat):(Bs×Y22×Int×Int×Y1)->Option ((Y1×Y3)⊕Y1):=Nat.rec (λ_=>none) (λ_ L x=>syv N (pO.round (jM [mw]).cxs L x)) n
def yy:KL B0:=gL (jM [mw]) pO (fP NN) (by kernel_rfl)
def rH:AD B0:=⟨193,(jM [mw,yy]),[hc0],(.tup [Uv,hc5])⟩
@[local irreducible] noncomputable def fV(N:Nat)(a:Bs):Option (Y1×Y3):=syv N (rH.go (a))
def B7:KC B0:=gA rH (fV NN) (by kernel_rfl)
def F3:AD B0:=⟨269,(c1 [pD,lV]),[adJ],ay⟩
@[local irreducible] noncomputable def pm(N:Nat)(a:Y44):Option Bool:=syv N (F3.go (a))
def O2:KC B0:=gA F3 (pm NN) (by kernel_rfl)
def xI:AD B0:=⟨196,(c1 [bc,O2,bV,lU,eX,pC]),[hc0],(.tup [adJ,hc5])⟩
def O3:KC B0:=xI.k (by kernel_rfl)
abbrev O4(N:Nat)(a:Bs):Option (Y44×Y3):=xI.run a
def I4:Tr cI:=(.node .nil 13354677253 [(.normal,⟨[(0,hc0),(2,.ptr 0 0),(3,.ptr 1 0),(6,.ptr 3 0),(7,hc4),(22,ic),(23,hc4),(24,hc4)],[Uy,oo5,.junk,YL,.junk]⟩)] .nil)
def rm(L:List (KL B0)):Ctx B0:=⟨[bc,oX],[],[],L,I4⟩
def uc:LD:=⟨199,7,0,⟨[(0,hc0),(2,.ptr 0 0),(3,.ptr 1 0),(6,.ptr 3 0),(7,hc4),(22,ic),(23,hc4),(24,hc4)],[Uy,oo5,.junk,YL]⟩,[(.ret,⟨[(2,.ptr 0 0),(3,.ptr 1 0)],[Uy,oo6,.junk,.junk]⟩),(.exit 0,⟨[(0,hc0),(2,.ptr 0 0),(3,.ptr 1 0),(6,.ptr 3 0),(7,hc4)],[Uy,oo5,.junk,YL]⟩)]⟩
@[local irreducible] noncomputable def im(N n:Nat):(Bs×Int×Y22×Int×Int×Y45)->Option ((Int)⊕(Bs×Int×Y45)):=Nat.rec (λ_=>none) (λ_ L x=>syv N (uc.round (rm []).cxs L x)) n
def Eo:KL B0:=gL (rm []) uc (im NN) (by kernel_rfl)
def yj:AD B0:=⟨199,(rm [Eo]),[hc0],(.tup [.hole adu,hc5])⟩
@[local irreducible] noncomputable def iF(N:Nat)(a:Bs):Option (Y45×Y3):=syv N (yj.go (a))
def I5:KC B0:=gA yj (iF NN) (by kernel_rfl)
def xJ(L:List (KL B0)):Ctx B0:=⟨[bc,bV,jK],[],[],L,.nil⟩
def zW:LD:=⟨202,6,0,⟨[(0,hc0),(3,.ptr 0 0),(6,.own 2),(20,ic),(21,hc4),(22,hc4)],[oo0,.junk,.arr .str false false]⟩,[(.ret,⟨[(2,vN),(3,.ptr 0 0)],[oo0,.junk,.junk]⟩),(.exit 0,⟨[(0,hc0),(3,.ptr 0 0),(6,.own 2)],[oo0,.junk,.arr .str false false]⟩)]⟩
@[local irreducible] noncomputable def ki(N n:Nat):(Bs×Y22×Int×Int×Y23)->Option (Y3⊕(Bs×Y23)):=Nat.rec (λ_=>none) (λ_ L x=>syv N (zW.round (xJ []).cxs L x)) n
def JY:KL B0:=gL (xJ []) zW (ki NN) (by kernel_rfl)
def F4:AD B0:=⟨202,(xJ [JY]),[hc0],(.tup [YE,hc5])⟩
@[local irreducible] noncomputable def li(N:Nat)(a:Bs):Option (Y11×Y3):=syv N (F4.go (a))
def O5:KC B0:=gA F4 (li NN) (by kernel_rfl)
def sT:AD B0:=⟨275,(c1 [eC,oX]),[hc0,.func (.func 243) [] []],(.tup [hc4,hc5])⟩
@[local irreducible] noncomputable def iQ(N:Nat)(a:Bs):Y25:=syv N (sT.go (a))
def C3:KC B0:=gA sT (iQ NN) (by kernel_rfl)
end
end Go.Fw
