/- A framework for proofs about Go programs in this model: part Y. Everything is proved; no condition is added. -/
import Derived.Test.YtlicgchfbhkelaaGreatDoorFwX
set_option linter.unusedVariables false
set_option linter.unusedSimpArgs false
set_option linter.defProp false
namespace Go.Fw
open Go Go.Proofs.Tryz
noncomputable section
set_option maxRecDepth 100000
set_option maxHeartbeats 0
attribute [local irreducible] ix app slc cw toB agree fF fH fE ju dD aI aP aQ
def KT:Tr aZ:=(.node .nil 6778005508 [(.normal,⟨[(0,hc0),(2,.ptr 0 0),(3,.ptr 1 0),(4,dW),(8,.ptr 3 0)],[abm,oo0,.junk,abm]⟩),(.ret,⟨[(2,.ptr 0 0),(3,.ptr 1 0)],[abm,oo0,.junk,.junk]⟩)] .nil)
def zi:AD B0:=⟨101,⟨[aH,aT,gd,qG,jh],[],[],[],KT⟩,[hc0],(.tup [hc3,hc5])⟩
@[irreducible] def cG(N:Nat)(a:Bs):Option (Y8×Y3):=syv N (zi.go (a))
def KU:=gA zi (cG NN)
def mV(L:List (KL B0)):Ctx B0:=⟨[aH,KU,pu],[],[],L,.nil⟩
def pz:LD:=⟨63,6,0,⟨[(0,hc0),(3,.ptr 0 0),(6,.own 2),(20,dW),(21,hc4),(22,hc4)],[oo0,.junk,.arr tc3 false false]⟩,[(.ret,⟨[(2,vN),(3,.ptr 0 0)],[oo0,.junk,.junk]⟩),(.exit 0,⟨[(3,.ptr 0 0),(6,.own 2)],[oo0,.junk,.arr tc3 false false]⟩)]⟩
@[local irreducible] def aJ(N n:Nat):(Bs×Y22×Int×Int×Int×Int×Y9)->Option (Y3⊕(Int×Int×Y9)):=Nat.rec (λ_=>none) (λ_ L x=>syv N (pz.round (mV []).cxs L x)) n
def A7:=gL (mV []) pz (aJ NN)
def td:AD B0:=⟨63,(mV [A7]),[hc0],(.tup [lQ,hc5])⟩
@[irreducible] def bQ(N:Nat)(a:Bs):Option (Y9×Y3):=syv N (td.go (a))
def Ek:=gA td (bQ NN)
def Dj:Tr aZ:=(.node (.node (.node (.node (.node (.node .nil 1610620945 [(.normal,⟨[(2,.ptr 0 0),(3,.ptr 1 0),(4,.ptr 3 0),(5,.ptr 4 0)],[dX,oo5,.junk,dw,abn,.junk,.junk,.junk,.junk,.junk,.junk,.junk,.junk,.junk,.junk,.junk,.junk]⟩)] .nil) 1610630175 [(.normal,⟨[(2,.ptr 0 0),(3,.ptr 1 0),(4,.ptr 3 0),(5,.ptr 4 0)],[dX,oo5,.junk,dw,Fp,.junk,.junk,.junk,.junk,.junk,.junk,.junk,.junk,.junk,.junk,.junk,.junk,.junk,.junk,.junk,.junk,.junk,.junk,.junk,.junk,.junk,.junk,.junk,.junk,.junk,.junk]⟩)] .nil) 1946158112 [(.normal,⟨[(0,.ptr 3 0),(1,au),(4,.ptr 31 0)],[dX,oo5,.junk,dw,Fp,.junk,.junk,.junk,.junk,.junk,.junk,.junk,.junk,.junk,.junk,.junk,.junk,.junk,.junk,.junk,.junk,.junk,.junk,.junk,.junk,.junk,.junk,.junk,.junk,.junk,.junk,oo5]⟩)] (.node .nil 1946160160 [(.normal,⟨[(0,.ptr 3 0),(4,.ptr 31 0)],[dX,oo5,.junk,dw,Fp,.junk,.junk,.junk,.junk,.junk,.junk,.junk,.junk,.junk,.junk,.junk,.junk,.junk,.junk,.junk,.junk,.junk,.junk,.junk,.junk,.junk,.junk,.junk,.junk,.junk,.junk,oo5]⟩)] .nil)) 3489660938 [(.normal,⟨[],[dX,oo5,.junk,dw,abo,.junk,.junk,.junk,.junk,.junk]⟩)] (.node (.node .nil 3489660943 [(.normal,⟨[],[dX,oo5,.junk,dw,abp,.junk,.junk,.junk,.junk,OC,.junk,.junk,.junk,Ib,.junk]⟩)] .nil) 3489660953 [(.normal,⟨[],[dX,oo5,.junk,dw,abq,.junk,.junk,.junk,.junk,.junk,.junk,.junk,.junk,.junk,.junk,.junk,.junk,.junk,.junk,abr,.junk,.junk,.junk,agM,.junk]⟩)] (.node .nil 3489660955 [(.normal,⟨[],[dX,oo5,.junk,dw,WD,.junk,.junk,.junk,.junk,.junk,.junk,.junk,.junk,.junk,.junk,.junk,.junk,.junk,.junk,.junk,.junk,.junk,.junk,Ic,.junk,.junk,oo7]⟩)] .nil))) 3489660958 [(.normal,⟨[],[dX,oo5,.junk,dw,WE,.junk,.junk,.junk,.junk,.junk,.junk,.junk,.junk,.junk,.junk,.junk,.junk,.junk,.junk,.junk,.junk,.junk,.junk,.junk,.junk,.junk,Ic,.junk,.junk,oo7]⟩)] (.node (.node (.node .nil 2199023345666 [(.ret,⟨[(2,.ptr 3 0)],[dX,oo5,.junk,dw]⟩)] .nil) 2199023357961 [(.ret,⟨[(4,.ptr 9 0)],[dX,oo5,.junk,dw,abp,.junk,.junk,.junk,.junk,Ib,.junk,.junk,.junk]⟩)] (.node .nil 2199023374367 [(.ret,⟨[(4,.ptr 31 0)],[dX,oo5,.junk,.junk,Fp,.junk,.junk,.junk,.junk,.junk,.junk,.junk,.junk,.junk,.junk,.junk,.junk,.junk,.junk,.junk,.junk,.junk,.junk,.junk,.junk,.junk,.junk,.junk,.junk,.junk,.junk,oo0]⟩)] .nil)) 2199023464454 [(.ret,⟨[(2,.ptr 6 0),(3,hc0)],[dX,oo5,.junk,dw,dX,WF,cY]⟩)] (.node (.node .nil 2199023464455 [(.ret,⟨[(2,.ptr 7 0),(3,hc0)],[dX,oo5,.junk,dw,abo,.junk,.junk,cY]⟩)] .nil) 2199023464459 [(.ret,⟨[(2,.ptr 11 0),(3,hc0)],[dX,oo5,.junk,dw,abp,.junk,.junk,.junk,.junk,OC,OC,cY]⟩)] (.node .nil 2199023464461 [(.ret,⟨[(2,.ptr 13 0),(3,hc0)],[dX,oo5,.junk,dw,agN,.junk,.junk,.junk,.junk,.junk,.junk,.junk,.junk,cY]⟩)] .nil)))) 2199023464463 [(.ret,⟨[(2,.ptr 15 0),(3,hc0)],[dX,oo5,.junk,dw,.cells [hc4,hc0,bx,hc0,fq,vZ,vZ,vZ,vZ,vZ,vZ,vZ,vZ,vZ,vZ,vZ,vZ,vN,vE,vN,vN,vZ,vF,vN,vZ,vF,vN,vZ,vN] false,.junk,.junk,.junk,.junk,.junk,.junk,.junk,.junk,.junk,.junk,cY]⟩)] (.node (.node (.node (.node (.node .nil 2199023464465 [(.ret,⟨[(2,.ptr 17 0),(3,hc0)],[dX,oo5,.junk,dw,abn,.junk,.junk,.junk,.junk,.junk,.junk,.junk,.junk,.junk,.junk,.junk,.junk,cY]⟩)] .nil) 2199023464469 [(.ret,⟨[(2,.ptr 21 0),(3,hc0)],[dX,oo5,.junk,dw,abq,.junk,.junk,.junk,.junk,.junk,.junk,.junk,.junk,.junk,.junk,.junk,.junk,.junk,.junk,abr,abr,cY]⟩)] .nil) 2199023464473 [(.ret,⟨[(2,.ptr 25 0),(3,hc0)],[dX,oo5,.junk,dw,WD,.junk,.junk,.junk,.junk,.junk,.junk,.junk,.junk,.junk,.junk,.junk,.junk,.junk,.junk,.junk,.junk,.junk,.junk,Ic,WF,cY]⟩)] (.node .nil 2199023464476 [(.ret,⟨[(2,.ptr 28 0),(3,hc0)],[dX,oo5,.junk,dw,WE,.junk,.junk,.junk,.junk,.junk,.junk,.junk,.junk,.junk,.junk,.junk,.junk,.junk,.junk,.junk,.junk,.junk,.junk,.junk,.junk,.junk,Ic,WF,cY]⟩)] .nil)) 2199023464478 [(.ret,⟨[(2,.ptr 30 0),(3,hc0)],[dX,oo5,.junk,dw,agO,.junk,.junk,.junk,.junk,.junk,.junk,.junk,.junk,.junk,.junk,.junk,.junk,.junk,.junk,.junk,.junk,.junk,.junk,.junk,.junk,.junk,.junk,.junk,.junk,WF,cY]⟩)] (.node (.node .nil 2199023472645 [(.ret,⟨[(2,hc4)],[dX,oo5,.junk,dw,dX,.junk,.junk]⟩)] .nil) 2199023476743 [(.ret,⟨[(4,hc0)],[dX,oo5,.junk,dw,abo,.junk,.junk,.junk,.junk]⟩)] (.node .nil 2199023484941 [(.ret,⟨[(4,fq)],[dX,oo5,.junk,dw,agN,.junk,.junk,.junk,.junk,.junk,.junk,.junk,.junk,.junk,.junk]⟩)] .nil))) 2199023484945 [(.ret,⟨[(4,fq)],[dX,oo5,.junk,dw,abn,.junk,.junk,.junk,.junk,.junk,.junk,.junk,.junk,.junk,.junk,.junk,.junk,.junk,.junk]⟩)] (.node (.node (.node .nil 2199023497235 [(.ret,⟨[(4,.ptr 19 0)],[dX,oo5,.junk,dw,abq,.junk,.junk,.junk,.junk,.junk,.junk,.junk,.junk,.junk,.junk,.junk,.junk,.junk,.junk,agM,.junk,.junk,.junk]⟩)] .nil) 2199023505431 [(.ret,⟨[(4,au),(5,.ptr 23 0)],[dX,oo5,.junk,dw,WD,.junk,.junk,.junk,.junk,.junk,.junk,.junk,.junk,.junk,.junk,.junk,.junk,.junk,.junk,.junk,.junk,.junk,.junk,oo7,.junk,.junk]⟩)] (.node .nil 2199023505434 [(.ret,⟨[(4,au),(5,.ptr 26 0)],[dX,oo5,.junk,dw,WE,.junk,.junk,.junk,.junk,.junk,.junk,.junk,.junk,.junk,.junk,.junk,.junk,.junk,.junk,.junk,.junk,.junk,.junk,.junk,.junk,.junk,oo7,.junk,.junk]⟩)] .nil)) 2199023509509 [(.ret,⟨[(6,.ptr 5 0),(7,au)],[dX,oo5,.junk,dw,dX,cY]⟩)] (.node (.node .nil 2199023509528 [(.ret,⟨[(6,.ptr 24 0),(7,au)],[dX,oo5,.junk,dw,WD,.junk,.junk,.junk,.junk,.junk,.junk,.junk,.junk,.junk,.junk,.junk,.junk,.junk,.junk,.junk,.junk,.junk,.junk,Ic,cY]⟩)] .nil) 2199023509531 [(.ret,⟨[(6,.ptr 27 0),(7,au)],[dX,oo5,.junk,dw,WE,.junk,.junk,.junk,.junk,.junk,.junk,.junk,.junk,.junk,.junk,.junk,.junk,.junk,.junk,.junk,.junk,.junk,.junk,.junk,.junk,.junk,Ic,cY]⟩)] (.node .nil 2199023509533 [(.ret,⟨[(6,.ptr 29 0),(7,au)],[dX,oo5,.junk,dw,agO,.junk,.junk,.junk,.junk,.junk,.junk,.junk,.junk,.junk,.junk,.junk,.junk,.junk,.junk,.junk,.junk,.junk,.junk,.junk,.junk,.junk,.junk,.junk,.junk,cY]⟩)] .nil)))))
def rt:AD B0:=⟨24,⟨[aH,aT,FO,yx,qR,M6,FQ,FR,ly,Ek,lV],[],[],[],Dj⟩,[hc0],(.tup [OA,hc5])⟩
@[irreducible] def dC(N:Nat)(a:Bs):Option (Y10×Y3):=syv N (rt.go (a))
def Dk:=gA rt (dC NN)
def xQ:AD B0:=⟨28,(c1 [bN,aT,ly]),[hc0],(.tup [C8,hc5])⟩
@[irreducible] def gG(N:Nat)(a:Bs):Option (Y6×Y3):=syv N (xQ.go (a))
def IF:=gA xQ (gG NN)
def HV:Tr aZ:=(.node (.node (.node (.node .nil 1946158098 [(.normal,⟨[(0,.ptr 3 0),(1,au),(4,.ptr 17 0)],[yq,oo5,.junk,dw,.junk,.junk,.junk,.junk,.junk,.junk,.junk,.junk,.junk,.junk,.junk,.junk,abs,oo5]⟩)] .nil) 1946160146 [(.normal,⟨[(0,.ptr 3 0),(4,.ptr 17 0)],[yq,oo5,.junk,dw,.junk,.junk,.junk,.junk,.junk,.junk,.junk,.junk,.junk,.junk,.junk,.junk,abs,oo5]⟩)] (.node .nil 3489660938 [(.normal,⟨[],[yq,oo5,.junk,dw,dX,.junk,.junk,.junk,Fp,.junk]⟩)] .nil)) 3489660942 [(.normal,⟨[],[yq,oo5,.junk,dw,.junk,.junk,.junk,.junk,OC,.junk,.junk,.junk,Ib,.junk]⟩)] (.node (.node .nil 2199023345666 [(.ret,⟨[(2,.ptr 3 0)],[yq,oo5,.junk,dw]⟩)] .nil) 2199023349764 [(.ret,⟨[(4,.ptr 4 0)],[yq,oo5,.junk,dw,Fp,.junk,.junk,.junk]⟩)] .nil)) 2199023357960 [(.ret,⟨[(4,.ptr 8 0)],[yq,oo5,.junk,dw,.junk,.junk,.junk,.junk,Ib,.junk,.junk,.junk]⟩)] (.node (.node (.node .nil 2199023366156 [(.ret,⟨[(4,.ptr 12 0)],[yq,oo5,.junk,dw,.junk,.junk,.junk,.junk,.junk,.junk,.junk,.junk,oo7,.junk,.junk,.junk]⟩)] .nil) 2199023374353 [(.ret,⟨[(4,.ptr 17 0)],[yq,oo5,.junk,.junk,.junk,.junk,.junk,.junk,.junk,.junk,.junk,.junk,.junk,.junk,.junk,.junk,abs,oo0]⟩)] .nil) 2199023464454 [(.ret,⟨[(2,.ptr 6 0),(3,hc0)],[yq,oo5,.junk,dw,dX,dX,cY]⟩)] (.node (.node .nil 2199023464458 [(.ret,⟨[(2,.ptr 10 0),(3,hc0)],[yq,oo5,.junk,dw,.junk,.junk,.junk,.junk,OC,OC,cY]⟩)] .nil) 2199023464462 [(.ret,⟨[(2,.ptr 14 0),(3,hc0)],[yq,oo5,.junk,dw,.junk,.junk,.junk,.junk,.junk,.junk,.junk,.junk,Ic,Ic,cY]⟩)] .nil)))
def wb:AD B0:=⟨8,⟨[aH,Dk,qR,IF,xu],[],[],[],HV⟩,[hc0],(.tup [Ia,hc5])⟩
@[irreducible] def cU(N:Nat)(a:Bs):Option (Y11×Y3):=syv N (wb.go (a))
def wc:=gA wb (cU NN)
def Hx:AD B0:=⟨11,(c1 []),[hc0,hc0],au⟩
@[irreducible] def eB(a:Bs)(a2:Bs):Option Bool:=syv NN (Hx.go (a,a2))
def jt:=gA Hx (u2 eB)
def iK(N:Nat):Option Bool:=
 (oF).bind λh=>
 (dP N h).bind λ(a,e)=>
 (cU N a).bind λ(i,b)=>
 bif (e !=0) then(
 some false)
 else
 bif (!((b.1==0)&&(b.2==0))) then(
 some false)
 else
 bif ((a.length:Int) !=96) then(
 some false)
 else
 bif ((i.1.2.1.length:Int) !=1) then(
 some false)
 else
 (slc a 0 13).bind λf=>
 (eB f ([48,94,48,83,2,1,1,48,4,6,2,42,3]:Bs)).bind λc=>
 bif c then(
 (slc a 87 (a.length:Int)).bind λg=>
 (eB g ([48,4,6,2,42,3,3,1,0]:Bs)).bind λd=>
 some d)
 else
 some false
def OQ:KC B0:=gC 5 (c1 [MW,Ej,wc,jt]) [] au (λ_=>iK NN) krq
attribute [irreducible] iK
def IG:AD B0:=⟨14,(c1 []),[hc1],au⟩
@[irreducible] def A8(a:Y0):Option Bool:=syv NN (IG.go (a))
def A9:=gA IG A8
def IH:AD B0:=⟨107,(c1 []),[hc1],au⟩
@[irreducible] def Ba(a:Y0):Option Bool:=syv NN (IH.go (a))
def Su:=gA IH Ba
def uC(L:List (KL B0)):Ctx B0:=⟨[Su],[],[],L,.nil⟩
def xR:LD:=⟨75,3,0,⟨[(0,hc2),(3,hc4),(4,hc4)],[]⟩,[(.ret,⟨[(2,vF)],[]⟩),(.exit 0,⟨[(0,hc2),(3,hc4)],[]⟩)]⟩
@[local irreducible] def xS(N n:Nat):(Y1×Y3)->Option ((Unit)⊕(Y1×Int)):=Nat.rec (λ_=>none) (λ_ L x=>syv N (xR.round (uC []).cxs L x)) n
def II:=gL (uC []) xR (xS NN)
def Cv:AD B0:=⟨75,(uC [II]),[hc2],au⟩
@[irreducible] def uD(N:Nat)(a:Y1):Option Bool:=syv N (Cv.go (a))
def Nd:=gA Cv (uD NN)
def pA(L:List (KL B0)):Ctx B0:=⟨[Nd],[],[],L,.nil⟩
def Cw:LD:=⟨34,8,0,⟨[(0,fq),(3,hc4),(4,hc4),(5,hc4)],[]⟩,[(.exit 2,⟨[(0,fq),(3,hc4),(4,hc4)],[]⟩)]⟩
@[local irreducible] def Cy(N n:Nat):(Y2×Int×Y3)->Option (Y2×Y3):=Nat.rec (λ_=>none) (λ_ L x=>syv N (Cw.round (pA []).cxs L x)) n
def uE:=gL (pA []) Cw (Cy NN)
def Cz:LD:=⟨34,3,0,⟨[(0,fq),(3,hc4),(4,hc4)],[]⟩,[(.ret,⟨[(2,vF)],[]⟩),(.exit 0,⟨[(0,fq),(3,hc4)],[]⟩)]⟩
@[local irreducible] def CA(N n:Nat):(Y2×Y3)->Option ((Unit)⊕(Y2×Int)):=Nat.rec (λ_=>none) (λ_ L x=>syv N (Cz.round (pA [uE]).cxs L x)) n
def Nf:=gL (pA [uE]) Cz (CA NN)
def IJ:AD B0:=⟨34,(pA [uE,Nf]),[fq],au⟩
@[irreducible] def Bb(N:Nat)(a:Y2):Option Bool:=syv N (IJ.go (a))
def Sv:=gA IJ (Bb NN)
def CB:AD B0:=⟨35,(c1 [A9]),[Oy],au⟩
@[irreducible] def uF(a:Y7):Option Bool:=syv NN (CB.go (a))
def Ng:=gA CB uF
def sd(L:List (KL B0)):Ctx B0:=⟨[],[],[],L,.nil⟩
def we:LD:=⟨36,3,0,⟨[(0,lQ),(3,hc4),(4,hc4)],[]⟩,[(.exit 0,⟨[(0,lQ),(3,hc4)],[]⟩)]⟩
@[local irreducible] def wh(N n:Nat):(Y9×Y3)->Option (Y9×Int):=Nat.rec (λ_=>none) (λ_ L x=>syv N (we.round (sd []).cxs L x)) n
def HW:=gL (sd []) we (wh NN)
def Bc:AD B0:=⟨36,(sd [HW]),[lQ],au⟩
@[irreducible] def se(N:Nat)(a:Y9):Option Bool:=syv N (Bc.go (a))
def LS:=gA Bc (se NN)
end
end Go.Fw
