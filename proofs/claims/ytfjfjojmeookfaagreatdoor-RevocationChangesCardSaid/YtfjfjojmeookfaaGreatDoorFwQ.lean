/- A framework for proofs about Go programs in this model: part Q. Everything is proved; no condition is added. -/
import Derived.Test.YtfjfjojmeookfaaGreatDoorFwP
set_option linter.unusedVariables false
set_option linter.unusedSimpArgs false
set_option linter.defProp false
namespace Go.Fw
open Go Go.Proofs.Tryz
noncomputable section
set_option maxRecDepth 100000
set_option maxHeartbeats 0
attribute [local irreducible] ix app slc cC toB agree fU fW fT jB dR aK aV aX
def wF:AD B0:=⟨144,(c1 []),[hc3,hc3],(.tup [hc1,hc4])⟩
@[local irreducible] def kN(a:Int)(a2:Int):Y24:=syv NN (wF.go (a,a2))
def IM:=gA wF (u2 kN)
def zT:AD B0:=⟨126,(c1 [aH,IM,aU,gr,jm,kn]),[hc0],(.tup [hc1,hc4])⟩
@[irreducible] def cK(N:Nat)(a:Bs):Y24:=syv N (zT.go (a))
def LE:=gA zT (cK NN)
def zo(L:List (KL B0)):Ctx B0:=⟨[aH,LE,mA],[],[],L,.nil⟩
def BN:LD:=⟨98,9,0,⟨[(0,hc0),(3,.ptr 0 0),(6,.own 2),(7,.own 3),(27,eL),(28,hc3),(29,hc3)],[oo0,.junk,.arr tc1 false false,.arr tc0 true false]⟩,[(.ret,⟨[(2,vN),(3,.ptr 0 0)],[oo0,.junk,.junk,.junk]⟩),(.exit 0,⟨[(3,.ptr 0 0),(6,.own 2)],[oo0,.junk,.arr tc1 false false,.junk]⟩)]⟩
@[local irreducible] def bK(N n:Nat):(Bs×Y17×Int×Int×Int×Int×Y11×Y2)->Option (Y4⊕(Int×Int×Y11)):=Nat.rec (λ_=>none) (λ_ L x=>syv N (BN.round (zo []).cxs L x)) n
def MT:=gL (zo []) BN (bK NN)
def Ii:AD B0:=⟨98,(zo [MT]),[hc0],(.tup [hc2,hc4])⟩
@[irreducible] def ed(N:Nat)(a:Bs):Option (Y11×Y4):=syv N (Ii.go (a))
def Ij:=gA Ii (ed NN)
def GD(L:List (KL B0)):Ctx B0:=⟨[aH,Ij],[],[],L,.nil⟩
def Ik:LD:=⟨56,6,0,⟨[(0,hc0),(3,.ptr 0 0),(6,.own 2),(20,eL),(21,hc3),(22,hc3)],[oo0,.junk,.arr tc2 false false]⟩,[(.ret,⟨[(2,vN),(3,.ptr 0 0)],[oo0,.junk,.junk]⟩),(.exit 0,⟨[(3,.ptr 0 0),(6,.own 2)],[oo0,.junk,.arr tc2 false false]⟩)]⟩
@[local irreducible] def de(N n:Nat):(Bs×Y17×Int×Int×Int×Int×Y12)->Option (Y4⊕(Int×Int×Y12)):=Nat.rec (λ_=>none) (λ_ L x=>syv N (Ik.round (GD []).cxs L x)) n
def R6:=gL (GD []) Ik (de NN)
def Oe:AD B0:=⟨56,(GD [R6]),[hc0],(.tup [iQ,hc4])⟩
@[irreducible] def iu(N:Nat)(a:Bs):Option (Y12×Y4):=syv N (Oe.go (a))
def Of:=gA Oe (iu NN)
def pE:AD B0:=⟨360,(c1 [Of]),[KM],(.tup [Bp,au])⟩
@[irreducible] def kx(N:Nat)(a:Y8):Y23:=syv N (pE.go (a))
def BO:=gA pE (kx NN)
def yw:AD B0:=⟨391,(c1 [bI,Bq]),[hc0],(.tup [ach,au])⟩
@[irreducible] def pF(N:Nat)(a:Bs):Option (Y8×Bool):=syv N (yw.go (a))
def Jm:=gA yw (pF NN)
def qP:AD B0:=⟨392,(c1 []),[hc3],au⟩
@[local irreducible] def qQ(a:Int):Option Bool:=syv NN (qP.go (a))
def CU:=gA qP qQ
def tE:AD B0:=⟨380,(c1 [Jm,CU]),[hc0],(.tup [ach,au])⟩
@[irreducible] def mZ(N:Nat)(a:Bs):Option (Y8×Bool):=syv N (tE.go (a))
def ET:=gA tE (mZ NN)
def GE:Tr bh:=(.node .nil 24226302979 [(.normal,⟨[(2,.ptr 1 0),(4,jw),(5,.ptr 2 0)],[.junk,oo8,.cells [hc3,vE,vE,vN,vN,hc3,bO,vZ,vE] false]⟩),(.ret,⟨[(2,.ptr 1 0),(3,vF)],[.junk,oo8,.junk,.junk]⟩)] .nil)
def uT:AD B0:=⟨361,⟨[Dn,Dp,ET],[],[],[],GE⟩,[KM],(.tup [Bp,au])⟩
@[irreducible] def nP(N:Nat)(a:Y8):Y23:=syv N (uT.go (a))
def GF:=gA uT (nP NN)
def tF:AD B0:=⟨362,(c1 [gr]),[KM],(.tup [Bp,au])⟩
@[irreducible] def na(N:Nat)(a:Y8):Y23:=syv N (tF.go (a))
def EU:=gA tF (na NN)
def Dq:AD B0:=⟨242,(c1 [bI,X0,tD,GA,ES,IL,GC,BO,GF,EU]),[hc0],(.tup [Bp,hc4])⟩
@[irreducible] def oX(N:Nat)(a:Bs):Option (Y22×Y4):=syv N (Dq.go (a))
def oY:=gA Dq (oX NN)
def oH(L:List (KL B0)):Ctx B0:=⟨[aH,oY],[],[],L,.nil⟩
def rM:LD:=⟨175,8,0,⟨[(0,hc0),(3,.ptr 0 0),(6,.own 2),(26,eL),(27,hc3),(28,hc3)],[oo5,.junk,.arr D4 false false]⟩,[(.ret,⟨[(2,vN),(3,.ptr 0 0)],[oo0,.junk,.junk]⟩),(.exit 0,⟨[(3,.ptr 0 0),(6,.own 2)],[oo5,.junk,.arr D4 false false]⟩)]⟩
@[local irreducible] def rN(N n:Nat):(Bs×Y17×Int×Int×Y25)->Option (Y4⊕Y25):=Nat.rec (λ_=>none) (λ_ L x=>syv N (rM.round (oH []).cxs L x)) n
def D7:=gL (oH []) rM (rN NN)
def wG:AD B0:=⟨175,(oH [D7]),[hc0],(.tup [kW,hc4])⟩
@[irreducible] def fg(N:Nat)(a:Bs):Option (Y25×Y4):=syv N (wG.go (a))
def oI:=gA wG (fg NN)
def zU:AD B0:=⟨147,(c1 []),[hc0],(.tup [au,hc3])⟩
@[irreducible] def dY(a:Bs):Option (Bool×Int):=syv NN (zU.go (a))
def rh:=gA zU dY
end
end Go.Fw
