/- A framework for proofs about Go programs in this model: part S. Everything is proved; no condition is added. -/
import Derived.Test.YtlicgchfbhkelaaGreatDoorFwR
set_option linter.unusedVariables false
set_option linter.unusedSimpArgs false
set_option linter.defProp false
namespace Go.Fw
open Go Go.Proofs.Tryz
noncomputable section
set_option maxRecDepth 100000
set_option maxHeartbeats 0
attribute [local irreducible] ix app slc fM toB agree jO jP jN mz gW bE bZ cg cy dV bq aZ bS aM dO eB gp eP cG aQ bK aW bu aX bO cb eV cz dt cp cq cA cB cC cD dE dI aB aC aO bP bx aN cQ fI eW aD aH bW bM dL cR cr aq aA du bp cO ba bQ ed dw bj cf eY ig gi gj dW dM bY cE bo dA cw cn bR bF bz bX br aF eO ii bg eH cm gb fj aI aK aP gd bA cJ aR aJ aT cX cF bt fo fq bh be eg cK eD ge gg dJ gy ey fu dX dK fB cu bv dq cT gP cS eZ dP dQ em dR eI dZ bL cP gY dS gk fF
def Bp:AD B0:=⟨243,(c1 [xH]),[hc0],(.tup [hc4,ay])⟩
@[local irreducible] noncomputable def gZ(N:Nat)(a:Bs):Y31:=syv N (Bp.go (a))
def Ll:KC B0:=gA Bp (gZ NN) (by kernel_rfl)
def tW:AD B0:=⟨242,(c1 [bV,Ll]),[hc0,.agg [hc4,hc4,ay,hc4,hc4,hc4],hc4,hc4,.func (.func 243) [] []],(.tup [hc4,ay])⟩
@[local irreducible] noncomputable def eQ(N:Nat)(a:Bs)(a2:Int)(a3:Int)(a4:Bool)(a5:Int)(b:Int)(c:Int)(d:Int)(a9:Int):Y31:=syv N (tW.go (a,a2,a3,a4,a5,b,c,d,a9))
def oX:KC B0:=gA tW (u9 (eQ NN)) (by kernel_rfl)
def OT:Tr cI:=(.node (.node .nil 11811165188 [(.normal,⟨[(0,hc0),(2,.ptr 0 0),(3,.ptr 1 0),(4,ic),(6,.ptr 3 0)],[oo9,oo5,.junk,.cells [ay,vF,vZ] false]⟩),(.ret,⟨[(2,.ptr 0 0),(3,.ptr 1 0)],[oo9,oo6,.junk,.junk]⟩)] .nil) 11811171332 [(.normal,⟨[(2,.ptr 0 0),(3,.ptr 1 0),(4,ic),(6,.ptr 3 0)],[oo9,oo5,.junk,.cells [ay,ay,hc4] false]⟩),(.ret,⟨[(2,.ptr 0 0),(3,.ptr 1 0)],[oo9,oo6,.junk,.junk]⟩)] .nil)
def FU:AD B0:=⟨176,⟨[bc,CP,oX],[],[],[],OT⟩,[hc0],(.tup [.hole YB,hc5])⟩
@[local irreducible] noncomputable def iu(N:Nat)(a:Bs):Option (Y32×Y3):=syv N (FU.go (a))
def OU:KC B0:=gA FU (iu NN) (by kernel_rfl)
def CQ:AD B0:=⟨298,(c1 [lV]),[hc0],hc4⟩
@[local irreducible] noncomputable def iD(a:Bs):Option Int:=syv NN (CQ.go (a))
def MX:KC B0:=gA CQ iD (by kernel_rfl)
def vi:AD B0:=⟨221,(c1 [lV,MX]),[hc0],ay⟩
@[local irreducible] noncomputable def fD(a:Bs):Option Bool:=syv NN (vi.go (a))
def Gk:KC B0:=gA vi fD (by kernel_rfl)
def sK:AD B0:=⟨223,(c1 [lU,Gk]),[hc0],(.tup [hc0,ay])⟩
@[local irreducible] noncomputable def fv(a:Bs):Y26:=syv NN (sK.go (a))
def CR:KC B0:=gA sK fv (by kernel_rfl)
def sL:AD B0:=⟨299,(c1 [bV,CR]),[hc0,.agg [hc4,hc4,ay,hc4,hc4,hc4],hc4,hc4,.func (.func 223) [] []],(.tup [hc0,ay])⟩
@[local irreducible] noncomputable def fw(a:Bs)(a2:Int)(a3:Int)(a4:Bool)(a5:Int)(b:Int)(c:Int)(d:Int)(a9:Int):Y26:=syv NN (sL.go (a,a2,a3,a4,a5,b,c,d,a9))
def CS:KC B0:=gA sL (u9 fw) (by kernel_rfl)
def rE:AD B0:=⟨222,(c1 [eC,CS]),[hc0,.func (.func 223) [] []],(.tup [hc0,hc5])⟩
@[local irreducible] noncomputable def eR(N:Nat)(a:Bs):Y20:=syv N (rE.go (a))
def B4:KC B0:=gA rE (eR NN) (by kernel_rfl)
def vj:AD B0:=⟨158,(c1 [B4]),[hc0],(.tup [hc0,hc5])⟩
@[local irreducible] noncomputable def dY(N:Nat)(a:Bs):Y20:=syv N (vj.go (a))
def Gl:KC B0:=gA vj (dY NN) (by kernel_rfl)
def zQ:AD B0:=⟨356,(c1 []),[],(.agg [dr,dr,dr,dr,dr,dr,dr,dr,dr,dr,dr])⟩
@[local irreducible] noncomputable def iV:Option (Bs×Bs×Bs×Bs×Bs×Bs×Bs×Bs×Bs×Y0):=syv NN (zQ.go ())
def JW:KC B0:=gA zQ (λ_=>iV) (by kernel_rfl)
def GW:AD B0:=⟨315,(c1 [JW]),[hc4],dr⟩
@[local irreducible] noncomputable def lK(a:Int):Option Bs:=syv NN (GW.go (a))
def Qr:KC B0:=gA GW lK (by kernel_rfl)
def FV:AD B0:=⟨244,(c1 [Qr]),[hc4],ay⟩
@[local irreducible] noncomputable def jQ(a:Int):Option Bool:=syv NN (FV.go (a))
def OV:KC B0:=gA FV jQ (by kernel_rfl)
end
end Go.Fw
