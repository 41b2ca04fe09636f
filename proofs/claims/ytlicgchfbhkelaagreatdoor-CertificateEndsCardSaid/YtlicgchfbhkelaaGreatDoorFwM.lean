/- A framework for proofs about Go programs in this model: part M. Everything is proved; no condition is added. -/
import Derived.Test.YtlicgchfbhkelaaGreatDoorFwL
set_option linter.unusedVariables false
set_option linter.unusedSimpArgs false
set_option linter.defProp false
namespace Go.Fw
open Go Go.Proofs.Tryz
noncomputable section
set_option maxRecDepth 100000
set_option maxHeartbeats 0
attribute [local irreducible] ix app slc fM toB agree jO jP jN mz gW bE bZ cg cy dV bq aZ bS aM dO eB gp eP cG aQ bK aW bu aX bO cb eV cz dt cp cq cA cB cC cD dE dI aB aC aO bP bx aN cQ
def GJ:AD B0:=⟨96,(c1 [JQ]),[hc4],(.tup [hc0,hc4])⟩
@[local irreducible] noncomputable def fI(N:Nat)(a:Int):Y18:=syv N (GJ.go (a))
def Qm:KC B0:=gA GJ (fI NN) (by kernel_rfl)
def GK:AD B0:=⟨49,(c1 [JP,Qm,kI]),[hc4,ay,hc4,hc0],(.tup [hc0,hc4])⟩
@[local irreducible] noncomputable def eW(N:Nat)(a:Int)(a2:Bool)(a3:Int)(a4:Bs):Y18:=syv N (GK.go (a,a2,a3,a4))
def Qn:KC B0:=gA GK (u4 (eW NN)) (by kernel_rfl)
def Cy:AD B0:=⟨20,(c1 [kI,Qn]),[hc4,ay,hc4,pW],(.tup [hc0,hc4])⟩
@[local irreducible] noncomputable def aD(N:Nat)(a:Int)(a2:Bool)(a3:Int)(a4:List Bs):Y18:=syv N (Cy.go (a,a2,a3,a4))
def eJ:KC B0:=gA Cy (u4 (aD NN)) (by kernel_rfl)
def wH:AD B0:=⟨47,(c1 [eJ]),[pW],(.tup [hc0,hc4])⟩
@[local irreducible] noncomputable def aH(N:Nat)(a:List Bs):Y18:=syv N (wH.go (a))
def eX:KC B0:=gA wH (aH NN) (by kernel_rfl)
def uY:AD B0:=⟨113,(c1 [IS,tI,eJ,eX]),[hc1],(.tup [hc0,hc4])⟩
@[local irreducible] noncomputable def bW(N:Nat)(a:Y0):Y18:=syv N (uY.go (a))
def Ge:KC B0:=gA uY (bW NN) (by kernel_rfl)
def tJ:AD B0:=⟨112,(c1 [Ge]),[hc4,.rc [hc2] 0],(.tup [hc0,hc4])⟩
@[local irreducible] noncomputable def bM(N:Nat)(a:Int)(a2:Y1):Y18:=syv N (tJ.go (a,a2))
def Ea:KC B0:=gA tJ (u2 (bM NN)) (by kernel_rfl)
def zy:AD B0:=⟨276,(c1 []),[A4],ay⟩
@[local irreducible] noncomputable def dL(a:Int):Option Bool:=syv NN (zy.go (a))
def JR:KC B0:=gA zy dL (by kernel_rfl)
def wI:AD B0:=⟨207,(c1 [JR]),[A4,A4],hc4⟩
@[local irreducible] noncomputable def cR(a:Int)(a2:Int):Option Int:=syv NN (wI.go (a,a2))
def GM:KC B0:=gA wI (u2 cR) (by kernel_rfl)
def wJ:AD B0:=⟨206,(c1 [GM]),[A4,A4],hc4⟩
@[local irreducible] noncomputable def cr(a:Int)(a2:Int):Option Int:=syv NN (wJ.go (a,a2))
def GN:KC B0:=gA wJ (u2 cr) (by kernel_rfl)
def gM(L:List (KL B0)):Ctx B0:=⟨[GN],[],[],L,.nil⟩
def jo:LD:=⟨205,2,0,⟨[(0,hc0),(1,hc0),(2,.func (.func 206) [] []),(11,hc0),(12,hc4),(13,hc4)],[]⟩,[(.ret,⟨[(6,hc4)],[]⟩),(.exit 0,⟨[(0,hc0),(1,hc0)],[]⟩)]⟩
@[local irreducible] noncomputable def aq(N n:Nat):(Bs×Bs×Bs×Y3)->Option ((Int)⊕Y0):=Nat.rec (λ_=>none) (λ_ L x=>syv N (jo.round (gM []).cxs L x)) n
def nc:KL B0:=gL (gM []) jo (aq NN) (by kernel_rfl)
def jZ:AD B0:=⟨205,(gM [nc]),[hc0,hc0,.func (.func 206) [] []],hc4⟩
@[local irreducible] noncomputable def aA(N:Nat)(a:Bs)(a2:Bs):Option Int:=syv N (jZ.go (a,a2))
def nW:KC B0:=gA jZ (u2 (aA NN)) (by kernel_rfl)
def zA:AD B0:=⟨136,(c1 [nW]),[hc0,hc0],hc4⟩
@[local irreducible] noncomputable def du(N:Nat)(a:Bs)(a2:Bs):Option Int:=syv N (zA.go (a,a2))
def JS:KC B0:=gA zA (u2 (du NN)) (by kernel_rfl)
def re(L:List (KL B0)):Ctx B0:=⟨[JS],[],[],L,.nil⟩
def tK:LD:=⟨111,2,0,⟨[(0,pW),(5,hc4),(6,hc4)],[]⟩,[(.ret,⟨[(2,ay)],[]⟩),(.exit 0,⟨[],[]⟩)]⟩
@[local irreducible] noncomputable def bp(N n:Nat):(Y11×Y3)->Option ((Bool)⊕(Unit)):=Nat.rec (λ_=>none) (λ_ L x=>syv N (tK.round (re []).cxs L x)) n
def Eb:KL B0:=gL (re []) tK (bp NN) (by kernel_rfl)
def xP:AD B0:=⟨111,(re [Eb]),[pW],ay⟩
@[local irreducible] noncomputable def cO(N:Nat)(a:List Bs):Option Bool:=syv N (xP.go (a))
def nY:KC B0:=gA xP (cO NN) (by kernel_rfl)
def oA(L:List (KL B0)):Ctx B0:=⟨[Ea,nY,eJ],[],[],L,.nil⟩
def pX:LD:=⟨83,3,0,⟨[(2,.func (.func 112) [] [.rc [hc2] 0]),(3,.ptr 0 0),(8,.own 1),(12,hc4),(13,hc4)],[oo4,.arr tc0 false false]⟩,[(.ret,⟨[(6,vN),(7,hc4)],[.junk,.junk]⟩),(.exit 0,⟨[(3,.ptr 0 0),(8,.own 1)],[oo4,.arr tc0 false false]⟩)]⟩
@[local irreducible] noncomputable def ba(N n:Nat):(Y1×Int×Int×Y19)->Option ((Int)⊕Y19):=Nat.rec (λ_=>none) (λ_ L x=>syv N (pX.round (oA []).cxs L x)) n
def zC:KL B0:=gL (oA []) pX (ba NN) (by kernel_rfl)
def sC:AD B0:=⟨83,(oA [zC]),[.agg [hc4,ay],hc4,.func (.func 112) [] [.rc [hc2] 0]],(.tup [hc0,hc4])⟩
@[local irreducible] noncomputable def bQ(N:Nat)(a:Int)(a2:Bool)(a3:Int)(a4:Y1):Y18:=syv N (sC.go (a,a2,a3,a4))
def Cz:KC B0:=gA sC (u4 (bQ NN)) (by kernel_rfl)
end
end Go.Fw
