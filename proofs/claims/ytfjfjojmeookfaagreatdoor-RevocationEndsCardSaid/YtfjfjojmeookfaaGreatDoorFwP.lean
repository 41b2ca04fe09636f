/- A framework for proofs about Go programs in this model: part P. Everything is proved; no condition is added. -/
import Derived.Test.YtfjfjojmeookfaaGreatDoorFwO
set_option linter.unusedVariables false
set_option linter.unusedSimpArgs false
set_option linter.defProp false
namespace Go.Fw
open Go Go.Proofs.Tryz
noncomputable section
set_option maxRecDepth 100000
set_option maxHeartbeats 0
attribute [local irreducible] ix app slc fP toB agree jV jW jU ml ig bE bY cm dG bD ba aQ dT eI gt eV cJ aT bJ aU bp aW bO bZ fe cD dt cu cw cE cF cG cH dA dF aB aC aS bP bz aR cQ ff eM aI aE bV bL dN cR cy au az du bu cM bc bQ dR cN bq cb fM iw gm gn dZ dO cW cO bW bS bF bx bA bX bv aD eU iy bj eP cp gi ft aJ aN aK fI br cf aO aF aP cX cI cz fu fv bo bh ey cg dV fw fx dd ge
def xF:AD B0:=⟨354,(c1 [eR]),[hc3,hc0],(.tup [hc0,hc3])⟩
@[local irreducible] noncomputable def eE(N:Nat)(a:Int)(a2:Bs):Y10:=syv N (xF.go (a,a2))
def xG:KC B0:=gA xF (u2 (eE NN)) (by kernel_rfl)
def Cv:AD B0:=⟨308,(c1 [M4,xG]),[y3],ay⟩
@[local irreducible] noncomputable def fy(N:Nat)(a:Y22):Option Bool:=syv N (Cv.go (a))
def Cw:KC B0:=gA Cv (fy NN) (by kernel_rfl)
def uE:AD B0:=⟨358,(c1 [y4]),[H8],(.tup [y3,ay])⟩
@[local irreducible] noncomputable def ec(N:Nat)(a:Y8):Y23:=syv N (uE.go (a))
def F4:KC B0:=gA uE (ec NN) (by kernel_rfl)
def tA:AD B0:=⟨359,(c1 [lN]),[H8],(.tup [y3,ay])⟩
@[local irreducible] noncomputable def dI(a:Y8):Y23:=syv NN (tA.go (a))
def D5:KC B0:=gA tA dI (by kernel_rfl)
def uF:AD B0:=⟨144,(c1 []),[hc3,hc3],(.tup [hc1,hc4])⟩
@[local irreducible] noncomputable def fG(a:Int)(a2:Int):Y24:=syv NN (uF.go (a,a2))
def F5:KC B0:=gA uF (u2 fG) (by kernel_rfl)
def xH:AD B0:=⟨126,(c1 [be,F5,bR,jR,lN,mE]),[hc0],(.tup [hc1,hc4])⟩
@[local irreducible] noncomputable def cA(N:Nat)(a:Bs):Y24:=syv N (xH.go (a))
def IT:KC B0:=gA xH (cA NN) (by kernel_rfl)
def xi(L:List (KL B0)):Ctx B0:=⟨[be,IT,nM],[],[],L,.nil⟩
def zm:LD:=⟨98,9,0,⟨[(0,hc0),(3,.ptr 0 0),(6,.own 2),(7,.own 3),(27,iu),(28,hc3),(29,hc3)],[oo0,.junk,.arr tc1 false false,.arr tc0 true false]⟩,[(.ret,⟨[(2,vN),(3,.ptr 0 0)],[oo0,.junk,.junk,.junk]⟩),(.exit 0,⟨[(3,.ptr 0 0),(6,.own 2)],[oo0,.junk,.arr tc1 false false,.junk]⟩)]⟩
@[local irreducible] noncomputable def bw(N n:Nat):(Bs×Y17×Int×Int×Int×Int×Y11×Y2)->Option (Y4⊕(Int×Int×Y11)):=Nat.rec (λ_=>none) (λ_ L x=>syv N (zm.round (xi []).cxs L x)) n
def JX:KL B0:=gL (xi []) zm (bw NN) (by kernel_rfl)
def FD:AD B0:=⟨98,(xi [JX]),[hc0],(.tup [hc2,hc4])⟩
@[local irreducible] noncomputable def dq(N:Nat)(a:Bs):Option (Y11×Y4):=syv N (FD.go (a))
def FE:KC B0:=gA FD (dq NN) (by kernel_rfl)
def D6(L:List (KL B0)):Ctx B0:=⟨[be,FE],[],[],L,.nil⟩
def FF:LD:=⟨56,6,0,⟨[(0,hc0),(3,.ptr 0 0),(6,.own 2),(20,iu),(21,hc3),(22,hc3)],[oo0,.junk,.arr tc2 false false]⟩,[(.ret,⟨[(2,vN),(3,.ptr 0 0)],[oo0,.junk,.junk]⟩),(.exit 0,⟨[(3,.ptr 0 0),(6,.own 2)],[oo0,.junk,.arr tc2 false false]⟩)]⟩
@[local irreducible] noncomputable def cS(N n:Nat):(Bs×Y17×Int×Int×Int×Int×Y12)->Option (Y4⊕(Int×Int×Y12)):=Nat.rec (λ_=>none) (λ_ L x=>syv N (FF.round (D6 []).cxs L x)) n
def O7:KL B0:=gL (D6 []) FF (cS NN) (by kernel_rfl)
def Lo:AD B0:=⟨56,(D6 [O7]),[hc0],(.tup [ny,hc4])⟩
@[local irreducible] noncomputable def iz(N:Nat)(a:Bs):Option (Y12×Y4):=syv N (Lo.go (a))
def Lp:KC B0:=gA Lo (iz NN) (by kernel_rfl)
def pM:AD B0:=⟨360,(c1 [Lp]),[H8],(.tup [y3,ay])⟩
@[local irreducible] noncomputable def cq(N:Nat)(a:Y8):Y23:=syv N (pM.go (a))
def zn:KC B0:=gA pM (cq NN) (by kernel_rfl)
def wo:AD B0:=⟨391,(c1 [dH,y4]),[hc0],(.tup [YM,ay])⟩
@[local irreducible] noncomputable def eJ(N:Nat)(a:Bs):Option (Y8×Bool):=syv N (wo.go (a))
def GE:KC B0:=gA wo (eJ NN) (by kernel_rfl)
def qD:AD B0:=⟨392,(c1 []),[hc3],ay⟩
@[local irreducible] noncomputable def df(a:Int):Option Bool:=syv NN (qD.go (a))
def Az:KC B0:=gA qD df (by kernel_rfl)
def sj:AD B0:=⟨380,(c1 [GE,Az]),[hc0],(.tup [YM,ay])⟩
@[local irreducible] noncomputable def dr(N:Nat)(a:Bs):Option (Y8×Bool):=syv N (sj.go (a))
def Cy:KC B0:=gA sj (dr NN) (by kernel_rfl)
def D7:Tr cB:=(.node .nil 24226302979 [(.normal,⟨[(2,.ptr 1 0),(4,pF),(5,.ptr 2 0)],[.junk,oo8,.cells [hc3,vE,vE,vN,vN,hc3,dU,vZ,vE] false]⟩),(.ret,⟨[(2,.ptr 1 0),(3,vF)],[.junk,oo8,.junk,.junk]⟩)] .nil)
def tB:AD B0:=⟨361,⟨[A4,A6,Cy],[],[],[],D7⟩,[H8],(.tup [y3,ay])⟩
@[local irreducible] noncomputable def dJ(N:Nat)(a:Y8):Y23:=syv N (tB.go (a))
def D8:KC B0:=gA tB (dJ NN) (by kernel_rfl)
end
end Go.Fw
