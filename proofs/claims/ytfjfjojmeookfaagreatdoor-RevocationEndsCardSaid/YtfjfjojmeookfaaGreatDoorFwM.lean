/- A framework for proofs about Go programs in this model: part M. Everything is proved; no condition is added. -/
import Derived.Test.YtfjfjojmeookfaaGreatDoorFwL
set_option linter.unusedVariables false
set_option linter.unusedSimpArgs false
set_option linter.defProp false
namespace Go.Fw
open Go Go.Proofs.Tryz
noncomputable section
set_option maxRecDepth 100000
set_option maxHeartbeats 0
attribute [local irreducible] ix app slc fP toB agree jV jW jU ml ig bE bY cm dG bD ba aQ dT eI gt eV cJ aT bJ aU bp aW bO bZ fe cD dt cu cw cE cF cG cH dA dF aB aC aS bP bz aR cQ ff eM aI aE bV bL dN cR cy au az du bu cM bc bQ dR cN
def nX(L:List (KL B0)):Ctx B0:=⟨[IR,nM,eR],[],[],L,.nil⟩
def pI:LD:=⟨80,3,0,⟨[(2,.func (.func 81) [] [.rc [ny] 0]),(3,.ptr 0 0),(8,.own 1),(12,hc3),(13,hc3)],[oo4,.arr tc0 false false]⟩,[(.ret,⟨[(6,vN),(7,hc3)],[.junk,.junk]⟩),(.exit 0,⟨[(3,.ptr 0 0),(8,.own 1)],[oo4,.arr tc0 false false]⟩)]⟩
@[local irreducible] noncomputable def bq(N n:Nat):(Y12×Int×Int×Int×Bool×Y2)->Option ((Int)⊕(Int×Bool×Y2)):=Nat.rec (λ_=>none) (λ_ L x=>syv N (pI.round (nX []).cxs L x)) n
def zh:KL B0:=gL (nX []) pI (bq NN) (by kernel_rfl)
def sf:AD B0:=⟨80,(nX [zh]),[.agg [hc3,ay],hc3,.func (.func 81) [] [.rc [ny] 0]],(.tup [hc0,hc3])⟩
@[local irreducible] noncomputable def cb(N:Nat)(a:Int)(a2:Bool)(a3:Int)(a4:Y12):Y10:=syv N (sf.go (a,a2,a3,a4))
def Cm:KC B0:=gA sf (u4 (cb NN)) (by kernel_rfl)
def Gx:AD B0:=⟨40,(c1 [Cm]),[ny],(.tup [hc0,hc3])⟩
@[local irreducible] noncomputable def fM(N:Nat)(a:Y12):Y10:=syv N (Gx.go (a))
def zi:KC B0:=gA Gx (fM NN) (by kernel_rfl)
def Lk:AD B0:=⟨74,(c1 [zi]),[ny],ay⟩
@[local irreducible] noncomputable def iw(N:Nat)(a:Y12):Option Bool:=syv N (Lk.go (a))
def UK:KC B0:=gA Lk (iw NN) (by kernel_rfl)
def Gy:AD B0:=⟨155,(c1 []),[hc3],ay⟩
@[local irreducible] noncomputable def gm(a:Int):Option Bool:=syv NN (Gy.go (a))
def QB:KC B0:=gA Gy gm (by kernel_rfl)
def Gz:AD B0:=⟨138,(c1 [QB]),[hc3,hc3],hc3⟩
@[local irreducible] noncomputable def gn(a:Int)(a2:Int):Option Int:=syv NN (Gz.go (a,a2))
def QC:KC B0:=gA Gz (u2 gn) (by kernel_rfl)
def Fy:AD B0:=⟨109,(c1 [QC]),[hc6],ay⟩
@[local irreducible] noncomputable def dZ(a:Y13):Option Bool:=syv NN (Fy.go (a))
def rA:KC B0:=gA Fy dZ (by kernel_rfl)
def zj:AD B0:=⟨75,(c1 [rA]),[hc6],ay⟩
@[local irreducible] noncomputable def dO(a:Y13):Option Bool:=syv NN (zj.go (a))
def rP:KC B0:=gA zj dO (by kernel_rfl)
def AW:AD B0:=⟨79,(c1 []),[hc0],ay⟩
@[local irreducible] noncomputable def cW(a:Bs):Option Bool:=syv NN (AW.go (a))
def kE:KC B0:=gA AW cW (by kernel_rfl)
def xC:AD B0:=⟨118,(c1 [o8]),[hc8],ay⟩
@[local irreducible] noncomputable def cO(N:Nat)(a:Y14):Option Bool:=syv N (xC.go (a))
def xD:KC B0:=gA xC (cO NN) (by kernel_rfl)
def uC:AD B0:=⟨185,(c1 [lN]),[hc0],(.tup [hc0,hc4])⟩
@[local irreducible] noncomputable def bW(a:Bs):Y15:=syv NN (uC.go (a))
def F2:KC B0:=gA uC bW (by kernel_rfl)
def qW:AD B0:=⟨254,(c1 []),[],(.agg [.func (.func 321) [] [],.func (.func 323) [] []])⟩
@[local irreducible] noncomputable def bS:Option Unit:=syv NN (qW.go ())
def BL:KC B0:=gA qW (λ_=>bS) (by kernel_rfl)
def Cn:AD B0:=⟨106,(c1 [za]),[hc0,hc3,hc3],(.tup [UA,hc4])⟩
@[local irreducible] noncomputable def bF(N:Nat)(a:Bs)(a2:Int)(a3:Int):Option (Y16×Y4):=syv N (Cn.go (a,a2,a3))
def Co:KC B0:=gA Cn (u3 (bF NN)) (by kernel_rfl)
def Fz:AD B0:=⟨69,(c1 [Co]),[hc0],(.tup [UA,hc4])⟩
@[local irreducible] noncomputable def bx(N:Nat)(a:Bs):Option (Y16×Y4):=syv N (Fz.go (a))
def dH:KC B0:=gA Fz (bx NN) (by kernel_rfl)
end
end Go.Fw
