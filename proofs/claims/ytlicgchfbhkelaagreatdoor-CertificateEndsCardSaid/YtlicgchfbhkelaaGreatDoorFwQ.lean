/- A framework for proofs about Go programs in this model: part Q. Everything is proved; no condition is added. -/
import Derived.Test.YtlicgchfbhkelaaGreatDoorFwP
set_option linter.unusedVariables false
set_option linter.unusedSimpArgs false
set_option linter.defProp false
namespace Go.Fw
open Go Go.Proofs.Tryz
noncomputable section
set_option maxRecDepth 100000
set_option maxHeartbeats 0
attribute [local irreducible] ix app slc fM toB agree jO jP jN mz gW bE bZ cg cy dV bq aZ bS aM dO eB gp eP cG aQ bK aW bu aX bO cb eV cz dt cp cq cA cB cC cD dE dI aB aC aO bP bx aN cQ fI eW aD aH bW bM dL cR cr aq aA du bp cO ba bQ ed dw bj cf eY ig gi gj dW dM bY cE bo dA cw cn bR bF bz bX br aF eO ii bg eH cm gb fj aI aK aP gd bA cJ aR aJ aT cX cF bt fo fq bh be eg
def CH:Tr cI:=(.node (.node .nil 19864225792 [(.normal,⟨[(4,ay)],[]⟩)] .nil) 19864226816 [(.normal,⟨[(4,ay)],[]⟩)] (.node .nil 19864227840 [(.normal,⟨[(4,ay)],[]⟩)] .nil))
def sF:AD B0:=⟨296,⟨[],[],[],[],CH⟩,[hc4],ay⟩
@[local irreducible] noncomputable def cK(a:Int):Option Bool:=syv NN (sF.go (a))
def sG:KC B0:=gA sF cK (by kernel_rfl)
def tS(L:List (KL B0)):Ctx B0:=⟨[vT],[],[],L,.nil⟩
def wM:LD:=⟨369,6,0,⟨[(0,hc0),(5,.own 1),(18,ic),(19,hc4),(20,hc4)],[.junk,.arr tc0 false false]⟩,[(.exit 0,⟨[(5,.own 1)],[.junk,.arr tc0 false false]⟩)]⟩
@[local irreducible] noncomputable def eD(N n:Nat):(Bs×Y22×Y23)->Option (List Bs):=Nat.rec (λ_=>none) (λ_ L x=>syv N (wM.round (tS []).cxs L x)) n
def GT:KL B0:=gL (tS []) wM (eD NN) (by kernel_rfl)
def Bj:AD B0:=⟨369,(tS [GT]),[hc0],pW⟩
@[local irreducible] noncomputable def ge(N:Nat)(a:Bs):Option (List Bs):=syv N (Bj.go (a))
def Bk:KC B0:=gA Bj (ge NN) (by kernel_rfl)
def Bl:AD B0:=⟨370,(c1 [eC,bV]),[hc0,hc4],(.tup [hc0,ay])⟩
@[local irreducible] noncomputable def gg(N:Nat)(a:Bs)(a2:Int):Y26:=syv N (Bl.go (a,a2))
def Bm:KC B0:=gA Bl (u2 (gg NN)) (by kernel_rfl)
def tT:AD B0:=⟨346,(c1 [Bk,eC,bV,jK,Bm,lU]),[Ig],(.tup [zn,ay])⟩
@[local irreducible] noncomputable def dJ(N:Nat)(a:Y16):Y28:=syv N (tT.go (a))
def Ef:KC B0:=gA tT (dJ NN) (by kernel_rfl)
def CI:AD B0:=⟨342,(c1 [mJ]),[hc0],ay⟩
@[local irreducible] noncomputable def gy(N:Nat)(a:Bs):Option Bool:=syv N (CI.go (a))
def MW:KC B0:=gA CI (gy NN) (by kernel_rfl)
def xU:AD B0:=⟨343,(c1 [eJ]),[hc4,hc0],(.tup [hc0,hc4])⟩
@[local irreducible] noncomputable def ey(N:Nat)(a:Int)(a2:Bs):Y18:=syv N (xU.go (a,a2))
def xV:KC B0:=gA xU (u2 (ey NN)) (by kernel_rfl)
def CJ:AD B0:=⟨294,(c1 [MW,xV]),[zn],ay⟩
@[local irreducible] noncomputable def fu(N:Nat)(a:Y27):Option Bool:=syv N (CJ.go (a))
def CL:KC B0:=gA CJ (fu NN) (by kernel_rfl)
def ve:AD B0:=⟨347,(c1 [zo]),[Ig],(.tup [zn,ay])⟩
@[local irreducible] noncomputable def dX(N:Nat)(a:Y16):Y28:=syv N (ve.go (a))
def Gi:KC B0:=gA ve (dX NN) (by kernel_rfl)
def tU:AD B0:=⟨348,(c1 [lU]),[Ig],(.tup [zn,ay])⟩
@[local irreducible] noncomputable def dK(a:Y16):Y28:=syv NN (tU.go (a))
def Eg:KC B0:=gA tU dK (by kernel_rfl)
def vf:AD B0:=⟨142,(c1 []),[hc4,hc4],(.tup [hc1,hc5])⟩
@[local irreducible] noncomputable def fB(a:Int)(a2:Int):Y29:=syv NN (vf.go (a,a2))
def Gj:KC B0:=gA vf (u2 fB) (by kernel_rfl)
def xW:AD B0:=⟨123,(c1 [bc,Gj,bV,jK,lU,mJ]),[hc0],(.tup [hc1,hc5])⟩
@[local irreducible] noncomputable def cu(N:Nat)(a:Bs):Y29:=syv N (xW.go (a))
def IV:KC B0:=gA xW (cu NN) (by kernel_rfl)
def xF(L:List (KL B0)):Ctx B0:=⟨[bc,IV,nY],[],[],L,.nil⟩
def zN:LD:=⟨99,9,0,⟨[(0,hc0),(3,.ptr 0 0),(6,.own 2),(7,.own 3),(27,ic),(28,hc4),(29,hc4)],[oo0,.junk,.arr tc1 false false,.arr tc0 true false]⟩,[(.ret,⟨[(2,vN),(3,.ptr 0 0)],[oo0,.junk,.junk,.junk]⟩),(.exit 0,⟨[(3,.ptr 0 0),(6,.own 2)],[oo0,.junk,.arr tc1 false false,.junk]⟩)]⟩
@[local irreducible] noncomputable def bv(N n:Nat):(Bs×Y22×Int×Int×Int×Int×Y1×Y11)->Option (Y3⊕(Int×Int×Y1)):=Nat.rec (λ_=>none) (λ_ L x=>syv N (zN.round (xF []).cxs L x)) n
def JU:KL B0:=gL (xF []) zN (bv NN) (by kernel_rfl)
def FP:AD B0:=⟨99,(xF [JU]),[hc0],(.tup [hc2,hc5])⟩
@[local irreducible] noncomputable def dq(N:Nat)(a:Bs):Option (Y1×Y3):=syv N (FP.go (a))
def FQ:KC B0:=gA FP (dq NN) (by kernel_rfl)
def Eh(L:List (KL B0)):Ctx B0:=⟨[bc,FQ],[],[],L,.nil⟩
def FR:LD:=⟨57,6,0,⟨[(0,hc0),(3,.ptr 0 0),(6,.own 2),(20,ic),(21,hc4),(22,hc4)],[oo0,.junk,.arr tc2 false false]⟩,[(.ret,⟨[(2,vN),(3,.ptr 0 0)],[oo0,.junk,.junk]⟩),(.exit 0,⟨[(3,.ptr 0 0),(6,.own 2)],[oo0,.junk,.arr tc2 false false]⟩)]⟩
@[local irreducible] noncomputable def cT(N n:Nat):(Bs×Y22×Int×Int×Int×Int×Y2)->Option (Y3⊕(Int×Int×Y2)):=Nat.rec (λ_=>none) (λ_ L x=>syv N (FR.round (Eh []).cxs L x)) n
def OS:KL B0:=gL (Eh []) FR (cT NN) (by kernel_rfl)
def Li:AD B0:=⟨57,(Eh [OS]),[hc0],(.tup [lj,hc5])⟩
@[local irreducible] noncomputable def gP(N:Nat)(a:Bs):Option (Y2×Y3):=syv N (Li.go (a))
def Lj:KC B0:=gA Li (gP NN) (by kernel_rfl)
end
end Go.Fw
