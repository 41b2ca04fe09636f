/- A framework for proofs about Go programs in this model: part P. Everything is proved; no condition is added. -/
import Derived.Test.YtlicgchfbhkelaaGreatDoorFwO
set_option linter.unusedVariables false
set_option linter.unusedSimpArgs false
set_option linter.defProp false
namespace Go.Fw
open Go Go.Proofs.Tryz
noncomputable section
set_option maxRecDepth 100000
set_option maxHeartbeats 0
attribute [local irreducible] ix app slc fM toB agree jO jP jN mz gW bE bZ cg cy dV bq aZ bS aM dO eB gp eP cG aQ bK aW bu aX bO cb eV cz dt cp cq cA cB cC cD dE dI aB aC aO bP bx aN cQ fI eW aD aH bW bM dL cR cr aq aA du bp cO ba bQ ed dw bj cf eY ig gi gj dW dM bY cE bo dA cw cn bR bF bz bX br aF eO ii bg eH cm gb fj aI aK
def mj:AD B0:=⟨353,(c1 [tq]),[pW,.func (.func 354) [] []],ay⟩
@[local irreducible] noncomputable def aP(N:Nat)(a:List Bs):Option Bool:=syv N (mj.go (a))
def rh:KC B0:=gA mj (aP NN) (by kernel_rfl)
def FO:AD B0:=⟨308,(c1 [nY,rh]),[pW],ay⟩
@[local irreducible] noncomputable def gd(N:Nat)(a:List Bs):Option Bool:=syv N (FO.go (a))
def OR:KC B0:=gA FO (gd NN) (by kernel_rfl)
def CE:Tr cI:=(.node .nil 4398066630664 [(.normal,⟨[(1,.junk),(3073,.junk)],[]⟩)] .nil)
def oC(L:List (KL B0)):Ctx B0:=⟨[bc,lU,OR],[],[],L,CE⟩
def qb:LD:=⟨307,4,0,⟨[(1,hc0),(4,.ptr 0 0),(6,.ptr 3 0),(8,.ptr 5 0),(18,ic),(19,hc4),(20,hc4)],[.cells [vE,.own 1] false,.arr tc0 false false,.arr tc0 false false,.cells [dr,.own 2] false,.junk,oo0]⟩,[(.exit 0,⟨[(4,.ptr 0 0),(6,.ptr 3 0),(8,.ptr 5 0)],[.cells [vE,.own 1] false,.arr tc0 false false,.arr tc0 false false,.cells [dr,.own 2] false,.junk,oo0]⟩)]⟩
@[local irreducible] noncomputable def bA(N n:Nat):(Bs×Y22×Int×Int×Y11×Y11×Bs×Y3)->Option (Y11×Y11×Bs×Y3):=Nat.rec (λ_=>none) (λ_ L x=>syv N (qb.round (oC []).cxs L x)) n
def zK:KL B0:=gL (oC []) qb (bA NN) (by kernel_rfl)
def sE:AD B0:=⟨307,(oC [zK]),[dr,hc0],(.tup [adF,ay])⟩
@[local irreducible] noncomputable def cJ(N:Nat)(a:Bs)(a2:Bs):Option ((Bs×Y11)×Bool):=syv N (sE.go (a,a2))
def CF:KC B0:=gA sE (u2 (cJ NN)) (by kernel_rfl)
def mZ:AD B0:=⟨310,(c1 [bc,bV,jK,CF]),[.agg [.func (.func 307) [] [],.func (.func 309) [] []],hc0],(.tup [adF,ay])⟩
@[local irreducible] noncomputable def aR(N:Nat)(a:Bs):Option ((Bs×Y11)×Bool):=syv N (mZ.go (a))
def tu:KC B0:=gA mZ (aR NN) (by kernel_rfl)
def jL(L:List (KL B0)):Ctx B0:=⟨[bc,tu],[],[],L,.nil⟩
def lJ:LD:=⟨234,6,0,⟨[(1,hc0),(2,.ptr 0 0),(5,.ptr 1 0),(8,.own 3),(22,ic),(23,hc4),(24,hc4)],[.cells [.func (.func 307) [] [],.func (.func 309) [] []] false,oo5,.junk,.arr MN false false]⟩,[(.ret,⟨[(4,vN),(5,.ptr 1 0)],[.junk,oo6,.junk,.junk]⟩),(.exit 0,⟨[(1,hc0),(5,.ptr 1 0),(8,.own 3)],[.junk,oo5,.junk,.arr MN false false]⟩)]⟩
@[local irreducible] noncomputable def aJ(N n:Nat):(Bs×Y22×Int×Int×Y24)->Option ((Int)⊕(Bs×Y24)):=Nat.rec (λ_=>none) (λ_ L x=>syv N (lJ.round (jL []).cxs L x)) n
def qc:KL B0:=gL (jL []) lJ (aJ NN) (by kernel_rfl)
def mD:AD B0:=⟨234,(jL [qc]),[.agg [.func (.func 307) [] [],.func (.func 309) [] []],hc0],(.tup [YF,hc5])⟩
@[local irreducible] noncomputable def aT(N:Nat)(a:Bs):Option (Y24×Y3):=syv N (mD.go (a))
def rC:KC B0:=gA mD (aT NN) (by kernel_rfl)
def vc:AD B0:=⟨169,(c1 [B2,rC]),[hc0],(.tup [YF,hc5])⟩
@[local irreducible] noncomputable def cX(N:Nat)(a:Bs):Option (Y24×Y3):=syv N (vc.go (a))
def Gg:KC B0:=gA vc (cX NN) (by kernel_rfl)
def tR:AD B0:=⟨171,(c1 [eC,bV,lU]),[hc0],(.tup [hc0,hc5])⟩
@[local irreducible] noncomputable def cF(N:Nat)(a:Bs):Y20:=syv N (tR.go (a))
def Ee:KC B0:=gA tR (cF NN) (by kernel_rfl)
def wK:AD B0:=⟨70,(c1 [lU,kV]),[hc0],(.tup [GC,hc4])⟩
@[local irreducible] noncomputable def bt(a:Bs):Option (Y6×Int):=syv NN (wK.go (a))
def nx:KC B0:=gA wK bt (by kernel_rfl)
def Bh:AD B0:=⟨312,(c1 [kV]),[GC],hc4⟩
@[local irreducible] noncomputable def fo(a:Y6):Option Int:=syv NN (Bh.go (a))
def Bi:KC B0:=gA Bh fo (by kernel_rfl)
def CG:AD B0:=⟨314,(c1 [Bi]),[GC,hc4],ay⟩
@[local irreducible] noncomputable def fq(a:Y6)(a2:Int):Option Bool:=syv NN (CG.go (a,a2))
def MV:KC B0:=gA CG (u2 fq) (by kernel_rfl)
def AT:Tr cI:=(.node .nil 15904813057 [(.normal,⟨[(9,.func (.func 313) [] [.ptr 0 0]),(10,hc4),(44,hc4),(45,hc4)],[oo7]⟩)] .nil)
def ne(L:List (KL B0)):Ctx B0:=⟨[nx,Bi,MV],[],[],L,AT⟩
def pl:LD:=⟨237,10,0,⟨[(9,.func (.func 313) [] [.ptr 0 0]),(10,hc4),(44,hc4),(45,hc4)],[oo7]⟩,[(.exit 0,⟨[(10,hc4)],[.junk]⟩)]⟩
@[local irreducible] noncomputable def bh(N n:Nat):(Int×Int×Int×Y6)->Option Int:=Nat.rec (λ_=>none) (λ_ L x=>syv N (pl.round (ne []).cxs L x)) n
def xE:KL B0:=gL (ne []) pl (bh NN) (by kernel_rfl)
def qV:AD B0:=⟨237,(ne [xE]),[hc0,hc4],(.tup [hc4,hc4])⟩
@[local irreducible] noncomputable def be(N:Nat)(a:Bs)(a2:Int):Option Y3:=syv N (qV.go (a,a2))
def qW:KC B0:=gA qV (u2 (be NN)) (by kernel_rfl)
def zM:AD B0:=⟨173,(c1 [eC,bV,qW]),[hc0],(.tup [hc4,hc5])⟩
@[local irreducible] noncomputable def eg(N:Nat)(a:Bs):Y25:=syv N (zM.go (a))
def JT:KC B0:=gA zM (eg NN) (by kernel_rfl)
end
end Go.Fw
