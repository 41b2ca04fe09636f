/- A framework for proofs about Go programs in this model: part U. Everything is proved; no condition is added. -/
import Derived.Test.YtlicgchfbhkelaaGreatDoorFwT
set_option linter.unusedVariables false
set_option linter.unusedSimpArgs false
set_option linter.defProp false
namespace Go.Fw
open Go Go.Proofs.Tryz
noncomputable section
set_option maxRecDepth 100000
set_option maxHeartbeats 0
attribute [local irreducible] ix app slc fM toB agree jO jP jN mz gW bE bZ cg cy dV bq aZ bS aM dO eB gp eP cG aQ bK aW bu aX bO cb eV cz dt cp cq cA cB cC cD dE dI aB aC aO bP bx aN cQ fI eW aD aH bW bM dL cR cr aq aA du bp cO ba bQ ed dw bj cf eY ig gi gj dW dM bY cE bo dA cw cn bR bF bz bX br aF eO ii bg eH cm gb fj aI aK aP gd bA cJ aR aJ aT cX cF bt fo fq bh be eg cK eD ge gg dJ gy ey fu dX dK fB cu bv dq cT gP cS eZ dP dQ em dR eI dZ bL cP gY dS gk fF gZ eQ iu iD fD fv fw eR dY iV lK jQ jf ez eK cL gu mb nO ec dT gz gQ fc fy cY
def FY:AD B0:=⟨357,(c1 [Bc]),[hc2],ay⟩
@[local irreducible] noncomputable def jR(N:Nat)(a:Y1):Option Bool:=syv N (FY.go (a))
def OZ:KC B0:=gA FY (jR NN) (by kernel_rfl)
def vo:AD B0:=⟨317,(c1 [pD,OZ]),[aa0,hc4],ay⟩
@[local irreducible] noncomputable def gN(N:Nat)(a:(Y30×Y1))(a2:Int):Option Bool:=syv N (vo.go (a,a2))
def vq:KC B0:=gA vo (u2 (gN NN)) (by kernel_rfl)
def vr:AD B0:=⟨249,(c1 []),[aa0],ay⟩
@[local irreducible] noncomputable def gO(a:(Y30×Y1)):Option Bool:=syv NN (vr.go (a))
def vt:KC B0:=gA vr gO (by kernel_rfl)
def Ek:Tr cI:=(.node .nil 21206401026 [(.normal,⟨[],[.cells [na,hc2,ay,ay,ay,ay,hc4] false,Qj]⟩)] .nil)
def tY:AD B0:=⟨248,⟨[vq,vt],[],[],[],Ek⟩,[adG],ay⟩
@[local irreducible] noncomputable def ij(N:Nat)(a:Y35):Option Bool:=syv N (tY.go (a))
def El:KC B0:=gA tY (ij NN) (by kernel_rfl)
def tZ:AD B0:=⟨184,(c1 [sP,El]),[hc0],(.tup [adG,hc5])⟩
@[local irreducible] noncomputable def fN(N:Nat)(a:Bs):Option (Y35×Y3):=syv N (tZ.go (a))
def Em:KC B0:=gA tZ (fN NN) (by kernel_rfl)
def vU(L:List (KL B0)):Ctx B0:=⟨[vT,bc,pL],[],[],L,.nil⟩
def yc:LD:=⟨255,6,0,⟨[(0,hc0),(3,.ptr 0 0),(5,.ptr 1 0),(8,.own 3),(27,ic),(28,hc4),(29,hc4)],[gr,oo5,.junk,.arr BZ false false]⟩,[(.ret,⟨[(4,vN),(5,.ptr 1 0)],[.junk,oo0,.junk,.junk]⟩),(.exit 0,⟨[(3,.ptr 0 0),(5,.ptr 1 0),(8,.own 3)],[gr,oo5,.junk,.arr BZ false false]⟩)]⟩
@[local irreducible] noncomputable def jv(N n:Nat):(Bs×Y22×Int×Int×Y36)->Option (Y3⊕Y36):=Nat.rec (λ_=>none) (λ_ L x=>syv N (yc.round (vU []).cxs L x)) n
def I0:KL B0:=gL (vU []) yc (jv NN) (by kernel_rfl)
def C0:AD B0:=⟨255,(vU [I0]),[hc0,hc9],(.tup [na,hc5])⟩
@[local irreducible] noncomputable def ku(N:Nat)(a:Bs)(a2:Y21):Option (Y30×Y3):=syv N (C0.go (a,a2))
def MZ:KC B0:=gA C0 (u2 (ku NN)) (by kernel_rfl)
def Lo:Tr cI:=(.node .nil 12549372934 [(.normal,⟨[(0,hc0),(2,.ptr 0 0),(3,.ptr 1 0),(6,.ptr 3 0),(7,hc4),(22,ic),(23,hc4),(24,hc4)],[Ux,oo5,.junk,YJ,.junk,.junk]⟩)] .nil)
def ua(L:List (KL B0)):Ctx B0:=⟨[bc,bV,MZ],[],[],L,Lo⟩
def wQ:LD:=⟨187,7,0,⟨[(0,hc0),(2,.ptr 0 0),(3,.ptr 1 0),(6,.ptr 3 0),(7,hc4),(22,ic),(23,hc4),(24,hc4)],[Ux,oo5,.junk,YJ]⟩,[(.ret,⟨[(2,.ptr 0 0),(3,.ptr 1 0)],[Ux,oo0,.junk,.junk]⟩),(.exit 0,⟨[(0,hc0),(2,.ptr 0 0),(3,.ptr 1 0),(6,.ptr 3 0),(7,hc4)],[Ux,oo5,.junk,YJ]⟩)]⟩
@[local irreducible] noncomputable def iW(N n:Nat):(Bs×Int×Y22×Int×Int×Y30×Y30)->Option (Y3⊕(Bs×Int×Y30×Y30)):=Nat.rec (λ_=>none) (λ_ L x=>syv N (wQ.round (ua []).cxs L x)) n
def GZ:KL B0:=gL (ua []) wQ (iW NN) (by kernel_rfl)
def Bq:AD B0:=⟨187,(ua [GZ]),[hc0],(.tup [.hole adx,hc5])⟩
@[local irreducible] noncomputable def iM(N:Nat)(a:Bs):Option ((Y30×Y30)×Y3):=syv N (Bq.go (a))
def Lp:KC B0:=gA Bq (iM NN) (by kernel_rfl)
def FZ:AD B0:=⟨302,(c1 [vq,vt,pD]),[adH],ay⟩
@[local irreducible] noncomputable def lg(N:Nat)(a:Y37):Option Bool:=syv N (FZ.go (a))
def O0:KC B0:=gA FZ (lg NN) (by kernel_rfl)
def F0:AD B0:=⟨228,(c1 [sP,O0]),[hc0],(.tup [adH,hc5])⟩
@[local irreducible] noncomputable def lh(N:Nat)(a:Bs):Option (Y37×Y3):=syv N (F0.go (a))
def O1:KC B0:=gA F0 (lh NN) (by kernel_rfl)
def rk(L:List (KL B0)):Ctx B0:=⟨[bc,O1],[],[],L,.nil⟩
def ub:LD:=⟨161,6,0,⟨[(0,hc0),(3,.ptr 0 0),(6,.own 2),(20,ic),(21,hc4),(22,hc4)],[oo5,.junk,.arr ML false false]⟩,[(.ret,⟨[(2,vN),(3,.ptr 0 0)],[oo0,.junk,.junk]⟩),(.exit 0,⟨[(0,hc0),(3,.ptr 0 0),(6,.own 2)],[oo5,.junk,.arr ML false false]⟩)]⟩
@[local irreducible] noncomputable def il(N n:Nat):(Bs×Y22×Int×Int×List Y37)->Option (Y3⊕(Bs×List Y37)):=Nat.rec (λ_=>none) (λ_ L x=>syv N (ub.round (rk []).cxs L x)) n
def En:KL B0:=gL (rk []) ub (il NN) (by kernel_rfl)
def yd:AD B0:=⟨161,(rk [En]),[hc0],(.tup [adI,hc5])⟩
@[local irreducible] noncomputable def gv(N:Nat)(a:Bs):Option (List Y37×Y3):=syv N (yd.go (a))
def I1:KC B0:=gA yd (gv NN) (by kernel_rfl)
def F1:AD B0:=⟨325,(c1 [mJ]),[hc0],ay⟩
@[local irreducible] noncomputable def jS(N:Nat)(a:Bs):Option Bool:=syv N (F1.go (a))
def F2:KC B0:=gA F1 (jS NN) (by kernel_rfl)
def zU:AD B0:=⟨324,(c1 [px,F2]),[hc1],ay⟩
@[local irreducible] noncomputable def kh(N:Nat)(a:Y0):Option Bool:=syv N (zU.go (a))
def JX:KC B0:=gA zU (kh NN) (by kernel_rfl)
end
end Go.Fw
