/- A framework for proofs about Go programs in this model: part R. Everything is proved; no condition is added. -/
import Derived.Test.YtlicgchfbhkelaaGreatDoorFwQ
set_option linter.unusedVariables false
set_option linter.unusedSimpArgs false
set_option linter.defProp false
namespace Go.Fw
open Go Go.Proofs.Tryz
noncomputable section
set_option maxRecDepth 100000
set_option maxHeartbeats 0
attribute [local irreducible] ix app slc fM toB agree jO jP jN mz gW bE bZ cg cy dV bq aZ bS aM dO eB gp eP cG aQ bK aW bu aX bO cb eV cz dt cp cq cA cB cC cD dE dI aB aC aO bP bx aN cQ fI eW aD aH bW bM dL cR cr aq aA du bp cO ba bQ ed dw bj cf eY ig gi gj dW dM bY cE bo dA cw cn bR bF bz bX br aF eO ii bg eH cm gb fj aI aK aP gd bA cJ aR aJ aT cX cF bt fo fq bh be eg cK eD ge gg dJ gy ey fu dX dK fB cu bv dq cT gP
def qd:AD B0:=⟨349,(c1 [Lj]),[Ig],(.tup [zn,ay])⟩
@[local irreducible] noncomputable def cS(N:Nat)(a:Y16):Y28:=syv N (qd.go (a))
def zO:KC B0:=gA qd (cS NN) (by kernel_rfl)
def wO:AD B0:=⟨386,(c1 [eC,zo]),[hc0],(.tup [YG,ay])⟩
@[local irreducible] noncomputable def eZ(N:Nat)(a:Bs):Option (Y16×Bool):=syv N (wO.go (a))
def GU:KC B0:=gA wO (eZ NN) (by kernel_rfl)
def qX:AD B0:=⟨387,(c1 []),[hc4],ay⟩
@[local irreducible] noncomputable def dP(a:Int):Option Bool:=syv NN (qX.go (a))
def AU:KC B0:=gA qX dP (by kernel_rfl)
def sH:AD B0:=⟨372,(c1 [GU,AU]),[hc0],(.tup [YG,ay])⟩
@[local irreducible] noncomputable def dQ(N:Nat)(a:Bs):Option (Y16×Bool):=syv N (sH.go (a))
def CM:KC B0:=gA sH (dQ NN) (by kernel_rfl)
def Ei:Tr cI:=(.node .nil 23488105475 [(.normal,⟨[(2,.ptr 1 0),(4,pW),(5,.ptr 2 0)],[.junk,oo8,.cells [hc4,vE,vE,vN,vN,hc4,dr,vZ,vE] false]⟩),(.ret,⟨[(2,.ptr 1 0),(3,vF)],[.junk,oo8,.junk,.junk]⟩)] .nil)
def tV:AD B0:=⟨350,⟨[Bk,Bm,CM],[],[],[],Ei⟩,[Ig],(.tup [zn,ay])⟩
@[local irreducible] noncomputable def em(N:Nat)(a:Y16):Y28:=syv N (tV.go (a))
def Ej:KC B0:=gA tV (em NN) (by kernel_rfl)
def sI:AD B0:=⟨351,(c1 [jK]),[Ig],(.tup [zn,ay])⟩
@[local irreducible] noncomputable def dR(N:Nat)(a:Y16):Y28:=syv N (sI.go (a))
def CN:KC B0:=gA sI (dR NN) (by kernel_rfl)
def Bn:AD B0:=⟨220,(c1 [eC,UD,sG,Ef,CL,Gi,Eg,zO,Ej,CN]),[hc0],(.tup [zn,hc5])⟩
@[local irreducible] noncomputable def eI(N:Nat)(a:Bs):Option (Y27×Y3):=syv N (Bn.go (a))
def pL:KC B0:=gA Bn (eI NN) (by kernel_rfl)
def pA(L:List (KL B0)):Ctx B0:=⟨[bc,pL],[],[],L,.nil⟩
def rD:LD:=⟨156,8,0,⟨[(0,hc0),(3,.ptr 0 0),(6,.own 2),(26,ic),(27,hc4),(28,hc4)],[oo5,.junk,.arr BZ false false]⟩,[(.ret,⟨[(2,vN),(3,.ptr 0 0)],[oo0,.junk,.junk]⟩),(.exit 0,⟨[(3,.ptr 0 0),(6,.own 2)],[oo5,.junk,.arr BZ false false]⟩)]⟩
@[local irreducible] noncomputable def dZ(N n:Nat):(Bs×Y22×Int×Int×Y30)->Option (Y3⊕Y30):=Nat.rec (λ_=>none) (λ_ L x=>syv N (rD.round (pA []).cxs L x)) n
def B3:KL B0:=gL (pA []) rD (dZ NN) (by kernel_rfl)
def vg:AD B0:=⟨156,(pA [B3]),[hc0],(.tup [na,hc5])⟩
@[local irreducible] noncomputable def bL(N:Nat)(a:Bs):Option (Y30×Y3):=syv N (vg.go (a))
def pC:KC B0:=gA vg (bL NN) (by kernel_rfl)
def xX:AD B0:=⟨126,(c1 []),[hc0],(.tup [ay,hc4])⟩
@[local irreducible] noncomputable def cP(a:Bs):Option (Bool×Int):=syv NN (xX.go (a))
def ri:KC B0:=gA xX cP (by kernel_rfl)
def Bo:AD B0:=⟨240,(c1 [ri]),[hc0],(.tup [ay,ay])⟩
@[local irreducible] noncomputable def gY(a:Bs):Option (Bool×Bool):=syv NN (Bo.go (a))
def Lk:KC B0:=gA Bo gY (by kernel_rfl)
def sJ:AD B0:=⟨241,(c1 [bV,Lk]),[hc0,.agg [hc4,hc4,ay,hc4,hc4,hc4],hc4,hc4,.func (.func 240) [] []],(.tup [ay,ay])⟩
@[local irreducible] noncomputable def dS(a:Bs)(a2:Int)(a3:Int)(a4:Bool)(a5:Int)(b:Int)(c:Int)(d:Int)(a9:Int):Option (Bool×Bool):=syv NN (sJ.go (a,a2,a3,a4,a5,b,c,d,a9))
def CP:KC B0:=gA sJ (u9 dS) (by kernel_rfl)
def xG(L:List (KL B0)):Ctx B0:=⟨[lV],[],[],L,.nil⟩
def zP:LD:=⟨98,5,0,⟨[(4,hc4),(21,hc0),(22,hc4),(23,hc4)],[]⟩,[(.exit 0,⟨[(4,hc4)],[]⟩)]⟩
@[local irreducible] noncomputable def gk(N n:Nat):(Int×Bs×Y3)->Option Int:=Nat.rec (λ_=>none) (λ_ L x=>syv N (zP.round (xG []).cxs L x)) n
def JV:KL B0:=gL (xG []) zP (gk NN) (by kernel_rfl)
def FT:AD B0:=⟨98,(xG [JV]),[hc0],(.tup [hc4,ay])⟩
@[local irreducible] noncomputable def fF(N:Nat)(a:Bs):Y31:=syv N (FT.go (a))
def xH:KC B0:=gA FT (fF NN) (by kernel_rfl)
end
end Go.Fw
