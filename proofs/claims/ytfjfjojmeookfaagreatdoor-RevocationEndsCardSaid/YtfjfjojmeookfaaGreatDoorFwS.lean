/- A framework for proofs about Go programs in this model: part S. Everything is proved; no condition is added. -/
import Derived.Test.YtfjfjojmeookfaaGreatDoorFwR
set_option linter.unusedVariables false
set_option linter.unusedSimpArgs false
set_option linter.defProp false
namespace Go.Fw
open Go Go.Proofs.Tryz
noncomputable section
set_option maxRecDepth 100000
set_option maxHeartbeats 0
attribute [local irreducible] ix app slc fP toB agree jV jW jU ml ig bE bY cm dG bD ba aQ dT eI gt eV cJ aT bJ aU bp aW bO bZ fe cD dt cu cw cE cF cG cH dA dF aB aC aS bP bz aR cQ ff eM aI aE bV bL dN cR cy au az du bu cM bc bQ dR cN bq cb fM iw gm gn dZ dO cW cO bW bS bF bx bA bX bv aD eU iy bj eP cp gi ft aJ aN aK fI br cf aO aF aP cX cI cz fu fv bo bh ey cg dV fw fx dd ge eE fy ec dI fG cA bw dq cS iz cq eJ df dr dJ dW eQ em bK cP ii dX gp gj gJ ez gY ia eN eL fA eW ed jg lD jX iI dS eF cj fN kT mw
def CH:Tr cB:=(.node (.node .nil 18454956037 [(.normal,⟨[(0,dU),(1,hc0),(4,.ptr 0 0),(5,.ptr 1 0),(6,.ptr 2 0),(9,hc3),(11,.ptr 4 0),(14,ay),(27,iu),(28,hc3),(29,hc3)],[MZ,oo5,Qw,.junk,kC]⟩)] .nil) 18454958085 [(.normal,⟨[(0,dU),(1,hc0),(4,.ptr 0 0),(5,.ptr 1 0),(6,.ptr 2 0),(9,hc3),(11,.ptr 4 0),(14,ay),(27,iu),(28,hc3),(29,hc3)],[MZ,oo5,Qw,.junk,kC]⟩)] (.node .nil 18454960133 [(.normal,⟨[(0,dU),(1,hc0),(4,.ptr 0 0),(5,.ptr 1 0),(6,.ptr 2 0),(9,hc3),(11,.ptr 4 0),(14,ay),(27,iu),(28,hc3),(29,hc3)],[MZ,oo5,Qw,.junk,kC]⟩)] .nil))
def sx(L:List (KL B0)):Ctx B0:=⟨[be,dH,bR,Pc,eR,FE,SJ,qL],[],[],L,CH⟩
def zq:LD:=⟨275,7,0,⟨[(0,dU),(1,hc0),(4,.ptr 0 0),(5,.ptr 1 0),(6,.ptr 2 0),(9,hc3),(27,iu),(28,hc3),(29,hc3)],[MZ,oo5,Qw,.junk]⟩,[(.ret,⟨[(4,.ptr 0 0),(5,.ptr 1 0)],[MZ,oo0,.junk,.junk]⟩),(.exit 0,⟨[(4,.ptr 0 0),(5,.ptr 1 0),(6,.ptr 2 0)],[MZ,oo5,Qw,.junk]⟩)]⟩
def pN:KL B0:=aL (sx []) zq (by kernel_rfl)
def nZ:AD B0:=⟨275,(sx [pN]),[dU,hc0],(.tup [.agg [mU,hc2,hc3,mU,ay,ay,ay,ay,ay,ay],.agg [hc3,hc3]])⟩
def sA:KC B0:=nZ.k (by kernel_rfl)
abbrev CI(N:Nat)(a:Bs)(a2:Bs):Option (Y25×Y11×Int×Y25×Bool×Bool×Bool×Bool×Bool×Bool×Y4):=nZ.run (a,a2)
def tD:AD B0:=⟨307,(c1 []),[y3],ay⟩
def Ls:KC B0:=tD.k (by kernel_rfl)
abbrev Lt(a:Y22):Option Bool:=tD.run a
def q6:AD B0:=⟨356,(c1 [y5,eR]),[YM],(.tup [hc0,hc3])⟩
@[local irreducible] noncomputable def ep(N:Nat)(a:Y8):Y10:=syv N (q6.go (a))
def BO:KC B0:=gA q6 (ep NN) (by kernel_rfl)
def GG:Tr cB:=(.node (.node .nil 20736650241 [(.normal,⟨[(1,.ptr 0 0),(15,hc3),(47,ay)],[YP]⟩)] .nil) 20736651265 [(.normal,⟨[(1,.ptr 0 0),(15,hc3),(47,ay)],[YP]⟩)] (.node .nil 20736654337 [(.normal,⟨[(1,.ptr 0 0),(15,hc3),(57,ay)],[YP]⟩)] .nil))
def pO(L:List (KL B0)):Ctx B0:=⟨[tn,eR,xG,kz,y5,zi,BO],[],[],L,GG⟩
def sB:LD:=⟨309,23,0,⟨[(8,.own 1),(75,.hole (.sl Qr)),(76,hc3),(77,hc3)],[.junk,.arr .byte false false]⟩,[(.ret,⟨[(2,vN),(3,hc3)],[.junk,.junk]⟩),(.exit 1,⟨[(8,.own 1)],[.junk,.arr .byte false false]⟩)]⟩
@[local irreducible] noncomputable def dY(N n:Nat):(List Y8×Y9)->Option ((Int)⊕(Bs)):=Nat.rec (λ_=>none) (λ_ L x=>syv N (sB.round (pO []).cxs L x)) n
def CJ:KL B0:=gL (pO []) sB (dY NN) (by kernel_rfl)
def wq:AD B0:=⟨309,(pO [CJ]),[y3],(.tup [hc0,hc3])⟩
@[local irreducible] noncomputable def gK(N:Nat)(a:Y22):Y10:=syv N (wq.go (a))
def GH:KC B0:=gA wq (gK NN) (by kernel_rfl)
def xK:AD B0:=⟨241,(c1 [Ls,Cw,GH,si,eR,pq]),[y3],(.tup [hc0,hc3])⟩
@[local irreducible] noncomputable def gV(N:Nat)(a:Y22):Y10:=syv N (xK.go (a))
def IX:KC B0:=gA xK (gV NN) (by kernel_rfl)
def n6(L:List (KL B0)):Ctx B0:=⟨[IX,f7],[],[],L,.nil⟩
def pP:LD:=⟨174,3,0,⟨[(4,.own 0),(9,mU),(10,hc3),(11,hc3)],[.arr tc0 false false]⟩,[(.ret,⟨[(2,vN),(3,hc3)],[.junk]⟩),(.exit 0,⟨[(4,.own 0)],[.arr tc0 false false]⟩)]⟩
@[local irreducible] noncomputable def fg(N n:Nat):(Y25×Y18)->Option ((Int)⊕(List Bs)):=Nat.rec (λ_=>none) (λ_ L x=>syv N (pP.round (n6 []).cxs L x)) n
def zr:KL B0:=gL (n6 []) pP (fg NN) (by kernel_rfl)
def sC:AD B0:=⟨174,(n6 [zr]),[mU],(.tup [hc0,hc3])⟩
@[local irreducible] noncomputable def fB(N:Nat)(a:Y25):Y10:=syv N (sC.go (a))
def CL:KC B0:=gA sC (fB NN) (by kernel_rfl)
def uJ:AD B0:=⟨336,(c1 [CL]),[mU],ay⟩
@[local irreducible] noncomputable def cY(N:Nat)(a:Y25):Option Bool:=syv N (uJ.go (a))
def ph:KC B0:=gA uJ (cY NN) (by kernel_rfl)
def FL:AD B0:=⟨368,(c1 [AV]),[hc2],ay⟩
@[local irreducible] noncomputable def jm(N:Nat)(a:Y11):Option Bool:=syv N (FL.go (a))
def Pd:KC B0:=gA FL (jm NN) (by kernel_rfl)
def uK:AD B0:=⟨331,(c1 [ph,Pd]),[abd,hc3],ay⟩
@[local irreducible] noncomputable def gu(N:Nat)(a:(Y25×Y11))(a2:Int):Option Bool:=syv N (uK.go (a,a2))
def uL:KC B0:=gA uK (u2 (gu NN)) (by kernel_rfl)
def uM:AD B0:=⟨271,(c1 []),[abd],ay⟩
@[local irreducible] noncomputable def gv(a:(Y25×Y11)):Option Bool:=syv NN (uM.go (a))
def uN:KC B0:=gA uM gv (by kernel_rfl)
def D9:Tr cB:=(.node .nil 22145925122 [(.normal,⟨[],[.cells [mU,hc2,ay,ay,ay,ay,hc3] false,Qv]⟩)] .nil)
def tE:AD B0:=⟨270,⟨[uL,uN],[],[],[],D9⟩,[adT],ay⟩
@[local irreducible] noncomputable def gM(N:Nat)(a:Y30):Option Bool:=syv N (tE.go (a))
def Ea:KC B0:=gA tE (gM NN) (by kernel_rfl)
def tF:AD B0:=⟨203,(c1 [sA,Ea]),[hc0],(.tup [adT,hc4])⟩
@[local irreducible] noncomputable def eX(N:Nat)(a:Bs):Option (Y30×Y4):=syv N (tF.go (a))
def Eb:KC B0:=gA tF (eX NN) (by kernel_rfl)
def vu(L:List (KL B0)):Ctx B0:=⟨[vt,be,pq],[],[],L,.nil⟩
def xL:LD:=⟨277,6,0,⟨[(0,hc0),(3,.ptr 0 0),(5,.ptr 1 0),(8,.own 3),(27,iu),(28,hc3),(29,hc3)],[kC,oo5,.junk,.arr BJ false false]⟩,[(.ret,⟨[(4,vN),(5,.ptr 1 0)],[.junk,oo0,.junk,.junk]⟩),(.exit 0,⟨[(3,.ptr 0 0),(5,.ptr 1 0),(8,.own 3)],[kC,oo5,.junk,.arr BJ false false]⟩)]⟩
@[local irreducible] noncomputable def iN(N n:Nat):(Bs×Y17×Int×Int×Y31)->Option (Y4⊕Y31):=Nat.rec (λ_=>none) (λ_ L x=>syv N (xL.round (vu []).cxs L x)) n
def IY:KL B0:=gL (vu []) xL (iN NN) (by kernel_rfl)
def CM:AD B0:=⟨277,(vu [IY]),[hc0,UA],(.tup [mU,hc4])⟩
@[local irreducible] noncomputable def jp(N:Nat)(a:Bs)(a2:Y16):Option (Y25×Y4):=syv N (CM.go (a,a2))
def M7:KC B0:=gA CM (u2 (jp NN)) (by kernel_rfl)
end
end Go.Fw
