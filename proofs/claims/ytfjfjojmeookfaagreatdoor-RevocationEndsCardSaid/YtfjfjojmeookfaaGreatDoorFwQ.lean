/- A framework for proofs about Go programs in this model: part Q. Everything is proved; no condition is added. -/
import Derived.Test.YtfjfjojmeookfaaGreatDoorFwP
set_option linter.unusedVariables false
set_option linter.unusedSimpArgs false
set_option linter.defProp false
namespace Go.Fw
open Go Go.Proofs.Tryz
noncomputable section
set_option maxRecDepth 100000
set_option maxHeartbeats 0
attribute [local irreducible] ix app slc fP toB agree jV jW jU ml ig bE bY cm dG bD ba aQ dT eI gt eV cJ aT bJ aU bp aW bO bZ fe cD dt cu cw cE cF cG cH dA dF aB aC aS bP bz aR cQ ff eM aI aE bV bL dN cR cy au az du bu cM bc bQ dR cN bq cb fM iw gm gn dZ dO cW cO bW bS bF bx bA bX bv aD eU iy bj eP cp gi ft aJ aN aK fI br cf aO aF aP cX cI cz fu fv bo bh ey cg dV fw fx dd ge eE fy ec dI fG cA bw dq cS iz cq eJ df dr dJ
def sn:AD B0:=⟨362,(c1 [jR]),[H8],(.tup [y3,ay])⟩
@[local irreducible] noncomputable def dW(N:Nat)(a:Y8):Y23:=syv N (sn.go (a))
def Cz:KC B0:=gA sn (dW NN) (by kernel_rfl)
def A7:AD B0:=⟨242,(c1 [dH,UI,si,D4,Cw,F4,D5,zn,D8,Cz]),[hc0],(.tup [y3,hc4])⟩
@[local irreducible] noncomputable def eQ(N:Nat)(a:Bs):Option (Y22×Y4):=syv N (A7.go (a))
def pq:KC B0:=gA A7 (eQ NN) (by kernel_rfl)
def pf(L:List (KL B0)):Ctx B0:=⟨[be,pq],[],[],L,.nil⟩
def qY:LD:=⟨175,8,0,⟨[(0,hc0),(3,.ptr 0 0),(6,.own 2),(26,iu),(27,hc3),(28,hc3)],[oo5,.junk,.arr BJ false false]⟩,[(.ret,⟨[(2,vN),(3,.ptr 0 0)],[oo0,.junk,.junk]⟩),(.exit 0,⟨[(3,.ptr 0 0),(6,.own 2)],[oo5,.junk,.arr BJ false false]⟩)]⟩
@[local irreducible] noncomputable def em(N n:Nat):(Bs×Y17×Int×Int×Y25)->Option (Y4⊕Y25):=Nat.rec (λ_=>none) (λ_ L x=>syv N (qY.round (pf []).cxs L x)) n
def BM:KL B0:=gL (pf []) qY (em NN) (by kernel_rfl)
def uG:AD B0:=⟨175,(pf [BM]),[hc0],(.tup [mU,hc4])⟩
@[local irreducible] noncomputable def bK(N:Nat)(a:Bs):Option (Y25×Y4):=syv N (uG.go (a))
def pg:KC B0:=gA uG (bK NN) (by kernel_rfl)
def xI:AD B0:=⟨147,(c1 []),[hc0],(.tup [ay,hc3])⟩
@[local irreducible] noncomputable def cP(a:Bs):Option (Bool×Int):=syv NN (xI.go (a))
def qL:KC B0:=gA xI cP (by kernel_rfl)
def A8:AD B0:=⟨262,(c1 [qL]),[hc0],(.tup [ay,ay])⟩
@[local irreducible] noncomputable def ii(a:Bs):Option (Bool×Bool):=syv NN (A8.go (a))
def Lq:KC B0:=gA A8 ii (by kernel_rfl)
def so:AD B0:=⟨263,(c1 [bR,Lq]),[hc0,.agg [hc3,hc3,ay,hc3,hc3,hc3],hc3,hc3,.func (.func 262) [] []],(.tup [ay,ay])⟩
@[local irreducible] noncomputable def dX(a:Bs)(a2:Int)(a3:Int)(a4:Bool)(a5:Int)(b:Int)(c:Int)(d:Int)(a9:Int):Option (Bool×Bool):=syv NN (so.go (a,a2,a3,a4,a5,b,c,d,a9))
def CA:KC B0:=gA so (u9 dX) (by kernel_rfl)
def xj(L:List (KL B0)):Ctx B0:=⟨[kE],[],[],L,.nil⟩
def zo:LD:=⟨97,5,0,⟨[(4,hc3),(21,hc0),(22,hc3),(23,hc3)],[]⟩,[(.exit 0,⟨[(4,hc3)],[]⟩)]⟩
@[local irreducible] noncomputable def gp(N n:Nat):(Int×Bs×Y4)->Option Int:=Nat.rec (λ_=>none) (λ_ L x=>syv N (zo.round (xj []).cxs L x)) n
def JY:KL B0:=gL (xj []) zo (gp NN) (by kernel_rfl)
def FG:AD B0:=⟨97,(xj [JY]),[hc0],(.tup [hc3,ay])⟩
@[local irreducible] noncomputable def gj(N:Nat)(a:Bs):Y26:=syv N (FG.go (a))
def xk:KC B0:=gA FG (gj NN) (by kernel_rfl)
def A9:AD B0:=⟨265,(c1 [xk]),[hc0],(.tup [hc3,ay])⟩
@[local irreducible] noncomputable def gJ(N:Nat)(a:Bs):Y26:=syv N (A9.go (a))
def Lr:KC B0:=gA A9 (gJ NN) (by kernel_rfl)
def tC:AD B0:=⟨264,(c1 [bR,Lr]),[hc0,.agg [hc3,hc3,ay,hc3,hc3,hc3],hc3,hc3,.func (.func 265) [] []],(.tup [hc3,ay])⟩
@[local irreducible] noncomputable def ez(N:Nat)(a:Bs)(a2:Int)(a3:Int)(a4:Bool)(a5:Int)(b:Int)(c:Int)(d:Int)(a9:Int):Y26:=syv N (tC.go (a,a2,a3,a4,a5,b,c,d,a9))
def oE:KC B0:=gA tC (u9 (ez NN)) (by kernel_rfl)
def O8:Tr cB:=(.node (.node .nil 13086233604 [(.normal,⟨[(0,hc0),(2,.ptr 0 0),(3,.ptr 1 0),(4,iu),(6,.ptr 3 0)],[oo9,oo5,.junk,.cells [ay,vF,vZ] false]⟩),(.ret,⟨[(2,.ptr 0 0),(3,.ptr 1 0)],[oo9,oo6,.junk,.junk]⟩)] .nil) 13086239748 [(.normal,⟨[(2,.ptr 0 0),(3,.ptr 1 0),(4,iu),(6,.ptr 3 0)],[oo9,oo5,.junk,.cells [ay,ay,hc3] false]⟩),(.ret,⟨[(2,.ptr 0 0),(3,.ptr 1 0)],[oo9,oo6,.junk,.junk]⟩)] .nil)
def FH:AD B0:=⟨195,⟨[be,CA,oE],[],[],[],O8⟩,[hc0],(.tup [.hole YI,hc4])⟩
@[local irreducible] noncomputable def gY(N:Nat)(a:Bs):Option (Y27×Y4):=syv N (FH.go (a))
def O9:KC B0:=gA FH (gY NN) (by kernel_rfl)
def CC:AD B0:=⟨312,(c1 [kE]),[hc0],hc3⟩
@[local irreducible] noncomputable def ia(a:Bs):Option Int:=syv NN (CC.go (a))
def M5:KC B0:=gA CC ia (by kernel_rfl)
def uH:AD B0:=⟨243,(c1 [kE,M5]),[hc0],ay⟩
@[local irreducible] noncomputable def eN(a:Bs):Option Bool:=syv NN (uH.go (a))
def F6:KC B0:=gA uH eN (by kernel_rfl)
def sq:AD B0:=⟨245,(c1 [lN,F6]),[hc0],(.tup [hc0,ay])⟩
@[local irreducible] noncomputable def eL(a:Bs):Y21:=syv NN (sq.go (a))
def CD:KC B0:=gA sq eL (by kernel_rfl)
end
end Go.Fw
