/- A framework for proofs about Go programs in this model: part O. Everything is proved; no condition is added. -/
import Derived.Test.YtlicgchfbhkelaaGreatDoorFwN
set_option linter.unusedVariables false
set_option linter.unusedSimpArgs false
set_option linter.defProp false
namespace Go.Fw
open Go Go.Proofs.Tryz
noncomputable section
set_option maxRecDepth 100000
set_option maxHeartbeats 0
attribute [local irreducible] ix app slc fM toB agree jO jP jN mz gW bE bZ cg cy dV bq aZ bS aM dO eB gp eP cG aQ bK aW bu aX bO cb eV cz dt cp cq cA cB cC cD dE dI aB aC aO bP bx aN cQ fI eW aD aH bW bM dL cR cr aq aA du bp cO ba bQ ed dw bj cf eY ig gi gj dW dM bY cE bo
def xR:AD B0:=⟨116,(c1 [px]),[hc3],ay⟩
@[local irreducible] noncomputable def dA(N:Nat)(a:Y7):Option Bool:=syv N (xR.go (a))
def xS:KC B0:=gA xR (dA NN) (by kernel_rfl)
def uZ:AD B0:=⟨166,(c1 [lU]),[hc0],(.tup [hc0,hc5])⟩
@[local irreducible] noncomputable def cw(a:Bs):Y20:=syv NN (uZ.go (a))
def Gf:KC B0:=gA uZ cw (by kernel_rfl)
def rB:AD B0:=⟨232,(c1 []),[],(.agg [.func (.func 307) [] [],.func (.func 309) [] []])⟩
@[local irreducible] noncomputable def cn:Option Unit:=syv NN (rB.go ())
def B2:KC B0:=gA rB (λ_=>cn) (by kernel_rfl)
def CB:AD B0:=⟨104,(c1 [zt]),[hc0,hc4,hc4],(.tup [hc9,hc5])⟩
@[local irreducible] noncomputable def bR(N:Nat)(a:Bs)(a2:Int)(a3:Int):Option (Y21×Y3):=syv N (CB.go (a,a2,a3))
def CC:KC B0:=gA CB (u3 (bR NN)) (by kernel_rfl)
def FK:AD B0:=⟨69,(c1 [CC]),[hc0],(.tup [hc9,hc5])⟩
@[local irreducible] noncomputable def bF(N:Nat)(a:Bs):Option (Y21×Y3):=syv N (FK.go (a))
def eC:KC B0:=gA FK (bF NN) (by kernel_rfl)
def GR:AD B0:=⟨65,(c1 []),[hc9,hc4,ay,hc4],ay⟩
@[local irreducible] noncomputable def bz(a:Y21)(a2:Int)(a3:Bool)(a4:Int):Option Bool:=syv NN (GR.go (a,a2,a3,a4))
def bV:KC B0:=gA GR (u4 bz) (by kernel_rfl)
def vS(L:List (KL B0)):Ctx B0:=⟨[CC],[],[],L,.nil⟩
def xT:LD:=⟨97,5,0,⟨[(0,hc0),(2,hc4),(7,.ptr 0 0),(8,.own 1),(9,hc4)],[oo0,.arr tc9 false false]⟩,[(.ret,⟨[(6,vN),(7,.ptr 0 0)],[oo0,.junk]⟩),(.exit 0,⟨[(7,.ptr 0 0),(8,.own 1)],[oo0,.arr tc9 false false]⟩)]⟩
@[local irreducible] noncomputable def bX(N n:Nat):(Bs×Int×Int×Int×Int×Y22)->Option (Y3⊕(Int×Int×Y22)):=Nat.rec (λ_=>none) (λ_ L x=>syv N (xT.round (vS []).cxs L x)) n
def IU:KL B0:=gL (vS []) xT (bX NN) (by kernel_rfl)
def CD:AD B0:=⟨97,(vS [IU]),[hc0,hc4,hc4],(.tup [ic,hc5])⟩
@[local irreducible] noncomputable def br(N:Nat)(a:Bs)(a2:Int)(a3:Int):Option (Y22×Y3):=syv N (CD.go (a,a2,a3))
def vT:KC B0:=gA CD (u3 (br NN)) (by kernel_rfl)
def Bd:AD B0:=⟨50,(c1 [eC,bV,vT]),[hc0,hc4,hc4],(.tup [ic,hc5])⟩
@[local irreducible] noncomputable def aF(N:Nat)(a:Bs)(a2:Int)(a3:Int):Option (Y22×Y3):=syv N (Bd.go (a,a2,a3))
def bc:KC B0:=gA Bd (u3 (aF NN)) (by kernel_rfl)
def Ed(L:List (KL B0)):Ctx B0:=⟨[Jj,qU,adW],[],[],L,.nil⟩
def FL:LD:=⟨102,5,0,⟨[(4,.own 0),(10,Qh),(11,hc4),(12,hc4)],[.arr .str false false]⟩,[(.exit 0,⟨[(4,.own 0)],[.arr .str false false]⟩)]⟩
@[local irreducible] noncomputable def eO(N n:Nat):(Y12×Y23)->Option (List Bs):=Nat.rec (λ_=>none) (λ_ L x=>syv N (FL.round (Ed []).cxs L x)) n
def OO:KL B0:=gL (Ed []) FL (eO NN) (by kernel_rfl)
def Lf:AD B0:=⟨102,(Ed [OO]),[Qh],(.tup [dr,hc4])⟩
@[local irreducible] noncomputable def ii(N:Nat)(a:List Int):Y18:=syv N (Lf.go (a))
def UG:KC B0:=gA Lf (ii NN) (by kernel_rfl)
def Qq:Tr cI:=(.node .nil 4429198337 [(.normal,⟨[(4,.own 0),(5,ay),(6,Qg),(15,hc0),(16,hc4),(17,hc4)],[.arr JL false false]⟩)] .nil)
def qa(L:List (KL B0)):Ctx B0:=⟨[UG],[],[],L,Qq⟩
def Be:LD:=⟨66,5,0,⟨[(4,.own 0),(5,ay),(6,Qg),(15,hc0),(16,hc4),(17,hc4)],[.arr JL false false]⟩,[(.ret,⟨[(2,dr),(3,hc4)],[.junk]⟩),(.exit 0,⟨[(4,.own 0),(5,ay)],[.arr JL false false]⟩)]⟩
@[local irreducible] noncomputable def bg(N n:Nat):(Bool×Int×Bs×Int×Int×Y12)->Option (Y6⊕(Bool×Y12)):=Nat.rec (λ_=>none) (λ_ L x=>syv N (Be.round (qa []).cxs L x)) n
def tQ:KL B0:=gL (qa []) Be (bg NN) (by kernel_rfl)
def Bf:LD:=⟨66,22,0,⟨[(10,.own 1),(67,.hole (.sl JL)),(68,hc4),(69,hc4)],[.junk,.arr D5 false false]⟩,[(.exit 2,⟨[(10,.own 1)],[.junk,.arr D5 false false]⟩)]⟩
@[local irreducible] noncomputable def eH(N n:Nat):(Y12×Int×Int×Y12)->Option (List Int):=Nat.rec (λ_=>none) (λ_ L x=>syv N (Bf.round (qa [tQ]).cxs L x)) n
def Lg:KL B0:=gL (qa [tQ]) Bf (eH NN) (by kernel_rfl)
def GS:AD B0:=⟨66,(qa [tQ,Lg]),[hc0],(.tup [dr,hc4])⟩
@[local irreducible] noncomputable def cm(N:Nat)(a:Bs):Y18:=syv N (GS.go (a))
def jK:KC B0:=gA GS (cm NN) (by kernel_rfl)
def FM:AD B0:=⟨355,(c1 [mJ]),[hc0],ay⟩
@[local irreducible] noncomputable def gb(N:Nat)(a:Bs):Option Bool:=syv N (FM.go (a))
def OQ:KC B0:=gA FM (gb NN) (by kernel_rfl)
def Bg:AD B0:=⟨354,(c1 [OQ]),[hc0],ay⟩
@[local irreducible] noncomputable def fj(N:Nat)(a:Bs):Option Bool:=syv N (Bg.go (a))
def Lh:KC B0:=gA Bg (fj NN) (by kernel_rfl)
def kJ(L:List (KL B0)):Ctx B0:=⟨[Lh],[],[],L,.nil⟩
def mh:LD:=⟨373,2,0,⟨[(0,pW),(1,.func (.func 354) [] []),(7,hc4),(8,hc4)],[]⟩,[(.ret,⟨[(4,hc4)],[]⟩),(.exit 0,⟨[],[]⟩)]⟩
@[local irreducible] noncomputable def aI(N n:Nat):(Y11×Y3)->Option ((Int)⊕(Unit)):=Nat.rec (λ_=>none) (λ_ L x=>syv N (mh.round (kJ []).cxs L x)) n
def rf:KL B0:=gL (kJ []) mh (aI NN) (by kernel_rfl)
def mY:AD B0:=⟨373,(kJ [rf]),[pW,.func (.func 354) [] []],hc4⟩
@[local irreducible] noncomputable def aK(N:Nat)(a:List Bs):Option Int:=syv N (mY.go (a))
def tq:KC B0:=gA mY (aK NN) (by kernel_rfl)
end
end Go.Fw
