/- A framework for proofs about Go programs in this model: part N. Everything is proved; no condition is added. -/
import Derived.Test.YtfjfjojmeookfaaGreatDoorFwM
set_option linter.unusedVariables false
set_option linter.unusedSimpArgs false
set_option linter.defProp false
namespace Go.Fw
open Go Go.Proofs.Tryz
noncomputable section
set_option maxRecDepth 100000
set_option maxHeartbeats 0
attribute [local irreducible] ix app slc fP toB agree jV jW jU ml ig bE bY cm dG bD ba aQ dT eI gt eV cJ aT bJ aU bp aW bO bZ fe cD dt cu cw cE cF cG cH dA dF aB aC aS bP bz aR cQ ff eM aI aE bV bL dN cR cy au az du bu cM bc bQ dR cN bq cb fM iw gm gn dZ dO cW cO bW bS bF bx
def GA:AD B0:=⟨64,(c1 []),[UA,hc3,ay,hc3],ay⟩
@[local irreducible] noncomputable def bA(a:Y16)(a2:Int)(a3:Bool)(a4:Int):Option Bool:=syv NN (GA.go (a,a2,a3,a4))
def bR:KC B0:=gA GA (u4 bA) (by kernel_rfl)
def vr(L:List (KL B0)):Ctx B0:=⟨[Co],[],[],L,.nil⟩
def xE:LD:=⟨93,5,0,⟨[(0,hc0),(2,hc3),(7,.ptr 0 0),(8,.own 1),(9,hc3)],[oo0,.arr MS false false]⟩,[(.ret,⟨[(6,vN),(7,.ptr 0 0)],[oo0,.junk]⟩),(.exit 0,⟨[(7,.ptr 0 0),(8,.own 1)],[oo0,.arr MS false false]⟩)]⟩
@[local irreducible] noncomputable def bX(N n:Nat):(Bs×Int×Int×Int×Int×Y17)->Option (Y4⊕(Int×Int×Y17)):=Nat.rec (λ_=>none) (λ_ L x=>syv N (xE.round (vr []).cxs L x)) n
def IS:KL B0:=gL (vr []) xE (bX NN) (by kernel_rfl)
def Cp:AD B0:=⟨93,(vr [IS]),[hc0,hc3,hc3],(.tup [iu,hc4])⟩
@[local irreducible] noncomputable def bv(N:Nat)(a:Bs)(a2:Int)(a3:Int):Option (Y17×Y4):=syv N (Cp.go (a,a2,a3))
def vt:KC B0:=gA Cp (u3 (bv NN)) (by kernel_rfl)
def AX:AD B0:=⟨49,(c1 [dH,bR,vt]),[hc0,hc3,hc3],(.tup [iu,hc4])⟩
@[local irreducible] noncomputable def aD(N:Nat)(a:Bs)(a2:Int)(a3:Int):Option (Y17×Y4):=syv N (AX.go (a,a2,a3))
def be:KC B0:=gA AX (u3 (aD NN)) (by kernel_rfl)
def D2(L:List (KL B0)):Ctx B0:=⟨[Ji,qA,ad9],[],[],L,.nil⟩
def FA:LD:=⟨104,5,0,⟨[(4,.own 0),(10,Qt),(11,hc3),(12,hc3)],[.arr .str false false]⟩,[(.exit 0,⟨[(4,.own 0)],[.arr .str false false]⟩)]⟩
@[local irreducible] noncomputable def eU(N n:Nat):(Y3×Y18)->Option (List Bs):=Nat.rec (λ_=>none) (λ_ L x=>syv N (FA.round (D2 []).cxs L x)) n
def O4:KL B0:=gL (D2 []) FA (eU NN) (by kernel_rfl)
def Ll:AD B0:=⟨104,(D2 [O4]),[Qt],(.tup [dU,hc3])⟩
@[local irreducible] noncomputable def iy(N:Nat)(a:List Int):Y10:=syv N (Ll.go (a))
def UL:KC B0:=gA Ll (iy NN) (by kernel_rfl)
def QD:Tr cB:=(.node .nil 4362089473 [(.normal,⟨[(4,.own 0),(5,ay),(6,Qs),(15,hc0),(16,hc3),(17,hc3)],[.arr JK false false]⟩)] .nil)
def pJ(L:List (KL B0)):Ctx B0:=⟨[UL],[],[],L,QD⟩
def AY:LD:=⟨65,5,0,⟨[(4,.own 0),(5,ay),(6,Qs),(15,hc0),(16,hc3),(17,hc3)],[.arr JK false false]⟩,[(.ret,⟨[(2,dU),(3,hc3)],[.junk]⟩),(.exit 0,⟨[(4,.own 0),(5,ay)],[.arr JK false false]⟩)]⟩
@[local irreducible] noncomputable def bj(N n:Nat):(Bool×Int×Bs×Int×Int×Y3)->Option (Y1⊕(Bool×Y3)):=Nat.rec (λ_=>none) (λ_ L x=>syv N (AY.round (pJ []).cxs L x)) n
def tq:KL B0:=gL (pJ []) AY (bj NN) (by kernel_rfl)
def AZ:LD:=⟨65,22,0,⟨[(10,.own 1),(67,.hole (.sl JK)),(68,hc3),(69,hc3)],[.junk,.arr DR false false]⟩,[(.exit 2,⟨[(10,.own 1)],[.junk,.arr DR false false]⟩)]⟩
@[local irreducible] noncomputable def eP(N n:Nat):(Y3×Int×Int×Y3)->Option (List Int):=Nat.rec (λ_=>none) (λ_ L x=>syv N (AZ.round (pJ [tq]).cxs L x)) n
def Lm:KL B0:=gL (pJ [tq]) AZ (eP NN) (by kernel_rfl)
def GC:AD B0:=⟨65,(pJ [tq,Lm]),[hc0],(.tup [dU,hc3])⟩
@[local irreducible] noncomputable def cp(N:Nat)(a:Bs):Y10:=syv N (GC.go (a))
def jR:KC B0:=gA GC (cp NN) (by kernel_rfl)
def FB:AD B0:=⟨366,(c1 [mE]),[hc0],ay⟩
@[local irreducible] noncomputable def gi(N:Nat)(a:Bs):Option Bool:=syv N (FB.go (a))
def O5:KC B0:=gA FB (gi NN) (by kernel_rfl)
def A0:AD B0:=⟨365,(c1 [O5]),[hc0],ay⟩
@[local irreducible] noncomputable def ft(N:Nat)(a:Bs):Option Bool:=syv N (A0.go (a))
def Ln:KC B0:=gA A0 (ft NN) (by kernel_rfl)
def kA(L:List (KL B0)):Ctx B0:=⟨[Ln],[],[],L,.nil⟩
def lX:LD:=⟨381,2,0,⟨[(0,pF),(1,.func (.func 365) [] []),(7,hc3),(8,hc3)],[]⟩,[(.ret,⟨[(4,hc3)],[]⟩),(.exit 0,⟨[],[]⟩)]⟩
@[local irreducible] noncomputable def aJ(N n:Nat):(Y2×Y4)->Option ((Int)⊕(Unit)):=Nat.rec (λ_=>none) (λ_ L x=>syv N (lX.round (kA []).cxs L x)) n
def qJ:KL B0:=gL (kA []) lX (aJ NN) (by kernel_rfl)
def mR:AD B0:=⟨381,(kA [qJ]),[pF,.func (.func 365) [] []],hc3⟩
@[local irreducible] noncomputable def aN(N:Nat)(a:List Bs):Option Int:=syv N (mR.go (a))
def sZ:KC B0:=gA mR (aN NN) (by kernel_rfl)
def lY:AD B0:=⟨364,(c1 [sZ]),[pF,.func (.func 365) [] []],ay⟩
@[local irreducible] noncomputable def aK(N:Nat)(a:List Bs):Option Bool:=syv N (lY.go (a))
def qK:KC B0:=gA lY (aK NN) (by kernel_rfl)
def FC:AD B0:=⟨322,(c1 [nM,qK]),[pF],ay⟩
@[local irreducible] noncomputable def fI(N:Nat)(a:List Bs):Option Bool:=syv N (FC.go (a))
def O6:KC B0:=gA FC (fI NN) (by kernel_rfl)
def Cq:Tr cB:=(.node .nil 4398067548168 [(.normal,⟨[(1,.junk),(3073,.junk)],[]⟩)] .nil)
def nY(L:List (KL B0)):Ctx B0:=⟨[be,lN,O6],[],[],L,Cq⟩
def pK:LD:=⟨321,4,0,⟨[(1,hc0),(4,.ptr 0 0),(6,.ptr 3 0),(8,.ptr 5 0),(18,iu),(19,hc3),(20,hc3)],[.cells [vE,.own 1] false,.arr tc0 false false,.arr tc0 false false,.cells [dU,.own 2] false,.junk,oo0]⟩,[(.exit 0,⟨[(4,.ptr 0 0),(6,.ptr 3 0),(8,.ptr 5 0)],[.cells [vE,.own 1] false,.arr tc0 false false,.arr tc0 false false,.cells [dU,.own 2] false,.junk,oo0]⟩)]⟩
@[local irreducible] noncomputable def br(N n:Nat):(Bs×Y17×Int×Int×Y2×Y2×Bs×Y4)->Option (Y2×Y2×Bs×Y4):=Nat.rec (λ_=>none) (λ_ L x=>syv N (pK.round (nY []).cxs L x)) n
def zk:KL B0:=gL (nY []) pK (br NN) (by kernel_rfl)
def sg:AD B0:=⟨321,(nY [zk]),[dU,hc0],(.tup [adS,ay])⟩
@[local irreducible] noncomputable def cf(N:Nat)(a:Bs)(a2:Bs):Option ((Bs×Y2)×Bool):=syv N (sg.go (a,a2))
def Cr:KC B0:=gA sg (u2 (cf NN)) (by kernel_rfl)
def mS:AD B0:=⟨324,(c1 [be,bR,jR,Cr]),[.agg [.func (.func 321) [] [],.func (.func 323) [] []],hc0],(.tup [adS,ay])⟩
@[local irreducible] noncomputable def aO(N:Nat)(a:Bs):Option ((Bs×Y2)×Bool):=syv N (mS.go (a))
def s6:KC B0:=gA mS (aO NN) (by kernel_rfl)
def jS(L:List (KL B0)):Ctx B0:=⟨[be,s6],[],[],L,.nil⟩
def lC:LD:=⟨256,6,0,⟨[(1,hc0),(2,.ptr 0 0),(5,.ptr 1 0),(8,.own 3),(22,iu),(23,hc3),(24,hc3)],[.cells [.func (.func 321) [] [],.func (.func 323) [] []] false,oo5,.junk,.arr MV false false]⟩,[(.ret,⟨[(4,vN),(5,.ptr 1 0)],[.junk,oo6,.junk,.junk]⟩),(.exit 0,⟨[(1,hc0),(5,.ptr 1 0),(8,.own 3)],[.junk,oo5,.junk,.arr MV false false]⟩)]⟩
@[local irreducible] noncomputable def aF(N n:Nat):(Bs×Y17×Int×Int×Y19)->Option ((Int)⊕(Bs×Y19)):=Nat.rec (λ_=>none) (λ_ L x=>syv N (lC.round (jS []).cxs L x)) n
def pL:KL B0:=gL (jS []) lC (aF NN) (by kernel_rfl)
def mu:AD B0:=⟨256,(jS [pL]),[.agg [.func (.func 321) [] [],.func (.func 323) [] []],hc0],(.tup [YL,hc4])⟩
@[local irreducible] noncomputable def aP(N:Nat)(a:Bs):Option (Y19×Y4):=syv N (mu.go (a))
def qX:KC B0:=gA mu (aP NN) (by kernel_rfl)
end
end Go.Fw
