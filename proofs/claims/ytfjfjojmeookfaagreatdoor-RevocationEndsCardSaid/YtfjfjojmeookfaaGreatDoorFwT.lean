/- A framework for proofs about Go programs in this model: part T. Everything is proved; no condition is added. -/
import Derived.Test.YtfjfjojmeookfaaGreatDoorFwS
set_option linter.unusedVariables false
set_option linter.unusedSimpArgs false
set_option linter.defProp false
namespace Go.Fw
open Go Go.Proofs.Tryz
noncomputable section
set_option maxRecDepth 100000
set_option maxHeartbeats 0
attribute [local irreducible] ix app slc fP toB agree jV jW jU ml ig bE bY cm dG bD ba aQ dT eI gt eV cJ aT bJ aU bp aW bO bZ fe cD dt cu cw cE cF cG cH dA dF aB aC aS bP bz aR cQ ff eM aI aE bV bL dN cR cy au az du bu cM bc bQ dR cN bq cb fM iw gm gn dZ dO cW cO bW bS bF bx bA bX bv aD eU iy bj eP cp gi ft aJ aN aK fI br cf aO aF aP cX cI cz fu fv bo bh ey cg dV fw fx dd ge eE fy ec dI fG cA bw dq cS iz cq eJ df dr dJ dW eQ em bK cP ii dX gp gj gJ ez gY ia eN eL fA eW ed jg lD jX iI dS eF cj fN kT mw ep dY gK gV fg fB cY jm gu gv gM eX iN jp
def Lu:Tr cB:=(.node .nil 13824441350 [(.normal,⟨[(0,hc0),(2,.ptr 0 0),(3,.ptr 1 0),(6,.ptr 3 0),(7,hc3),(22,iu),(23,hc3),(24,hc3)],[UE,oo5,.junk,YQ,.junk,.junk]⟩)] .nil)
def tG(L:List (KL B0)):Ctx B0:=⟨[be,bR,M7],[],[],L,Lu⟩
def ws:LD:=⟨206,7,0,⟨[(0,hc0),(2,.ptr 0 0),(3,.ptr 1 0),(6,.ptr 3 0),(7,hc3),(22,iu),(23,hc3),(24,hc3)],[UE,oo5,.junk,YQ]⟩,[(.ret,⟨[(2,.ptr 0 0),(3,.ptr 1 0)],[UE,oo0,.junk,.junk]⟩),(.exit 0,⟨[(0,hc0),(2,.ptr 0 0),(3,.ptr 1 0),(6,.ptr 3 0),(7,hc3)],[UE,oo5,.junk,YQ]⟩)]⟩
@[local irreducible] noncomputable def jh(N n:Nat):(Bs×Int×Y17×Int×Int×Y25×Y25)->Option (Y4⊕(Bs×Int×Y25×Y25)):=Nat.rec (λ_=>none) (λ_ L x=>syv N (ws.round (tG []).cxs L x)) n
def GI:KL B0:=gL (tG []) ws (jh NN) (by kernel_rfl)
def Ba:AD B0:=⟨206,(tG [GI]),[hc0],(.tup [.hole adL,hc4])⟩
@[local irreducible] noncomputable def iY(N:Nat)(a:Bs):Option ((Y25×Y25)×Y4):=syv N (Ba.go (a))
def Lv:KC B0:=gA Ba (iY NN) (by kernel_rfl)
def FM:AD B0:=⟨316,(c1 [uL,uN,ph]),[adU],ay⟩
@[local irreducible] noncomputable def kU(N:Nat)(a:Y32):Option Bool:=syv N (FM.go (a))
def Pe:KC B0:=gA FM (kU NN) (by kernel_rfl)
def FO:AD B0:=⟨250,(c1 [sA,Pe]),[hc0],(.tup [adU,hc4])⟩
@[local irreducible] noncomputable def kV(N:Nat)(a:Bs):Option (Y32×Y4):=syv N (FO.go (a))
def Pf:KC B0:=gA FO (kV NN) (by kernel_rfl)
def qM(L:List (KL B0)):Ctx B0:=⟨[be,Pf],[],[],L,.nil⟩
def tH:LD:=⟨180,6,0,⟨[(0,hc0),(3,.ptr 0 0),(6,.own 2),(20,iu),(21,hc3),(22,hc3)],[oo5,.junk,.arr MT false false]⟩,[(.ret,⟨[(2,vN),(3,.ptr 0 0)],[oo0,.junk,.junk]⟩),(.exit 0,⟨[(0,hc0),(3,.ptr 0 0),(6,.own 2)],[oo5,.junk,.arr MT false false]⟩)]⟩
@[local irreducible] noncomputable def iA(N n:Nat):(Bs×Y17×Int×Int×List Y32)->Option (Y4⊕(Bs×List Y32)):=Nat.rec (λ_=>none) (λ_ L x=>syv N (tH.round (qM []).cxs L x)) n
def Ec:KL B0:=gL (qM []) tH (iA NN) (by kernel_rfl)
def xM:AD B0:=⟨180,(qM [Ec]),[hc0],(.tup [adV,hc4])⟩
@[local irreducible] noncomputable def gB(N:Nat)(a:Bs):Option (List Y32×Y4):=syv N (xM.go (a))
def IZ:KC B0:=gA xM (gB NN) (by kernel_rfl)
def FP:AD B0:=⟨339,(c1 [mE]),[hc0],ay⟩
@[local irreducible] noncomputable def jY(N:Nat)(a:Bs):Option Bool:=syv N (FP.go (a))
def FQ:KC B0:=gA FP (jY NN) (by kernel_rfl)
def zt:AD B0:=⟨338,(c1 [o8,FQ]),[hc1],ay⟩
@[local irreducible] noncomputable def j8(N:Nat)(a:Y0):Option Bool:=syv N (zt.go (a))
def J0:KC B0:=gA zt (j8 NN) (by kernel_rfl)
def gg(L:List (KL B0)):Ctx B0:=⟨[J0],[],[],L,.nil⟩
def iJ:LD:=⟨369,2,0,⟨[(0,hc2),(1,.func (.func 338) [] []),(7,hc3),(8,hc3)],[]⟩,[(.ret,⟨[(4,hc3)],[]⟩),(.exit 0,⟨[],[]⟩)]⟩
@[local irreducible] noncomputable def aZ(N n:Nat):(Y11×Y4)->Option ((Int)⊕(Unit)):=Nat.rec (λ_=>none) (λ_ L x=>syv N (iJ.round (gg []).cxs L x)) n
def lT:KL B0:=gL (gg []) iJ (aZ NN) (by kernel_rfl)
def ja:AD B0:=⟨369,(gg [lT]),[hc2,.func (.func 338) [] []],hc3⟩
@[local irreducible] noncomputable def bg(N:Nat)(a:Y11):Option Int:=syv N (ja.go (a))
def mA:KC B0:=gA ja (bg NN) (by kernel_rfl)
def iK:AD B0:=⟨337,(c1 [mA]),[hc2,.func (.func 338) [] []],ay⟩
@[local irreducible] noncomputable def aM(N:Nat)(a:Y11):Option Bool:=syv N (iK.go (a))
def lU:KC B0:=gA iK (aM NN) (by kernel_rfl)
def vw(L:List (KL B0)):Ctx B0:=⟨[o8,lU],[],[],L,.nil⟩
def xN:LD:=⟨278,3,0,⟨[(0,MY),(3,.mp 0),(7,MY),(8,hc3),(9,hc3)],[.smap]⟩,[(.ret,⟨[(2,vF)],[.junk]⟩),(.exit 0,⟨[(0,MY)],[.junk]⟩)]⟩
@[local irreducible] noncomputable def jE(N n:Nat):(Y33×Y33×Y18)->Option ((Unit)⊕Y33):=Nat.rec (λ_=>none) (λ_ L x=>syv N (xN.round (vw []).cxs L x)) n
def I0:KL B0:=gL (vw []) xN (jE NN) (by kernel_rfl)
def CN:AD B0:=⟨278,(vw [I0]),[MY],ay⟩
@[local irreducible] noncomputable def kh(N:Nat)(a:Y33):Option Bool:=syv N (CN.go (a))
def M8:KC B0:=gA CN (kh NN) (by kernel_rfl)
def GJ:AD B0:=⟨287,(c1 []),[hc3],hc4⟩
@[local irreducible] noncomputable def gN(a:Int):Option Y4:=syv NN (GJ.go (a))
def GK:KC B0:=gA GJ gN (by kernel_rfl)
def jq(L:List (KL B0)):Ctx B0:=⟨[be,M8,GK,dH,bR,jR,lN,FQ],[],[],L,.nil⟩
def xO:LD:=⟨281,7,16,⟨[(0,hc0),(3,.func (.func 340) [] [.rc [.ptr 14 0] 0]),(8,.ptr 16 0),(33,iu),(34,hc3),(35,hc3)],[oo5,pb,.arr rM false true,oo5,.junk,kC,DW,.arr tc1 false true,oo5,.junk,kC,oo5,.junk,kC,JL,.junk,oo5,.junk]⟩,[(.ret,⟨[(8,.ptr 16 0)],[oo5,pb,.arr rM false true,oo5,.junk,kC,DW,.arr tc1 false true,oo5,.junk,kC,oo5,.junk,kC,JL,.junk,oo0,.junk]⟩),(.exit 0,⟨[(8,.ptr 16 0)],[oo5,pb,.arr rM false true,oo5,.junk,kC,DW,.arr tc1 false true,oo5,.junk,kC,oo5,.junk,kC,JL,.junk,oo5,.junk]⟩)]⟩
@[local irreducible] noncomputable def iO(N n:Nat):(Bs×Y17×Int×Int×Y35)->Option ((Y33×Int×Int×Bool×Int×Int×Int×Bs×Y11×Int×Int×Bool×Int×Int×Int×Y36)⊕Y35):=Nat.rec (λ_=>none) (λ_ L x=>syv N (xO.round (jq []).cxs L x)) n
def jF:KL B0:=gL (jq []) xO (iO NN) (by kernel_rfl)
def xP:LD:=⟨281,7,11,⟨[(0,hc0),(3,.func (.func 285) [] [.ptr 6 0]),(8,.ptr 11 0),(33,iu),(34,hc3),(35,hc3)],[oo5,pb,.arr rM false true,oo5,.junk,kC,DW,.arr tc1 false false,oo5,.junk,kC,oo5,.junk]⟩,[(.ret,⟨[(8,.ptr 11 0)],[oo5,pb,.arr rM false true,oo5,.junk,kC,DW,.arr tc1 false false,oo5,.junk,kC,oo0,.junk]⟩),(.exit 0,⟨[(8,.ptr 11 0)],[oo5,pb,.arr rM false true,oo5,.junk,kC,DW,.arr tc1 false false,oo5,.junk,kC,oo5,.junk]⟩)]⟩
@[local irreducible] noncomputable def iP(N n:Nat):(Bs×Y17×Int×Int×Y37)->Option ((Y33×Int×Int×Bool×Int×Int×Int×Bs×Y11×Int×Int×Bool×Y6)⊕Y37):=Nat.rec (λ_=>none) (λ_ L x=>syv N (xP.round (jq [jF]).cxs L x)) n
def lZ:KL B0:=gL (jq [jF]) xP (iP NN) (by kernel_rfl)
def xQ:LD:=⟨281,7,8,⟨[(0,hc0),(3,.func (.func 283) [] [.ptr 6 0]),(8,.ptr 8 0),(33,iu),(34,hc3),(35,hc3)],[oo5,pb,.arr rM false true,oo5,.junk,kC,DW,.arr tc1 false false,oo5,.junk]⟩,[(.ret,⟨[(8,.ptr 8 0)],[oo5,pb,.arr rM false true,oo5,.junk,kC,DW,.arr tc1 false false,oo0,.junk]⟩),(.exit 0,⟨[(8,.ptr 8 0)],[oo5,pb,.arr rM false true,oo5,.junk,kC,DW,.arr tc1 false false,oo5,.junk]⟩)]⟩
@[local irreducible] noncomputable def iQ(N n:Nat):(Bs×Y17×Int×Int×Y38)->Option ((Y33×Int×Int×Bool×Int×Int×Int×Bs×Y11×Y4)⊕Y38):=Nat.rec (λ_=>none) (λ_ L x=>syv N (xQ.round (jq [jF,lZ]).cxs L x)) n
def qN:KL B0:=gL (jq [jF,lZ]) xQ (iQ NN) (by kernel_rfl)
def xR:LD:=⟨281,7,3,⟨[(0,hc0),(3,.func (.func 282) [] [.ptr 1 0]),(8,.ptr 3 0),(33,iu),(34,hc3),(35,hc3)],[oo5,pb,.arr rM false false,oo5,.junk]⟩,[(.ret,⟨[(8,.ptr 3 0)],[oo5,pb,.arr rM false false,oo0,.junk]⟩),(.exit 0,⟨[(8,.ptr 3 0)],[oo5,pb,.arr rM false false,oo5,.junk]⟩)]⟩
@[local irreducible] noncomputable def iR(N n:Nat):(Bs×Y17×Int×Int×Y33)->Option ((Y33×Y4)⊕Y33):=Nat.rec (λ_=>none) (λ_ L x=>syv N (xR.round (jq [jF,lZ,qN]).cxs L x)) n
def I1:KL B0:=gL (jq [jF,lZ,qN]) xR (iR NN) (by kernel_rfl)
def CP:AD B0:=⟨209,(jq [jF,lZ,qN,I1]),[hc0],(.tup [MY,hc4])⟩
@[local irreducible] noncomputable def jr(N:Nat)(a:Bs):Option (Y33×Y4):=syv N (CP.go (a))
def M9:KC B0:=gA CP (jr NN) (by kernel_rfl)
def pQ:AD B0:=⟨341,(c1 [o8]),[dU],ay⟩
@[local irreducible] noncomputable def fh(N:Nat)(a:Bs):Option Bool:=syv N (pQ.go (a))
def zu:KC B0:=gA pQ (fh NN) (by kernel_rfl)
end
end Go.Fw
