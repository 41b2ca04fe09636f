/- A framework for proofs about Go programs in this model: part U. Everything is proved; no condition is added. -/
import Derived.Test.YtfjfjojmeookfaaGreatDoorFwT
set_option linter.unusedVariables false
set_option linter.unusedSimpArgs false
set_option linter.defProp false
namespace Go.Fw
open Go Go.Proofs.Tryz
noncomputable section
set_option maxRecDepth 100000
set_option maxHeartbeats 0
attribute [local irreducible] ix app slc fP toB agree jV jW jU ml ig bE bY cm dG bD ba aQ dT eI gt eV cJ aT bJ aU bp aW bO bZ fe cD dt cu cw cE cF cG cH dA dF aB aC aS bP bz aR cQ ff eM aI aE bV bL dN cR cy au az du bu cM bc bQ dR cN bq cb fM iw gm gn dZ dO cW cO bW bS bF bx bA bX bv aD eU iy bj eP cp gi ft aJ aN aK fI br cf aO aF aP cX cI cz fu fv bo bh ey cg dV fw fx dd ge eE fy ec dI fG cA bw dq cS iz cq eJ df dr dJ dW eQ em bK cP ii dX gp gj gJ ez gY ia eN eL fA eW ed jg lD jX iI dS eF cj fN kT mw ep dY gK gV fg fB cY jm gu gv gM eX iN jp jh iY kU kV iA gB jY j8 aZ bg aM jE kh gN iO iP iQ iR jr fh
def nz(L:List (KL B0)):Ctx B0:=⟨[zu],[],[],L,.nil⟩
def pt:LD:=⟨370,2,1,⟨[(0,UB),(1,.func (.func 343) [] [.ptr 0 0]),(7,hc3),(8,hc3)],[.cells [.func (.func 341) [] []] false]⟩,[(.ret,⟨[(4,hc3)],[.junk]⟩),(.exit 0,⟨[],[.junk]⟩)]⟩
@[local irreducible] noncomputable def gR(N n:Nat):(Y11×Y4)->Option ((Int)⊕(Unit)):=Nat.rec (λ_=>none) (λ_ L x=>syv N (pt.round (nz []).cxs L x)) n
def yd:KL B0:=gL (nz []) pt (gR NN) (by kernel_rfl)
def q7:AD B0:=⟨288,(nz [yd]),[UB],ay⟩
@[local irreducible] noncomputable def gP(N:Nat)(a:Y11):Option Bool:=syv N (q7.go (a))
def BP:KC B0:=gA q7 (gP NN) (by kernel_rfl)
def jT(L:List (KL B0)):Ctx B0:=⟨[be,BP,GK,dH,bR,jR],[],[],L,.nil⟩
def pu:LD:=⟨281,7,7,⟨[(0,hc0),(3,.func (.func 290) [] [.ptr 6 0]),(8,.ptr 7 0),(33,iu),(34,hc3),(35,hc3)],[oo5,pb,.arr DT false true,oo5,.junk,kC,YR,oo5,.junk]⟩,[(.ret,⟨[(8,.ptr 7 0)],[oo5,pb,.arr DT false true,oo5,.junk,kC,YR,oo0,.junk]⟩),(.exit 0,⟨[(8,.ptr 7 0)],[oo5,pb,.arr DT false true,oo5,.junk,kC,YR,oo5,.junk]⟩)]⟩
@[local irreducible] noncomputable def fQ(N n:Nat):(Bs×Y17×Int×Int×Y11×Y34)->Option ((Y11×Y36)⊕(Y11×Y34)):=Nat.rec (λ_=>none) (λ_ L x=>syv N (pu.round (jT []).cxs L x)) n
def mh:KL B0:=gL (jT []) pu (fQ NN) (by kernel_rfl)
def pw:LD:=⟨281,7,3,⟨[(0,hc0),(3,.func (.func 289) [] [.ptr 1 0]),(8,.ptr 3 0),(33,iu),(34,hc3),(35,hc3)],[oo5,pb,.arr DT false false,oo5,.junk]⟩,[(.ret,⟨[(8,.ptr 3 0)],[oo5,pb,.arr DT false false,oo0,.junk]⟩),(.exit 0,⟨[(8,.ptr 3 0)],[oo5,pb,.arr DT false false,oo5,.junk]⟩)]⟩
@[local irreducible] noncomputable def fS(N n:Nat):(Bs×Y17×Int×Int×Y11)->Option ((Y11×Y4)⊕Y11):=Nat.rec (λ_=>none) (λ_ L x=>syv N (pw.round (jT [mh]).cxs L x)) n
def ye:KL B0:=gL (jT [mh]) pw (fS NN) (by kernel_rfl)
def q8:AD B0:=⟨212,(jT [mh,ye]),[hc0],(.tup [UB,hc4])⟩
@[local irreducible] noncomputable def f8(N:Nat)(a:Bs):Option (Y11×Y4):=syv N (q8.go (a))
def BQ:KC B0:=gA q8 (f8 NN) (by kernel_rfl)
def FR:AD B0:=⟨291,(c1 [ph,kE]),[adW],ay⟩
@[local irreducible] noncomputable def oS(N:Nat)(a:Y39):Option Bool:=syv N (FR.go (a))
def Pg:KC B0:=gA FR (oS NN) (by kernel_rfl)
def xl:AD B0:=⟨215,(c1 [be,Pg,bR,lN,f7,pg]),[hc0],(.tup [adW,hc4])⟩
def Ph:KC B0:=xl.k (by kernel_rfl)
abbrev Pi(N:Nat)(a:Bs):Option (Y39×Y4):=xl.run a
def I2:Tr cB:=(.node .nil 14629745669 [(.normal,⟨[(0,hc0),(2,.ptr 0 0),(3,.ptr 1 0),(6,.ptr 3 0),(7,hc3),(22,iu),(23,hc3),(24,hc3)],[UF,oo5,.junk,YS,.junk]⟩)] .nil)
def qO(L:List (KL B0)):Ctx B0:=⟨[be,oE],[],[],L,I2⟩
def tI:LD:=⟨218,7,0,⟨[(0,hc0),(2,.ptr 0 0),(3,.ptr 1 0),(6,.ptr 3 0),(7,hc3),(22,iu),(23,hc3),(24,hc3)],[UF,oo5,.junk,YS]⟩,[(.ret,⟨[(2,.ptr 0 0),(3,.ptr 1 0)],[UF,oo6,.junk,.junk]⟩),(.exit 0,⟨[(0,hc0),(2,.ptr 0 0),(3,.ptr 1 0),(6,.ptr 3 0),(7,hc3)],[UF,oo5,.junk,YS]⟩)]⟩
@[local irreducible] noncomputable def iB(N n:Nat):(Bs×Int×Y17×Int×Int×Y40)->Option ((Int)⊕(Bs×Int×Y40)):=Nat.rec (λ_=>none) (λ_ L x=>syv N (tI.round (qO []).cxs L x)) n
def Ed:KL B0:=gL (qO []) tI (iB NN) (by kernel_rfl)
def xS:AD B0:=⟨218,(qO [Ed]),[hc0],(.tup [.hole adI,hc4])⟩
@[local irreducible] noncomputable def iS(N:Nat)(a:Bs):Option (Y40×Y4):=syv N (xS.go (a))
def I3:KC B0:=gA xS (iS NN) (by kernel_rfl)
def xm(L:List (KL B0)):Ctx B0:=⟨[be,bR,jR],[],[],L,.nil⟩
def zw:LD:=⟨221,6,0,⟨[(0,hc0),(3,.ptr 0 0),(6,.own 2),(20,iu),(21,hc3),(22,hc3)],[oo0,.junk,.arr .str false false]⟩,[(.ret,⟨[(2,vN),(3,.ptr 0 0)],[oo0,.junk,.junk]⟩),(.exit 0,⟨[(0,hc0),(3,.ptr 0 0),(6,.own 2)],[oo0,.junk,.arr .str false false]⟩)]⟩
@[local irreducible] noncomputable def j9(N n:Nat):(Bs×Y17×Int×Int×Y18)->Option (Y4⊕(Bs×Y18)):=Nat.rec (λ_=>none) (λ_ L x=>syv N (zw.round (xm []).cxs L x)) n
def J1:KL B0:=gL (xm []) zw (j9 NN) (by kernel_rfl)
def FqS:AD B0:=⟨221,(xm [J1]),[hc0],(.tup [YK,hc4])⟩
@[local irreducible] noncomputable def kW(N:Nat)(a:Bs):Option (Y2×Y4):=syv N (FqS.go (a))
def Pj:KC B0:=gA FqS (kW NN) (by kernel_rfl)
def sD:AD B0:=⟨297,(c1 [dH,oE]),[hc0,.func (.func 265) [] []],(.tup [hc3,hc4])⟩
@[local irreducible] noncomputable def jb(N:Nat)(a:Bs):Y20:=syv N (sD.go (a))
def CQ:KC B0:=gA sD (jb NN) (by kernel_rfl)
def wt:AD B0:=⟨223,(c1 [CQ]),[hc0],(.tup [hc3,hc4])⟩
@[local irreducible] noncomputable def im(N:Nat)(a:Bs):Y20:=syv N (wt.go (a))
def GM:KC B0:=gA wt (im NN) (by kernel_rfl)
def pR:AD B0:=⟨251,(c1 []),[],(.agg [.func (.func 318) [] [],.func (.func 319) [] []])⟩
@[local irreducible] noncomputable def ib:Option Unit:=syv NN (pR.go ())
def zx:KC B0:=gA pR (λ_=>ib) (by kernel_rfl)
def qE:AD B0:=⟨318,(c1 [pq]),[dU,hc0],(.tup [adX,ay])⟩
@[local irreducible] noncomputable def ir(N:Nat)(a:Bs)(a2:Bs):Option ((Bs×Y22)×Bool):=syv N (qE.go (a,a2))
def AA:KC B0:=gA qE (u2 (ir NN)) (by kernel_rfl)
def mG:AD B0:=⟨320,(c1 [be,bR,jR,AA]),[.agg [.func (.func 318) [] [],.func (.func 319) [] []],hc0],(.tup [adX,ay])⟩
@[local irreducible] noncomputable def dP(N:Nat)(a:Bs):Option ((Bs×Y22)×Bool):=syv N (mG.go (a))
def rQ:KC B0:=gA mG (dP NN) (by kernel_rfl)
def jG(L:List (KL B0)):Ctx B0:=⟨[be,rQ],[],[],L,.nil⟩
def lx:LD:=⟨253,6,0,⟨[(1,hc0),(2,.ptr 0 0),(5,.ptr 1 0),(8,.own 3),(22,iu),(23,hc3),(24,hc3)],[.cells [.func (.func 318) [] [],.func (.func 319) [] []] false,oo5,.junk,.arr MU false false]⟩,[(.ret,⟨[(4,vN),(5,.ptr 1 0)],[.junk,oo6,.junk,.junk]⟩),(.exit 0,⟨[(1,hc0),(5,.ptr 1 0),(8,.own 3)],[.junk,oo5,.junk,.arr MU false false]⟩)]⟩
@[local irreducible] noncomputable def dL(N n:Nat):(Bs×Y17×Int×Int×Y41)->Option ((Int)⊕(Bs×Y41)):=Nat.rec (λ_=>none) (λ_ L x=>syv N (lx.round (jG []).cxs L x)) n
def pC:KL B0:=gL (jG []) lx (dL NN) (by kernel_rfl)
def ma:AD B0:=⟨253,(jG [pC]),[.agg [.func (.func 318) [] [],.func (.func 319) [] []],hc0],(.tup [YN,hc4])⟩
@[local irreducible] noncomputable def eG(N:Nat)(a:Bs):Option (Y41×Y4):=syv N (ma.go (a))
def qP:KC B0:=gA ma (eG NN) (by kernel_rfl)
def CR:AD B0:=⟨183,(c1 [zx,qP]),[hc0],(.tup [YN,hc4])⟩
@[local irreducible] noncomputable def js(N:Nat)(a:Bs):Option (Y41×Y4):=syv N (CR.go (a))
def Na:KC B0:=gA CR (js NN) (by kernel_rfl)
end
end Go.Fw
