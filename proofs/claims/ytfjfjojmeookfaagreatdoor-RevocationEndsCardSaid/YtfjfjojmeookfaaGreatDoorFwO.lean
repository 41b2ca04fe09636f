/- A framework for proofs about Go programs in this model: part O. Everything is proved; no condition is added. -/
import Derived.Test.YtfjfjojmeookfaaGreatDoorFwN
set_option linter.unusedVariables false
set_option linter.unusedSimpArgs false
set_option linter.defProp false
namespace Go.Fw
open Go Go.Proofs.Tryz
noncomputable section
set_option maxRecDepth 100000
set_option maxHeartbeats 0
attribute [local irreducible] ix app slc fP toB agree jV jW jU ml ig bE bY cm dG bD ba aQ dT eI gt eV cJ aT bJ aU bp aW bO bZ fe cD dt cu cw cE cF cG cH dA dF aB aC aS bP bz aR cQ ff eM aI aE bV bL dN cR cy au az du bu cM bc bQ dR cN bq cb fM iw gm gn dZ dO cW cO bW bS bF bx bA bX bv aD eU iy bj eP cp gi ft aJ aN aK fI br cf aO aF aP
def uD:AD B0:=⟨188,(c1 [BL,qX]),[hc0],(.tup [YL,hc4])⟩
@[local irreducible] noncomputable def cX(N:Nat)(a:Bs):Option (Y19×Y4):=syv N (uD.go (a))
def F3:KC B0:=gA uD (cX NN) (by kernel_rfl)
def tu:AD B0:=⟨190,(c1 [dH,bR,lN]),[hc0],(.tup [hc0,hc4])⟩
@[local irreducible] noncomputable def cI(N:Nat)(a:Bs):Y15:=syv N (tu.go (a))
def D3:KC B0:=gA tu (cI NN) (by kernel_rfl)
def wl:AD B0:=⟨28,(c1 [lN,nL]),[hc0],(.tup [MX,hc3])⟩
@[local irreducible] noncomputable def cz(a:Bs):Option (Y1×Int):=syv NN (wl.go (a))
def wm:KC B0:=gA wl cz (by kernel_rfl)
def A1:AD B0:=⟨326,(c1 [nL]),[MX],hc3⟩
@[local irreducible] noncomputable def fu(a:Y1):Option Int:=syv NN (A1.go (a))
def A2:KC B0:=gA A1 fu (by kernel_rfl)
def Cs:AD B0:=⟨328,(c1 [A2]),[MX,hc3],ay⟩
@[local irreducible] noncomputable def fv(a:Y1)(a2:Int):Option Bool:=syv NN (Cs.go (a,a2))
def M3:KC B0:=gA Cs (u2 fv) (by kernel_rfl)
def Ay:Tr cB:=(.node .nil 17381208065 [(.normal,⟨[(9,.func (.func 327) [] [.ptr 0 0]),(10,hc3),(44,hc3),(45,hc3)],[oo7]⟩)] .nil)
def mW(L:List (KL B0)):Ctx B0:=⟨[wm,A2,M3],[],[],L,Ay⟩
def oR:LD:=⟨259,10,0,⟨[(9,.func (.func 327) [] [.ptr 0 0]),(10,hc3),(44,hc3),(45,hc3)],[oo7]⟩,[(.exit 0,⟨[(10,hc3)],[.junk]⟩)]⟩
@[local irreducible] noncomputable def bo(N n:Nat):(Int×Int×Int×Y1)->Option Int:=Nat.rec (λ_=>none) (λ_ L x=>syv N (oR.round (mW []).cxs L x)) n
def xh:KL B0:=gL (mW []) oR (bo NN) (by kernel_rfl)
def qB:AD B0:=⟨259,(mW [xh]),[hc0,hc3],(.tup [hc3,hc3])⟩
@[local irreducible] noncomputable def bh(N:Nat)(a:Bs)(a2:Int):Option Y4:=syv N (qB.go (a,a2))
def qC:KC B0:=gA qB (u2 (bh NN)) (by kernel_rfl)
def zl:AD B0:=⟨192,(c1 [dH,bR,qC]),[hc0],(.tup [hc3,hc4])⟩
@[local irreducible] noncomputable def ey(N:Nat)(a:Bs):Y20:=syv N (zl.go (a))
def JW:KC B0:=gA zl (ey NN) (by kernel_rfl)
def Ct:Tr cB:=(.node (.node .nil 20803749888 [(.normal,⟨[(4,ay)],[]⟩)] .nil) 20803750912 [(.normal,⟨[(4,ay)],[]⟩)] (.node .nil 20803751936 [(.normal,⟨[(4,ay)],[]⟩)] .nil))
def sh:AD B0:=⟨310,⟨[],[],[],[],Ct⟩,[hc3],ay⟩
@[local irreducible] noncomputable def cg(a:Int):Option Bool:=syv NN (sh.go (a))
def si:KC B0:=gA sh cg (by kernel_rfl)
def tw(L:List (KL B0)):Ctx B0:=⟨[vt],[],[],L,.nil⟩
def wn:LD:=⟨377,6,0,⟨[(0,hc0),(5,.own 1),(18,iu),(19,hc3),(20,hc3)],[.junk,.arr tc0 false false]⟩,[(.exit 0,⟨[(5,.own 1)],[.junk,.arr tc0 false false]⟩)]⟩
@[local irreducible] noncomputable def dV(N n:Nat):(Bs×Y17×Y18)->Option (List Bs):=Nat.rec (λ_=>none) (λ_ L x=>syv N (wn.round (tw []).cxs L x)) n
def GD:KL B0:=gL (tw []) wn (dV NN) (by kernel_rfl)
def A3:AD B0:=⟨377,(tw [GD]),[hc0],pF⟩
@[local irreducible] noncomputable def fw(N:Nat)(a:Bs):Option (List Bs):=syv N (A3.go (a))
def A4:KC B0:=gA A3 (fw NN) (by kernel_rfl)
def A5:AD B0:=⟨378,(c1 [dH,bR]),[hc0,hc3],(.tup [hc0,ay])⟩
@[local irreducible] noncomputable def fx(N:Nat)(a:Bs)(a2:Int):Y21:=syv N (A5.go (a,a2))
def A6:KC B0:=gA A5 (u2 (fx NN)) (by kernel_rfl)
def tz:AD B0:=⟨357,(c1 [A4,dH,bR,jR,A6,lN]),[H8],(.tup [y3,ay])⟩
@[local irreducible] noncomputable def dd(N:Nat)(a:Y8):Y23:=syv N (tz.go (a))
def D4:KC B0:=gA tz (dd NN) (by kernel_rfl)
def Cu:AD B0:=⟨353,(c1 [mE]),[hc0],ay⟩
@[local irreducible] noncomputable def ge(N:Nat)(a:Bs):Option Bool:=syv N (Cu.go (a))
def M4:KC B0:=gA Cu (ge NN) (by kernel_rfl)
end
end Go.Fw
