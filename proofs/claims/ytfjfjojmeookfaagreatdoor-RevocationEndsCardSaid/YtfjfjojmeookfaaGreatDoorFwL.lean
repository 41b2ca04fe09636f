/- A framework for proofs about Go programs in this model: part L. Everything is proved; no condition is added. -/
import Derived.Test.YtfjfjojmeookfaaGreatDoorFwK
set_option linter.unusedVariables false
set_option linter.unusedSimpArgs false
set_option linter.defProp false
namespace Go.Fw
open Go Go.Proofs.Tryz
noncomputable section
set_option maxRecDepth 100000
set_option maxHeartbeats 0
attribute [local irreducible] ix app slc fP toB agree jV jW jU ml ig bE bY cm dG bD ba aQ dT eI gt eV cJ aT bJ aU bp aW bO bZ fe cD dt cu cw cE cF cG cH dA dF aB aC aS bP bz aR cQ ff eM aI
def wi:AD B0:=⟨46,(c1 [eR]),[pF],(.tup [hc0,hc3])⟩
@[local irreducible] noncomputable def aE(N:Nat)(a:List Bs):Y10:=syv N (wi.go (a))
def f7:KC B0:=gA wi (aE NN) (by kernel_rfl)
def uB:AD B0:=⟨115,(c1 [IQ,tn,eR,f7]),[hc1],(.tup [hc0,hc3])⟩
@[local irreducible] noncomputable def bV(N:Nat)(a:Y0):Y10:=syv N (uB.go (a))
def F1:KC B0:=gA uB (bV NN) (by kernel_rfl)
def tzO:AD B0:=⟨114,(c1 [F1]),[hc3,.rc [hc2] 0],(.tup [hc0,hc3])⟩
@[local irreducible] noncomputable def bL(N:Nat)(a:Int)(a2:Y11):Y10:=syv N (tzO.go (a,a2))
def D0:KC B0:=gA tzO (u2 (bL NN)) (by kernel_rfl)
def ze:AD B0:=⟨224,(c1 []),[AO],ay⟩
@[local irreducible] noncomputable def dN(a:Int):Option Bool:=syv NN (ze.go (a))
def JU:KC B0:=gA ze dN (by kernel_rfl)
def wj:AD B0:=⟨160,(c1 [JU]),[AO,AO],hc3⟩
@[local irreducible] noncomputable def cR(a:Int)(a2:Int):Option Int:=syv NN (wj.go (a,a2))
def Gv:KC B0:=gA wj (u2 cR) (by kernel_rfl)
def wk:AD B0:=⟨159,(c1 [Gv]),[AO,AO],hc3⟩
@[local irreducible] noncomputable def cy(a:Int)(a2:Int):Option Int:=syv NN (wk.go (a,a2))
def Gw:KC B0:=gA wk (u2 cy) (by kernel_rfl)
def gT(L:List (KL B0)):Ctx B0:=⟨[Gw],[],[],L,.nil⟩
def jy:LD:=⟨158,2,0,⟨[(0,hc0),(1,hc0),(2,.func (.func 159) [] []),(11,hc0),(12,hc3),(13,hc3)],[]⟩,[(.ret,⟨[(6,hc3)],[]⟩),(.exit 0,⟨[(0,hc0),(1,hc0)],[]⟩)]⟩
@[local irreducible] noncomputable def au(N n:Nat):(Bs×Bs×Bs×Y4)->Option ((Int)⊕Y0):=Nat.rec (λ_=>none) (λ_ L x=>syv N (jy.round (gT []).cxs L x)) n
def mV:KL B0:=gL (gT []) jy (au NN) (by kernel_rfl)
def j6:AD B0:=⟨158,(gT [mV]),[hc0,hc0,.func (.func 159) [] []],hc3⟩
@[local irreducible] noncomputable def az(N:Nat)(a:Bs)(a2:Bs):Option Int:=syv N (j6.go (a,a2))
def nJ:KC B0:=gA j6 (u2 (az NN)) (by kernel_rfl)
def zf:AD B0:=⟨140,(c1 [nJ]),[hc0,hc0],hc3⟩
@[local irreducible] noncomputable def du(N:Nat)(a:Bs)(a2:Bs):Option Int:=syv N (zf.go (a,a2))
def JV:KC B0:=gA zf (u2 (du NN)) (by kernel_rfl)
def qI(L:List (KL B0)):Ctx B0:=⟨[JV],[],[],L,.nil⟩
def tp:LD:=⟨113,2,0,⟨[(0,pF),(5,hc3),(6,hc3)],[]⟩,[(.ret,⟨[(2,ay)],[]⟩),(.exit 0,⟨[],[]⟩)]⟩
@[local irreducible] noncomputable def bu(N n:Nat):(Y2×Y4)->Option ((Bool)⊕(Unit)):=Nat.rec (λ_=>none) (λ_ L x=>syv N (tp.round (qI []).cxs L x)) n
def D1:KL B0:=gL (qI []) tp (bu NN) (by kernel_rfl)
def xA:AD B0:=⟨113,(qI [D1]),[pF],ay⟩
@[local irreducible] noncomputable def cM(N:Nat)(a:List Bs):Option Bool:=syv N (xA.go (a))
def nM:KC B0:=gA xA (cM NN) (by kernel_rfl)
def nW(L:List (KL B0)):Ctx B0:=⟨[D0,nM,eR],[],[],L,.nil⟩
def pH:LD:=⟨80,3,0,⟨[(2,.func (.func 114) [] [.rc [hc2] 0]),(3,.ptr 0 0),(8,.own 1),(12,hc3),(13,hc3)],[oo4,.arr tc0 false false]⟩,[(.ret,⟨[(6,vN),(7,hc3)],[.junk,.junk]⟩),(.exit 0,⟨[(3,.ptr 0 0),(8,.own 1)],[oo4,.arr tc0 false false]⟩)]⟩
@[local irreducible] noncomputable def bc(N n:Nat):(Y11×Int×Int×Int×Bool×Y2)->Option ((Int)⊕(Int×Bool×Y2)):=Nat.rec (λ_=>none) (λ_ L x=>syv N (pH.round (nW []).cxs L x)) n
def zg:KL B0:=gL (nW []) pH (bc NN) (by kernel_rfl)
def se:AD B0:=⟨80,(nW [zg]),[.agg [hc3,ay],hc3,.func (.func 114) [] [.rc [hc2] 0]],(.tup [hc0,hc3])⟩
@[local irreducible] noncomputable def bQ(N:Nat)(a:Int)(a2:Bool)(a3:Int)(a4:Y11):Y10:=syv N (se.go (a,a2,a3,a4))
def Cl:KC B0:=gA se (u4 (bQ NN)) (by kernel_rfl)
def AU:AD B0:=⟨82,(c1 [Cl]),[hc2],(.tup [hc0,hc3])⟩
@[local irreducible] noncomputable def dR(N:Nat)(a:Y11):Y10:=syv N (AU.go (a))
def AV:KC B0:=gA AU (dR NN) (by kernel_rfl)
def xB:AD B0:=⟨81,(c1 [AV]),[hc3,.rc [ny] 0],(.tup [hc0,hc3])⟩
@[local irreducible] noncomputable def cN(N:Nat)(a:Int)(a2:Y12):Y10:=syv N (xB.go (a,a2))
def IR:KC B0:=gA xB (u2 (cN NN)) (by kernel_rfl)
end
end Go.Fw
