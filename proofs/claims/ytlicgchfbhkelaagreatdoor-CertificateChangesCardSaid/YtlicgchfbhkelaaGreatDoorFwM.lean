/- A framework for proofs about Go programs in this model: part M. Everything is proved; no condition is added. -/
import Derived.Test.YtlicgchfbhkelaaGreatDoorFwL
set_option linter.unusedVariables false
set_option linter.unusedSimpArgs false
set_option linter.defProp false
namespace Go.Fw
open Go Go.Proofs.Tryz
noncomputable section
set_option maxRecDepth 100000
set_option maxHeartbeats 0
attribute [local irreducible] ix app slc cw toB agree fF fH fE ju dD aI aP aQ
def Ij:AD B0:=⟨49,⟨[AA,Ii],[nn],[],[],.nil⟩,[hc4,au,hc4,hc0],(.tup [hc0,hc4])⟩
@[irreducible] def oU(N:Nat)(a:Int)(a2:Bool)(a3:Int)(a4:Bs):Y18:=syv N (Ij.go (a,a2,a3,a4))
def Ik:=gA Ij (u4 (oU NN))
def DH:AD B0:=⟨20,(c1 [eQ,Ik]),[hc4,au,hc4,jp],(.tup [hc0,hc4])⟩
@[irreducible] def cr(N:Nat)(a:Int)(a2:Bool)(a3:Int)(a4:List Bs):Y18:=syv N (DH.go (a,a2,a3,a4))
def bV:=gA DH (u4 (cr NN))
def xy:AD B0:=⟨47,(c1 [bV]),[jp],(.tup [hc0,hc4])⟩
@[irreducible] def dr(N:Nat)(a:List Bs):Y18:=syv N (xy.go (a))
def cj:=gA xy (dr NN)
def vI:AD B0:=⟨113,(c1 [Kr,tR,bV,cj]),[hc1],(.tup [hc0,hc4])⟩
@[irreducible] def oa(N:Nat)(a:Y0):Y18:=syv N (vI.go (a))
def HH:=gA vI (oa NN)
def tT:AD B0:=⟨112,(c1 [HH]),[hc4,.rc [hc2] 0],(.tup [hc0,hc4])⟩
@[local irreducible] def nu(N:Nat)(a:Int)(a2:Y1):Y18:=syv N (tT.go (a,a2))
def Ft:=gA tT (u2 (nu NN))
def AC:AD B0:=⟨276,(c1 []),[zr],au⟩
@[irreducible] def AE(a:Int):Option Bool:=syv NN (AC.go (a))
def LG:=gA AC AE
def xz:AD B0:=⟨207,(c1 [LG]),[zr,zr],hc4⟩
@[irreducible] def xA(a:Int)(a2:Int):Option Int:=syv NN (xz.go (a,a2))
def Il:=gA xz (u2 xA)
def xB:AD B0:=⟨206,(c1 [Il]),[zr,zr],hc4⟩
@[local irreducible] def oV(a:Int)(a2:Int):Option Int:=syv NN (xB.go (a,a2))
def Im:=gA xB (u2 oV)
def dF(L:List (KL B0)):Ctx B0:=⟨[Im],[],[],L,.nil⟩
def fD:LD:=⟨205,2,0,⟨[(0,hc0),(1,hc0),(2,.func (.func 206) [] []),(11,hc0),(12,hc4),(13,hc4)],[]⟩,[(.ret,⟨[(6,hc4)],[]⟩),(.exit 0,⟨[(0,hc0),(1,hc0)],[]⟩)]⟩
@[local irreducible] def df(N n:Nat):(Bs×Bs×Bs×Y3)->Option ((Int)⊕Y0):=Nat.rec (λ_=>none) (λ_ L x=>syv N (fD.round (dF []).cxs L x)) n
def kP:=gL (dF []) fD (df NN)
def gv:AD B0:=⟨205,(dF [kP]),[hc0,hc0,.func (.func 206) [] []],hc4⟩
@[local irreducible] def gw(N:Nat)(a:Bs)(a2:Bs):Option Int:=syv N (gv.go (a,a2))
def md:=gA gv (u2 (gw NN))
def AF:AD B0:=⟨136,(c1 [md]),[hc0,hc0],hc4⟩
@[irreducible] def rW(N:Nat)(a:Bs)(a2:Bs):Option Int:=syv N (AF.go (a,a2))
def LH:=gA AF (u2 (rW NN))
def qB(L:List (KL B0)):Ctx B0:=⟨[LH],[],[],L,.nil⟩
def tU:LD:=⟨111,2,0,⟨[(0,jp),(5,hc4),(6,hc4)],[]⟩,[(.ret,⟨[(2,au)],[]⟩),(.exit 0,⟨[],[]⟩)]⟩
@[local irreducible] def hZ(N n:Nat):(Y12×Y3)->Option ((Bool)⊕(Unit)):=Nat.rec (λ_=>none) (λ_ L x=>syv N (tU.round (qB []).cxs L x)) n
def Fu:=gL (qB []) tU (hZ NN)
def yH:AD B0:=⟨111,(qB [Fu]),[jp],au⟩
@[irreducible] def qC(N:Nat)(a:List Bs):Option Bool:=syv N (yH.go (a))
def mf:=gA yH (qC NN)
def mG(L:List (KL B0)):Ctx B0:=⟨[Ft,mf,bV],[],[],L,.nil⟩
def oW:LD:=⟨83,3,0,⟨[(2,.func (.func 112) [] [.rc [hc2] 0]),(3,.ptr 0 0),(8,.own 1),(12,hc4),(13,hc4)],[oo4,.arr tc0 false false]⟩,[(.ret,⟨[(6,vN),(7,hc4)],[.junk,.junk]⟩),(.exit 0,⟨[(3,.ptr 0 0),(8,.own 1)],[oo4,.arr tc0 false false]⟩)]⟩
@[local irreducible] def kh(N n:Nat):(Y1×Int×Int×Y19)->Option ((Int)⊕Y19):=Nat.rec (λ_=>none) (λ_ L x=>syv N (oW.round (mG []).cxs L x)) n
def AG:=gL (mG []) oW (kh NN)
def sx:AD B0:=⟨83,(mG [AG]),[.agg [hc4,au],hc4,.func (.func 112) [] [.rc [hc2] 0]],(.tup [hc0,hc4])⟩
@[local irreducible] def sA(N:Nat)(a:Int)(a2:Bool)(a3:Int)(a4:Y1):Y18:=syv N (sx.go (a,a2,a3,a4))
def DJ:=gA sx (u4 (sA NN))
def Cc:AD B0:=⟨85,(c1 [DJ]),[hc2],(.tup [hc0,hc4])⟩
@[irreducible] def tV(N:Nat)(a:Y1):Y18:=syv N (Cc.go (a))
def Cd:=gA Cc (tV NN)
end
end Go.Fw
