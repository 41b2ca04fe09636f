/- A framework for proofs about Go programs in this model: part M. Everything is proved; no condition is added. -/
import Derived.Test.YtfjfjojmeookfaaGreatDoorFwL
set_option linter.unusedVariables false
set_option linter.unusedSimpArgs false
set_option linter.defProp false
namespace Go.Fw
open Go Go.Proofs.Tryz
noncomputable section
set_option maxRecDepth 100000
set_option maxHeartbeats 0
attribute [local irreducible] ix app slc cC toB agree fU fW fT jB dR aK aV aX
def yn:AD B0:=⟨46,(c1 [cg]),[jw],(.tup [hc0,hc3])⟩
@[irreducible] def eF(N:Nat)(a:List Bs):Y10:=syv N (yn.go (a))
def cS:=gA yn (eF NN)
def wz:AD B0:=⟨115,(c1 [Lz,uF,cg,cS]),[hc1],(.tup [hc0,hc3])⟩
@[irreducible] def oF(N:Nat)(a:Y0):Y10:=syv N (wz.go (a))
def IH:=gA wz (oF NN)
def uH:AD B0:=⟨114,(c1 [IH]),[hc3,.rc [hc2] 0],(.tup [hc0,hc3])⟩
@[local irreducible] def nL(N:Nat)(a:Int)(a2:Y11):Y10:=syv N (uH.go (a,a2))
def Gv:=gA uH (u2 (nL NN))
def BB:AD B0:=⟨224,(c1 []),[Az],au⟩
@[irreducible] def BC(a:Int):Option Bool:=syv NN (BB.go (a))
def MQ:=gA BB BC
def yo:AD B0:=⟨160,(c1 [MQ]),[Az,Az],hc3⟩
@[irreducible] def yp(a:Int)(a2:Int):Option Int:=syv NN (yo.go (a,a2))
def Je:=gA yo (u2 yp)
def yq:AD B0:=⟨159,(c1 [Je]),[Az,Az],hc3⟩
@[local irreducible] def pw(a:Int)(a2:Int):Option Int:=syv NN (yq.go (a,a2))
def Jf:=gA yq (u2 pw)
def dW(L:List (KL B0)):Ctx B0:=⟨[Jf],[],[],L,.nil⟩
def fS:LD:=⟨158,2,0,⟨[(0,hc0),(1,hc0),(2,.func (.func 159) [] []),(11,hc0),(12,hc3),(13,hc3)],[]⟩,[(.ret,⟨[(6,hc3)],[]⟩),(.exit 0,⟨[(0,hc0),(1,hc0)],[]⟩)]⟩
@[local irreducible] def dE(N n:Nat):(Bs×Bs×Bs×Y4)->Option ((Int)⊕Y0):=Nat.rec (λ_=>none) (λ_ L x=>syv N (fS.round (dW []).cxs L x)) n
def kX:=gL (dW []) fS (dE NN)
def gI:AD B0:=⟨158,(dW [kX]),[hc0,hc0,.func (.func 159) [] []],hc3⟩
@[local irreducible] def gJ(N:Nat)(a:Bs)(a2:Bs):Option Int:=syv N (gI.go (a,a2))
def mu:=gA gI (u2 (gJ NN))
def BD:AD B0:=⟨140,(c1 [mu]),[hc0,hc0],hc3⟩
@[irreducible] def sP(N:Nat)(a:Bs)(a2:Bs):Option Int:=syv N (BD.go (a,a2))
def MR:=gA BD (u2 (sP NN))
def qY(L:List (KL B0)):Ctx B0:=⟨[MR],[],[],L,.nil⟩
def uI:LD:=⟨113,2,0,⟨[(0,jw),(5,hc3),(6,hc3)],[]⟩,[(.ret,⟨[(2,au)],[]⟩),(.exit 0,⟨[],[]⟩)]⟩
@[local irreducible] def ip(N n:Nat):(Y2×Y4)->Option ((Bool)⊕(Unit)):=Nat.rec (λ_=>none) (λ_ L x=>syv N (uI.round (qY []).cxs L x)) n
def Gw:=gL (qY []) uI (ip NN)
def zK:AD B0:=⟨113,(qY [Gw]),[jw],au⟩
@[irreducible] def qZ(N:Nat)(a:List Bs):Option Bool:=syv N (zK.go (a))
def mA:=gA zK (qZ NN)
def mU(L:List (KL B0)):Ctx B0:=⟨[Gv,mA,cg],[],[],L,.nil⟩
def px:LD:=⟨80,3,0,⟨[(2,.func (.func 114) [] [.rc [hc2] 0]),(3,.ptr 0 0),(8,.own 1),(12,hc3),(13,hc3)],[oo4,.arr tc0 false false]⟩,[(.ret,⟨[(6,vN),(7,hc3)],[.junk,.junk]⟩),(.exit 0,⟨[(3,.ptr 0 0),(8,.own 1)],[oo4,.arr tc0 false false]⟩)]⟩
@[local irreducible] def ku(N n:Nat):(Y11×Int×Int×Int×Bool×Y2)->Option ((Int)⊕(Int×Bool×Y2)):=Nat.rec (λ_=>none) (λ_ L x=>syv N (px.round (mU []).cxs L x)) n
def BE:=gL (mU []) px (ku NN)
def tu:AD B0:=⟨80,(mU [BE]),[.agg [hc3,au],hc3,.func (.func 114) [] [.rc [hc2] 0]],(.tup [hc0,hc3])⟩
@[local irreducible] def tw(N:Nat)(a:Int)(a2:Bool)(a3:Int)(a4:Y11):Y10:=syv N (tu.go (a,a2,a3,a4))
def ED:=gA tu (u4 (tw NN))
def Dc:AD B0:=⟨82,(c1 [ED]),[hc2],(.tup [hc0,hc3])⟩
@[irreducible] def uJ(N:Nat)(a:Y11):Y10:=syv N (Dc.go (a))
def Dd:=gA Dc (uJ NN)
def zM:AD B0:=⟨81,(c1 [Dd]),[hc3,.rc [iQ] 0],(.tup [hc0,hc3])⟩
@[local irreducible] def ra(N:Nat)(a:Int)(a2:Y12):Y10:=syv N (zM.go (a,a2))
def LA:=gA zM (u2 (ra NN))
def mV(L:List (KL B0)):Ctx B0:=⟨[LA,mA,cg],[],[],L,.nil⟩
def py:LD:=⟨80,3,0,⟨[(2,.func (.func 81) [] [.rc [iQ] 0]),(3,.ptr 0 0),(8,.own 1),(12,hc3),(13,hc3)],[oo4,.arr tc0 false false]⟩,[(.ret,⟨[(6,vN),(7,hc3)],[.junk,.junk]⟩),(.exit 0,⟨[(3,.ptr 0 0),(8,.own 1)],[oo4,.arr tc0 false false]⟩)]⟩
@[local irreducible] def kw(N n:Nat):(Y12×Int×Int×Int×Bool×Y2)->Option ((Int)⊕(Int×Bool×Y2)):=Nat.rec (λ_=>none) (λ_ L x=>syv N (py.round (mV []).cxs L x)) n
def BF:=gL (mV []) py (kw NN)
def tz:AD B0:=⟨80,(mV [BF]),[.agg [hc3,au],hc3,.func (.func 81) [] [.rc [iQ] 0]],(.tup [hc0,hc3])⟩
@[local irreducible] def tA(N:Nat)(a:Int)(a2:Bool)(a3:Int)(a4:Y12):Y10:=syv N (tz.go (a,a2,a3,a4))
def EE:=gA tz (u4 (tA NN))
def Jg:AD B0:=⟨40,(c1 [EE]),[iQ],(.tup [hc0,hc3])⟩
@[irreducible] def BG(N:Nat)(a:Y12):Y10:=syv N (Jg.go (a))
def BH:=gA Jg (BG NN)
end
end Go.Fw
