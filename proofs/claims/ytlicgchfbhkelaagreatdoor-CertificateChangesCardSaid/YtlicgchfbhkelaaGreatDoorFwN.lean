/- A framework for proofs about Go programs in this model: part N. Everything is proved; no condition is added. -/
import Derived.Test.YtlicgchfbhkelaaGreatDoorFwM
set_option linter.unusedVariables false
set_option linter.unusedSimpArgs false
set_option linter.defProp false
namespace Go.Fw
open Go Go.Proofs.Tryz
noncomputable section
set_option maxRecDepth 100000
set_option maxHeartbeats 0
attribute [local irreducible] ix app slc cw toB agree fF fH fE ju dD aI aP aQ
def yI:AD B0:=⟨84,(c1 [Cd]),[hc4,.rc [fq] 0],(.tup [hc0,hc4])⟩
@[local irreducible] def qD(N:Nat)(a:Int)(a2:Y2):Y18:=syv N (yI.go (a,a2))
def Ks:=gA yI (u2 (qD NN))
def mH(L:List (KL B0)):Ctx B0:=⟨[Ks,mf,bV],[],[],L,.nil⟩
def oX:LD:=⟨83,3,0,⟨[(2,.func (.func 84) [] [.rc [fq] 0]),(3,.ptr 0 0),(8,.own 1),(12,hc4),(13,hc4)],[oo4,.arr tc0 false false]⟩,[(.ret,⟨[(6,vN),(7,hc4)],[.junk,.junk]⟩),(.exit 0,⟨[(3,.ptr 0 0),(8,.own 1)],[oo4,.arr tc0 false false]⟩)]⟩
@[local irreducible] def ki(N n:Nat):(Y2×Int×Int×Y19)->Option ((Int)⊕Y19):=Nat.rec (λ_=>none) (λ_ L x=>syv N (oX.round (mH []).cxs L x)) n
def AH:=gL (mH []) oX (ki NN)
def sB:AD B0:=⟨83,(mH [AH]),[.agg [hc4,au],hc4,.func (.func 84) [] [.rc [fq] 0]],(.tup [hc0,hc4])⟩
@[local irreducible] def sC(N:Nat)(a:Int)(a2:Bool)(a3:Int)(a4:Y2):Y18:=syv N (sB.go (a,a2,a3,a4))
def DK:=gA sB (u4 (sC NN))
def In:AD B0:=⟨40,(c1 [DK]),[fq],(.tup [hc0,hc4])⟩
@[irreducible] def AI(N:Nat)(a:Y2):Y18:=syv N (In.go (a))
def AJ:=gA In (AI NN)
def M0:AD B0:=⟨77,(c1 [AJ]),[fq],au⟩
@[irreducible] def Fv(N:Nat)(a:Y2):Option Bool:=syv N (M0.go (a))
def WI:=gA M0 (Fv NN)
def Io:AD B0:=⟨151,(c1 []),[hc4],au⟩
@[irreducible] def AK(a:Int):Option Bool:=syv NN (Io.go (a))
def So:=gA Io AK
def Ip:AD B0:=⟨133,(c1 [So]),[hc4,hc4],hc4⟩
@[irreducible] def AL(a:Int)(a2:Int):Option Int:=syv NN (Ip.go (a,a2))
def Sq:=gA Ip (u2 AL)
def Hb:AD B0:=⟨108,(c1 [Sq]),[tI],au⟩
@[irreducible] def kX(a:Y5):Option Bool:=syv NN (Hb.go (a))
def rE:=gA Hb kX
def AM:AD B0:=⟨78,(c1 [rE]),[tI],au⟩
@[irreducible] def rX(a:Y5):Option Bool:=syv NN (AM.go (a))
def AN:=gA AM rX
def tW:AD B0:=⟨79,(c1 [qz,iw]),[Oy],au⟩
@[irreducible] def nw(N:Nat)(a:Y7):Option Bool:=syv N (tW.go (a))
def tX:=gA tW (nw NN)
def tY:AD B0:=⟨109,(c1 []),[C8],au⟩
@[irreducible] def tZ(a:Y6):Option Bool:=syv NN (tY.go (a))
def Fx:=gA tY tZ
def oY:AD B0:=⟨80,(c1 [iw,Fx]),[au,C8,hc4],au⟩
@[irreducible] def kj(a:Bool)(a2:Y6)(a3:Int):Option Bool:=syv NN (oY.go (a,a2,a3))
def AO:=gA oY (u3 kj)
def yJ:AD B0:=⟨116,(c1 [nX]),[hc3],au⟩
@[irreducible] def mg(N:Nat)(a:Y8):Option Bool:=syv N (yJ.go (a))
def yK:=gA yJ (mg NN)
def vJ:AD B0:=⟨166,(c1 [jh]),[hc0],(.tup [hc0,hc5])⟩
@[irreducible] def kE(a:Bs):Y20:=syv NN (vJ.go (a))
def HI:=gA vJ kE
end
end Go.Fw
