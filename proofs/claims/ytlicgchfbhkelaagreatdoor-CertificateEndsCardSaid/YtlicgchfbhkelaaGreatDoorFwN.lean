/- A framework for proofs about Go programs in this model: part N. Everything is proved; no condition is added. -/
import Derived.Test.YtlicgchfbhkelaaGreatDoorFwM
set_option linter.unusedVariables false
set_option linter.unusedSimpArgs false
set_option linter.defProp false
namespace Go.Fw
open Go Go.Proofs.Tryz
noncomputable section
set_option maxRecDepth 100000
set_option maxHeartbeats 0
attribute [local irreducible] ix app slc fM toB agree jO jP jN mz gW bE bZ cg cy dV bq aZ bS aM dO eB gp eP cG aQ bK aW bu aX bO cb eV cz dt cp cq cA cB cC cD dE dI aB aC aO bP bx aN cQ fI eW aD aH bW bM dL cR cr aq aA du bp cO ba bQ
def Bb:AD B0:=⟨85,(c1 [Cz]),[hc2],(.tup [hc0,hc4])⟩
@[local irreducible] noncomputable def ed(N:Nat)(a:Y1):Y18:=syv N (Bb.go (a))
def Bc:KC B0:=gA Bb (ed NN) (by kernel_rfl)
def xQ:AD B0:=⟨84,(c1 [Bc]),[hc4,.rc [lj] 0],(.tup [hc0,hc4])⟩
@[local irreducible] noncomputable def dw(N:Nat)(a:Int)(a2:Y2):Y18:=syv N (xQ.go (a,a2))
def IT:KC B0:=gA xQ (u2 (dw NN)) (by kernel_rfl)
def oB(L:List (KL B0)):Ctx B0:=⟨[IT,nY,eJ],[],[],L,.nil⟩
def pY:LD:=⟨83,3,0,⟨[(2,.func (.func 84) [] [.rc [lj] 0]),(3,.ptr 0 0),(8,.own 1),(12,hc4),(13,hc4)],[oo4,.arr tc0 false false]⟩,[(.ret,⟨[(6,vN),(7,hc4)],[.junk,.junk]⟩),(.exit 0,⟨[(3,.ptr 0 0),(8,.own 1)],[oo4,.arr tc0 false false]⟩)]⟩
@[local irreducible] noncomputable def bj(N n:Nat):(Y2×Int×Int×Y19)->Option ((Int)⊕Y19):=Nat.rec (λ_=>none) (λ_ L x=>syv N (pY.round (oB []).cxs L x)) n
def zD:KL B0:=gL (oB []) pY (bj NN) (by kernel_rfl)
def sD:AD B0:=⟨83,(oB [zD]),[.agg [hc4,ay],hc4,.func (.func 84) [] [.rc [lj] 0]],(.tup [hc0,hc4])⟩
@[local irreducible] noncomputable def cf(N:Nat)(a:Int)(a2:Bool)(a3:Int)(a4:Y2):Y18:=syv N (sD.go (a,a2,a3,a4))
def CA:KC B0:=gA sD (u4 (cf NN)) (by kernel_rfl)
def GO:AD B0:=⟨40,(c1 [CA]),[lj],(.tup [hc0,hc4])⟩
@[local irreducible] noncomputable def eY(N:Nat)(a:Y2):Y18:=syv N (GO.go (a))
def zE:KC B0:=gA GO (eY NN) (by kernel_rfl)
def Ld:AD B0:=⟨77,(c1 [zE]),[lj],ay⟩
@[local irreducible] noncomputable def ig(N:Nat)(a:Y2):Option Bool:=syv N (Ld.go (a))
def UF:KC B0:=gA Ld (ig NN) (by kernel_rfl)
def GP:AD B0:=⟨151,(c1 []),[hc4],ay⟩
@[local irreducible] noncomputable def gi(a:Int):Option Bool:=syv NN (GP.go (a))
def Qo:KC B0:=gA GP gi (by kernel_rfl)
def GQ:AD B0:=⟨133,(c1 [Qo]),[hc4,hc4],hc4⟩
@[local irreducible] noncomputable def gj(a:Int)(a2:Int):Option Int:=syv NN (GQ.go (a,a2))
def Qp:KC B0:=gA GQ (u2 gj) (by kernel_rfl)
def FJ:AD B0:=⟨108,(c1 [Qp]),[tD],ay⟩
@[local irreducible] noncomputable def dW(a:Y5):Option Bool:=syv NN (FJ.go (a))
def rR:KC B0:=gA FJ dW (by kernel_rfl)
def zF:AD B0:=⟨78,(c1 [rR]),[tD],ay⟩
@[local irreducible] noncomputable def dM(a:Y5):Option Bool:=syv NN (zF.go (a))
def zH:KC B0:=gA zF dM (by kernel_rfl)
def tM:AD B0:=⟨79,(c1 [ra,kV]),[Uu],ay⟩
@[local irreducible] noncomputable def bY(N:Nat)(a:(Y0×Y6)):Option Bool:=syv N (tM.go (a))
def tO:KC B0:=gA tM (bY NN) (by kernel_rfl)
def tP:AD B0:=⟨109,(c1 []),[GC],ay⟩
@[local irreducible] noncomputable def cE(a:Y6):Option Bool:=syv NN (tP.go (a))
def Ec:KC B0:=gA tP cE (by kernel_rfl)
def pZ:AD B0:=⟨80,(c1 [kV,Ec]),[ay,GC,hc4],ay⟩
@[local irreducible] noncomputable def bo(a:Bool)(a2:Y6)(a3:Int):Option Bool:=syv NN (pZ.go (a,a2,a3))
def zJ:KC B0:=gA pZ (u3 bo) (by kernel_rfl)
end
end Go.Fw
