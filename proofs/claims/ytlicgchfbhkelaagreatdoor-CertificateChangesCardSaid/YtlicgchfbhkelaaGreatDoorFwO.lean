/- A framework for proofs about Go programs in this model: part O. Everything is proved; no condition is added. -/
import Derived.Test.YtlicgchfbhkelaaGreatDoorFwN
set_option linter.unusedVariables false
set_option linter.unusedSimpArgs false
set_option linter.defProp false
namespace Go.Fw
open Go Go.Proofs.Tryz
noncomputable section
set_option maxRecDepth 100000
set_option maxHeartbeats 0
attribute [local irreducible] ix app slc cw toB agree fF fH fE ju dD aI aP aQ dV
def qZ:AD B0:=⟨232,(c1 []),[],(.agg [.func (.func 307) [] [],.func (.func 309) [] []])⟩
@[local irreducible] def lS:Option Unit:=syv NN (qZ.go ())
def Da:=gA qZ (λ_=>lS)
def DL:AD B0:=⟨104,(c1 [Aw]),[hc0,hc4,hc4],(.tup [hc9,hc5])⟩
@[irreducible] def cu(N:Nat)(a:Bs)(a2:Int)(a3:Int):Option (Y21×Y3):=syv N (DL.go (a,a2,a3))
def DM:=gA DL (u3 (cu NN))
def Hc:AD B0:=⟨69,(c1 [DM]),[hc0],(.tup [hc9,hc5])⟩
@[irreducible] def bM(N:Nat)(a:Bs):Option (Y21×Y3):=syv N (Hc.go (a))
def bN:=gA Hc (bM NN)
def Iq:AD B0:=⟨65,(c1 []),[hc9,hc4,au,hc4],au⟩
@[irreducible] def eu(a:Y21)(a2:Int)(a3:Bool)(a4:Int):Option Bool:=syv NN (Iq.go (a,a2,a3,a4))
def aT:=gA Iq (u4 eu)
def wz(L:List (KL B0)):Ctx B0:=⟨[DM],[],[],L,.nil⟩
def yL:LD:=⟨97,5,0,⟨[(0,hc0),(2,hc4),(7,.ptr 0 0),(8,.own 1),(9,hc4)],[oo0,.arr tc9 false false]⟩,[(.ret,⟨[(6,vN),(7,.ptr 0 0)],[oo0,.junk]⟩),(.exit 0,⟨[(7,.ptr 0 0),(8,.own 1)],[oo0,.arr tc9 false false]⟩)]⟩
@[local irreducible] def dG(N n:Nat):(Bs×Int×Int×Int×Int×Y22)->Option (Y3⊕(Int×Int×Y22)):=Nat.rec (λ_=>none) (λ_ L x=>syv N (yL.round (wz []).cxs L x)) n
def Ku:=gL (wz []) yL (dG NN)
def DN:AD B0:=⟨97,(wz [Ku]),[hc0,hc4,hc4],(.tup [dW,hc5])⟩
@[irreducible] def bK(N:Nat)(a:Bs)(a2:Int)(a3:Int):Option (Y22×Y3):=syv N (DN.go (a,a2,a3))
def wB:=gA DN (u3 (bK NN))
def Ce:AD B0:=⟨50,(c1 [bN,aT,wB]),[hc0,hc4,hc4],(.tup [dW,hc5])⟩
@[irreducible] def aW(N:Nat)(a:Bs)(a2:Int)(a3:Int):Option (Y22×Y3):=syv N (Ce.go (a,a2,a3))
def aH:=gA Ce (u3 (aW NN))
def Fy(L:List (KL B0)):Ctx B0:=⟨[K4,qp,agQ],[],[],L,.nil⟩
def Hd:LD:=⟨102,5,0,⟨[(4,.own 0),(10,Sj),(11,hc4),(12,hc4)],[.arr .str false false]⟩,[(.exit 0,⟨[(4,.own 0)],[.arr .str false false]⟩)]⟩
@[local irreducible] def nO(N n:Nat):(Y13×Y23)->Option (List Bs):=Nat.rec (λ_=>none) (λ_ L x=>syv N (Hd.round (Fy []).cxs L x)) n
def QR:=gL (Fy []) Hd (nO NN)
def M2:AD B0:=⟨102,(Fy [QR]),[Sj],(.tup [bx,hc4])⟩
@[irreducible] def zu(N:Nat)(a:List Int):Y18:=syv N (M2.go (a))
def WJ:=gA M2 (zu NN)
def Sr:Tr aZ:=(.node .nil 4429198337 [(.normal,⟨[(4,.own 0),(5,au),(6,Si),(15,hc0),(16,hc4),(17,hc4)],[.arr LA false false]⟩)] .nil)
def oZ(L:List (KL B0)):Ctx B0:=⟨[WJ],[],[],L,Sr⟩
def Cf:LD:=⟨66,5,0,⟨[(4,.own 0),(5,au),(6,Si),(15,hc0),(16,hc4),(17,hc4)],[.arr LA false false]⟩,[(.ret,⟨[(2,bx),(3,hc4)],[.junk]⟩),(.exit 0,⟨[(4,.own 0),(5,au)],[.arr LA false false]⟩)]⟩
@[local irreducible] def bF(N n:Nat):(Bool×Int×Bs×Int×Int×Y13)->Option (Y6⊕(Bool×Y13)):=Nat.rec (λ_=>none) (λ_ L x=>syv N (Cf.round (oZ []).cxs L x)) n
def ua:=gL (oZ []) Cf (bF NN)
def Cg:LD:=⟨66,22,0,⟨[(10,.own 1),(67,.hole (.sl LA)),(68,hc4),(69,hc4)],[.junk,.arr Fm false false]⟩,[(.exit 2,⟨[(10,.own 1)],[.junk,.arr Fm false false]⟩)]⟩
@[local irreducible] def ub(N n:Nat):(Y13×Int×Int×Y13)->Option (List Int):=Nat.rec (λ_=>none) (λ_ L x=>syv N (Cg.round (oZ [ua]).cxs L x)) n
def M3:=gL (oZ [ua]) Cg (ub NN)
def Ir:AD B0:=⟨66,(oZ [ua,M3]),[hc0],(.tup [bx,hc4])⟩
@[irreducible] def cS(N:Nat)(a:Bs):Y18:=syv N (Ir.go (a))
def gd:=gA Ir (cS NN)
def He:AD B0:=⟨355,(c1 [jZ]),[hc0],au⟩
@[irreducible] def yr(N:Nat)(a:Bs):Option Bool:=syv N (He.go (a))
def QS:=gA He (yr NN)
def Ci:AD B0:=⟨354,(c1 [QS]),[hc0],au⟩
@[local irreducible] def Cj(N:Nat)(a:Bs):Option Bool:=syv N (Ci.go (a))
def M4:=gA Ci (Cj NN)
def gU(L:List (KL B0)):Ctx B0:=⟨[M4],[],[],L,.nil⟩
def jx:LD:=⟨373,2,0,⟨[(0,jp),(1,.func (.func 354) [] []),(7,hc4),(8,hc4)],[]⟩,[(.ret,⟨[(4,hc4)],[]⟩),(.exit 0,⟨[],[]⟩)]⟩
@[local irreducible] def jy(N n:Nat):(Y12×Y3)->Option ((Int)⊕(Unit)):=Nat.rec (λ_=>none) (λ_ L x=>syv N (jx.round (gU []).cxs L x)) n
def qE:=gL (gU []) jx (jy NN)
def kM:AD B0:=⟨373,(gU [qE]),[jp,.func (.func 354) [] []],hc4⟩
@[local irreducible] def gV(N:Nat)(a:List Bs):Option Int:=syv N (kM.go (a))
def tB:=gA kM (gV NN)
def jz:AD B0:=⟨353,(c1 [tB]),[jp,.func (.func 354) [] []],au⟩
@[local irreducible] def jA(N:Nat)(a:List Bs):Option Bool:=syv N (jz.go (a))
def qF:=gA jz (jA NN)
def Hf:AD B0:=⟨308,(c1 [mf,qF]),[jp],au⟩
@[irreducible] def rF(N:Nat)(a:List Bs):Option Bool:=syv N (Hf.go (a))
def QT:=gA Hf (rF NN)
end
end Go.Fw
