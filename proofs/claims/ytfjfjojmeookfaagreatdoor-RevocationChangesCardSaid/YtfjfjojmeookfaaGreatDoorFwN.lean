/- A framework for proofs about Go programs in this model: part N. Everything is proved; no condition is added. -/
import Derived.Test.YtfjfjojmeookfaaGreatDoorFwM
set_option linter.unusedVariables false
set_option linter.unusedSimpArgs false
set_option linter.defProp false
namespace Go.Fw
open Go Go.Proofs.Tryz
noncomputable section
set_option maxRecDepth 100000
set_option maxHeartbeats 0
attribute [local irreducible] ix app slc cC toB agree fU fW fT jB dR aK aV aX
def Oa:AD B0:=⟨74,(c1 [BH]),[iQ],au⟩
@[irreducible] def Gx(N:Nat)(a:Y12):Option Bool:=syv N (Oa.go (a))
def X2:=gA Oa (Gx NN)
def Jh:AD B0:=⟨155,(c1 []),[hc3],au⟩
@[irreducible] def BI(a:Int):Option Bool:=syv NN (Jh.go (a))
def TM:=gA Jh BI
def Ji:AD B0:=⟨138,(c1 [TM]),[hc3,hc3],hc3⟩
@[irreducible] def BJ(a:Int)(a2:Int):Option Int:=syv NN (Ji.go (a,a2))
def TN:=gA Ji (u2 BJ)
def Id:AD B0:=⟨109,(c1 [TN]),[hc6],au⟩
@[irreducible] def li(a:Y13):Option Bool:=syv NN (Id.go (a))
def sj:=gA Id li
def BK:AD B0:=⟨75,(c1 [sj]),[hc6],au⟩
@[irreducible] def sQ(a:Y13):Option Bool:=syv NN (BK.go (a))
def sS:=gA BK sQ
def De:AD B0:=⟨79,(c1 []),[hc0],au⟩
@[irreducible] def oW(a:Bs):Option Bool:=syv NN (De.go (a))
def iq:=gA De oW
def zN:AD B0:=⟨118,(c1 [oC]),[hc8],au⟩
@[irreducible] def mB(N:Nat)(a:Y14):Option Bool:=syv N (zN.go (a))
def zO:=gA zN (mB NN)
def wB:AD B0:=⟨185,(c1 [jm]),[hc0],(.tup [hc0,hc4])⟩
@[irreducible] def kL(a:Bs):Y15:=syv NN (wB.go (a))
def II:=gA wB kL
def rK:AD B0:=⟨254,(c1 []),[],(.agg [.func (.func 321) [] [],.func (.func 323) [] []])⟩
@[local irreducible] def lY:Option Unit:=syv NN (rK.go ())
def D6:=gA rK (λ_=>lY)
def EF:AD B0:=⟨106,(c1 [Bv]),[hc0,hc3,hc3],(.tup [XT,hc4])⟩
@[irreducible] def cA(N:Nat)(a:Bs)(a2:Int)(a3:Int):Option (Y16×Y4):=syv N (EF.go (a,a2,a3))
def EG:=gA EF (u3 (cA NN))
def Ie:AD B0:=⟨69,(c1 [EG]),[hc0],(.tup [XT,hc4])⟩
@[irreducible] def cm(N:Nat)(a:Bs):Option (Y16×Y4):=syv N (Ie.go (a))
def bI:=gA Ie (cm NN)
def Jj:AD B0:=⟨64,(c1 []),[XT,hc3,au,hc3],au⟩
@[irreducible] def eu(a:Y16)(a2:Int)(a3:Bool)(a4:Int):Option Bool:=syv NN (Jj.go (a,a2,a3,a4))
def aU:=gA Jj (u4 eu)
def xp(L:List (KL B0)):Ctx B0:=⟨[EG],[],[],L,.nil⟩
def zP:LD:=⟨93,5,0,⟨[(0,hc0),(2,hc3),(7,.ptr 0 0),(8,.own 1),(9,hc3)],[oo0,.arr PL false false]⟩,[(.ret,⟨[(6,vN),(7,.ptr 0 0)],[oo0,.junk]⟩),(.exit 0,⟨[(7,.ptr 0 0),(8,.own 1)],[oo0,.arr PL false false]⟩)]⟩
@[local irreducible] def dX(N n:Nat):(Bs×Int×Int×Int×Int×Y17)->Option (Y4⊕(Int×Int×Y17)):=Nat.rec (λ_=>none) (λ_ L x=>syv N (zP.round (xp []).cxs L x)) n
def LC:=gL (xp []) zP (dX NN)
def EH:AD B0:=⟨93,(xp [LC]),[hc0,hc3,hc3],(.tup [eL,hc4])⟩
@[irreducible] def bT(N:Nat)(a:Bs)(a2:Int)(a3:Int):Option (Y17×Y4):=syv N (EH.go (a,a2,a3))
def xq:=gA EH (u3 (bT NN))
end
end Go.Fw
