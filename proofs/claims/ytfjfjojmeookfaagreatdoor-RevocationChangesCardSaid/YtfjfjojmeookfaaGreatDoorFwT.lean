/- A framework for proofs about Go programs in this model: part T. Everything is proved; no condition is added. -/
import Derived.Test.YtfjfjojmeookfaaGreatDoorFwS
set_option linter.unusedVariables false
set_option linter.unusedSimpArgs false
set_option linter.defProp false
namespace Go.Fw
open Go Go.Proofs.Tryz
noncomputable section
set_option maxRecDepth 100000
set_option maxHeartbeats 0
attribute [local irreducible] ix app slc cC toB agree fU fW fT jB dR aK aV aX
def wJ:AD B0:=⟨336,(c1 [E4]),[kW],au⟩
@[irreducible] def gn(N:Nat)(a:Y25):Option Bool:=syv N (wJ.go (a))
def oK:=gA wJ (gn NN)
def Ir:AD B0:=⟨368,(c1 [Dd]),[hc2],au⟩
@[irreducible] def su(N:Nat)(a:Y11):Option Bool:=syv N (Ir.go (a))
def Sd:=gA Ir (su NN)
def wK:AD B0:=⟨331,(c1 [oK,Sd]),[aeH,hc3],au⟩
@[irreducible] def oL(N:Nat)(a:(Y25×Y11))(a2:Int):Option Bool:=syv N (wK.go (a,a2))
def wM:=gA wK (u2 (oL NN))
def wO:AD B0:=⟨271,(c1 []),[aeH],au⟩
@[irreducible] def oM(a:(Y25×Y11)):Option Bool:=syv NN (wO.go (a))
def wP:=gA wO oM
def GG:Tr bh:=(.node .nil 22145925122 [(.normal,⟨[],[.cells [kW,hc2,au,au,au,au,hc3] false,TI]⟩)] .nil)
def uX:AD B0:=⟨270,⟨[wM,wP],[],[],[],GG⟩,[ahL],au⟩
@[irreducible] def uY(N:Nat)(a:Y29):Option Bool:=syv N (uX.go (a))
def GH:=gA uX (uY NN)
def uZ:AD B0:=⟨203,(c1 [tQ,GH]),[hc0],(.tup [ahL,hc4])⟩
@[irreducible] def jT(N:Nat)(a:Bs):Option (Y29×Y4):=syv N (uZ.go (a))
def GI:=gA uZ (jT NN)
def xw(L:List (KL B0)):Ctx B0:=⟨[xq,aH,oY],[],[],L,.nil⟩
def zX:LD:=⟨277,6,0,⟨[(0,hc0),(3,.ptr 0 0),(5,.ptr 1 0),(8,.own 3),(27,eL),(28,hc3),(29,hc3)],[il,oo5,.junk,.arr D4 false false]⟩,[(.ret,⟨[(4,vN),(5,.ptr 1 0)],[.junk,oo0,.junk,.junk]⟩),(.exit 0,⟨[(3,.ptr 0 0),(5,.ptr 1 0),(8,.own 3)],[il,oo5,.junk,.arr D4 false false]⟩)]⟩
@[local irreducible] def zY(N n:Nat):(Bs×Y17×Int×Int×Y30)->Option (Y4⊕Y30):=Nat.rec (λ_=>none) (λ_ L x=>syv N (zX.round (xw []).cxs L x)) n
def LL:=gL (xw []) zX (zY NN)
def E5:AD B0:=⟨277,(xw [LL]),[hc0,XT],(.tup [kW,hc4])⟩
@[irreducible] def xx(N:Nat)(a:Bs)(a2:Y16):Option (Y25×Y4):=syv N (E5.go (a,a2))
def P2:=gA E5 (u2 (xx NN))
def Ok:Tr bh:=(.node .nil 13824441350 [(.normal,⟨[(0,hc0),(2,.ptr 0 0),(3,.ptr 1 0),(6,.ptr 3 0),(7,hc3),(22,eL),(23,hc3),(24,hc3)],[XW,oo5,.junk,acl,.junk,.junk]⟩)] .nil)
def vc(L:List (KL B0)):Ctx B0:=⟨[aH,aU,P2],[],[],L,Ok⟩
def yy:LD:=⟨206,7,0,⟨[(0,hc0),(2,.ptr 0 0),(3,.ptr 1 0),(6,.ptr 3 0),(7,hc3),(22,eL),(23,hc3),(24,hc3)],[XW,oo5,.junk,acl]⟩,[(.ret,⟨[(2,.ptr 0 0),(3,.ptr 1 0)],[XW,oo0,.junk,.junk]⟩),(.exit 0,⟨[(0,hc0),(2,.ptr 0 0),(3,.ptr 1 0),(6,.ptr 3 0),(7,hc3)],[XW,oo5,.junk,acl]⟩)]⟩
@[local irreducible] def yz(N n:Nat):(Bs×Int×Y17×Int×Int×Y25×Y25)->Option (Y4⊕(Bs×Int×Y25×Y25)):=Nat.rec (λ_=>none) (λ_ L x=>syv N (yy.round (vc []).cxs L x)) n
def Jr:=gL (vc []) yy (yz NN)
def Du:AD B0:=⟨206,(vc [Jr]),[hc0],(.tup [.hole ahD,hc4])⟩
@[irreducible] def oZ(N:Nat)(a:Bs):Option ((Y25×Y25)×Y4):=syv N (Du.go (a))
def Ol:=gA Du (oZ NN)
def Is:AD B0:=⟨316,(c1 [wM,wP,oK]),[ahM],au⟩
@[irreducible] def zt(N:Nat)(a:Y31):Option Bool:=syv N (Is.go (a))
def Se:=gA Is (zt NN)
def It:AD B0:=⟨250,(c1 [tQ,Se]),[hc0],(.tup [ahM,hc4])⟩
@[irreducible] def zu(N:Nat)(a:Bs):Option (Y31×Y4):=syv N (It.go (a))
def Sf:=gA It (zu NN)
def rk(L:List (KL B0)):Ctx B0:=⟨[aH,Sf],[],[],L,.nil⟩
def ve:LD:=⟨180,6,0,⟨[(0,hc0),(3,.ptr 0 0),(6,.own 2),(20,eL),(21,hc3),(22,hc3)],[oo5,.junk,.arr PM false false]⟩,[(.ret,⟨[(2,vN),(3,.ptr 0 0)],[oo0,.junk,.junk]⟩),(.exit 0,⟨[(0,hc0),(3,.ptr 0 0),(6,.own 2)],[oo5,.junk,.arr PM false false]⟩)]⟩
@[local irreducible] def vf(N n:Nat):(Bs×Y17×Int×Int×List Y31)->Option (Y4⊕(Bs×List Y31)):=Nat.rec (λ_=>none) (λ_ L x=>syv N (ve.round (rk []).cxs L x)) n
def GJ:=gL (rk []) ve (vf NN)
def zZ:AD B0:=⟨180,(rk [GJ]),[hc0],(.tup [ahN,hc4])⟩
@[irreducible] def jI(N:Nat)(a:Bs):Option (List Y31×Y4):=syv N (zZ.go (a))
def LM:=gA zZ (jI NN)
def Iu:AD B0:=⟨339,(c1 [kn]),[hc0],au⟩
@[irreducible] def sw(N:Nat)(a:Bs):Option Bool:=syv N (Iu.go (a))
def Iv:=gA Iu (sw NN)
def BT:AD B0:=⟨338,(c1 [oC,Iv]),[hc1],au⟩
@[local irreducible] def sU(N:Nat)(a:Y0):Option Bool:=syv N (BT.go (a))
def MX:=gA BT (sU NN)
end
end Go.Fw
