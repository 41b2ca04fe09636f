/- A framework for proofs about Go programs in this model: part T. Everything is proved; no condition is added. -/
import Derived.Test.YtlicgchfbhkelaaGreatDoorFwS
set_option linter.unusedVariables false
set_option linter.unusedSimpArgs false
set_option linter.defProp false
namespace Go.Fw
open Go Go.Proofs.Tryz
noncomputable section
set_option maxRecDepth 100000
set_option maxHeartbeats 0
attribute [local irreducible] ix app slc cw toB agree fF fH fE ju dD aI aP aQ
def D4:Tr aZ:=(.node (.node .nil 16978561029 [(.normal,⟨[(0,bx),(1,hc0),(4,.ptr 0 0),(5,.ptr 1 0),(6,.ptr 2 0),(9,hc4),(11,.ptr 4 0),(14,au),(27,dW),(28,hc4),(29,hc4)],[OB,oo5,Sm,.junk,cY]⟩)] .nil) 16978563077 [(.normal,⟨[(0,bx),(1,hc0),(4,.ptr 0 0),(5,.ptr 1 0),(6,.ptr 2 0),(9,hc4),(11,.ptr 4 0),(14,au),(27,dW),(28,hc4),(29,hc4)],[OB,oo5,Sm,.junk,cY]⟩)] (.node .nil 16978565125 [(.normal,⟨[(0,bx),(1,hc0),(4,.ptr 0 0),(5,.ptr 1 0),(6,.ptr 2 0),(9,hc4),(11,.ptr 4 0),(14,au),(27,dW),(28,hc4),(29,hc4)],[OB,oo5,Sm,.junk,cY]⟩)] .nil))
def sP(L:List (KL B0)):Ctx B0:=⟨[aH,bN,aT,QZ,bV,Hh,UQ,qG],[],[],L,D4⟩
def AV:LD:=⟨253,7,0,⟨[(0,bx),(1,hc0),(4,.ptr 0 0),(5,.ptr 1 0),(6,.ptr 2 0),(9,hc4),(27,dW),(28,hc4),(29,hc4)],[OB,oo5,Sm,.junk]⟩,[(.ret,⟨[(4,.ptr 0 0),(5,.ptr 1 0)],[OB,oo0,.junk,.junk]⟩),(.exit 0,⟨[(4,.ptr 0 0),(5,.ptr 1 0),(6,.ptr 2 0)],[OB,oo5,Sm,.junk]⟩)]⟩
def pi:KL B0:=aL (sP []) AV krq
def mO:AD B0:=⟨253,(sP [pi]),[bx,hc0],(.tup [.agg [kO,hc2,hc4,kO,au,au,au,au,au,au],.agg [hc4,hc4]])⟩
def sQ:KC B0:=mO.k krq
abbrev D5(N:Nat)(a:Bs)(a2:Bs):Option (Y30×Y1×Int×Y30×Bool×Bool×Bool×Bool×Bool×Bool×Y3):=mO.run (a,a2)
def um:AD B0:=⟨293,(c1 []),[Ar],au⟩
def M9:KC B0:=um.k krq
abbrev Na(a:Y27):Option Bool:=um.run a
def rk:AD B0:=⟨345,(c1 [At,bV]),[abg],(.tup [hc0,hc4])⟩
@[irreducible] def iR(N:Nat)(a:Y16):Y18:=syv N (rk.go (a))
def Dd:=gA rk (iR NN)
def Iw:Tr aZ:=(.node (.node .nil 19797126145 [(.normal,⟨[(1,.ptr 0 0),(15,hc4),(47,au)],[abi]⟩)] .nil) 19797127169 [(.normal,⟨[(1,.ptr 0 0),(15,hc4),(47,au)],[abi]⟩)] (.node .nil 19797130241 [(.normal,⟨[(1,.ptr 0 0),(15,hc4),(57,au)],[abi]⟩)] .nil))
def pj(L:List (KL B0)):Ctx B0:=⟨[tR,bV,yN,eQ,At,AJ,Dd],[],[],L,Iw⟩
def sS:LD:=⟨295,23,0,⟨[(8,.own 1),(75,.hole (.sl Sg)),(76,hc4),(77,hc4)],[.junk,.arr .byte false false]⟩,[(.ret,⟨[(2,vN),(3,hc4)],[.junk,.junk]⟩),(.exit 1,⟨[(8,.own 1)],[.junk,.arr .byte false false]⟩)]⟩
@[local irreducible] def gE(N n:Nat):(List Y16×Y17)->Option ((Int)⊕(Bs)):=Nat.rec (λ_=>none) (λ_ L x=>syv N (sS.round (pj []).cxs L x)) n
def D6:=gL (pj []) sS (gE NN)
def xF:AD B0:=⟨295,(pj [D6]),[Ar],(.tup [hc0,hc4])⟩
@[irreducible] def pk(N:Nat)(a:Y27):Y18:=syv N (xF.go (a))
def Ix:=gA xF (pk NN)
def yR:AD B0:=⟨219,(c1 [M9,DU,Ix,sF,bV,oJ]),[Ar],(.tup [hc0,hc4])⟩
@[irreducible] def qH(N:Nat)(a:Y27):Y18:=syv N (yR.go (a))
def Kz:=gA yR (qH NN)
def mP(L:List (KL B0)):Ctx B0:=⟨[Kz,cj],[],[],L,.nil⟩
def pl:LD:=⟨155,3,0,⟨[(4,.own 0),(9,kO),(10,hc4),(11,hc4)],[.arr tc0 false false]⟩,[(.ret,⟨[(2,vN),(3,hc4)],[.junk]⟩),(.exit 0,⟨[(4,.own 0)],[.arr tc0 false false]⟩)]⟩
@[local irreducible] def pm(N n:Nat):(Y30×Y23)->Option ((Int)⊕(List Bs)):=Nat.rec (λ_=>none) (λ_ L x=>syv N (pl.round (mP []).cxs L x)) n
def AW:=gL (mP []) pl (pm NN)
def sT:AD B0:=⟨155,(mP [AW]),[kO],(.tup [hc0,hc4])⟩
@[irreducible] def mQ(N:Nat)(a:Y30):Y18:=syv N (sT.go (a))
def D7:=gA sT (mQ NN)
def vR:AD B0:=⟨322,(c1 [D7]),[kO],au⟩
@[irreducible] def fZ(N:Nat)(a:Y30):Option Bool:=syv N (vR.go (a))
def oq:=gA vR (fZ NN)
def Hp:AD B0:=⟨357,(c1 [Cd]),[hc2],au⟩
@[irreducible] def rI(N:Nat)(a:Y1):Option Bool:=syv N (Hp.go (a))
def Q0:=gA Hp (rI NN)
def vS:AD B0:=⟨317,(c1 [oq,Q0]),[adA,hc4],au⟩
@[irreducible] def ot(N:Nat)(a:(Y30×Y1))(a2:Int):Option Bool:=syv N (vS.go (a,a2))
def vT:=gA vS (u2 (ot NN))
def vU:AD B0:=⟨249,(c1 []),[adA],au⟩
@[irreducible] def ou(a:(Y30×Y1)):Option Bool:=syv NN (vU.go (a))
def vV:=gA vU ou
def FF:Tr aZ:=(.node .nil 21206401026 [(.normal,⟨[],[.cells [kO,hc2,au,au,au,au,hc4] false,Sl]⟩)] .nil)
def un:AD B0:=⟨248,⟨[vT,vV],[],[],[],FF⟩,[agB],au⟩
@[irreducible] def uo(N:Nat)(a:Y34):Option Bool:=syv N (un.go (a))
def FG:=gA un (uo NN)
def uq:AD B0:=⟨184,(c1 [sQ,FG]),[hc0],(.tup [agB,hc5])⟩
@[irreducible] def jL(N:Nat)(a:Bs):Option (Y34×Y3):=syv N (uq.go (a))
def FH:=gA uq (jL NN)
def wF(L:List (KL B0)):Ctx B0:=⟨[wB,aH,oJ],[],[],L,.nil⟩
def yS:LD:=⟨255,6,0,⟨[(0,hc0),(3,.ptr 0 0),(5,.ptr 1 0),(8,.own 3),(27,dW),(28,hc4),(29,hc4)],[cY,oo5,.junk,.arr C7 false false]⟩,[(.ret,⟨[(4,vN),(5,.ptr 1 0)],[.junk,oo0,.junk,.junk]⟩),(.exit 0,⟨[(3,.ptr 0 0),(5,.ptr 1 0),(8,.own 3)],[cY,oo5,.junk,.arr C7 false false]⟩)]⟩
@[local irreducible] def yT(N n:Nat):(Bs×Y22×Int×Int×Y35)->Option (Y3⊕Y35):=Nat.rec (λ_=>none) (λ_ L x=>syv N (yS.round (wF []).cxs L x)) n
def KA:=gL (wF []) yS (yT NN)
def D8:AD B0:=⟨255,(wF [KA]),[hc0,hc9],(.tup [kO,hc5])⟩
@[irreducible] def wG(N:Nat)(a:Bs)(a2:Y21):Option (Y30×Y3):=syv N (D8.go (a,a2))
def OK:=gA D8 (u2 (wG NN))
end
end Go.Fw
