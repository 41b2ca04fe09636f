/- A framework for proofs about Go programs in this model: part R. Everything is proved; no condition is added. -/
import Derived.Test.YtlicgchfbhkelaaGreatDoorFwQ
set_option linter.unusedVariables false
set_option linter.unusedSimpArgs false
set_option linter.defProp false
namespace Go.Fw
open Go Go.Proofs.Tryz
noncomputable section
set_option maxRecDepth 100000
set_option maxHeartbeats 0
attribute [local irreducible] ix app slc cw toB agree fF fH fE ju dD aI aP aQ
def FD:Tr aZ:=(.node .nil 23488105475 [(.normal,⟨[(2,.ptr 1 0),(4,jp),(5,.ptr 2 0)],[.junk,oo8,.cells [hc4,vE,vE,vN,vN,hc4,bx,vZ,vE] false]⟩),(.ret,⟨[(2,.ptr 1 0),(3,vF)],[.junk,oo8,.junk,.junk]⟩)] .nil)
def uj:AD B0:=⟨350,⟨[Cn,Cp,DW],[],[],[],FD⟩,[JK],(.tup [Ar,au])⟩
@[irreducible] def nA(N:Nat)(a:Y16):Y28:=syv N (uj.go (a))
def FE:=gA uj (nA NN)
def sH:AD B0:=⟨351,(c1 [gd]),[JK],(.tup [Ar,au])⟩
@[irreducible] def mM(N:Nat)(a:Y16):Y28:=syv N (sH.go (a))
def DX:=gA sH (mM NN)
def Cq:AD B0:=⟨220,(c1 [bN,WG,sF,FA,DU,HM,FB,AS,FE,DX]),[hc0],(.tup [Ar,hc5])⟩
@[irreducible] def oI(N:Nat)(a:Bs):Option (Y27×Y3):=syv N (Cq.go (a))
def oJ:=gA Cq (oI NN)
def oe(L:List (KL B0)):Ctx B0:=⟨[aH,oJ],[],[],L,.nil⟩
def re:LD:=⟨156,8,0,⟨[(0,hc0),(3,.ptr 0 0),(6,.own 2),(26,dW),(27,hc4),(28,hc4)],[oo5,.junk,.arr C7 false false]⟩,[(.ret,⟨[(2,vN),(3,.ptr 0 0)],[oo0,.junk,.junk]⟩),(.exit 0,⟨[(3,.ptr 0 0),(6,.own 2)],[oo5,.junk,.arr C7 false false]⟩)]⟩
@[local irreducible] def rf(N n:Nat):(Bs×Y22×Int×Int×Y30)->Option (Y3⊕Y30):=Nat.rec (λ_=>none) (λ_ L x=>syv N (re.round (oe []).cxs L x)) n
def Db:=gL (oe []) re (rf NN)
def vO:AD B0:=⟨156,(oe [Db]),[hc0],(.tup [kO,hc5])⟩
@[irreducible] def eM(N:Nat)(a:Bs):Option (Y30×Y3):=syv N (vO.go (a))
def og:=gA vO (eM NN)
def yP:AD B0:=⟨126,(c1 []),[hc0],(.tup [au,hc4])⟩
@[irreducible] def dH(a:Bs):Option (Bool×Int):=syv NN (yP.go (a))
def qG:=gA yP dH
def Cr:AD B0:=⟨240,(c1 [qG]),[hc0],(.tup [au,au])⟩
@[local irreducible] def Cs(a:Bs):Option (Bool×Bool):=syv NN (Cr.go (a))
def M7:=gA Cr Cs
def sI:AD B0:=⟨241,(c1 [aT,M7]),[hc0,.agg [hc4,hc4,au,hc4,hc4,hc4],hc4,hc4,.func (.func 240) [] []],(.tup [au,au])⟩
@[local irreducible] def mN(a:Bs)(a2:Int)(a3:Int)(a4:Bool)(a5:Int)(b:Int)(c:Int)(d:Int)(a9:Int):Option (Bool×Bool):=syv NN (sI.go (a,a2,a3,a4,a5,b,c,d,a9))
def DY:=gA sI (u9 mN)
def yw(L:List (KL B0)):Ctx B0:=⟨[ji],[],[],L,.nil⟩
def AT:LD:=⟨98,5,0,⟨[(4,hc4),(21,hc0),(22,hc4),(23,hc4)],[]⟩,[(.exit 0,⟨[(4,hc4)],[]⟩)]⟩
@[local irreducible] def rY(N n:Nat):(Int×Bs×Y3)->Option Int:=Nat.rec (λ_=>none) (λ_ L x=>syv N (AT.round (yw []).cxs L x)) n
def LL:=gL (yw []) AT (rY NN)
def Hj:AD B0:=⟨98,(yw [LL]),[hc0],(.tup [hc4,au])⟩
@[irreducible] def nQ(N:Nat)(a:Bs):Y31:=syv N (Hj.go (a))
def yx:=gA Hj (nQ NN)
def Ct:AD B0:=⟨243,(c1 [yx]),[hc0],(.tup [hc4,au])⟩
@[irreducible] def uk(N:Nat)(a:Bs):Y31:=syv N (Ct.go (a))
def M8:=gA Ct (uk NN)
def ul:AD B0:=⟨242,(c1 [aT,M8]),[hc0,.agg [hc4,hc4,au,hc4,hc4,hc4],hc4,hc4,.func (.func 243) [] []],(.tup [hc4,au])⟩
@[local irreducible] def jK(N:Nat)(a:Bs)(a2:Int)(a3:Int)(a4:Bool)(a5:Int)(b:Int)(c:Int)(d:Int)(a9:Int):Y31:=syv N (ul.go (a,a2,a3,a4,a5,b,c,d,a9))
def nB:=gA ul (u9 (jK NN))
def QV:Tr aZ:=(.node (.node .nil 11811165188 [(.normal,⟨[(0,hc0),(2,.ptr 0 0),(3,.ptr 1 0),(4,dW),(6,.ptr 3 0)],[oo9,oo5,.junk,.cells [au,vF,vZ] false]⟩),(.ret,⟨[(2,.ptr 0 0),(3,.ptr 1 0)],[oo9,oo6,.junk,.junk]⟩)] .nil) 11811171332 [(.normal,⟨[(2,.ptr 0 0),(3,.ptr 1 0),(4,dW),(6,.ptr 3 0)],[oo9,oo5,.junk,.cells [au,au,hc4] false]⟩),(.ret,⟨[(2,.ptr 0 0),(3,.ptr 1 0)],[oo9,oo6,.junk,.junk]⟩)] .nil)
def Hk:AD B0:=⟨176,⟨[aH,DY,nB],[],[],[],QV⟩,[hc0],(.tup [.hole abb,hc5])⟩
@[irreducible] def rG(N:Nat)(a:Bs):Option (Y32×Y3):=syv N (Hk.go (a))
def QW:=gA Hk (rG NN)
def DZ:AD B0:=⟨298,(c1 [ji]),[hc0],hc4⟩
@[irreducible] def wD(a:Bs):Option Int:=syv NN (DZ.go (a))
def OI:=gA DZ wD
def vP:AD B0:=⟨221,(c1 [ji,OI]),[hc0],au⟩
@[irreducible] def oo(a:Bs):Option Bool:=syv NN (vP.go (a))
def HP:=gA vP oo
end
end Go.Fw
