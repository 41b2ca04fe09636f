/- A framework for proofs about Go programs in this model: part R. Everything is proved; no condition is added. -/
import Derived.Test.YtfjfjojmeookfaaGreatDoorFwQ
set_option linter.unusedVariables false
set_option linter.unusedSimpArgs false
set_option linter.defProp false
namespace Go.Fw
open Go Go.Proofs.Tryz
noncomputable section
set_option maxRecDepth 100000
set_option maxHeartbeats 0
attribute [local irreducible] ix app slc cC toB agree fU fW fT jB dR aK aV aX
def Dr:AD B0:=⟨262,(c1 [rh]),[hc0],(.tup [au,au])⟩
@[local irreducible] def Ds(a:Bs):Option (Bool×Bool):=syv NN (Dr.go (a))
def Og:=gA Dr Ds
def tG:AD B0:=⟨263,(c1 [aU,Og]),[hc0,.agg [hc3,hc3,au,hc3,hc3,hc3],hc3,hc3,.func (.func 262) [] []],(.tup [au,au])⟩
@[local irreducible] def nc(a:Bs)(a2:Int)(a3:Int)(a4:Bool)(a5:Int)(b:Int)(c:Int)(d:Int)(a9:Int):Option (Bool×Bool):=syv NN (tG.go (a,a2,a3,a4,a5,b,c,d,a9))
def EV:=gA tG (u9 nc)
def zp(L:List (KL B0)):Ctx B0:=⟨[iq],[],[],L,.nil⟩
def BP:LD:=⟨97,5,0,⟨[(4,hc3),(21,hc0),(22,hc3),(23,hc3)],[]⟩,[(.exit 0,⟨[(4,hc3)],[]⟩)]⟩
@[local irreducible] def sT(N n:Nat):(Int×Bs×Y4)->Option Int:=Nat.rec (λ_=>none) (λ_ L x=>syv N (BP.round (zp []).cxs L x)) n
def MU:=gL (zp []) BP (sT NN)
def Il:AD B0:=⟨97,(zp [MU]),[hc0],(.tup [hc3,au])⟩
@[irreducible] def so(N:Nat)(a:Bs):Y26:=syv N (Il.go (a))
def zq:=gA Il (so NN)
def Dt:AD B0:=⟨265,(c1 [zq]),[hc0],(.tup [hc3,au])⟩
@[irreducible] def uU(N:Nat)(a:Bs):Y26:=syv N (Dt.go (a))
def Oh:=gA Dt (uU NN)
def uV:AD B0:=⟨264,(c1 [aU,Oh]),[hc0,.agg [hc3,hc3,au,hc3,hc3,hc3],hc3,hc3,.func (.func 265) [] []],(.tup [hc3,au])⟩
@[local irreducible] def jS(N:Nat)(a:Bs)(a2:Int)(a3:Int)(a4:Bool)(a5:Int)(b:Int)(c:Int)(d:Int)(a9:Int):Y26:=syv N (uV.go (a,a2,a3,a4,a5,b,c,d,a9))
def nQ:=gA uV (u9 (jS NN))
def R7:Tr bh:=(.node (.node .nil 13086233604 [(.normal,⟨[(0,hc0),(2,.ptr 0 0),(3,.ptr 1 0),(4,eL),(6,.ptr 3 0)],[oo9,oo5,.junk,.cells [au,vF,vZ] false]⟩),(.ret,⟨[(2,.ptr 0 0),(3,.ptr 1 0)],[oo9,oo6,.junk,.junk]⟩)] .nil) 13086239748 [(.normal,⟨[(2,.ptr 0 0),(3,.ptr 1 0),(4,eL),(6,.ptr 3 0)],[oo9,oo5,.junk,.cells [au,au,hc3] false]⟩),(.ret,⟨[(2,.ptr 0 0),(3,.ptr 1 0)],[oo9,oo6,.junk,.junk]⟩)] .nil)
def Im:AD B0:=⟨195,⟨[aH,EV,nQ],[],[],[],R7⟩,[hc0],(.tup [.hole acd,hc4])⟩
@[irreducible] def sq(N:Nat)(a:Bs):Option (Y27×Y4):=syv N (Im.go (a))
def R8:=gA Im (sq NN)
def EW:AD B0:=⟨312,(c1 [iq]),[hc0],hc3⟩
@[irreducible] def xu(a:Bs):Option Int:=syv NN (EW.go (a))
def P0:=gA EW xu
def wH:AD B0:=⟨243,(c1 [iq,P0]),[hc0],au⟩
@[irreducible] def oJ(a:Bs):Option Bool:=syv NN (wH.go (a))
def IP:=gA wH oJ
def tH:AD B0:=⟨245,(c1 [jm,IP]),[hc0],(.tup [hc0,au])⟩
@[local irreducible] def tI(a:Bs):Y21:=syv NN (tH.go (a))
def EX:=gA tH tI
def tJ:AD B0:=⟨313,(c1 [aU,EX]),[hc0,.agg [hc3,hc3,au,hc3,hc3,hc3],hc3,hc3,.func (.func 245) [] []],(.tup [hc0,au])⟩
@[local irreducible] def tK(a:Bs)(a2:Int)(a3:Int)(a4:Bool)(a5:Int)(b:Int)(c:Int)(d:Int)(a9:Int):Y21:=syv NN (tJ.go (a,a2,a3,a4,a5,b,c,d,a9))
def EY:=gA tJ (u9 tK)
def rO:AD B0:=⟨244,(c1 [bI,EY]),[hc0,.func (.func 245) [] []],(.tup [hc0,hc4])⟩
@[local irreducible] def rP(N:Nat)(a:Bs):Y15:=syv N (rO.go (a))
def D8:=gA rO (rP NN)
def wI:AD B0:=⟨177,(c1 [D8]),[hc0],(.tup [hc0,hc4])⟩
@[irreducible] def iO(N:Nat)(a:Bs):Y15:=syv N (wI.go (a))
def IQ:=gA wI (iO NN)
def BQ:AD B0:=⟨367,(c1 []),[],(.agg [bO,bO,bO,bO,bO,bO,bO,bO,bO,bO,bO])⟩
@[local irreducible] def MV:Option (Bs×Bs×Bs×Bs×Bs×Bs×Bs×Bs×Bs×Y0):=syv NN (BQ.go ())
def MW:=gA BQ (λ_=>MV)
def Jn:AD B0:=⟨329,(c1 [MW]),[hc3],bO⟩
@[irreducible] def Jo(a:Int):Option Bs:=syv NN (Jn.go (a))
def TP:=gA Jn Jo
end
end Go.Fw
