/- A framework for proofs about Go programs in this model: part X. Everything is proved; no condition is added. -/
import Derived.Test.YtlicgchfbhkelaaGreatDoorFwW
set_option linter.unusedVariables false
set_option linter.unusedSimpArgs false
set_option linter.defProp false
namespace Go.Fw
open Go Go.Proofs.Tryz
noncomputable section
set_option maxRecDepth 100000
set_option maxHeartbeats 0
attribute [local irreducible] ix app slc cw toB agree fF fH fE ju dD aI aP aQ ku
def rq:AD B0:=⟨42,(c1 [tX,kI,lB,A4]),[Oy],(.tup [hc0,hc4])⟩
@[irreducible] def iT(N:Nat)(a:Y7):Y18:=syv N (rq.go (a))
def Di:=gA rq (iT NN)
def ta:AD B0:=⟨118,(c1 []),[au],hc0⟩
@[irreducible] def mU(a:Bool):Option Bs:=syv NN (ta.go (a))
def Ei:=gA ta mU
def HT:Tr aZ:=(.node .nil 6039804932 [(.normal,⟨[(1,.ptr 0 0),(5,.ptr 1 0),(6,.ptr 2 0),(7,.func (.func 117) [] [.ptr 2 0,.ptr 1 0])],[tJ,Sl,.cells [.own 3] false,.arr tc0 false false]⟩)] .nil)
def wa:AD B0:=⟨90,⟨[tR,bV,Ei,cj],[],[],[],HT⟩,[hc3],(.tup [hc0,hc4])⟩
@[irreducible] def oy(N:Nat)(a:Y8):Y18:=syv N (wa.go (a))
def HU:=gA wa (oy NN)
def kR(L:List (KL B0)):Ctx B0:=⟨[pu,HU,cj],[],[],L,.nil⟩
def nR:LD:=⟨44,5,0,⟨[(4,.own 0),(12,lQ),(13,hc4),(14,hc4)],[.arr tc0 false false]⟩,[(.ret,⟨[(2,vN),(3,hc4)],[.junk]⟩),(.exit 0,⟨[(4,.own 0)],[.arr tc0 false false]⟩)]⟩
@[local irreducible] def js(N n:Nat):(Y9×Y23)->Option ((Int)⊕(List Bs)):=Nat.rec (λ_=>none) (λ_ L x=>syv N (nR.round (kR []).cxs L x)) n
def yD:=gL (kR []) nR (js NN)
def qx:AD B0:=⟨44,(kR [yD]),[lQ],(.tup [hc0,hc4])⟩
@[irreducible] def kS(N:Nat)(a:Y9):Y18:=syv N (qx.go (a))
def BX:=gA qx (kS NN)
def A5:Tr aZ:=(.node (.node (.node .nil 1140855812 [(.normal,⟨[(1,.ptr 0 0),(4,.ptr 1 0),(5,.ptr 3 0)],[Fp,WC,.arr tc0 false false,.cells [.func (.func 16) [.ptr 1 0] []] false]⟩)] .nil) 1140869126 [(.normal,⟨[(4,.ptr 1 0)],[.junk,WC,.arr tc0 false false,.junk,.junk,.junk]⟩)] .nil) 2885682181 [(.normal,⟨[],[Fp,WC,.arr tc0 false false,.cells [.func (.func 16) [.ptr 1 0] []] false,.junk]⟩)] (.node .nil 2885682182 [(.normal,⟨[],[Fp,WC,.arr tc0 false false,.cells [.func (.func 16) [.ptr 1 0] []] false,.junk,.junk]⟩)] .nil))
def px:AD B0:=⟨17,⟨[lV,KN,bV,kI,AJ,Dh,Di,lB,BX,cj],[],[],[],A5⟩,[OA],(.tup [hc0,hc4])⟩
@[irreducible] def cm(N:Nat)(a:Y10):Y18:=syv N (px.go (a))
def py:=gA px (cm NN)
def tb:AD B0:=⟨7,(c1 [vX,py,kI,lB,bV,cj]),[Ia],(.tup [hc0,hc4])⟩
@[irreducible] def dP(N:Nat)(a:Y11):Y18:=syv N (tb.go (a))
def Ej:=gA tb (dP NN)
def uz:AD B0:=⟨55,(c1 [bN,aT,jh]),[hc0],(.tup [hc0,hc5])⟩
@[irreducible] def fv(N:Nat)(a:Bs):Y20:=syv N (uz.go (a))
def FO:=gA uz (fv NN)
def xO:AD B0:=⟨64,(c1 []),[hc4,hc4],hc5⟩
@[irreducible] def gF(a:Int)(a2:Int):Option Y3:=syv NN (xO.go (a,a2))
def xP:=gA xO (u2 gF)
def KR:Tr aZ:=(.node .nil 1744844804 [(.normal,⟨[(2,.ptr 0 0),(3,.ptr 1 0),(8,.ptr 3 0)],[.cells [bx,vN] false,oo0,.junk,Ib]⟩),(.ret,⟨[(2,.ptr 0 0),(3,.ptr 1 0)],[.cells [bx,vN] false,oo0,.junk,.junk,.junk,.junk,.junk]⟩)] .nil)
def zg:AD B0:=⟨26,⟨[aH,xP,aT,gd,jh,jZ],[],[],[],KR⟩,[hc0],(.tup [hc1,hc5])⟩
@[irreducible] def dd(N:Nat)(a:Bs):Y29:=syv N (zg.go (a))
def qR:=gA zg (dd NN)
def zh:AD B0:=⟨124,(c1 [D3]),[hc0],(.tup [tI,hc4])⟩
@[irreducible] def eJ(N:Nat)(a:Bs):Option (Y5×Int):=syv N (zh.go (a))
def KS:=gA zh (eJ NN)
def LQ:Tr aZ:=(.node (.node (.node .nil 6710892547 [(.normal,⟨[(2,.ptr 0 0),(3,.ptr 1 0),(4,.ptr 2 0),(5,hc4)],[nt,oo0,cY]⟩)] .nil) 6710894595 [(.normal,⟨[(2,.ptr 0 0),(3,.ptr 1 0),(4,.ptr 2 0),(5,hc4)],[nt,oo0,cY]⟩)] .nil) 6710896643 [(.normal,⟨[(2,.ptr 0 0),(3,.ptr 1 0),(4,.ptr 2 0),(5,hc4)],[nt,oo0,cY]⟩)] (.node .nil 6710898691 [(.normal,⟨[(2,.ptr 0 0),(3,.ptr 1 0)],[nt,oo0,.junk]⟩)] .nil))
def A6:AD B0:=⟨100,⟨[bN,aT,KS,sO],[],[],[],LQ⟩,[hc0],(.tup [tI,hc5])⟩
@[irreducible] def ec(N:Nat)(a:Bs):Option (Y5×Y3):=syv N (A6.go (a))
def LR:=gA A6 (ec NN)
def FP:Tr aZ:=(.node .nil 3892321283 [(.normal,⟨[(0,hc0),(2,.ptr 0 0),(3,.ptr 1 0),(4,.ptr 2 0)],[nt,nt,oo0]⟩)] .nil)
def uA:AD B0:=⟨58,⟨[aH,LR],[],[],[],FP⟩,[hc0],(.tup [tI,tI,hc5])⟩
@[irreducible] def fw(N:Nat)(a:Bs):Option (Y5×Y5×Y3):=syv N (uA.go (a))
def FQ:=gA uA (fw NN)
def uB:AD B0:=⟨60,(c1 [aH,xP,aT,qR,ly]),[hc0],(.tup [Oy,hc5])⟩
@[irreducible] def fy(N:Nat)(a:Bs):Option (Y7×Y3):=syv N (uB.go (a))
def FR:=gA uB (fy NN)
end
end Go.Fw
