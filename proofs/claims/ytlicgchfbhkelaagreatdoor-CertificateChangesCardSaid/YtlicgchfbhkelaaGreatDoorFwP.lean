/- A framework for proofs about Go programs in this model: part P. Everything is proved; no condition is added. -/
import Derived.Test.YtlicgchfbhkelaaGreatDoorFwO
set_option linter.unusedVariables false
set_option linter.unusedSimpArgs false
set_option linter.defProp false
namespace Go.Fw
open Go Go.Proofs.Tryz
noncomputable section
set_option maxRecDepth 100000
set_option maxHeartbeats 0
attribute [local irreducible] ix app slc cw toB agree fF fH fE ju dD aI aP aQ lS
def DO:Tr aZ:=(.node .nil 4398066630664 [(.normal,⟨[(1,.junk),(3073,.junk)],[]⟩)] .nil)
def mI(L:List (KL B0)):Ctx B0:=⟨[aH,jh,QT],[],[],L,DO⟩
def pb:LD:=⟨307,4,0,⟨[(1,hc0),(4,.ptr 0 0),(6,.ptr 3 0),(8,.ptr 5 0),(18,dW),(19,hc4),(20,hc4)],[.cells [vE,.own 1] false,.arr tc0 false false,.arr tc0 false false,.cells [bx,.own 2] false,.junk,oo0]⟩,[(.exit 0,⟨[(4,.ptr 0 0),(6,.ptr 3 0),(8,.ptr 5 0)],[.cells [vE,.own 1] false,.arr tc0 false false,.arr tc0 false false,.cells [bx,.own 2] false,.junk,oo0]⟩)]⟩
@[local irreducible] def ia(N n:Nat):(Bs×Y22×Int×Int×Y12×Y12×Bs×Y3)->Option (Y12×Y12×Bs×Y3):=Nat.rec (λ_=>none) (λ_ L x=>syv N (pb.round (mI []).cxs L x)) n
def AP:=gL (mI []) pb (ia NN)
def sD:AD B0:=⟨307,(mI [AP]),[bx,hc0],(.tup [agA,au])⟩
@[local irreducible] def mJ(N:Nat)(a:Bs)(a2:Bs):Option ((Bs×Y12)×Bool):=syv N (sD.go (a,a2))
def DP:=gA sD (u2 (mJ NN))
def kN:AD B0:=⟨310,(c1 [aH,aT,gd,DP]),[.agg [.func (.func 307) [] [],.func (.func 309) [] []],hc0],(.tup [agA,au])⟩
@[local irreducible] def gW(N:Nat)(a:Bs):Option ((Bs×Y12)×Bool):=syv N (kN.go (a))
def tC:=gA kN (gW NN)
def ge(L:List (KL B0)):Ctx B0:=⟨[aH,tC],[],[],L,.nil⟩
def iV:LD:=⟨234,6,0,⟨[(1,hc0),(2,.ptr 0 0),(5,.ptr 1 0),(8,.own 3),(22,dW),(23,hc4),(24,hc4)],[.cells [.func (.func 307) [] [],.func (.func 309) [] []] false,oo5,.junk,.arr Ow false false]⟩,[(.ret,⟨[(4,vN),(5,.ptr 1 0)],[.junk,oo6,.junk,.junk]⟩),(.exit 0,⟨[(1,hc0),(5,.ptr 1 0),(8,.own 3)],[.junk,oo5,.junk,.arr Ow false false]⟩)]⟩
@[local irreducible] def iW(N n:Nat):(Bs×Y22×Int×Int×Y24)->Option ((Int)⊕(Bs×Y24)):=Nat.rec (λ_=>none) (λ_ L x=>syv N (iV.round (ge []).cxs L x)) n
def pc:=gL (ge []) iV (iW NN)
def jS:AD B0:=⟨234,(ge [pc]),[.agg [.func (.func 307) [] [],.func (.func 309) [] []],hc0],(.tup [abf,hc5])⟩
@[local irreducible] def jT(N:Nat)(a:Bs):Option (Y24×Y3):=syv N (jS.go (a))
def ra:=gA jS (jT NN)
def vK:AD B0:=⟨169,(c1 [Da,ra]),[hc0],(.tup [abf,hc5])⟩
@[irreducible] def kF(N:Nat)(a:Bs):Option (Y24×Y3):=syv N (vK.go (a))
def HK:=gA vK (kF NN)
def uc:AD B0:=⟨171,(c1 [bN,aT,jh]),[hc0],(.tup [hc0,hc5])⟩
@[irreducible] def jJ(N:Nat)(a:Bs):Y20:=syv N (uc.go (a))
def Fz:=gA uc (jJ NN)
def xC:AD B0:=⟨70,(c1 [jh,iw]),[hc0],(.tup [C8,hc4])⟩
@[irreducible] def bA(a:Bs):Option (Y6×Int):=syv NN (xC.go (a))
def ly:=gA xC bA
def Ck:AD B0:=⟨312,(c1 [iw]),[C8],hc4⟩
@[irreducible] def ud(a:Y6):Option Int:=syv NN (Ck.go (a))
def Cl:=gA Ck ud
def DQ:AD B0:=⟨314,(c1 [Cl]),[C8,hc4],au⟩
@[irreducible] def pZ(a:Y6)(a2:Int):Option Bool:=syv NN (DQ.go (a,a2))
def OF:=gA DQ (u2 pZ)
def BU:Tr aZ:=(.node .nil 15904813057 [(.normal,⟨[(9,.func (.func 313) [] [.ptr 0 0]),(10,hc4),(44,hc4),(45,hc4)],[oo7]⟩)] .nil)
def kQ(L:List (KL B0)):Ctx B0:=⟨[ly,Cl,OF],[],[],L,BU⟩
def nP:LD:=⟨237,10,0,⟨[(9,.func (.func 313) [] [.ptr 0 0]),(10,hc4),(44,hc4),(45,hc4)],[oo7]⟩,[(.exit 0,⟨[(10,hc4)],[.junk]⟩)]⟩
@[local irreducible] def gk(N n:Nat):(Int×Int×Int×Y6)->Option Int:=Nat.rec (λ_=>none) (λ_ L x=>syv N (nP.round (kQ []).cxs L x)) n
def yu:=gL (kQ []) nP (gk NN)
def qq:AD B0:=⟨237,(kQ [yu]),[hc0,hc4],(.tup [hc4,hc4])⟩
@[irreducible] def iD(N:Nat)(a:Bs)(a2:Int):Option Y3:=syv N (qq.go (a,a2))
def qr:=gA qq (u2 (iD NN))
def AQ:AD B0:=⟨173,(c1 [bN,aT,qr]),[hc0],(.tup [hc4,hc5])⟩
@[irreducible] def nx(N:Nat)(a:Bs):Y25:=syv N (AQ.go (a))
def LI:=gA AQ (nx NN)
def DR:Tr aZ:=(.node (.node .nil 19864225792 [(.normal,⟨[(4,au)],[]⟩)] .nil) 19864226816 [(.normal,⟨[(4,au)],[]⟩)] (.node .nil 19864227840 [(.normal,⟨[(4,au)],[]⟩)] .nil))
def sE:AD B0:=⟨296,⟨[],[],[],[],DR⟩,[hc4],au⟩
@[irreducible] def jj(a:Int):Option Bool:=syv NN (sE.go (a))
def sF:=gA sE jj
def ue(L:List (KL B0)):Ctx B0:=⟨[wB],[],[],L,.nil⟩
def xD:LD:=⟨369,6,0,⟨[(0,hc0),(5,.own 1),(18,dW),(19,hc4),(20,hc4)],[.junk,.arr tc0 false false]⟩,[(.exit 0,⟨[(5,.own 1)],[.junk,.arr tc0 false false]⟩)]⟩
@[local irreducible] def pf(N n:Nat):(Bs×Y22×Y23)->Option (List Bs):=Nat.rec (λ_=>none) (λ_ L x=>syv N (xD.round (ue []).cxs L x)) n
def Is:=gL (ue []) xD (pf NN)
def Cm:AD B0:=⟨369,(ue [Is]),[hc0],jp⟩
@[irreducible] def uf(N:Nat)(a:Bs):Option (List Bs):=syv N (Cm.go (a))
def Cn:=gA Cm (uf NN)
def Co:AD B0:=⟨370,(c1 [bN,aT]),[hc0,hc4],(.tup [hc0,au])⟩
@[irreducible] def ug(N:Nat)(a:Bs)(a2:Int):Y26:=syv N (Co.go (a,a2))
def Cp:=gA Co (u2 (ug NN))
def uh:AD B0:=⟨346,(c1 [Cn,bN,aT,gd,Cp,jh]),[JK],(.tup [Ar,au])⟩
@[irreducible] def ny(N:Nat)(a:Y16):Y28:=syv N (uh.go (a))
def FA:=gA uh (ny NN)
end
end Go.Fw
