/- A framework for proofs about Go programs in this model: part P. Everything is proved; no condition is added. -/
import Derived.Test.YtfjfjojmeookfaaGreatDoorFwO
set_option linter.unusedVariables false
set_option linter.unusedSimpArgs false
set_option linter.defProp false
namespace Go.Fw
open Go Go.Proofs.Tryz
noncomputable section
set_option maxRecDepth 100000
set_option maxHeartbeats 0
attribute [local irreducible] ix app slc cC toB agree fU fW fT jB dR aK aV aX
def yr:AD B0:=⟨28,(c1 [jm,mz]),[hc0],(.tup [I5,hc3])⟩
@[irreducible] def dI(a:Bs):Option (Y1×Int):=syv NN (yr.go (a))
def yu:=gA yr dI
def Dk:AD B0:=⟨326,(c1 [mz]),[I5],hc3⟩
@[irreducible] def uN(a:Y1):Option Int:=syv NN (Dk.go (a))
def Dl:=gA Dk uN
def EM:AD B0:=⟨328,(c1 [Dl]),[I5,hc3],au⟩
@[irreducible] def qv(a:Y1)(a2:Int):Option Bool:=syv NN (EM.go (a,a2))
def PY:=gA EM (u2 qv)
def CT:Tr bh:=(.node .nil 17381208065 [(.normal,⟨[(9,.func (.func 327) [] [.ptr 0 0]),(10,hc3),(44,hc3),(45,hc3)],[oo7]⟩)] .nil)
def kY(L:List (KL B0)):Ctx B0:=⟨[yu,Dl,PY],[],[],L,CT⟩
def oq:LD:=⟨259,10,0,⟨[(9,.func (.func 327) [] [.ptr 0 0]),(10,hc3),(44,hc3),(45,hc3)],[oo7]⟩,[(.exit 0,⟨[(10,hc3)],[.junk]⟩)]⟩
@[local irreducible] def gw(N n:Nat):(Int×Int×Int×Y1)->Option Int:=Nat.rec (λ_=>none) (λ_ L x=>syv N (oq.round (kY []).cxs L x)) n
def zn:=gL (kY []) oq (gw NN)
def qN:AD B0:=⟨259,(kY [zn]),[hc0,hc3],(.tup [hc3,hc3])⟩
@[irreducible] def iL(N:Nat)(a:Bs)(a2:Int):Option Y4:=syv N (qN.go (a,a2))
def qO:=gA qN (u2 (iL NN))
def BM:AD B0:=⟨192,(c1 [bI,aU,qO]),[hc0],(.tup [hc3,hc4])⟩
@[irreducible] def nM(N:Nat)(a:Bs):Y20:=syv N (BM.go (a))
def MS:=gA BM (nM NN)
def EN:Tr bh:=(.node (.node .nil 20803749888 [(.normal,⟨[(4,au)],[]⟩)] .nil) 20803750912 [(.normal,⟨[(4,au)],[]⟩)] (.node .nil 20803751936 [(.normal,⟨[(4,au)],[]⟩)] .nil))
def tC:AD B0:=⟨310,⟨[],[],[],[],EN⟩,[hc3],au⟩
@[irreducible] def jn(a:Int):Option Bool:=syv NN (tC.go (a))
def tD:=gA tC jn
def uO(L:List (KL B0)):Ctx B0:=⟨[xq],[],[],L,.nil⟩
def yv:LD:=⟨377,6,0,⟨[(0,hc0),(5,.own 1),(18,eL),(19,hc3),(20,hc3)],[.junk,.arr tc0 false false]⟩,[(.exit 0,⟨[(5,.own 1)],[.junk,.arr tc0 false false]⟩)]⟩
@[local irreducible] def pD(N n:Nat):(Bs×Y17×Y18)->Option (List Bs):=Nat.rec (λ_=>none) (λ_ L x=>syv N (yv.round (uO []).cxs L x)) n
def Jl:=gL (uO []) yv (pD NN)
def Dm:AD B0:=⟨377,(uO [Jl]),[hc0],jw⟩
@[irreducible] def uP(N:Nat)(a:Bs):Option (List Bs):=syv N (Dm.go (a))
def Dn:=gA Dm (uP NN)
def Do:AD B0:=⟨378,(c1 [bI,aU]),[hc0,hc3],(.tup [hc0,au])⟩
@[irreducible] def uQ(N:Nat)(a:Bs)(a2:Int):Y21:=syv N (Do.go (a,a2))
def Dp:=gA Do (u2 (uQ NN))
def uR:AD B0:=⟨357,(c1 [Dn,bI,aU,gr,Dp,jm]),[KM],(.tup [Bp,au])⟩
@[irreducible] def nN(N:Nat)(a:Y8):Y23:=syv N (uR.go (a))
def GA:=gA uR (nN NN)
def EO:AD B0:=⟨353,(c1 [kn]),[hc0],au⟩
@[irreducible] def xt(N:Nat)(a:Bs):Option Bool:=syv N (EO.go (a))
def PZ:=gA EO (xt NN)
def zQ:AD B0:=⟨354,(c1 [cg]),[hc3,hc0],(.tup [hc0,hc3])⟩
@[irreducible] def mC(N:Nat)(a:Int)(a2:Bs):Y10:=syv N (zQ.go (a,a2))
def zR:=gA zQ (u2 (mC NN))
def EP:AD B0:=⟨308,(c1 [PZ,zR]),[Bp],au⟩
@[irreducible] def mY(N:Nat)(a:Y22):Option Bool:=syv N (EP.go (a))
def ES:=gA EP (mY NN)
def wD:AD B0:=⟨358,(c1 [Bq]),[KM],(.tup [Bp,au])⟩
@[irreducible] def oG(N:Nat)(a:Y8):Y23:=syv N (wD.go (a))
def IL:=gA wD (oG NN)
def uS:AD B0:=⟨359,(c1 [jm]),[KM],(.tup [Bp,au])⟩
@[irreducible] def nO(a:Y8):Y23:=syv NN (uS.go (a))
def GC:=gA uS nO
end
end Go.Fw
