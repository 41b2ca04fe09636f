/- A framework for proofs about Go programs in this model: part W. Everything is proved; no condition is added. -/
import Derived.Test.YtfjfjojmeookfaaGreatDoorFwV
set_option linter.unusedVariables false
set_option linter.unusedSimpArgs false
set_option linter.defProp false
namespace Go.Fw
open Go Go.Proofs.Tryz
noncomputable section
set_option maxRecDepth 100000
set_option maxHeartbeats 0
attribute [local irreducible] ix app slc cC toB agree fU fW fT jB dR aK aV aX
def jM(L:List (KL B0)):Ctx B0:=⟨[iq],[],[],L,.nil⟩
def vi:LD:=⟨39,3,0,⟨[(0,hc3),(3,.own 0),(4,hc3)],[.arr .byte false false]⟩,[(.exit 0,⟨[(3,.own 0)],[.arr .byte false false]⟩)]⟩
@[local irreducible] def eN(N n:Nat):Y9->Option Bs:=Nat.rec (λ_=>none) (λ_ L x=>syv N (vi.round (jM []).cxs L x)) n
def nS:=gL (jM []) vi (eN NN)
def vj:LD:=⟨39,6,0,⟨[(3,hc0)],[.junk]⟩,[(.exit 2,⟨[(3,hc0)],[.junk]⟩)]⟩
@[local irreducible] def vn(N n:Nat):Bs->Option Bs:=Nat.rec (λ_=>none) (λ_ L x=>syv N (vj.round (jM [nS]).cxs L x)) n
def GM:=gL (jM [nS]) vj (vn NN)
def Aj:AD B0:=⟨39,(jM [nS,GM]),[hc3],hc0⟩
@[irreducible] def mG(N:Nat)(a:Int):Option Bs:=syv N (Aj.go (a))
def LU:=gA Aj (mG NN)
def Jv:Tr bh:=(.node .nil 3019900928 [(.normal,⟨[(2,hc0),(3,hc3)],[]⟩)] .nil)
def yD:AD B0:=⟨45,⟨[uF,cg],[],[],[],Jv⟩,[bO],(.tup [hc0,hc3])⟩
@[irreducible] def yE(N:Nat)(a:Bs):Y10:=syv N (yD.go (a))
def Jw:=gA yD (yE NN)
def wQ:AD B0:=⟨17,(c1 [zH,Jw,cS]),[hc1],(.tup [hc0,hc3])⟩
@[irreducible] def gp(N:Nat)(a:Y0):Y10:=syv N (wQ.go (a))
def oN:=gA wQ (gp NN)
def iy(N n:Nat):Y49->Y50:=Nat.rec (λ_=>none) (λ_ L (o,m,a,c,d,e,f,g,h,i)=>
 bif decide (a<m) then(
 (ix o a).bind λb=>
 (toB (IntKind.wrap .u8 (az .i64 48 (vY .i64 b 10)))).bind λj=>
 (toB (IntKind.wrap .u8 (az .i64 48 (Int.tmod b 10)))).bind λk=>
 (app 1 i [j,k]).bind λl=>
 L (o,m,az .i64 a 1,c,d,e,f,g,h,l))
 else
 some (c,d,e,f,g,h,i)) n
def wg(N:Nat)(a:Y13)(k:Nat):Y10:=
 (toB (IntKind.wrap .u8 (az .i64 48 (vY .i64 (vY .i64 a.1 100) 10)))).bind λd=>
 (toB (IntKind.wrap .u8 (az .i64 48 (Int.tmod (vY .i64 a.1 100) 10)))).bind λe=>
 (app 1 ([]:List UInt8) [d,e]).bind λm=>
 agree (List.replicate k ((toB (IntKind.wrap .u8 (az .i64 48 (vY .i64 (Int.tmod a.1 100) 10)))).bind λf=>
 (toB (IntKind.wrap .u8 (az .i64 48 (Int.tmod (Int.tmod a.1 100) 10)))).bind λg=>
 (app 1 m [f,g]).bind λn=>
 agree (List.replicate 1 ((iy N N ([a.2.1,a.2.2.1,a.2.2.2.1,a.2.2.2.2.1,a.2.2.2.2.2],([a.2.1,a.2.2.1,a.2.2.2.1,a.2.2.2.2.1,a.2.2.2.2.2].length:Int),0,a.1,a.2.1,a.2.2.1,a.2.2.2.1,a.2.2.2.2.1,a.2.2.2.2.2,n)).bind λ(o,p,h,i,j,l,b)=>
 (app 1 b ([90]:Bs)).bind λc=>
 some (c,0):Y10)) some:Y10)) some
def jo(N:Nat)(a:Y13):Y10:=
 (li a).bind λc1=>
 bif (!c1) then(
 some ([],8))
 else
 agree [wg N a 1,wg N a 1,wg N a 1,wg N a 1,wg N a 2,wg N a 2,wg N a 2,wg N a 2] λ(c,b)=>
 some (c,b)
def Fd:Tr bh:=(.node .nil 1105148775427 [(.normal,⟨[(2,hc0),(3,hc3)],[.junk,.junk,.junk]⟩)] .nil)
def tX(L:List (KL B0)):Ctx B0:=⟨[sj],[],[],L,Fd⟩
def BX:LD:=⟨116,2,2,⟨[(0,.own 1),(17,N5),(18,hc3),(19,hc3)],[kl,.arr .byte false false,.junk]⟩,[(.exit 0,⟨[(0,.own 1)],[kl,.arr .byte false false,.junk]⟩)]⟩
def BY:=gL (tX []) BX (iy NN)
def Fe:KC B0:=gC 84 (tX [BY]) [hc6] (.tup [hc0,hc3]) (jo NN) krq
attribute [irreducible] jo
attribute [local irreducible] iy
def cO(N n:Nat):Y49->Y50:=Nat.rec (λ_=>none) (λ_ L (o,k,i,l,m,b,c,d,e,f)=>
 bif decide (i<k) then(
 (ix o i).bind λa=>
 (toB (IntKind.wrap .u8 (az .i64 48 (vY .i64 a 10)))).bind λg=>
 (toB (IntKind.wrap .u8 (az .i64 48 (Int.tmod a 10)))).bind λh=>
 (app 1 f [g,h]).bind λj=>
 L (o,k,az .i64 i 1,l,m,b,c,d,e,j))
 else
 some (l,m,b,c,d,e,f)) n
def mH(N:Nat)(a:Y13):Y10:=
 (li a).bind λc1=>
 bif (!c1) then(
 some ([],8))
 else
 bif decide (a.1<1950) then(
 some ([],9))
 else
 bif decide (a.1>2049) then(
 some ([],9))
 else
 agree (List.replicate 2 (
 (toB (IntKind.wrap .u8 (az .i64 48 (vY .i64 (Int.tmod a.1 100) 10)))).bind λf=>
 (toB (IntKind.wrap .u8 (az .i64 48 (Int.tmod (Int.tmod a.1 100) 10)))).bind λg=>
 (app 1 ([]:List UInt8) [f,g]).bind λi=>
 agree (List.replicate 1 ((cO N N ([a.2.1,a.2.2.1,a.2.2.2.1,a.2.2.2.2.1,a.2.2.2.2.2],([a.2.1,a.2.2.1,a.2.2.2.1,a.2.2.2.2.1,a.2.2.2.2.2].length:Int),0,a.1,a.2.1,a.2.2.1,a.2.2.2.1,a.2.2.2.2.1,a.2.2.2.2.2,i)).bind λ(j,k,l,m,n,h,c)=>
 (app 1 c ([90]:Bs)).bind λd=>
 some (d,0):Y10)) some:Y10)) λ(e,b)=>
 some (e,b)
def LV:Tr bh:=(.node .nil 1105081668611 [(.normal,⟨[(2,hc0),(3,hc3)],[.junk,.junk,.junk]⟩)] .nil)
def Ak(L:List (KL B0)):Ctx B0:=⟨[sj],[],[],L,LV⟩
def GN:LD:=⟨116,2,2,⟨[(0,.own 1),(17,N5),(18,hc3),(19,hc3)],[kl,.arr .byte false false,.junk]⟩,[(.exit 0,⟨[(0,.own 1)],[kl,.arr .byte false false,.junk]⟩)]⟩
def GO:=gL (Ak []) GN (cO NN)
def LW:KC B0:=gC 83 (Ak [GO]) [hc6] (.tup [hc0,hc3]) (mH NN) krq
attribute [irreducible] mH
attribute [local irreducible] cO
def yF:AD B0:=⟨41,(c1 [sS,Fe,cg,LW]),[hc6],(.tup [hc0,hc3])⟩
@[irreducible] def pS(N:Nat)(a:Y13):Y10:=syv N (yF.go (a))
def yG:=gA yF (pS NN)
def tY:AD B0:=⟨120,(c1 []),[au],hc0⟩
@[irreducible] def np(a:Bool):Option Bs:=syv NN (tY.go (a))
def Ff:=gA tY np
def IR:Tr bh:=(.node .nil 5771369476 [(.normal,⟨[(1,.ptr 0 0),(5,.ptr 1 0),(6,.ptr 2 0),(7,.func (.func 119) [] [.ptr 2 0,.ptr 1 0])],[uy,TI,.cells [.own 3] false,.arr tc0 false false]⟩)] .nil)
def wS:AD B0:=⟨86,⟨[uF,cg,Ff,cS],[],[],[],IR⟩,[hc8],(.tup [hc0,hc3])⟩
@[irreducible] def oO(N:Nat)(a:Y14):Y10:=syv N (wS.go (a))
def IS:=gA wS (oO NN)
def kZ(L:List (KL B0)):Ctx B0:=⟨[pQ,IS,cS],[],[],L,.nil⟩
def ot:LD:=⟨43,5,0,⟨[(4,.own 0),(12,hc9),(13,hc3),(14,hc3)],[.arr tc0 false false]⟩,[(.ret,⟨[(2,vN),(3,hc3)],[.junk]⟩),(.exit 0,⟨[(4,.own 0)],[.arr tc0 false false]⟩)]⟩
@[local irreducible] def jz(N n:Nat):(Y43×Y18)->Option ((Int)⊕(List Bs)):=Nat.rec (λ_=>none) (λ_ L x=>syv N (ot.round (kZ []).cxs L x)) n
def zy:=gL (kZ []) ot (jz NN)
def qT:AD B0:=⟨43,(kZ [zy]),[hc9],(.tup [hc0,hc3])⟩
@[irreducible] def lc(N:Nat)(a:Y43):Y10:=syv N (qT.go (a))
def qU:=gA qT (lc NN)
def Jy:Tr bh:=(.node .nil 2818576387 [(.normal,⟨[(4,.ptr 1 0)],[.junk,MJ,.arr tc0 false false]⟩)] .nil)
def yH:AD B0:=⟨42,⟨[cg,yG,qU,cS],[],[],[],Jy⟩,[XV],(.tup [hc0,hc3])⟩
@[irreducible] def pT(N:Nat)(a:Y44):Y10:=syv N (yH.go (a))
def Jz:=gA yH (pT NN)
def BZ:Tr bh:=(.node (.node (.node .nil 1073745923 [(.normal,⟨[(1,.ptr 0 0),(4,.ptr 1 0)],[pt,MJ,.arr tc0 false false]⟩)] .nil) 1073751043 [(.normal,⟨[(1,.ptr 0 0),(4,.ptr 1 0)],[pt,MJ,.arr tc0 false false]⟩)] .nil) 1073753091 [(.normal,⟨[(1,.ptr 0 0),(4,.ptr 1 0)],[pt,MJ,.arr tc0 false false]⟩)] (.node .nil 1073761283 [(.normal,⟨[(4,.ptr 1 0)],[.junk,MJ,.arr tc0 false false]⟩)] .nil))
def kA(L:List (KL B0)):Ctx B0:=⟨[mf,LU,cg,oN,BH,yG,Jz,cS,qU],[],[],L,BZ⟩
def nF:LD:=⟨16,14,0,⟨[(1,.ptr 0 0),(4,.ptr 1 0),(5,.ptr 3 0),(53,sL),(54,hc3),(55,hc3)],[pt,MJ,.arr tc0 false false,.cells [.own 4,hc3] false,.arr tc0 false false]⟩,[(.exit 0,⟨[(1,.ptr 0 0),(4,.ptr 1 0),(5,.ptr 3 0)],[pt,MJ,.arr tc0 false false,.cells [.own 4,hc3] false,.arr tc0 false false]⟩)]⟩
@[local irreducible] def gj(N n:Nat):(Y45×Int×Int×Y51)->Option Y51:=Nat.rec (λ_=>none) (λ_ L x=>syv N (nF.round (kA []).cxs L x)) n
def yI:=gL (kA []) nF (gj NN)
def pU:AD B0:=⟨16,(kA [yI]),[PT],(.tup [hc0,hc3])⟩
@[irreducible] def cr(N:Nat)(a:Y47):Y10:=syv N (pU.go (a))
def pV:=gA pU (cr NN)
def yJ:AD B0:=⟨18,(c1 [mz,fk]),[I5],(.tup [hc0,hc3])⟩
@[irreducible] def gT(N:Nat)(a:Y1):Y10:=syv N (yJ.go (a))
def yK:=gA yJ (gT NN)
def vo:AD B0:=⟨7,(c1 [pR,pV,oN,yK,cg,cS]),[Gp],(.tup [hc0,hc3])⟩
@[irreducible] def fM(N:Nat)(a:Y48):Y10:=syv N (vo.go (a))
def GP:=gA vo (fM NN)
end
end Go.Fw
