/- A framework for proofs about Go programs in this model: part W. Everything is proved; no condition is added. -/
import Derived.Test.YtlicgchfbhkelaaGreatDoorFwV
set_option linter.unusedVariables false
set_option linter.unusedSimpArgs false
set_option linter.defProp false
namespace Go.Fw
open Go Go.Proofs.Tryz
noncomputable section
set_option maxRecDepth 100000
set_option maxHeartbeats 0
attribute [local irreducible] ix app slc cw toB agree fF fH fE ju dD aI aP aQ
def pq(L:List (KL B0)):Ctx B0:=⟨[yK],[],[],L,.nil⟩
def sX:LD:=⟨89,3,0,⟨[(0,lQ),(3,.mp 0),(7,lQ),(8,hc4),(9,hc4)],[.smap]⟩,[(.ret,⟨[(2,au)],[.junk]⟩),(.exit 0,⟨[(0,lQ)],[.junk]⟩)]⟩
@[local irreducible] def mS(N n:Nat):(Y9×Y9×Y23)->Option ((Bool)⊕Y9):=Nat.rec (λ_=>none) (λ_ L x=>syv N (sX.round (pq []).cxs L x)) n
def Ee:=gL (pq []) sX (mS NN)
def xJ:AD B0:=⟨89,(pq [Ee]),[lQ],au⟩
@[irreducible] def pt(N:Nat)(a:Y9):Option Bool:=syv N (xJ.go (a))
def pu:=gA xJ (pt NN)
def sY:AD B0:=⟨82,(c1 [pu]),[lQ],au⟩
@[irreducible] def mT(N:Nat)(a:Y9):Option Bool:=syv N (sY.go (a))
def Ef:=gA sY (mT NN)
def rn:AD B0:=⟨38,(c1 [ji,qz,WI,AN,tX,AO,OO,Ef]),[OA],au⟩
@[irreducible] def bY(N:Nat)(a:Y10):Option Bool:=syv N (rn.go (a))
def lV:=gA rn (bY NN)
def vW:AD B0:=⟨15,(c1 [xu,iw,lV]),[Ia],au⟩
@[irreducible] def iH(N:Nat)(a:Y11):Option Bool:=syv N (vW.go (a))
def vX:=gA vW (iH NN)
def jF(L:List (KL B0)):Ctx B0:=⟨[ji],[],[],L,.nil⟩
def uw:LD:=⟨39,3,0,⟨[(0,hc4),(3,.own 0),(4,hc4)],[.arr .byte false false]⟩,[(.exit 0,⟨[(3,.own 0)],[.arr .byte false false]⟩)]⟩
@[local irreducible] def dZ(N n:Nat):Y17->Option Bs:=Nat.rec (λ_=>none) (λ_ L x=>syv N (uw.round (jF []).cxs L x)) n
def nD:=gL (jF []) uw (dZ NN)
def ux:LD:=⟨39,6,0,⟨[(3,hc0)],[.junk]⟩,[(.exit 2,⟨[(3,hc0)],[.junk]⟩)]⟩
@[local irreducible] def uy(N n:Nat):Bs->Option Bs:=Nat.rec (λ_=>none) (λ_ L x=>syv N (ux.round (jF [nD]).cxs L x)) n
def FK:=gL (jF [nD]) ux (uy NN)
def ze:AD B0:=⟨39,(jF [nD,FK]),[hc4],hc0⟩
@[irreducible] def qQ(N:Nat)(a:Int):Option Bs:=syv N (ze.go (a))
def KN:=gA ze (qQ NN)
def IC:Tr aZ:=(.node .nil 3087009792 [(.normal,⟨[(2,hc0),(3,hc4)],[]⟩)] .nil)
def xK:AD B0:=⟨46,⟨[tR,bV],[],[],[],IC⟩,[bx],(.tup [hc0,hc4])⟩
@[irreducible] def xL(N:Nat)(a:Bs):Y18:=syv N (xK.go (a))
def ID:=gA xK (xL NN)
def vY:AD B0:=⟨18,(c1 [qz,ID,cj]),[hc1],(.tup [hc0,hc4])⟩
@[irreducible] def ga(N:Nat)(a:Y0):Y18:=syv N (vY.go (a))
def kI:=gA vY (ga NN)
def ic(N n:Nat):Y48->Y49:=Nat.rec (λ_=>none) (λ_ L (o,m,a,c,d,e,f,g,h,i)=>
 bif decide (a<m) then(
 (ix o a).bind λb=>
 (toB (IntKind.wrap .u8 (ay .i64 48 (vf .i64 b 10)))).bind λj=>
 (toB (IntKind.wrap .u8 (ay .i64 48 (Int.tmod b 10)))).bind λk=>
 (app 1 i [j,k]).bind λl=>
 L (o,m,ay .i64 a 1,c,d,e,f,g,h,l))
 else
 some (c,d,e,f,g,h,i)) n
def wg(N:Nat)(a:Y5)(k:Nat):Y18:=
 (toB (IntKind.wrap .u8 (ay .i64 48 (vf .i64 (vf .i64 a.1 100) 10)))).bind λd=>
 (toB (IntKind.wrap .u8 (ay .i64 48 (Int.tmod (vf .i64 a.1 100) 10)))).bind λe=>
 (app 1 ([]:List UInt8) [d,e]).bind λm=>
 agree (List.replicate k ((toB (IntKind.wrap .u8 (ay .i64 48 (vf .i64 (Int.tmod a.1 100) 10)))).bind λf=>
 (toB (IntKind.wrap .u8 (ay .i64 48 (Int.tmod (Int.tmod a.1 100) 10)))).bind λg=>
 (app 1 m [f,g]).bind λn=>
 agree (List.replicate 1 ((ic N N ([a.2.1,a.2.2.1,a.2.2.2.1,a.2.2.2.2.1,a.2.2.2.2.2],([a.2.1,a.2.2.1,a.2.2.2.1,a.2.2.2.2.1,a.2.2.2.2.2].length:Int),0,a.1,a.2.1,a.2.2.1,a.2.2.2.1,a.2.2.2.2.1,a.2.2.2.2.2,n)).bind λ(o,p,h,i,j,l,b)=>
 (app 1 b ([90]:Bs)).bind λc=>
 some (c,0):Y18)) some:Y18)) some
def jk(N:Nat)(a:Y5):Y18:=
 (kX a).bind λc1=>
 bif (!c1) then(
 some ([],8))
 else
 agree [wg N a 1,wg N a 1,wg N a 1,wg N a 1,wg N a 2,wg N a 2,wg N a 2,wg N a 2] λ(c,b)=>
 some (c,b)
def Eg:Tr aZ:=(.node .nil 1107229150211 [(.normal,⟨[(2,hc0),(3,hc4)],[.junk,.junk,.junk]⟩)] .nil)
def sZ(L:List (KL B0)):Ctx B0:=⟨[rE],[],[],L,Eg⟩
def A2:LD:=⟨138,2,2,⟨[(0,.own 1),(17,adB),(18,hc4),(19,hc4)],[nt,.arr .byte false false,.junk]⟩,[(.exit 0,⟨[(0,.own 1)],[nt,.arr .byte false false,.junk]⟩)]⟩
def A3:=gL (sZ []) A2 (ic NN)
def Eh:KC B0:=gC 115 (sZ [A3]) [tI] (.tup [hc0,hc4]) (jk NN) krq
attribute [irreducible] jk
attribute [local irreducible] ic
def cJ(N n:Nat):Y48->Y49:=Nat.rec (λ_=>none) (λ_ L (o,k,i,l,m,b,c,d,e,f)=>
 bif decide (i<k) then(
 (ix o i).bind λa=>
 (toB (IntKind.wrap .u8 (ay .i64 48 (vf .i64 a 10)))).bind λg=>
 (toB (IntKind.wrap .u8 (ay .i64 48 (Int.tmod a 10)))).bind λh=>
 (app 1 f [g,h]).bind λj=>
 L (o,k,ay .i64 i 1,l,m,b,c,d,e,j))
 else
 some (l,m,b,c,d,e,f)) n
def mq(N:Nat)(a:Y5):Y18:=
 (kX a).bind λc1=>
 bif (!c1) then(
 some ([],8))
 else
 bif decide (a.1<1950) then(
 some ([],9))
 else
 bif decide (a.1>2049) then(
 some ([],9))
 else
 agree (List.replicate 2 (
 (toB (IntKind.wrap .u8 (ay .i64 48 (vf .i64 (Int.tmod a.1 100) 10)))).bind λf=>
 (toB (IntKind.wrap .u8 (ay .i64 48 (Int.tmod (Int.tmod a.1 100) 10)))).bind λg=>
 (app 1 ([]:List UInt8) [f,g]).bind λi=>
 agree (List.replicate 1 ((cJ N N ([a.2.1,a.2.2.1,a.2.2.2.1,a.2.2.2.2.1,a.2.2.2.2.2],([a.2.1,a.2.2.1,a.2.2.2.1,a.2.2.2.2.1,a.2.2.2.2.2].length:Int),0,a.1,a.2.1,a.2.2.1,a.2.2.2.1,a.2.2.2.2.1,a.2.2.2.2.2,i)).bind λ(j,k,l,m,n,h,c)=>
 (app 1 c ([90]:Bs)).bind λd=>
 some (d,0):Y18)) some:Y18)) λ(e,b)=>
 some (e,b)
def KP:Tr aZ:=(.node .nil 1107162043395 [(.normal,⟨[(2,hc0),(3,hc4)],[.junk,.junk,.junk]⟩)] .nil)
def zf(L:List (KL B0)):Ctx B0:=⟨[rE],[],[],L,KP⟩
def FL:LD:=⟨138,2,2,⟨[(0,.own 1),(17,adB),(18,hc4),(19,hc4)],[nt,.arr .byte false false,.junk]⟩,[(.exit 0,⟨[(0,.own 1)],[nt,.arr .byte false false,.junk]⟩)]⟩
def FM:=gL (zf []) FL (cJ NN)
def KQ:KC B0:=gC 114 (zf [FM]) [tI] (.tup [hc0,hc4]) (mq NN) krq
attribute [irreducible] mq
attribute [local irreducible] cJ
def xM:AD B0:=⟨87,(c1 [AN,Eh,bV,KQ]),[tI],(.tup [hc0,hc4])⟩
@[irreducible] def iX(N:Nat)(a:Y5):Y18:=syv N (xM.go (a))
def IE:=gA xM (iX NN)
def gh(N:Nat)(c:Y5)(a2:Y5):Y18:=
 agree (List.replicate 4 (
 (iX N c).bind λ(f,d)=>
 (app 24 [] [f]).bind λg=>
 agree (List.replicate 1 ((iX N a2).bind λ(h,e)=>
 (app 24 g [h]).bind λi=>
 some (fQ d e,i):Option (Int×Y12))) some:Option (Int×Y12))) λ(b,j)=>
 bif (b !=0) then(
 some ([],b))
 else
 (dr N j).bind λ(k,a)=>
 some (k,a)
def Dg:Tr aZ:=(.node .nil 1102263094274 [(.normal,⟨[(6,.ptr 2 0),(8,hc4)],[.junk,.junk,.cells [.own 3] false,.arr tc0 false false,.junk,.junk]⟩)] .nil)
def Dh:KC B0:=gC 41 ⟨[IE,cj],[],[],[],Dg⟩ [tI,tI] (.tup [hc0,hc4]) (u2 (gh NN)) krq
attribute [irreducible] gh
def xN:AD B0:=⟨19,(c1 [iw,eQ]),[C8],(.tup [hc0,hc4])⟩
@[irreducible] def eW(N:Nat)(a:Y6):Y18:=syv N (xN.go (a))
def lB:=gA xN (eW NN)
def pw:AD B0:=⟨88,(c1 [bV,cj]),[hc0,hc0],(.tup [hc0,hc4])⟩
@[local irreducible] def ku(N:Nat)(a:Bs)(a2:Bs):Y18:=syv N (pw.go (a,a2))
def A4:=gA pw (u2 (ku NN))
end
end Go.Fw
