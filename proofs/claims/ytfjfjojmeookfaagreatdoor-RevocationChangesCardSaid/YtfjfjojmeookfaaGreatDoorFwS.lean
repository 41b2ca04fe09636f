/- A framework for proofs about Go programs in this model: part S. Everything is proved; no condition is added. -/
import Derived.Test.YtfjfjojmeookfaaGreatDoorFwR
set_option linter.unusedVariables false
set_option linter.unusedSimpArgs false
set_option linter.defProp false
namespace Go.Fw
open Go Go.Proofs.Tryz
noncomputable section
set_option maxRecDepth 100000
set_option maxHeartbeats 0
attribute [local irreducible] ix app slc cC toB agree fU fW fT jB dR aK aV aX
def In:AD B0:=⟨266,(c1 [TP]),[hc3],au⟩
@[irreducible] def zr(a:Int):Option Bool:=syv NN (In.go (a))
def R9:=gA In zr
def Io:AD B0:=⟨197,(c1 [bI,aU,zq,R9]),[hc0],(.tup [hc3,hc4])⟩
@[irreducible] def sr(N:Nat)(a:Bs):Y20:=syv N (Io.go (a))
def Sa:=gA Io (sr NN)
def fZ(N n:Nat):(Int×Bs×Int×Int×Bs×Y13)->Option ((Bool×Y13)⊕(Int×Bs×Y13)):=Nat.rec (λ_=>none) (λ_ L (g,k,h,f,l,i,j,b,c,d,e)=>
 bif decide (f<h) then(
 (ix k f).bind λa=>
 bif decide ((a.toNat:Int)<48) then(
 some (Sum.inl (false,0,0,0,0,0,0)))
 else
 bif decide ((a.toNat:Int)>57) then(
 some (Sum.inl (false,0,0,0,0,0,0)))
 else
 L (g,k,h,az .i64 f 1,l,i,j,b,c,d,e))
 else
 some (Sum.inr (g,l,i,j,b,c,d,e))) n
def eX(N:Nat)(l:Bs)(a2:Int):Option (Y13×Bool):=
 bif ((l.length:Int) !=az .i64 a2 11) then(
 some ((0,0,0,0,0,0),false))
 else
 (ix l (aC .i64 (l.length:Int) 1)).bind λb1=>
 bif ((b1.toNat:Int) !=90) then(
 some ((0,0,0,0,0,0),false))
 else
 (slc l 0 (aC .i64 (l.length:Int) 1)).bind λs2=>
 (fZ N N (a2,s2,(s2.length:Int),0,l,0,0,0,0,0,0)).bind λm8=>(match m8 with
 |Sum.inl (z,B,C,D,E,F,G)=>some ((B,C,D,E,F,G),z)
 |Sum.inr ((H,c,f,g,h,i,j,k))=>(ix c 0).bind λd=>
 (ix c 1).bind λe=>
 ((
 bif (H==4) then(
 agree (List.replicate 4 (
 (ix c 2).bind λx=>
 (ix c 3).bind λy=>
 some (c,f,g,h,i,j,k,4,az .i64 (iK .i64 100 (az .i64 (iK .i64 (IntKind.wrap .i64 (aC .u8 (d.toNat:Int) 48)) 10) (IntKind.wrap .i64 (aC .u8 (e.toNat:Int) 48)))) (az .i64 (iK .i64 (IntKind.wrap .i64 (aC .u8 (x.toNat:Int) 48)) 10) (IntKind.wrap .i64 (aC .u8 (y.toNat:Int) 48))),0,0,0,0,0):Y28)) λ(m6,I,J,K,L,M,O,P,Q,R,S,T,U,V)=>
 some (m6,I,J,K,L,M,O,P,Q,R,S,T,U,V))
 else
 ((
 bif decide (az .i64 (az .i64 (iK .i64 (IntKind.wrap .i64 (aC .u8 (d.toNat:Int) 48)) 10) (IntKind.wrap .i64 (aC .u8 (e.toNat:Int) 48))) 1900<1950) then(
 some (c,f,g,h,i,j,k,2,az .i64 (az .i64 (az .i64 (iK .i64 (IntKind.wrap .i64 (aC .u8 (d.toNat:Int) 48)) 10) (IntKind.wrap .i64 (aC .u8 (e.toNat:Int) 48))) 1900) 100,0,0,0,0,0))
 else
 some (c,f,g,h,i,j,k,2,az .i64 (az .i64 (iK .i64 (IntKind.wrap .i64 (aC .u8 (d.toNat:Int) 48)) 10) (IntKind.wrap .i64 (aC .u8 (e.toNat:Int) 48))) 1900,0,0,0,0,0):Y28)).bind λ(m7,W,X,Y,Z,j3,j4,j5,j6,j7,j8,j9,k9,m5)=>
 some (m7,W,X,Y,Z,j3,j4,j5,j6,j7,j8,j9,k9,m5):Y28)).bind λ(b,m9,n5,n6,n7,n8,n9,a,w,o7,o8,o9,p7,p8)=>
 (ix b (aC .i64 (az .i64 a 2) 2)).bind λm=>
 (ix b (aC .i64 (az .i64 a 2) 1)).bind λn=>
 (ix b (aC .i64 (az .i64 (az .i64 a 2) 2) 2)).bind λo=>
 (ix b (aC .i64 (az .i64 (az .i64 a 2) 2) 1)).bind λp=>
 (ix b (aC .i64 (az .i64 (az .i64 (az .i64 a 2) 2) 2) 2)).bind λq=>
 (ix b (aC .i64 (az .i64 (az .i64 (az .i64 a 2) 2) 2) 1)).bind λr=>
 (ix b (aC .i64 (az .i64 (az .i64 (az .i64 (az .i64 a 2) 2) 2) 2) 2)).bind λs=>
 (ix b (aC .i64 (az .i64 (az .i64 (az .i64 (az .i64 a 2) 2) 2) 2) 1)).bind λt=>
 (ix b (aC .i64 (az .i64 (az .i64 (az .i64 (az .i64 (az .i64 a 2) 2) 2) 2) 2) 2)).bind λu=>
 (ix b (aC .i64 (az .i64 (az .i64 (az .i64 (az .i64 (az .i64 a 2) 2) 2) 2) 2) 1)).bind λv=>
 (li (w,az .i64 (iK .i64 (IntKind.wrap .i64 (aC .u8 (m.toNat:Int) 48)) 10) (IntKind.wrap .i64 (aC .u8 (n.toNat:Int) 48)),az .i64 (iK .i64 (IntKind.wrap .i64 (aC .u8 (o.toNat:Int) 48)) 10) (IntKind.wrap .i64 (aC .u8 (p.toNat:Int) 48)),az .i64 (iK .i64 (IntKind.wrap .i64 (aC .u8 (q.toNat:Int) 48)) 10) (IntKind.wrap .i64 (aC .u8 (r.toNat:Int) 48)),az .i64 (iK .i64 (IntKind.wrap .i64 (aC .u8 (s.toNat:Int) 48)) 10) (IntKind.wrap .i64 (aC .u8 (t.toNat:Int) 48)),az .i64 (iK .i64 (IntKind.wrap .i64 (aC .u8 (u.toNat:Int) 48)) 10) (IntKind.wrap .i64 (aC .u8 (v.toNat:Int) 48)))).bind λA=>
 some ((w,az .i64 (iK .i64 (IntKind.wrap .i64 (aC .u8 (m.toNat:Int) 48)) 10) (IntKind.wrap .i64 (aC .u8 (n.toNat:Int) 48)),az .i64 (iK .i64 (IntKind.wrap .i64 (aC .u8 (o.toNat:Int) 48)) 10) (IntKind.wrap .i64 (aC .u8 (p.toNat:Int) 48)),az .i64 (iK .i64 (IntKind.wrap .i64 (aC .u8 (q.toNat:Int) 48)) 10) (IntKind.wrap .i64 (aC .u8 (r.toNat:Int) 48)),az .i64 (iK .i64 (IntKind.wrap .i64 (aC .u8 (s.toNat:Int) 48)) 10) (IntKind.wrap .i64 (aC .u8 (t.toNat:Int) 48)),az .i64 (iK .i64 (IntKind.wrap .i64 (aC .u8 (u.toNat:Int) 48)) 10) (IntKind.wrap .i64 (aC .u8 (v.toNat:Int) 48))),A))
def P1:Tr bh:=(.node (.node .nil 8522838020 [(.normal,⟨[(4,.ptr 1 0),(9,.func (.func 145) [] [.ptr 2 0,.ptr 0 0]),(10,.ptr 3 0)],[TH,kl,TI,kl]⟩)] .nil) 8522841092 [(.normal,⟨[(4,.ptr 1 0),(9,.func (.func 145) [] [.ptr 2 0,.ptr 0 0]),(10,.ptr 3 0)],[TH,kl,TI,kl]⟩)] (.node .nil 1108034466820 [(.normal,⟨[(4,.ptr 1 0),(9,.func (.func 145) [] [.ptr 2 0,.ptr 0 0]),(10,.ptr 3 0)],[TH,kl,TI,kl]⟩)] .nil))
def EZ(L:List (KL B0)):Ctx B0:=⟨[sj],[],[],L,P1⟩
def LF:LD:=⟨127,4,0,⟨[(1,hc3),(2,.ptr 0 0),(4,.ptr 1 0),(32,hc0),(33,hc3),(34,hc3)],[TH,kl]⟩,[(.ret,⟨[(4,.ptr 1 0),(5,au)],[.junk,kl]⟩),(.exit 0,⟨[(1,hc3),(2,.ptr 0 0),(4,.ptr 1 0)],[TH,kl]⟩)]⟩
def LG:=gL (EZ []) LF (fZ NN)
def E0:KC B0:=gC 127 (EZ [LG]) [hc0,hc3] (.tup [hc6,au]) (u2 (eX NN)) krq
attribute [irreducible] eX
attribute [local irreducible] fZ
def tM:AD B0:=⟨100,(c1 [E0]),[hc0],(.tup [hc6,hc3])⟩
@[irreducible] def dA(N:Nat)(a:Bs):Option (Y13×Int):=syv N (tM.go (a))
def tO:=gA tM (dA NN)
def zV:AD B0:=⟨200,(c1 [bI,aU,tO]),[hc0],(.tup [hc6,hc4])⟩
@[irreducible] def mD(N:Nat)(a:Bs):Option (Y13×Y4):=syv N (zV.go (a))
def LH:=gA zV (mD NN)
def Ip:AD B0:=⟨334,(c1 [cS,oI]),[hc0],(.tup [kW,au])⟩
@[irreducible] def Iq(N:Nat)(a:Bs):Option (Y25×Bool):=syv N (Ip.go (a))
def Sc:=gA Ip (Iq NN)
def Mf:AD B0:=⟨333,(c1 [qO]),[hc0],(.tup [hc3,au])⟩
@[irreducible] def Mg(N:Nat)(a:Bs):Y26:=syv N (Mf.go (a))
def V2:=gA Mf (Mg NN)
def E1:Tr bh:=(.node (.node .nil 18454956037 [(.normal,⟨[(0,bO),(1,hc0),(4,.ptr 0 0),(5,.ptr 1 0),(6,.ptr 2 0),(9,hc3),(11,.ptr 4 0),(14,au),(27,eL),(28,hc3),(29,hc3)],[PU,oo5,TJ,.junk,il]⟩)] .nil) 18454958085 [(.normal,⟨[(0,bO),(1,hc0),(4,.ptr 0 0),(5,.ptr 1 0),(6,.ptr 2 0),(9,hc3),(11,.ptr 4 0),(14,au),(27,eL),(28,hc3),(29,hc3)],[PU,oo5,TJ,.junk,il]⟩)] (.node .nil 18454960133 [(.normal,⟨[(0,bO),(1,hc0),(4,.ptr 0 0),(5,.ptr 1 0),(6,.ptr 2 0),(9,hc3),(11,.ptr 4 0),(14,au),(27,eL),(28,hc3),(29,hc3)],[PU,oo5,TJ,.junk,il]⟩)] .nil))
def tP(L:List (KL B0)):Ctx B0:=⟨[aH,bI,aU,Sc,cg,Ij,V2,rh],[],[],L,E1⟩
def BR:LD:=⟨275,7,0,⟨[(0,bO),(1,hc0),(4,.ptr 0 0),(5,.ptr 1 0),(6,.ptr 2 0),(9,hc3),(27,eL),(28,hc3),(29,hc3)],[PU,oo5,TJ,.junk]⟩,[(.ret,⟨[(4,.ptr 0 0),(5,.ptr 1 0)],[PU,oo0,.junk,.junk]⟩),(.exit 0,⟨[(4,.ptr 0 0),(5,.ptr 1 0),(6,.ptr 2 0)],[PU,oo5,TJ,.junk]⟩)]⟩
def pG:KL B0:=aL (tP []) BR krq
def ne:AD B0:=⟨275,(tP [pG]),[bO,hc0],(.tup [.agg [kW,hc2,hc3,kW,au,au,au,au,au,au],.agg [hc3,hc3]])⟩
def tQ:KC B0:=ne.k krq
abbrev E2(N:Nat)(a:Bs)(a2:Bs):Option (Y25×Y11×Int×Y25×Bool×Bool×Bool×Bool×Bool×Bool×Y4):=ne.run (a,a2)
def uW:AD B0:=⟨307,(c1 []),[Bp],au⟩
def Oi:KC B0:=uW.k krq
abbrev Oj(a:Y22):Option Bool:=uW.run a
def rQ:AD B0:=⟨356,(c1 [Br,cg]),[ach],(.tup [hc0,hc3])⟩
@[irreducible] def iY(N:Nat)(a:Y8):Y10:=syv N (rQ.go (a))
def D9:=gA rQ (iY NN)
def Jp:Tr bh:=(.node (.node .nil 20736650241 [(.normal,⟨[(1,.ptr 0 0),(15,hc3),(47,au)],[ack]⟩)] .nil) 20736651265 [(.normal,⟨[(1,.ptr 0 0),(15,hc3),(47,au)],[ack]⟩)] (.node .nil 20736654337 [(.normal,⟨[(1,.ptr 0 0),(15,hc3),(57,au)],[ack]⟩)] .nil))
def pH(L:List (KL B0)):Ctx B0:=⟨[uF,cg,zR,fk,Br,BH,D9],[],[],L,Jp⟩
def tR:LD:=⟨309,23,0,⟨[(8,.own 1),(75,.hole (.sl TE)),(76,hc3),(77,hc3)],[.junk,.arr .byte false false]⟩,[(.ret,⟨[(2,vN),(3,hc3)],[.junk,.junk]⟩),(.exit 1,⟨[(8,.own 1)],[.junk,.arr .byte false false]⟩)]⟩
@[local irreducible] def gR(N n:Nat):(List Y8×Y9)->Option ((Int)⊕(Bs)):=Nat.rec (λ_=>none) (λ_ L x=>syv N (tR.round (pH []).cxs L x)) n
def E3:=gL (pH []) tR (gR NN)
def yx:AD B0:=⟨309,(pH [E3]),[Bp],(.tup [hc0,hc3])⟩
@[irreducible] def pI(N:Nat)(a:Y22):Y10:=syv N (yx.go (a))
def Jq:=gA yx (pI NN)
def zW:AD B0:=⟨241,(c1 [Oi,ES,Jq,tD,cg,oY]),[Bp],(.tup [hc0,hc3])⟩
@[irreducible] def ri(N:Nat)(a:Y22):Y10:=syv N (zW.go (a))
def LJ:=gA zW (ri NN)
def nh(L:List (KL B0)):Ctx B0:=⟨[LJ,cS],[],[],L,.nil⟩
def pJ:LD:=⟨174,3,0,⟨[(4,.own 0),(9,kW),(10,hc3),(11,hc3)],[.arr tc0 false false]⟩,[(.ret,⟨[(2,vN),(3,hc3)],[.junk]⟩),(.exit 0,⟨[(4,.own 0)],[.arr tc0 false false]⟩)]⟩
@[local irreducible] def pK(N n:Nat):(Y25×Y18)->Option ((Int)⊕(List Bs)):=Nat.rec (λ_=>none) (λ_ L x=>syv N (pJ.round (nh []).cxs L x)) n
def BS:=gL (nh []) pJ (pK NN)
def tS:AD B0:=⟨174,(nh [BS]),[kW],(.tup [hc0,hc3])⟩
@[irreducible] def nj(N:Nat)(a:Y25):Y10:=syv N (tS.go (a))
def E4:=gA tS (nj NN)
end
end Go.Fw
