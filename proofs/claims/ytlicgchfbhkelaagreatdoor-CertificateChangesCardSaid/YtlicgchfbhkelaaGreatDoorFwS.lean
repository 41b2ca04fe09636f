/- A framework for proofs about Go programs in this model: part S. Everything is proved; no condition is added. -/
import Derived.Test.YtlicgchfbhkelaaGreatDoorFwR
set_option linter.unusedVariables false
set_option linter.unusedSimpArgs false
set_option linter.defProp false
namespace Go.Fw
open Go Go.Proofs.Tryz
noncomputable section
set_option maxRecDepth 100000
set_option maxHeartbeats 0
attribute [local irreducible] ix app slc cw toB agree fF fH fE ju dD aI aP aQ
def sJ:AD B0:=⟨223,(c1 [jh,HP]),[hc0],(.tup [hc0,au])⟩
@[local irreducible] def sK(a:Bs):Y26:=syv NN (sJ.go (a))
def D0:=gA sJ sK
def sL:AD B0:=⟨299,(c1 [aT,D0]),[hc0,.agg [hc4,hc4,au,hc4,hc4,hc4],hc4,hc4,.func (.func 223) [] []],(.tup [hc0,au])⟩
@[local irreducible] def sM(a:Bs)(a2:Int)(a3:Int)(a4:Bool)(a5:Int)(b:Int)(c:Int)(d:Int)(a9:Int):Y26:=syv NN (sL.go (a,a2,a3,a4,a5,b,c,d,a9))
def D1:=gA sL (u9 sM)
def rh:AD B0:=⟨222,(c1 [bN,D1]),[hc0,.func (.func 223) [] []],(.tup [hc0,hc5])⟩
@[local irreducible] def ri(N:Nat)(a:Bs):Y20:=syv N (rh.go (a))
def Dc:=gA rh (ri NN)
def vQ:AD B0:=⟨158,(c1 [Dc]),[hc0],(.tup [hc0,hc5])⟩
@[irreducible] def iG(N:Nat)(a:Bs):Y20:=syv N (vQ.go (a))
def HQ:=gA vQ (iG NN)
def AU:AD B0:=⟨356,(c1 []),[],(.agg [bx,bx,bx,bx,bx,bx,bx,bx,bx,bx,bx])⟩
@[local irreducible] def LM:Option (Bs×Bs×Bs×Bs×Bs×Bs×Bs×Bs×Bs×Y0):=syv NN (AU.go ())
def LN:=gA AU (λ_=>LM)
def Iu:AD B0:=⟨315,(c1 [LN]),[hc4],bx⟩
@[irreducible] def Iv(a:Int):Option Bs:=syv NN (Iu.go (a))
def St:=gA Iu Iv
def Hl:AD B0:=⟨244,(c1 [St]),[hc4],au⟩
@[irreducible] def yy(a:Int):Option Bool:=syv NN (Hl.go (a))
def QX:=gA Hl yy
def Hm:AD B0:=⟨178,(c1 [bN,aT,yx,QX]),[hc0],(.tup [hc4,hc5])⟩
@[irreducible] def rH(N:Nat)(a:Bs):Y25:=syv N (Hm.go (a))
def QY:=gA Hm (rH NN)
def fK(N n:Nat):(Int×Bs×Int×Int×Bs×Y5)->Option ((Bool×Y5)⊕(Int×Bs×Y5)):=Nat.rec (λ_=>none) (λ_ L (g,k,h,f,l,i,j,b,c,d,e)=>
 bif decide (f<h) then(
 (ix k f).bind λa=>
 bif decide ((a.toNat:Int)<48) then(
 some (Sum.inl (false,0,0,0,0,0,0)))
 else
 bif decide ((a.toNat:Int)>57) then(
 some (Sum.inl (false,0,0,0,0,0,0)))
 else
 L (g,k,h,ay .i64 f 1,l,i,j,b,c,d,e))
 else
 some (Sum.inr (g,l,i,j,b,c,d,e))) n
def eG(N:Nat)(l:Bs)(a2:Int):Option (Y5×Bool):=
 bif ((l.length:Int) !=ay .i64 a2 11) then(
 some ((0,0,0,0,0,0),false))
 else
 (ix l (aC .i64 (l.length:Int) 1)).bind λb1=>
 bif ((b1.toNat:Int) !=90) then(
 some ((0,0,0,0,0,0),false))
 else
 (slc l 0 (aC .i64 (l.length:Int) 1)).bind λs2=>
 (fK N N (a2,s2,(s2.length:Int),0,l,0,0,0,0,0,0)).bind λm6=>(match m6 with
 |Sum.inl (z,B,C,D,E,F,G)=>some ((B,C,D,E,F,G),z)
 |Sum.inr ((H,c,f,g,h,i,j,k))=>(ix c 0).bind λd=>
 (ix c 1).bind λe=>
 ((
 bif (H==4) then(
 agree (List.replicate 4 (
 (ix c 2).bind λx=>
 (ix c 3).bind λy=>
 some (c,f,g,h,i,j,k,4,ay .i64 (iB .i64 100 (ay .i64 (iB .i64 (IntKind.wrap .i64 (aC .u8 (d.toNat:Int) 48)) 10) (IntKind.wrap .i64 (aC .u8 (e.toNat:Int) 48)))) (ay .i64 (iB .i64 (IntKind.wrap .i64 (aC .u8 (x.toNat:Int) 48)) 10) (IntKind.wrap .i64 (aC .u8 (y.toNat:Int) 48))),0,0,0,0,0):Y33)) λ(k9,I,J,K,L,M,O,P,Q,R,S,T,U,V)=>
 some (k9,I,J,K,L,M,O,P,Q,R,S,T,U,V))
 else
 ((
 bif decide (ay .i64 (ay .i64 (iB .i64 (IntKind.wrap .i64 (aC .u8 (d.toNat:Int) 48)) 10) (IntKind.wrap .i64 (aC .u8 (e.toNat:Int) 48))) 1900<1950) then(
 some (c,f,g,h,i,j,k,2,ay .i64 (ay .i64 (ay .i64 (iB .i64 (IntKind.wrap .i64 (aC .u8 (d.toNat:Int) 48)) 10) (IntKind.wrap .i64 (aC .u8 (e.toNat:Int) 48))) 1900) 100,0,0,0,0,0))
 else
 some (c,f,g,h,i,j,k,2,ay .i64 (ay .i64 (iB .i64 (IntKind.wrap .i64 (aC .u8 (d.toNat:Int) 48)) 10) (IntKind.wrap .i64 (aC .u8 (e.toNat:Int) 48))) 1900,0,0,0,0,0):Y33)).bind λ(m5,W,X,Y,Z,e9,j3,j4,j5,j6,j7,j8,j9,k8)=>
 some (m5,W,X,Y,Z,e9,j3,j4,j5,j6,j7,j8,j9,k8):Y33)).bind λ(b,m7,m8,m9,n5,n6,n7,a,w,n8,n9,o7,o8,o9)=>
 (ix b (aC .i64 (ay .i64 a 2) 2)).bind λm=>
 (ix b (aC .i64 (ay .i64 a 2) 1)).bind λn=>
 (ix b (aC .i64 (ay .i64 (ay .i64 a 2) 2) 2)).bind λo=>
 (ix b (aC .i64 (ay .i64 (ay .i64 a 2) 2) 1)).bind λp=>
 (ix b (aC .i64 (ay .i64 (ay .i64 (ay .i64 a 2) 2) 2) 2)).bind λq=>
 (ix b (aC .i64 (ay .i64 (ay .i64 (ay .i64 a 2) 2) 2) 1)).bind λr=>
 (ix b (aC .i64 (ay .i64 (ay .i64 (ay .i64 (ay .i64 a 2) 2) 2) 2) 2)).bind λs=>
 (ix b (aC .i64 (ay .i64 (ay .i64 (ay .i64 (ay .i64 a 2) 2) 2) 2) 1)).bind λt=>
 (ix b (aC .i64 (ay .i64 (ay .i64 (ay .i64 (ay .i64 (ay .i64 a 2) 2) 2) 2) 2) 2)).bind λu=>
 (ix b (aC .i64 (ay .i64 (ay .i64 (ay .i64 (ay .i64 (ay .i64 a 2) 2) 2) 2) 2) 1)).bind λv=>
 (kX (w,ay .i64 (iB .i64 (IntKind.wrap .i64 (aC .u8 (m.toNat:Int) 48)) 10) (IntKind.wrap .i64 (aC .u8 (n.toNat:Int) 48)),ay .i64 (iB .i64 (IntKind.wrap .i64 (aC .u8 (o.toNat:Int) 48)) 10) (IntKind.wrap .i64 (aC .u8 (p.toNat:Int) 48)),ay .i64 (iB .i64 (IntKind.wrap .i64 (aC .u8 (q.toNat:Int) 48)) 10) (IntKind.wrap .i64 (aC .u8 (r.toNat:Int) 48)),ay .i64 (iB .i64 (IntKind.wrap .i64 (aC .u8 (s.toNat:Int) 48)) 10) (IntKind.wrap .i64 (aC .u8 (t.toNat:Int) 48)),ay .i64 (iB .i64 (IntKind.wrap .i64 (aC .u8 (u.toNat:Int) 48)) 10) (IntKind.wrap .i64 (aC .u8 (v.toNat:Int) 48)))).bind λA=>
 some ((w,ay .i64 (iB .i64 (IntKind.wrap .i64 (aC .u8 (m.toNat:Int) 48)) 10) (IntKind.wrap .i64 (aC .u8 (n.toNat:Int) 48)),ay .i64 (iB .i64 (IntKind.wrap .i64 (aC .u8 (o.toNat:Int) 48)) 10) (IntKind.wrap .i64 (aC .u8 (p.toNat:Int) 48)),ay .i64 (iB .i64 (IntKind.wrap .i64 (aC .u8 (q.toNat:Int) 48)) 10) (IntKind.wrap .i64 (aC .u8 (r.toNat:Int) 48)),ay .i64 (iB .i64 (IntKind.wrap .i64 (aC .u8 (s.toNat:Int) 48)) 10) (IntKind.wrap .i64 (aC .u8 (t.toNat:Int) 48)),ay .i64 (iB .i64 (IntKind.wrap .i64 (aC .u8 (u.toNat:Int) 48)) 10) (IntKind.wrap .i64 (aC .u8 (v.toNat:Int) 48))),A))
def OJ:Tr aZ:=(.node (.node .nil 9596579844 [(.normal,⟨[(4,.ptr 1 0),(9,.func (.func 211) [] [.ptr 2 0,.ptr 0 0]),(10,.ptr 3 0)],[Sk,nt,Sl,nt]⟩)] .nil) 9596582916 [(.normal,⟨[(4,.ptr 1 0),(9,.func (.func 211) [] [.ptr 2 0,.ptr 0 0]),(10,.ptr 3 0)],[Sk,nt,Sl,nt]⟩)] (.node .nil 1109108208644 [(.normal,⟨[(4,.ptr 1 0),(9,.func (.func 211) [] [.ptr 2 0,.ptr 0 0]),(10,.ptr 3 0)],[Sk,nt,Sl,nt]⟩)] .nil))
def D2(L:List (KL B0)):Ctx B0:=⟨[rE],[],[],L,OJ⟩
def Kw:LD:=⟨143,4,0,⟨[(1,hc4),(2,.ptr 0 0),(4,.ptr 1 0),(32,hc0),(33,hc4),(34,hc4)],[Sk,nt]⟩,[(.ret,⟨[(4,.ptr 1 0),(5,au)],[.junk,nt]⟩),(.exit 0,⟨[(1,hc4),(2,.ptr 0 0),(4,.ptr 1 0)],[Sk,nt]⟩)]⟩
def Kx:=gL (D2 []) Kw (fK NN)
def D3:KC B0:=gC 143 (D2 [Kx]) [hc0,hc4] (.tup [tI,au]) (u2 (eG NN)) krq
attribute [irreducible] eG
attribute [local irreducible] fK
def sN:AD B0:=⟨125,(c1 [D3]),[hc0],(.tup [tI,hc4])⟩
@[irreducible] def cX(N:Nat)(a:Bs):Option (Y5×Int):=syv N (sN.go (a))
def sO:=gA sN (cX NN)
def yQ:AD B0:=⟨181,(c1 [bN,aT,sO]),[hc0],(.tup [tI,hc5])⟩
@[irreducible] def mj(N:Nat)(a:Bs):Option (Y5×Y3):=syv N (yQ.go (a))
def Ky:=gA yQ (mj NN)
def Hn:AD B0:=⟨320,(c1 [cj,og]),[hc0],(.tup [kO,au])⟩
@[irreducible] def Ho(N:Nat)(a:Bs):Option (Y30×Bool):=syv N (Hn.go (a))
def QZ:=gA Hn (Ho NN)
def K7:AD B0:=⟨319,(c1 [qr]),[hc0],(.tup [hc4,au])⟩
@[irreducible] def K8(N:Nat)(a:Bs):Y31:=syv N (K7.go (a))
def UQ:=gA K7 (K8 NN)
end
end Go.Fw
