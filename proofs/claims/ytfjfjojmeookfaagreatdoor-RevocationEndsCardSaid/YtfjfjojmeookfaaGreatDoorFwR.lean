/- A framework for proofs about Go programs in this model: part R. Everything is proved; no condition is added. -/
import Derived.Test.YtfjfjojmeookfaaGreatDoorFwQ
set_option linter.unusedVariables false
set_option linter.unusedSimpArgs false
set_option linter.defProp false
namespace Go.Fw
open Go Go.Proofs.Tryz
noncomputable section
set_option maxRecDepth 100000
set_option maxHeartbeats 0
attribute [local irreducible] ix app slc fP toB agree jV jW jU ml ig bE bY cm dG bD ba aQ dT eI gt eV cJ aT bJ aU bp aW bO bZ fe cD dt cu cw cE cF cG cH dA dF aB aC aS bP bz aR cQ ff eM aI aE bV bL dN cR cy au az du bu cM bc bQ dR cN bq cb fM iw gm gn dZ dO cW cO bW bS bF bx bA bX bv aD eU iy bj eP cp gi ft aJ aN aK fI br cf aO aF aP cX cI cz fu fv bo bh ey cg dV fw fx dd ge eE fy ec dI fG cA bw dq cS iz cq eJ df dr dJ dW eQ em bK cP ii dX gp gj gJ ez gY ia eN eL
def sr:AD B0:=⟨313,(c1 [bR,CD]),[hc0,.agg [hc3,hc3,ay,hc3,hc3,hc3],hc3,hc3,.func (.func 245) [] []],(.tup [hc0,ay])⟩
@[local irreducible] noncomputable def fA(a:Bs)(a2:Int)(a3:Int)(a4:Bool)(a5:Int)(b:Int)(c:Int)(d:Int)(a9:Int):Y21:=syv NN (sr.go (a,a2,a3,a4,a5,b,c,d,a9))
def CE:KC B0:=gA sr (u9 fA) (by kernel_rfl)
def qZ:AD B0:=⟨244,(c1 [dH,CE]),[hc0,.func (.func 245) [] []],(.tup [hc0,hc4])⟩
@[local irreducible] noncomputable def eW(N:Nat)(a:Bs):Y15:=syv N (qZ.go (a))
def BN:KC B0:=gA qZ (eW NN) (by kernel_rfl)
def uI:AD B0:=⟨177,(c1 [BN]),[hc0],(.tup [hc0,hc4])⟩
@[local irreducible] noncomputable def ed(N:Nat)(a:Bs):Y15:=syv N (uI.go (a))
def F7:KC B0:=gA uI (ed NN) (by kernel_rfl)
def zp:AD B0:=⟨367,(c1 []),[],(.agg [dU,dU,dU,dU,dU,dU,dU,dU,dU,dU,dU])⟩
@[local irreducible] noncomputable def jg:Option (Bs×Bs×Bs×Bs×Bs×Bs×Bs×Bs×Bs×Y0):=syv NN (zp.go ())
def JZ:KC B0:=gA zp (λ_=>jg) (by kernel_rfl)
def GF:AD B0:=⟨329,(c1 [JZ]),[hc3],dU⟩
@[local irreducible] noncomputable def lD(a:Int):Option Bs:=syv NN (GF.go (a))
def QE:KC B0:=gA GF lD (by kernel_rfl)
def FI:AD B0:=⟨266,(c1 [QE]),[hc3],ay⟩
@[local irreducible] noncomputable def jX(a:Int):Option Bool:=syv NN (FI.go (a))
def Pa:KC B0:=gA FI jX (by kernel_rfl)
def FJ:AD B0:=⟨197,(c1 [dH,bR,xk,Pa]),[hc0],(.tup [hc3,hc4])⟩
@[local irreducible] noncomputable def iI(N:Nat)(a:Bs):Y20:=syv N (FJ.go (a))
def Pb:KC B0:=gA FJ (iI NN) (by kernel_rfl)
def dS(N n:Nat):(Int×Bs×Int×Int×Bs×Y13)->Option ((Bool×Y13)⊕(Int×Bs×Y13)):=Nat.rec (λ_=>none) (λ_ L (g,k,h,f,l,i,j,b,c,d,e)=>
 bif decide (f<h) then(
 (ix k f).bind λa=>
 bif decide ((a.toNat:Int)<48) then(
 some (Sum.inl (false,0,0,0,0,0,0)))
 else
 bif decide ((a.toNat:Int)>57) then(
 some (Sum.inl (false,0,0,0,0,0,0)))
 else
 L (g,k,h,aq .i64 f 1,l,i,j,b,c,d,e))
 else
 some (Sum.inr (g,l,i,j,b,c,d,e))) n
def eF(N:Nat)(l:Bs)(a2:Int):Option (Y13×Bool):=
 bif ((l.length:Int) !=aq .i64 a2 11) then(
 some ((0,0,0,0,0,0),false))
 else
 (ix l (aX .i64 (l.length:Int) 1)).bind λb1=>
 bif ((b1.toNat:Int) !=90) then(
 some ((0,0,0,0,0,0),false))
 else
 (slc l 0 (aX .i64 (l.length:Int) 1)).bind λs2=>
 (dS N N (a2,s2,(s2.length:Int),0,l,0,0,0,0,0,0)).bind λm5=>(match m5 with
 |Sum.inl (z,B,C,D,E,F,G)=>some ((B,C,D,E,F,G),z)
 |Sum.inr ((H,c,f,g,h,i,j,k))=>(ix c 0).bind λd=>
 (ix c 1).bind λe=>
 ((
 bif (H==4) then(
 agree (List.replicate 4 (
 (ix c 2).bind λx=>
 (ix c 3).bind λy=>
 some (c,f,g,h,i,j,k,4,aq .i64 (kZ .i64 100 (aq .i64 (kZ .i64 (IntKind.wrap .i64 (aX .u8 (d.toNat:Int) 48)) 10) (IntKind.wrap .i64 (aX .u8 (e.toNat:Int) 48)))) (aq .i64 (kZ .i64 (IntKind.wrap .i64 (aX .u8 (x.toNat:Int) 48)) 10) (IntKind.wrap .i64 (aX .u8 (y.toNat:Int) 48))),0,0,0,0,0):Y29)) λ(j9,I,J,K,L,M,O,P,Q,R,S,T,U,V)=>
 some (j9,I,J,K,L,M,O,P,Q,R,S,T,U,V))
 else
 ((
 bif decide (aq .i64 (aq .i64 (kZ .i64 (IntKind.wrap .i64 (aX .u8 (d.toNat:Int) 48)) 10) (IntKind.wrap .i64 (aX .u8 (e.toNat:Int) 48))) 1900<1950) then(
 some (c,f,g,h,i,j,k,2,aq .i64 (aq .i64 (aq .i64 (kZ .i64 (IntKind.wrap .i64 (aX .u8 (d.toNat:Int) 48)) 10) (IntKind.wrap .i64 (aX .u8 (e.toNat:Int) 48))) 1900) 100,0,0,0,0,0))
 else
 some (c,f,g,h,i,j,k,2,aq .i64 (aq .i64 (kZ .i64 (IntKind.wrap .i64 (aX .u8 (d.toNat:Int) 48)) 10) (IntKind.wrap .i64 (aX .u8 (e.toNat:Int) 48))) 1900,0,0,0,0,0):Y29)).bind λ(k9,W,X,Y,Z,f7,f8,f9,j3,j4,j5,j6,j7,j8)=>
 some (k9,W,X,Y,Z,f7,f8,f9,j3,j4,j5,j6,j7,j8):Y29)).bind λ(b,m6,m7,m8,m9,n6,n7,a,w,n8,n9,o7,o8,o9)=>
 (ix b (aX .i64 (aq .i64 a 2) 2)).bind λm=>
 (ix b (aX .i64 (aq .i64 a 2) 1)).bind λn=>
 (ix b (aX .i64 (aq .i64 (aq .i64 a 2) 2) 2)).bind λo=>
 (ix b (aX .i64 (aq .i64 (aq .i64 a 2) 2) 1)).bind λp=>
 (ix b (aX .i64 (aq .i64 (aq .i64 (aq .i64 a 2) 2) 2) 2)).bind λq=>
 (ix b (aX .i64 (aq .i64 (aq .i64 (aq .i64 a 2) 2) 2) 1)).bind λr=>
 (ix b (aX .i64 (aq .i64 (aq .i64 (aq .i64 (aq .i64 a 2) 2) 2) 2) 2)).bind λs=>
 (ix b (aX .i64 (aq .i64 (aq .i64 (aq .i64 (aq .i64 a 2) 2) 2) 2) 1)).bind λt=>
 (ix b (aX .i64 (aq .i64 (aq .i64 (aq .i64 (aq .i64 (aq .i64 a 2) 2) 2) 2) 2) 2)).bind λu=>
 (ix b (aX .i64 (aq .i64 (aq .i64 (aq .i64 (aq .i64 (aq .i64 a 2) 2) 2) 2) 2) 1)).bind λv=>
 (dZ (w,aq .i64 (kZ .i64 (IntKind.wrap .i64 (aX .u8 (m.toNat:Int) 48)) 10) (IntKind.wrap .i64 (aX .u8 (n.toNat:Int) 48)),aq .i64 (kZ .i64 (IntKind.wrap .i64 (aX .u8 (o.toNat:Int) 48)) 10) (IntKind.wrap .i64 (aX .u8 (p.toNat:Int) 48)),aq .i64 (kZ .i64 (IntKind.wrap .i64 (aX .u8 (q.toNat:Int) 48)) 10) (IntKind.wrap .i64 (aX .u8 (r.toNat:Int) 48)),aq .i64 (kZ .i64 (IntKind.wrap .i64 (aX .u8 (s.toNat:Int) 48)) 10) (IntKind.wrap .i64 (aX .u8 (t.toNat:Int) 48)),aq .i64 (kZ .i64 (IntKind.wrap .i64 (aX .u8 (u.toNat:Int) 48)) 10) (IntKind.wrap .i64 (aX .u8 (v.toNat:Int) 48)))).bind λA=>
 some ((w,aq .i64 (kZ .i64 (IntKind.wrap .i64 (aX .u8 (m.toNat:Int) 48)) 10) (IntKind.wrap .i64 (aX .u8 (n.toNat:Int) 48)),aq .i64 (kZ .i64 (IntKind.wrap .i64 (aX .u8 (o.toNat:Int) 48)) 10) (IntKind.wrap .i64 (aX .u8 (p.toNat:Int) 48)),aq .i64 (kZ .i64 (IntKind.wrap .i64 (aX .u8 (q.toNat:Int) 48)) 10) (IntKind.wrap .i64 (aX .u8 (r.toNat:Int) 48)),aq .i64 (kZ .i64 (IntKind.wrap .i64 (aX .u8 (s.toNat:Int) 48)) 10) (IntKind.wrap .i64 (aX .u8 (t.toNat:Int) 48)),aq .i64 (kZ .i64 (IntKind.wrap .i64 (aX .u8 (u.toNat:Int) 48)) 10) (IntKind.wrap .i64 (aX .u8 (v.toNat:Int) 48))),A))
def M6:Tr cB:=(.node (.node .nil 8522838020 [(.normal,⟨[(4,.ptr 1 0),(9,.func (.func 145) [] [.ptr 2 0,.ptr 0 0]),(10,.ptr 3 0)],[Qu,mD,Qv,mD]⟩)] .nil) 8522841092 [(.normal,⟨[(4,.ptr 1 0),(9,.func (.func 145) [] [.ptr 2 0,.ptr 0 0]),(10,.ptr 3 0)],[Qu,mD,Qv,mD]⟩)] (.node .nil 1108034466820 [(.normal,⟨[(4,.ptr 1 0),(9,.func (.func 145) [] [.ptr 2 0,.ptr 0 0]),(10,.ptr 3 0)],[Qu,mD,Qv,mD]⟩)] .nil))
def CF(L:List (KL B0)):Ctx B0:=⟨[rA],[],[],L,M6⟩
def IU:LD:=⟨127,4,0,⟨[(1,hc3),(2,.ptr 0 0),(4,.ptr 1 0),(32,hc0),(33,hc3),(34,hc3)],[Qu,mD]⟩,[(.ret,⟨[(4,.ptr 1 0),(5,ay)],[.junk,mD]⟩),(.exit 0,⟨[(1,hc3),(2,.ptr 0 0),(4,.ptr 1 0)],[Qu,mD]⟩)]⟩
def IV:KL B0:=gL (CF []) IU (dS NN) (by kernel_rfl)
def CG:KC B0:=gC 127 (CF [IV]) [hc0,hc3] (.tup [hc6,ay]) (u2 (eF NN)) (by kernel_rfl)
attribute [local irreducible] dS eF
def su:AD B0:=⟨100,(c1 [CG]),[hc0],(.tup [hc6,hc3])⟩
@[local irreducible] noncomputable def cj(N:Nat)(a:Bs):Option (Y13×Int):=syv N (su.go (a))
def sw:KC B0:=gA su (cj NN) (by kernel_rfl)
def xJ:AD B0:=⟨200,(c1 [dH,bR,sw]),[hc0],(.tup [hc6,hc4])⟩
@[local irreducible] noncomputable def fN(N:Nat)(a:Bs):Option (Y13×Y4):=syv N (xJ.go (a))
def IW:KC B0:=gA xJ (fN NN) (by kernel_rfl)
def FK:AD B0:=⟨334,(c1 [f7,pg]),[hc0],(.tup [mU,ay])⟩
@[local irreducible] noncomputable def kT(N:Nat)(a:Bs):Option (Y25×Bool):=syv N (FK.go (a))
def Pc:KC B0:=gA FK (kT NN) (by kernel_rfl)
def Jl:AD B0:=⟨333,(c1 [qC]),[hc0],(.tup [hc3,ay])⟩
@[local irreducible] noncomputable def mw(N:Nat)(a:Bs):Y26:=syv N (Jl.go (a))
def SJ:KC B0:=gA Jl (mw NN) (by kernel_rfl)
end
end Go.Fw
