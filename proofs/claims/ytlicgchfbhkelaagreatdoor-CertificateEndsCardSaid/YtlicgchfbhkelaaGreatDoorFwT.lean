/- A framework for proofs about Go programs in this model: part T. Everything is proved; no condition is added. -/
import Derived.Test.YtlicgchfbhkelaaGreatDoorFwS
set_option linter.unusedVariables false
set_option linter.unusedSimpArgs false
set_option linter.defProp false
namespace Go.Fw
open Go Go.Proofs.Tryz
noncomputable section
set_option maxRecDepth 100000
set_option maxHeartbeats 0
attribute [local irreducible] ix app slc fM toB agree jO jP jN mz gW bE bZ cg cy dV bq aZ bS aM dO eB gp eP cG aQ bK aW bu aX bO cb eV cz dt cp cq cA cB cC cD dE dI aB aC aO bP bx aN cQ fI eW aD aH bW bM dL cR cr aq aA du bp cO ba bQ ed dw bj cf eY ig gi gj dW dM bY cE bo dA cw cn bR bF bz bX br aF eO ii bg eH cm gb fj aI aK aP gd bA cJ aR aJ aT cX cF bt fo fq bh be eg cK eD ge gg dJ gy ey fu dX dK fB cu bv dq cT gP cS eZ dP dQ em dR eI dZ bL cP gY dS gk fF gZ eQ iu iD fD fv fw eR dY iV lK jQ
def FW:AD B0:=⟨178,(c1 [eC,bV,xH,OV]),[hc0],(.tup [hc4,hc5])⟩
@[local irreducible] noncomputable def jf(N:Nat)(a:Bs):Y25:=syv N (FW.go (a))
def OX:KC B0:=gA FW (jf NN) (by kernel_rfl)
def ez(N n:Nat):(Int×Bs×Int×Int×Bs×Y5)->Option ((Bool×Y5)⊕(Int×Bs×Y5)):=Nat.rec (λ_=>none) (λ_ L (g,k,h,f,l,i,j,b,c,d,e)=>
 bif decide (f<h) then(
 (ix k f).bind λa=>
 bif decide ((a.toNat:Int)<48) then(
 some (Sum.inl (false,0,0,0,0,0,0)))
 else
 bif decide ((a.toNat:Int)>57) then(
 some (Sum.inl (false,0,0,0,0,0,0)))
 else
 L (g,k,h,aw .i64 f 1,l,i,j,b,c,d,e))
 else
 some (Sum.inr (g,l,i,j,b,c,d,e))) n
def eK(N:Nat)(l:Bs)(a2:Int):Option (Y5×Bool):=
 bif ((l.length:Int) !=aw .i64 a2 11) then(
 some ((0,0,0,0,0,0),false))
 else
 (ix l (aU .i64 (l.length:Int) 1)).bind λb1=>
 bif ((b1.toNat:Int) !=90) then(
 some ((0,0,0,0,0,0),false))
 else
 (slc l 0 (aU .i64 (l.length:Int) 1)).bind λs2=>
 (ez N N (a2,s2,(s2.length:Int),0,l,0,0,0,0,0,0)).bind λm6=>(match m6 with
 |Sum.inl (z,B,C,D,E,F,G)=>some ((B,C,D,E,F,G),z)
 |Sum.inr ((H,c,f,g,h,i,j,k))=>(ix c 0).bind λd=>
 (ix c 1).bind λe=>
 ((
 bif (H==4) then(
 agree (List.replicate 4 (
 (ix c 2).bind λx=>
 (ix c 3).bind λy=>
 some (c,f,g,h,i,j,k,4,aw .i64 (lm .i64 100 (aw .i64 (lm .i64 (IntKind.wrap .i64 (aU .u8 (d.toNat:Int) 48)) 10) (IntKind.wrap .i64 (aU .u8 (e.toNat:Int) 48)))) (aw .i64 (lm .i64 (IntKind.wrap .i64 (aU .u8 (x.toNat:Int) 48)) 10) (IntKind.wrap .i64 (aU .u8 (y.toNat:Int) 48))),0,0,0,0,0):Y34)) λ(l0,I,J,K,L,M,O,P,Q,R,S,T,U,V)=>
 some (l0,I,J,K,L,M,O,P,Q,R,S,T,U,V))
 else
 ((
 bif decide (aw .i64 (aw .i64 (lm .i64 (IntKind.wrap .i64 (aU .u8 (d.toNat:Int) 48)) 10) (IntKind.wrap .i64 (aU .u8 (e.toNat:Int) 48))) 1900<1950) then(
 some (c,f,g,h,i,j,k,2,aw .i64 (aw .i64 (aw .i64 (lm .i64 (IntKind.wrap .i64 (aU .u8 (d.toNat:Int) 48)) 10) (IntKind.wrap .i64 (aU .u8 (e.toNat:Int) 48))) 1900) 100,0,0,0,0,0))
 else
 some (c,f,g,h,i,j,k,2,aw .i64 (aw .i64 (lm .i64 (IntKind.wrap .i64 (aU .u8 (d.toNat:Int) 48)) 10) (IntKind.wrap .i64 (aU .u8 (e.toNat:Int) 48))) 1900,0,0,0,0,0):Y34)).bind λ(m5,W,X,Y,Z,j3,j4,j5,j6,j7,j8,j9,k8,k9)=>
 some (m5,W,X,Y,Z,j3,j4,j5,j6,j7,j8,j9,k8,k9):Y34)).bind λ(b,m7,m8,m9,n6,n7,n8,a,w,n9,o7,o8,o9,p7)=>
 (ix b (aU .i64 (aw .i64 a 2) 2)).bind λm=>
 (ix b (aU .i64 (aw .i64 a 2) 1)).bind λn=>
 (ix b (aU .i64 (aw .i64 (aw .i64 a 2) 2) 2)).bind λo=>
 (ix b (aU .i64 (aw .i64 (aw .i64 a 2) 2) 1)).bind λp=>
 (ix b (aU .i64 (aw .i64 (aw .i64 (aw .i64 a 2) 2) 2) 2)).bind λq=>
 (ix b (aU .i64 (aw .i64 (aw .i64 (aw .i64 a 2) 2) 2) 1)).bind λr=>
 (ix b (aU .i64 (aw .i64 (aw .i64 (aw .i64 (aw .i64 a 2) 2) 2) 2) 2)).bind λs=>
 (ix b (aU .i64 (aw .i64 (aw .i64 (aw .i64 (aw .i64 a 2) 2) 2) 2) 1)).bind λt=>
 (ix b (aU .i64 (aw .i64 (aw .i64 (aw .i64 (aw .i64 (aw .i64 a 2) 2) 2) 2) 2) 2)).bind λu=>
 (ix b (aU .i64 (aw .i64 (aw .i64 (aw .i64 (aw .i64 (aw .i64 a 2) 2) 2) 2) 2) 1)).bind λv=>
 (dW (w,aw .i64 (lm .i64 (IntKind.wrap .i64 (aU .u8 (m.toNat:Int) 48)) 10) (IntKind.wrap .i64 (aU .u8 (n.toNat:Int) 48)),aw .i64 (lm .i64 (IntKind.wrap .i64 (aU .u8 (o.toNat:Int) 48)) 10) (IntKind.wrap .i64 (aU .u8 (p.toNat:Int) 48)),aw .i64 (lm .i64 (IntKind.wrap .i64 (aU .u8 (q.toNat:Int) 48)) 10) (IntKind.wrap .i64 (aU .u8 (r.toNat:Int) 48)),aw .i64 (lm .i64 (IntKind.wrap .i64 (aU .u8 (s.toNat:Int) 48)) 10) (IntKind.wrap .i64 (aU .u8 (t.toNat:Int) 48)),aw .i64 (lm .i64 (IntKind.wrap .i64 (aU .u8 (u.toNat:Int) 48)) 10) (IntKind.wrap .i64 (aU .u8 (v.toNat:Int) 48)))).bind λA=>
 some ((w,aw .i64 (lm .i64 (IntKind.wrap .i64 (aU .u8 (m.toNat:Int) 48)) 10) (IntKind.wrap .i64 (aU .u8 (n.toNat:Int) 48)),aw .i64 (lm .i64 (IntKind.wrap .i64 (aU .u8 (o.toNat:Int) 48)) 10) (IntKind.wrap .i64 (aU .u8 (p.toNat:Int) 48)),aw .i64 (lm .i64 (IntKind.wrap .i64 (aU .u8 (q.toNat:Int) 48)) 10) (IntKind.wrap .i64 (aU .u8 (r.toNat:Int) 48)),aw .i64 (lm .i64 (IntKind.wrap .i64 (aU .u8 (s.toNat:Int) 48)) 10) (IntKind.wrap .i64 (aU .u8 (t.toNat:Int) 48)),aw .i64 (lm .i64 (IntKind.wrap .i64 (aU .u8 (u.toNat:Int) 48)) 10) (IntKind.wrap .i64 (aU .u8 (v.toNat:Int) 48))),A))
def MY:Tr cI:=(.node (.node .nil 9596579844 [(.normal,⟨[(4,.ptr 1 0),(9,.func (.func 211) [] [.ptr 2 0,.ptr 0 0]),(10,.ptr 3 0)],[Qi,oW,Qj,oW]⟩)] .nil) 9596582916 [(.normal,⟨[(4,.ptr 1 0),(9,.func (.func 211) [] [.ptr 2 0,.ptr 0 0]),(10,.ptr 3 0)],[Qi,oW,Qj,oW]⟩)] (.node .nil 1109108208644 [(.normal,⟨[(4,.ptr 1 0),(9,.func (.func 211) [] [.ptr 2 0,.ptr 0 0]),(10,.ptr 3 0)],[Qi,oW,Qj,oW]⟩)] .nil))
def CT(L:List (KL B0)):Ctx B0:=⟨[rR],[],[],L,MY⟩
def IW:LD:=⟨143,4,0,⟨[(1,hc4),(2,.ptr 0 0),(4,.ptr 1 0),(32,hc0),(33,hc4),(34,hc4)],[Qi,oW]⟩,[(.ret,⟨[(4,.ptr 1 0),(5,ay)],[.junk,oW]⟩),(.exit 0,⟨[(1,hc4),(2,.ptr 0 0),(4,.ptr 1 0)],[Qi,oW]⟩)]⟩
def IX:KL B0:=gL (CT []) IW (ez NN) (by kernel_rfl)
def CU:KC B0:=gC 143 (CT [IX]) [hc0,hc4] (.tup [tD,ay]) (u2 (eK NN)) (by kernel_rfl)
attribute [local irreducible] ez eK
def sM:AD B0:=⟨125,(c1 [CU]),[hc0],(.tup [tD,hc4])⟩
@[local irreducible] noncomputable def cL(N:Nat)(a:Bs):Option (Y5×Int):=syv N (sM.go (a))
def sN:KC B0:=gA sM (cL NN) (by kernel_rfl)
def xY:AD B0:=⟨181,(c1 [eC,bV,sN]),[hc0],(.tup [tD,hc5])⟩
@[local irreducible] noncomputable def gu(N:Nat)(a:Bs):Option (Y5×Y3):=syv N (xY.go (a))
def IY:KC B0:=gA xY (gu NN) (by kernel_rfl)
def FX:AD B0:=⟨320,(c1 [eX,pC]),[hc0],(.tup [na,ay])⟩
@[local irreducible] noncomputable def mb(N:Nat)(a:Bs):Option (Y30×Bool):=syv N (FX.go (a))
def OY:KC B0:=gA FX (mb NN) (by kernel_rfl)
def Jm:AD B0:=⟨319,(c1 [qW]),[hc0],(.tup [hc4,ay])⟩
@[local irreducible] noncomputable def nO(N:Nat)(a:Bs):Y31:=syv N (Jm.go (a))
def Sy:KC B0:=gA Jm (nO NN) (by kernel_rfl)
def CV:Tr cI:=(.node (.node .nil 16978561029 [(.normal,⟨[(0,dr),(1,hc0),(4,.ptr 0 0),(5,.ptr 1 0),(6,.ptr 2 0),(9,hc4),(11,.ptr 4 0),(14,ay),(27,ic),(28,hc4),(29,hc4)],[MR,oo5,Qk,.junk,gr]⟩)] .nil) 16978563077 [(.normal,⟨[(0,dr),(1,hc0),(4,.ptr 0 0),(5,.ptr 1 0),(6,.ptr 2 0),(9,hc4),(11,.ptr 4 0),(14,ay),(27,ic),(28,hc4),(29,hc4)],[MR,oo5,Qk,.junk,gr]⟩)] (.node .nil 16978565125 [(.normal,⟨[(0,dr),(1,hc0),(4,.ptr 0 0),(5,.ptr 1 0),(6,.ptr 2 0),(9,hc4),(11,.ptr 4 0),(14,ay),(27,ic),(28,hc4),(29,hc4)],[MR,oo5,Qk,.junk,gr]⟩)] .nil))
def sO(L:List (KL B0)):Ctx B0:=⟨[bc,eC,bV,OY,eJ,FQ,Sy,ri],[],[],L,CV⟩
def zR:LD:=⟨253,7,0,⟨[(0,dr),(1,hc0),(4,.ptr 0 0),(5,.ptr 1 0),(6,.ptr 2 0),(9,hc4),(27,ic),(28,hc4),(29,hc4)],[MR,oo5,Qk,.junk]⟩,[(.ret,⟨[(4,.ptr 0 0),(5,.ptr 1 0)],[MR,oo0,.junk,.junk]⟩),(.exit 0,⟨[(4,.ptr 0 0),(5,.ptr 1 0),(6,.ptr 2 0)],[MR,oo5,Qk,.junk]⟩)]⟩
def qe:KL B0:=aL (sO []) zR (by kernel_rfl)
def oD:AD B0:=⟨253,(sO [qe]),[dr,hc0],(.tup [.agg [na,hc2,hc4,na,ay,ay,ay,ay,ay,ay],.agg [hc4,hc4]])⟩
def sP:KC B0:=oD.k (by kernel_rfl)
abbrev CW(N:Nat)(a:Bs)(a2:Bs):Option (Y30×Y1×Int×Y30×Bool×Bool×Bool×Bool×Bool×Bool×Y3):=oD.run (a,a2)
def tX:AD B0:=⟨293,(c1 []),[zn],ay⟩
def Lm:KC B0:=tX.k (by kernel_rfl)
abbrev Ln(a:Y27):Option Bool:=tX.run a
def rF:AD B0:=⟨345,(c1 [zp,eJ]),[YG],(.tup [hc0,hc4])⟩
@[local irreducible] noncomputable def ec(N:Nat)(a:Y16):Y18:=syv N (rF.go (a))
def B5:KC B0:=gA rF (ec NN) (by kernel_rfl)
def GX:Tr cI:=(.node (.node .nil 19797126145 [(.normal,⟨[(1,.ptr 0 0),(15,hc4),(47,ay)],[YI]⟩)] .nil) 19797127169 [(.normal,⟨[(1,.ptr 0 0),(15,hc4),(47,ay)],[YI]⟩)] (.node .nil 19797130241 [(.normal,⟨[(1,.ptr 0 0),(15,hc4),(57,ay)],[YI]⟩)] .nil))
def qf(L:List (KL B0)):Ctx B0:=⟨[tI,eJ,xV,kI,zp,zE,B5],[],[],L,GX⟩
def sQ:LD:=⟨295,23,0,⟨[(8,.own 1),(75,.hole (.sl Qe)),(76,hc4),(77,hc4)],[.junk,.arr .byte false false]⟩,[(.ret,⟨[(2,vN),(3,hc4)],[.junk,.junk]⟩),(.exit 1,⟨[(8,.own 1)],[.junk,.arr .byte false false]⟩)]⟩
@[local irreducible] noncomputable def dT(N n:Nat):(List Y16×Y17)->Option ((Int)⊕(Bs)):=Nat.rec (λ_=>none) (λ_ L x=>syv N (sQ.round (qf []).cxs L x)) n
def CY:KL B0:=gL (qf []) sQ (dT NN) (by kernel_rfl)
def wP:AD B0:=⟨295,(qf [CY]),[zn],(.tup [hc0,hc4])⟩
@[local irreducible] noncomputable def gz(N:Nat)(a:Y27):Y18:=syv N (wP.go (a))
def GY:KC B0:=gA wP (gz NN) (by kernel_rfl)
def xZ:AD B0:=⟨219,(c1 [Lm,CL,GY,sG,eJ,pL]),[zn],(.tup [hc0,hc4])⟩
@[local irreducible] noncomputable def gQ(N:Nat)(a:Y27):Y18:=syv N (xZ.go (a))
def IZ:KC B0:=gA xZ (gQ NN) (by kernel_rfl)
def oE(L:List (KL B0)):Ctx B0:=⟨[IZ,eX],[],[],L,.nil⟩
def qg:LD:=⟨155,3,0,⟨[(4,.own 0),(9,na),(10,hc4),(11,hc4)],[.arr tc0 false false]⟩,[(.ret,⟨[(2,vN),(3,hc4)],[.junk]⟩),(.exit 0,⟨[(4,.own 0)],[.arr tc0 false false]⟩)]⟩
@[local irreducible] noncomputable def fc(N n:Nat):(Y30×Y23)->Option ((Int)⊕(List Bs)):=Nat.rec (λ_=>none) (λ_ L x=>syv N (qg.round (oE []).cxs L x)) n
def zT:KL B0:=gL (oE []) qg (fc NN) (by kernel_rfl)
def sS:AD B0:=⟨155,(oE [zT]),[na],(.tup [hc0,hc4])⟩
@[local irreducible] noncomputable def fy(N:Nat)(a:Y30):Y18:=syv N (sS.go (a))
def CZ:KC B0:=gA sS (fy NN) (by kernel_rfl)
def vn:AD B0:=⟨322,(c1 [CZ]),[na],ay⟩
@[local irreducible] noncomputable def cY(N:Nat)(a:Y30):Option Bool:=syv N (vn.go (a))
def pD:KC B0:=gA vn (cY NN) (by kernel_rfl)
end
end Go.Fw
