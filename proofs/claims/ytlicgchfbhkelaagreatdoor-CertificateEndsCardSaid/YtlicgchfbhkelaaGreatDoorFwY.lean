/- A framework for proofs about Go programs in this model: part Y. Everything is proved; no condition is added. -/
import Derived.Test.YtlicgchfbhkelaaGreatDoorFwX
set_option linter.unusedVariables false
set_option linter.unusedSimpArgs false
set_option linter.defProp false
namespace Go.Fw
open Go Go.Proofs.Tryz
noncomputable section
set_option maxRecDepth 100000
set_option maxHeartbeats 0
attribute [local irreducible] ix app slc fM toB agree jO jP jN mz gW bE bZ cg cy dV bq aZ bS aM dO eB gp eP cG aQ bK aW bu aX bO cb eV cz dt cp cq cA cB cC cD dE dI aB aC aO bP bx aN cQ fI eW aD aH bW bM dL cR cr aq aA du bp cO ba bQ ed dw bj cf eY ig gi gj dW dM bY cE bo dA cw cn bR bF bz bX br aF eO ii bg eH cm gb fj aI aK aP gd bA cJ aR aJ aT cX cF bt fo fq bh be eg cK eD ge gg dJ gy ey fu dX dK fB cu bv dq cT gP cS eZ dP dQ em dR eI dZ bL cP gY dS gk fF gZ eQ iu iD fD fv fw eR dY iV lK jQ jf ez eK cL gu mb nO ec dT gz gQ fc fy cY jR gN gO ij fN jv ku iW iM lg lh il gv jS kh bw bJ aY kW lC gV jw jy jz jA kw gm gI gF fO fP fV pm im iF ki li iQ iX iY jp eL eN fJ kx jC mq mH iR ky iS bT iI fQ my kX ny iJ bB iT ep kY iZ fW gB kM gG lW lx iz ib
def fe(N:Nat)(a:Y9):Y18:=
 (bT N a).bind λc1=>
 bif (!c1) then(
 some ([],8))
 else
 ((
 bif decide (a.1>0) then(
 (kX N a.1).bind λl2=>
 (aD N 0 false 2 [l2]).bind λ(l3,i4)=>
 (aD N 2 true 0 [l3]).bind λ(l5,i6)=>
 (app 24 [] [l5]).bind λl7=>
 some (a.1,a.2.1,a.2.2.1.1,a.2.2.1.2,a.2.2.2.1,a.2.2.2.2.1.1,a.2.2.2.2.1.2.1,a.2.2.2.2.1.2.2.1,a.2.2.2.2.1.2.2.2.1,a.2.2.2.2.1.2.2.2.2.1,a.2.2.2.2.1.2.2.2.2.2,a.2.2.2.2.2.1.1,a.2.2.2.2.2.1.2.1,a.2.2.2.2.2.1.2.2.1,a.2.2.2.2.2.1.2.2.2.1,a.2.2.2.2.2.1.2.2.2.2.1,a.2.2.2.2.2.1.2.2.2.2.2,a.2.2.2.2.2.2.1,a.2.2.2.2.2.2.2.1.1.1,a.2.2.2.2.2.2.2.1.1.2,a.2.2.2.2.2.2.2.1.2.1,a.2.2.2.2.2.2.2.1.2.2,a.2.2.2.2.2.2.2.2.1,a.2.2.2.2.2.2.2.2.2.1.1,a.2.2.2.2.2.2.2.2.2.1.2,a.2.2.2.2.2.2.2.2.2.2.1,a.2.2.2.2.2.2.2.2.2.2.2.1.1,a.2.2.2.2.2.2.2.2.2.2.2.1.2,a.2.2.2.2.2.2.2.2.2.2.2.2,iO i4 i6,l7))
 else
 some (a.1,a.2.1,a.2.2.1.1,a.2.2.1.2,a.2.2.2.1,a.2.2.2.2.1.1,a.2.2.2.2.1.2.1,a.2.2.2.2.1.2.2.1,a.2.2.2.2.1.2.2.2.1,a.2.2.2.2.1.2.2.2.2.1,a.2.2.2.2.1.2.2.2.2.2,a.2.2.2.2.2.1.1,a.2.2.2.2.2.1.2.1,a.2.2.2.2.2.1.2.2.1,a.2.2.2.2.2.1.2.2.2.1,a.2.2.2.2.2.1.2.2.2.2.1,a.2.2.2.2.2.1.2.2.2.2.2,a.2.2.2.2.2.2.1,a.2.2.2.2.2.2.2.1.1.1,a.2.2.2.2.2.2.2.1.1.2,a.2.2.2.2.2.2.2.1.2.1,a.2.2.2.2.2.2.2.1.2.2,a.2.2.2.2.2.2.2.2.1,a.2.2.2.2.2.2.2.2.2.1.1,a.2.2.2.2.2.2.2.2.2.1.2,a.2.2.2.2.2.2.2.2.2.2.1,a.2.2.2.2.2.2.2.2.2.2.2.1.1,a.2.2.2.2.2.2.2.2.2.2.2.1.2,a.2.2.2.2.2.2.2.2.2.2.2.2,0,[]):Y52)).bind λ(i8,l9,D,w,x,h,i,j,k,l,m,n,o,p,q,r,s,y,E,z,A,t,f,B,u,F,m9,K,n6,L,x5)=>
 (aD N 0 false 2 [l9]).bind λ(x6,M)=>
 (app 24 x5 [x6]).bind λx7=>
 (iJ N (D,w)).bind λ(x8,O)=>
 (app 24 x7 [x8]).bind λx9=>
 (eY N x).bind λ(y0,P)=>
 (app 24 x9 [y0]).bind λy3=>
 (fW N (h,i,j,k,l,m) (n,o,p,q,r,s)).bind λ(y4,Q)=>
 (app 24 y3 [y4]).bind λy5=>
 (eY N y).bind λ(y7,R)=>
 (app 24 y5 [y7]).bind λy8=>
 (gG N ((E,z),A,t)).bind λ(y9,S)=>
 (app 24 y8 [y9]).bind λn7=>
 ((
 bif f then(
 (gB N (B,u)).bind λ(z6,u0)=>
 (aD N 2 false 1 [z6]).bind λ(z7,u7)=>
 (app 24 n7 [z7]).bind λz8=>
 some (i8,l9,D,w,x,h,i,j,k,l,m,n,o,p,q,r,s,y,E,z,A,t,f,B,u,F,m9,K,n6,iO (iO (iO (iO (iO (iO (iO (iO L M) O) P) Q) R) S) u0) u7,z8))
 else
 some (i8,l9,D,w,x,h,i,j,k,l,m,n,o,p,q,r,s,y,E,z,A,t,f,B,u,F,m9,K,n6,iO (iO (iO (iO (iO (iO L M) O) P) Q) R) S,n7):Y52)).bind λ(T,n8,t7,n9,o7,U,V,W,X,Y,Z,j3,j4,j5,j6,j7,j8,o8,t8,o9,p7,j9,G,p8,k8,g,C,v,p9,k9,r9)=>
 ((
 bif g then(
 (gB N (C,v)).bind λ(A0,w8)=>
 (aD N 2 false 2 [A0]).bind λ(A1,w9)=>
 (app 24 r9 [A1]).bind λA2=>
 some (T,n8,t7,n9,o7,U,V,W,X,Y,Z,j3,j4,j5,j6,j7,j8,o8,t8,o9,p7,j9,G,p8,k8,g,C,v,p9,iO (iO k9 w8) w9,A2))
 else
 some (T,n8,t7,n9,o7,U,V,W,X,Y,Z,j3,j4,j5,j6,j7,j8,o8,t8,o9,p7,j9,G,p8,k8,g,C,v,p9,k9,r9):Y52)).bind λ(D0,D1,C8,C1,C2,A5,A6,A7,A8,A9,B1,B2,B3,B4,B5,B6,B7,C3,C9,C4,C5,B8,A3,C6,B9,A4,C7,C0,d,b,e)=>
 ((
 bif decide ((d.length:Int)>0) then(
 (ib N d).bind λ(l0,H)=>
 (aD N 2 true 3 [l0]).bind λ(m5,I)=>
 (app 24 e [m5]).bind λm6=>
 some (iO (iO b H) I,m6))
 else
 some (b,e):Y51)).bind λ(c,m7)=>
 bif (c !=0) then(
 some ([],c))
 else
 (aH N m7).bind λ(m8,J)=>
 some (m8,J)
def Ab:Tr cI:=(.node (.node (.node .nil 1140855812 [(.normal,⟨[(1,.ptr 0 0),(4,.ptr 1 0),(5,.ptr 3 0)],[D7,Uz,.arr tc0 false false,.cells [.func (.func 16) [.ptr 1 0] []] false]⟩)] .nil) 1140869126 [(.normal,⟨[(4,.ptr 1 0)],[.junk,Uz,.arr tc0 false false,.junk,.junk,.junk]⟩)] .nil) 2885682181 [(.normal,⟨[],[D7,Uz,.arr tc0 false false,.cells [.func (.func 16) [.ptr 1 0] []] false,.junk]⟩)] (.node .nil 2885682182 [(.normal,⟨[],[D7,Uz,.arr tc0 false false,.cells [.func (.func 16) [.ptr 1 0] []] false,.junk,.junk]⟩)] .nil))
def Ac:KC B0:=gC 17 ⟨[nQ,I9,eJ,pE,zE,B9,Ca,ql,AW,eX],[],[],[],Ab⟩ [Uw] (.tup [hc0,hc4]) (fe NN) (by kernel_rfl)
attribute [local irreducible] fe
def dU(N:Nat)(b:Y10):Y18:=
 (iI N b).bind λc1=>
 bif (!c1) then(
 some ([],8))
 else
 (fe N b.1).bind λ(j,g)=>
 (app 24 [] [j]).bind λk=>
 (iJ N b.2.1).bind λ(l,h)=>
 (app 24 k [l]).bind λm=>
 (gB N b.2.2).bind λ(n,i)=>
 (aD N 0 false 3 [n]).bind λ(d,a)=>
 (app 24 m [d]).bind λe=>
 bif (iO (iO (iO (iO 0 g) h) i) a !=0) then(
 some ([],iO (iO (iO (iO 0 g) h) i) a))
 else
 (aH N e).bind λ(f,c)=>
 some (f,c)
def sZ:KC B0:=gC 7 (c1 [Gm,Ac,pE,ql,eJ,eX]) [MP] (.tup [hc0,hc4]) (dU NN) (by kernel_rfl)
attribute [local irreducible] dU
def uf:AD B0:=⟨55,(c1 [eC,bV,lU]),[hc0],(.tup [hc0,hc5])⟩
@[local irreducible] noncomputable def io(N:Nat)(a:Bs):Y20:=syv N (uf.go (a))
def Et:KC B0:=gA uf (io NN) (by kernel_rfl)
def wX:AD B0:=⟨64,(c1 []),[hc4,hc4],hc5⟩
@[local irreducible] noncomputable def wY(a:Int)(a2:Int):Option Y3:=syv NN (wX.go (a,a2))
def wZ:KC B0:=gA wX (u2 wY) (by kernel_rfl)
def Jc:Tr cI:=(.node .nil 1744844804 [(.normal,⟨[(2,.ptr 0 0),(3,.ptr 1 0),(8,.ptr 3 0)],[.cells [dr,vN] false,oo0,.junk,GD]⟩),(.ret,⟨[(2,.ptr 0 0),(3,.ptr 1 0)],[.cells [dr,vN] false,oo0,.junk,.junk,.junk,.junk,.junk]⟩)] .nil)
def yn:AD B0:=⟨26,⟨[bc,wZ,bV,jK,lU,mJ],[],[],[],Jc⟩,[hc0],(.tup [hc1,hc5])⟩
@[local irreducible] noncomputable def kZ(N:Nat)(a:Bs):Y29:=syv N (yn.go (a))
def rq:KC B0:=gA yn (kZ NN) (by kernel_rfl)
def yo:AD B0:=⟨124,(c1 [CU]),[hc0],(.tup [tD,hc4])⟩
@[local irreducible] noncomputable def nZ(N:Nat)(a:Bs):Option (Y5×Int):=syv N (yo.go (a))
def Jd:KC B0:=gA yo (nZ NN) (by kernel_rfl)
def JZ:Tr cI:=(.node (.node (.node .nil 6710892547 [(.normal,⟨[(2,.ptr 0 0),(3,.ptr 1 0),(4,.ptr 2 0),(5,hc4)],[oW,oo0,gr]⟩)] .nil) 6710894595 [(.normal,⟨[(2,.ptr 0 0),(3,.ptr 1 0),(4,.ptr 2 0),(5,hc4)],[oW,oo0,gr]⟩)] .nil) 6710896643 [(.normal,⟨[(2,.ptr 0 0),(3,.ptr 1 0),(4,.ptr 2 0),(5,hc4)],[oW,oo0,gr]⟩)] (.node .nil 6710898691 [(.normal,⟨[(2,.ptr 0 0),(3,.ptr 1 0)],[oW,oo0,.junk]⟩)] .nil))
def Ad:AD B0:=⟨100,⟨[eC,bV,Jd,sN],[],[],[],JZ⟩,[hc0],(.tup [tD,hc5])⟩
@[local irreducible] noncomputable def oZ(N:Nat)(a:Bs):Option (Y5×Y3):=syv N (Ad.go (a))
def J0:KC B0:=gA Ad (oZ NN) (by kernel_rfl)
def Eu:Tr cI:=(.node .nil 3892321283 [(.normal,⟨[(0,hc0),(2,.ptr 0 0),(3,.ptr 1 0),(4,.ptr 2 0)],[oW,oW,oo0]⟩)] .nil)
def ug:AD B0:=⟨58,⟨[bc,J0],[],[],[],Eu⟩,[hc0],(.tup [tD,tD,hc5])⟩
@[local irreducible] noncomputable def jj(N:Nat)(a:Bs):Option (Y5×Y5×Y3):=syv N (ug.go (a))
def Ev:KC B0:=gA ug (jj NN) (by kernel_rfl)
def uh:AD B0:=⟨60,(c1 [bc,wZ,bV,rq,nx]),[hc0],(.tup [Uu,hc5])⟩
@[local irreducible] noncomputable def jk(N:Nat)(a:Bs):Option ((Y0×Y6)×Y3):=syv N (uh.go (a))
def Ew:KC B0:=gA uh (jk NN) (by kernel_rfl)
def Je:Tr cI:=(.node .nil 6778005508 [(.normal,⟨[(0,hc0),(2,.ptr 0 0),(3,.ptr 1 0),(4,ic),(8,.ptr 3 0)],[YM,oo0,.junk,YM]⟩),(.ret,⟨[(2,.ptr 0 0),(3,.ptr 1 0)],[YM,oo0,.junk,.junk]⟩)] .nil)
def yp:AD B0:=⟨101,⟨[bc,bV,jK,ri,lU],[],[],[],Je⟩,[hc0],(.tup [hc3,hc5])⟩
@[local irreducible] noncomputable def lc(N:Nat)(a:Bs):Option (Y7×Y3):=syv N (yp.go (a))
def Jf:KC B0:=gA yp (lc NN) (by kernel_rfl)
def oF(L:List (KL B0)):Ctx B0:=⟨[bc,Jf,qk],[],[],L,.nil⟩
def qn:LD:=⟨63,6,0,⟨[(0,hc0),(3,.ptr 0 0),(6,.own 2),(20,ic),(21,hc4),(22,hc4)],[oo0,.junk,.arr tc3 false false]⟩,[(.ret,⟨[(2,vN),(3,.ptr 0 0)],[oo0,.junk,.junk]⟩),(.exit 0,⟨[(3,.ptr 0 0),(6,.own 2)],[oo0,.junk,.arr tc3 false false]⟩)]⟩
@[local irreducible] noncomputable def ff(N n:Nat):(Bs×Y22×Int×Int×Int×Int×Y8)->Option (Y3⊕(Int×Int×Y8)):=Nat.rec (λ_=>none) (λ_ L x=>syv N (qn.round (oF []).cxs L x)) n
def Ae:KL B0:=gL (oF []) qn (ff NN) (by kernel_rfl)
def ta:AD B0:=⟨63,(oF [Ae]),[hc0],(.tup [sf,hc5])⟩
@[local irreducible] noncomputable def kz(N:Nat)(a:Bs):Option (Y8×Y3):=syv N (ta.go (a))
def Db:KC B0:=gA ta (kz NN) (by kernel_rfl)
def gH(N:Nat)(a1:Bs):Option (Y9×Y3):=
 ((
 (aF N a1 0 16).bind λ(l1,v2)=>
 some (a1,l1,v2):Option (Bs×Y22×Y3))).bind λ(l3,l4,i5,i6)=>
 ((
 ((
 bif (i5 !=0) then(
 some (false,l3,l4,i5,i6,0,0,false,0,0,0))
 else
 bif ((l4.length:Int)==0) then(
 some (false,l3,l4,i5,i6,0,0,false,0,0,0))
 else
 (ix l4 0).bind λe7=>
 (bz e7 2 true 0).bind λc8=>
 bif (!c8) then(
 some (false,l3,l4,i5,i6,0,0,false,0,0,0))
 else
 ((
 bif (i5 !=0) then(
 bif (i5==0) then(
 some ([],l3,l4,1,fS (l3.length:Int) (l3.length:Int),0,0,false,0,0,0))
 else
 some ([],l3,l4,i5,i6,0,0,false,0,0,0))
 else
 bif ((l4.length:Int)==0) then(
 bif (i5==0) then(
 some ([],l3,l4,1,fS (l3.length:Int) (l3.length:Int),0,0,false,0,0,0))
 else
 some ([],l3,l4,i5,i6,0,0,false,0,0,0))
 else
 (ix l4 0).bind λe9=>
 (slc l4 1 (l4.length:Int)).bind λs10=>
 (slc l3 e9.2.2.2.1 e9.2.2.2.2.2).bind λs11=>
 some (s11,l3,s10,i5,i6,e9):Y53)).bind λ(l12,l13,l14,i15,i16,i17,i18,c19,i20,i21,i22)=>
 some (true,l13,l14,i15,i16,i17,i18,c19,i20,i21,i22):Option (Bool×Bs×Y22×Int×Int×Y21))).bind λ(c23,o,z7,z6,i27,i28,i29,c30,i31,i32,i33)=>
 bif (!c23) then(
 some (0,o,z7,z6,i27))
 else
 (slc o i32 i33).bind λs34=>
 (io N s34).bind λ(l35,v36)=>
 (fF N l35).bind λ(i37,c38)=>
 bif (v36.1 !=0) then(
 bif (z6==0) then(
 some (0,o,z7,6,fS i32 (o.length:Int)))
 else
 some (0,o,z7,z6,i27))
 else
 bif (!c38) then(
 bif (z6==0) then(
 some (0,o,z7,6,fS i32 (o.length:Int)))
 else
 some (0,o,z7,z6,i27))
 else
 bif decide (i37<1) then(
 bif (z6==0) then(
 some (0,o,z7,6,fS i32 (o.length:Int)))
 else
 some (0,o,z7,z6,i27))
 else
 bif decide (i37>2) then(
 bif (z6==0) then(
 some (0,o,z7,6,fS i32 (o.length:Int)))
 else
 some (0,o,z7,z6,i27))
 else
 some (i37,o,z7,z6,i27):Option (Int×Bs×Y22×Y3))).bind λ(i39,z8,G4,i42,i43)=>
 ((
 ((
 bif (i42 !=0) then(
 bif (i42==0) then(
 some ([],z8,G4,1,fS (z8.length:Int) (z8.length:Int),i39,0,0,false,0,0,0))
 else
 some ([],z8,G4,i42,i43,i39,0,0,false,0,0,0))
 else
 bif ((G4.length:Int)==0) then(
 bif (i42==0) then(
 some ([],z8,G4,1,fS (z8.length:Int) (z8.length:Int),i39,0,0,false,0,0,0))
 else
 some ([],z8,G4,i42,i43,i39,0,0,false,0,0,0))
 else
 (ix G4 0).bind λe44=>
 (slc G4 1 (G4.length:Int)).bind λs45=>
 (slc z8 e44.2.2.2.1 e44.2.2.2.2.2).bind λs46=>
 some (s46,z8,s45,i42,i43,i39,e44):Option (Bs×Bs×Y22×Int×Int×Int×Y21))).bind λ(l47,l48,l49,i50,i51,i52,i53,i54,c55,i56,i57,i58)=>
 bif (i50 !=0) then(
 some ([],l48,l49,i50,i51,i52))
 else
 (io N l47).bind λ(l59,v60)=>
 bif (i50==0) then(
 ((
 bif (v60.1 !=0) then(
 some (l48,l49,v60.1,fS (aw .i64 i56 v60.2) (l48.length:Int),i52))
 else
 some (l48,l49,i50,i51,i52):Option (Bs×Y22×Int×Y3))).bind λ(l61,l62,i63,i64,i65)=>
 some (l59,l61,l62,i63,i64,i65))
 else
 ((
 some (l48,l49,i50,i51,i52):Option (Bs×Y22×Int×Y3))).bind λ(l66,l67,i68,i69,i70)=>
 some (l59,l66,l67,i68,i69,i70):Option (Bs×Bs×Y22×Int×Y3))).bind λ(l71,A0,G5,i74,i75,i76)=>
 ((
 ((
 bif (i74 !=0) then(
 bif (i74==0) then(
 some ([],A0,G5,1,fS (A0.length:Int) (A0.length:Int),i76,l71,0,0,false,0,0,0))
 else
 some ([],A0,G5,i74,i75,i76,l71,0,0,false,0,0,0))
 else
 bif ((G5.length:Int)==0) then(
 bif (i74==0) then(
 some ([],A0,G5,1,fS (A0.length:Int) (A0.length:Int),i76,l71,0,0,false,0,0,0))
 else
 some ([],A0,G5,i74,i75,i76,l71,0,0,false,0,0,0))
 else
 (ix G5 0).bind λe77=>
 (slc G5 1 (G5.length:Int)).bind λs78=>
 (slc A0 e77.2.2.2.1 e77.2.2.2.2.2).bind λs79=>
 some (s79,A0,s78,i74,i75,i76,l71,e77):Option (Bs×Bs×Y22×Int×Int×Int×Bs×Y21))).bind λ(l80,l81,l82,i83,i84,i85,l86,i87,i88,c89,i90,i91,i92)=>
 bif (i83 !=0) then(
 some (l81,l82,i83,i84,i85,l86,[],[]))
 else
 (kZ N l80).bind λ(v93,v94)=>
 bif (i83==0) then(
 ((
 bif (v94.1 !=0) then(
 some (l81,l82,v94.1,fS (aw .i64 i90 v94.2) (l81.length:Int),i85,l86,v93))
 else
 some (l81,l82,i83,i84,i85,l86,v93):Option Y54)).bind λ(l95,l96,i97,i98,i99,l100,s101,l102)=>
 some (l95,l96,i97,i98,i99,l100,s101,l102))
 else
 ((
 some (l81,l82,i83,i84,i85,l86,v93):Option Y54)).bind λ(l103,l104,i105,i106,i107,l108,s109,l110)=>
 some (l103,l104,i105,i106,i107,l108,s109,l110):Option Y54)).bind λ(k,m8,A1,i114,B2,E4,G7,E5)=>
 ((
 ((
 bif (A1 !=0) then(
 bif (A1==0) then(
 some ([],k,m8,1,fS (k.length:Int) (k.length:Int),B2,E4,G7,E5,0,0,false,0,0,0))
 else
 some ([],k,m8,A1,i114,B2,E4,G7,E5,0,0,false,0,0,0))
 else
 bif ((m8.length:Int)==0) then(
 bif (A1==0) then(
 some ([],k,m8,1,fS (k.length:Int) (k.length:Int),B2,E4,G7,E5,0,0,false,0,0,0))
 else
 some ([],k,m8,A1,i114,B2,E4,G7,E5,0,0,false,0,0,0))
 else
 (ix m8 0).bind λe119=>
 (slc m8 1 (m8.length:Int)).bind λs120=>
 (slc k e119.2.2.2.1 e119.2.2.2.2.2).bind λs121=>
 some (s121,k,s120,A1,i114,B2,E4,G7,E5,e119):Option (Bs×Bs×Y22×Int×Int×Int×Bs×Bs×Bs×Y21))).bind λ(l122,E6,R7,B3,i126,H7,R8,Z8,R9,i131,i132,c133,i134,i135,i136)=>
 bif (B3 !=0) then(
 some ([],E6,R7,B3,i126,H7,R8,Z8,R9))
 else
 (gP N l122).bind λ(l137,v138)=>
 bif (B3==0) then(
 bif (v138.1 !=0) then(
 some (l137,E6,R7,v138.1,fS (aw .i64 i134 v138.2) (E6.length:Int),H7,R8,Z8,R9))
 else
 some (l137,E6,R7,B3,i126,H7,R8,Z8,R9))
 else
 some (l137,E6,R7,B3,i126,H7,R8,Z8,R9):Option (Y2×Y54))).bind λ(E7,l,m9,A2,i143,B4,E8,G8,E9)=>
 ((
 bif (A2 !=0) then(
 bif (A2==0) then(
 some ([],l,m9,1,fS (l.length:Int) (l.length:Int),B4,E8,G8,E9,E7,0,0,false,0,0,0))
 else
 some ([],l,m9,A2,i143,B4,E8,G8,E9,E7,0,0,false,0,0,0))
 else
 bif ((m9.length:Int)==0) then(
 bif (A2==0) then(
 some ([],l,m9,1,fS (l.length:Int) (l.length:Int),B4,E8,G8,E9,E7,0,0,false,0,0,0))
 else
 some ([],l,m9,A2,i143,B4,E8,G8,E9,E7,0,0,false,0,0,0))
 else
 (ix m9 0).bind λe148=>
 (slc m9 1 (m9.length:Int)).bind λs149=>
 (slc l e148.2.2.2.1 e148.2.2.2.2.2).bind λs150=>
 some (s150,l,s149,A2,i143,B4,E8,G8,E9,E7,e148):Option (Bs×Bs×Y22×Int×Int×Int×Bs×Bs×Bs×Y2×Y21))).bind λ(l151,F0,T0,B5,i155,H8,T1,Z9,T2,T3,i161,i162,c163,i164,i165,i166)=>
 ((
 bif (B5==0) then(
 (jj N l151).bind λ(a,v168,v169)=>
 bif (B5==0) then(
 bif (v169.1 !=0) then(
 some (F0,T0,v169.1,fS (aw .i64 i164 v169.2) (F0.length:Int),H8,T1,Z9,T2,T3,a.1,a.2.1,a.2.2.1,a.2.2.2.1,a.2.2.2.2.1,a.2.2.2.2.2,v168))
 else
 some (F0,T0,B5,i155,H8,T1,Z9,T2,T3,a.1,a.2.1,a.2.2.1,a.2.2.2.1,a.2.2.2.2.1,a.2.2.2.2.2,v168))
 else
 some (F0,T0,B5,i155,H8,T1,Z9,T2,T3,a.1,a.2.1,a.2.2.1,a.2.2.2.1,a.2.2.2.2.1,a.2.2.2.2.2,v168))
 else
 some (F0,T0,B5,i155,H8,T1,Z9,T2,T3,0,0,0,0,0,0,0,0,0,0,0,0):Option Y55)).bind λ(m,n6,A3,i173,B6,F1,G9,F2,F3,B7,B8,B9,C0,C1,C2,C3,C4,C5,C6,C7,C8)=>
 ((
 ((
 bif (A3 !=0) then(
 bif (A3==0) then(
 some ([],m,n6,1,fS (m.length:Int) (m.length:Int),B6,F1,G9,F2,F3,B7,B8,B9,C0,C1,C2,C3,C4,C5,C6,C7,C8,0,0,false,0,0,0))
 else
 some ([],m,n6,A3,i173,B6,F1,G9,F2,F3,B7,B8,B9,C0,C1,C2,C3,C4,C5,C6,C7,C8,0,0,false,0,0,0))
 else
 bif ((n6.length:Int)==0) then(
 bif (A3==0) then(
 some ([],m,n6,1,fS (m.length:Int) (m.length:Int),B6,F1,G9,F2,F3,B7,B8,B9,C0,C1,C2,C3,C4,C5,C6,C7,C8,0,0,false,0,0,0))
 else
 some ([],m,n6,A3,i173,B6,F1,G9,F2,F3,B7,B8,B9,C0,C1,C2,C3,C4,C5,C6,C7,C8,0,0,false,0,0,0))
 else
 (ix n6 0).bind λe191=>
 (slc n6 1 (n6.length:Int)).bind λs192=>
 (slc m e191.2.2.2.1 e191.2.2.2.2.2).bind λs193=>
 some (s193,m,s192,A3,i173,B6,F1,G9,F2,F3,B7,B8,B9,C0,C1,C2,C3,C4,C5,C6,C7,C8,e191):Option (Bs×Bs×Y22×Int×Int×Int×Bs×Bs×Bs×Y2×Int×Int×Int×Int×Int×Int×Int×Int×Int×Int×Int×Int×Y21))).bind λ(l194,F4,T4,C9,i198,H9,T5,s201,T6,T7,I0,I1,I2,I3,I4,I5,I6,I7,I8,I9,J0,J1,i216,i217,c218,i219,i220,i221)=>
 bif (C9 !=0) then(
 some ([],F4,T4,C9,i198,H9,T5,s201,T6,T7,I0,I1,I2,I3,I4,I5,I6,I7,I8,I9,J0,J1))
 else
 (gP N l194).bind λ(l222,v223)=>
 bif (C9==0) then(
 bif (v223.1 !=0) then(
 some (l222,F4,T4,v223.1,fS (aw .i64 i219 v223.2) (F4.length:Int),H9,T5,s201,T6,T7,I0,I1,I2,I3,I4,I5,I6,I7,I8,I9,J0,J1))
 else
 some (l222,F4,T4,C9,i198,H9,T5,s201,T6,T7,I0,I1,I2,I3,I4,I5,I6,I7,I8,I9,J0,J1))
 else
 some (l222,F4,T4,C9,i198,H9,T5,s201,T6,T7,I0,I1,I2,I3,I4,I5,I6,I7,I8,I9,J0,J1):Option (Y2×Y55))).bind λ(F5,n,n7,A4,i228,D0,F6,H0,F7,F8,D1,D2,D3,D4,D5,D6,D7,D8,D9,E0,E1,E2)=>
 ((
 ((
 bif (A4 !=0) then(
 bif (A4==0) then(
 some ([],n,n7,1,fS (n.length:Int) (n.length:Int),D0,F6,H0,F7,F8,D1,D2,D3,D4,D5,D6,D7,D8,D9,E0,E1,E2,F5,0,0,false,0,0,0))
 else
 some ([],n,n7,A4,i228,D0,F6,H0,F7,F8,D1,D2,D3,D4,D5,D6,D7,D8,D9,E0,E1,E2,F5,0,0,false,0,0,0))
 else
 bif ((n7.length:Int)==0) then(
 bif (A4==0) then(
 some ([],n,n7,1,fS (n.length:Int) (n.length:Int),D0,F6,H0,F7,F8,D1,D2,D3,D4,D5,D6,D7,D8,D9,E0,E1,E2,F5,0,0,false,0,0,0))
 else
 some ([],n,n7,A4,i228,D0,F6,H0,F7,F8,D1,D2,D3,D4,D5,D6,D7,D8,D9,E0,E1,E2,F5,0,0,false,0,0,0))
 else
 (ix n7 0).bind λe246=>
 (slc n7 1 (n7.length:Int)).bind λs247=>
 (slc n e246.2.2.2.1 e246.2.2.2.2.2).bind λs248=>
 some (s248,n,s247,A4,i228,D0,F6,H0,F7,F8,D1,D2,D3,D4,D5,D6,D7,D8,D9,E0,E1,E2,F5,e246):Option (Bs×Bs×Y22×Int×Int×Int×Bs×Bs×Bs×Y2×Int×Int×Int×Int×Int×Int×Int×Int×Int×Int×Int×Int×Y2×Y21))).bind λ(l249,F9,T8,E3,i253,J2,T9,s256,U0,U1,J3,J4,J5,J6,J7,J8,J9,K0,K1,K3,K4,K5,U2,i272,i273,c274,i275,i276,i277)=>
 bif (E3 !=0) then(
 some (F9,T8,E3,i253,J2,T9,s256,U0,U1,J3,J4,J5,J6,J7,J8,J9,K0,K1,K3,K4,K5,U2,[],[],[],0))
 else
 (jk N l249).bind λ(p,v279)=>
 bif (E3==0) then(
 ((
 bif (v279.1 !=0) then(
 some (F9,T8,v279.1,fS (aw .i64 i275 v279.2) (F9.length:Int),J2,T9,s256,U0,U1,J3,J4,J5,J6,J7,J8,J9,K0,K1,K3,K4,K5,U2,p.1.1,p.1.2,p.2))
 else
 some (F9,T8,E3,i253,J2,T9,s256,U0,U1,J3,J4,J5,J6,J7,J8,J9,K0,K1,K3,K4,K5,U2,p.1.1,p.1.2,p.2):Y56)).bind λ(l280,l281,i282,i283,i284,l285,s286,l287,l288,i289,i290,i291,i292,i293,i294,i295,i296,i297,i298,i299,i300,l301,s302,l303,l304,i305)=>
 some (l280,l281,i282,i283,i284,l285,s286,l287,l288,i289,i290,i291,i292,i293,i294,i295,i296,i297,i298,i299,i300,l301,s302,l303,l304,i305))
 else
 ((
 some (F9,T8,E3,i253,J2,T9,s256,U0,U1,J3,J4,J5,J6,J7,J8,J9,K0,K1,K3,K4,K5,U2,p.1.1,p.1.2,p.2):Y56)).bind λ(l306,l307,i308,i309,i310,l311,s312,l313,l314,i315,i316,i317,i318,i319,i320,i321,i322,i323,i324,i325,i326,l327,s328,l329,l330,i331)=>
 some (l306,l307,i308,i309,i310,l311,s312,l313,l314,i315,i316,i317,i318,i319,i320,i321,i322,i323,i324,i325,i326,l327,s328,l329,l330,i331):Y56)).bind λ(b,c,h,A5,t,n8,y3,n9,o7,u,v,w,x,y,z,A,B,C,D,E,F,o8,y4,o9,p7,G)=>
 ((
 ((
 bif (h !=0) then(
 some (false,b,c,h,A5,t,n8,y3,n9,o7,u,v,w,x,y,z,A,B,C,D,E,F,o8,y4,o9,p7,G,0,0,false,0,0,0))
 else
 bif ((c.length:Int)==0) then(
 some (false,b,c,h,A5,t,n8,y3,n9,o7,u,v,w,x,y,z,A,B,C,D,E,F,o8,y4,o9,p7,G,0,0,false,0,0,0))
 else
 (ix c 0).bind λe358=>
 (bz e358 2 false 1).bind λc359=>
 bif (!c359) then(
 some (false,b,c,h,A5,t,n8,y3,n9,o7,u,v,w,x,y,z,A,B,C,D,E,F,o8,y4,o9,p7,G,0,0,false,0,0,0))
 else
 ((
 bif (h !=0) then(
 bif (h==0) then(
 some ([],b,c,1,fS (b.length:Int) (b.length:Int),t,n8,y3,n9,o7,u,v,w,x,y,z,A,B,C,D,E,F,o8,y4,o9,p7,G,0,0,false,0,0,0))
 else
 some ([],b,c,h,A5,t,n8,y3,n9,o7,u,v,w,x,y,z,A,B,C,D,E,F,o8,y4,o9,p7,G,0,0,false,0,0,0))
 else
 bif ((c.length:Int)==0) then(
 bif (h==0) then(
 some ([],b,c,1,fS (b.length:Int) (b.length:Int),t,n8,y3,n9,o7,u,v,w,x,y,z,A,B,C,D,E,F,o8,y4,o9,p7,G,0,0,false,0,0,0))
 else
 some ([],b,c,h,A5,t,n8,y3,n9,o7,u,v,w,x,y,z,A,B,C,D,E,F,o8,y4,o9,p7,G,0,0,false,0,0,0))
 else
 (ix c 0).bind λe360=>
 (slc c 1 (c.length:Int)).bind λs361=>
 (slc b e360.2.2.2.1 e360.2.2.2.2.2).bind λs362=>
 some (s362,b,s361,h,A5,t,n8,y3,n9,o7,u,v,w,x,y,z,A,B,C,D,E,F,o8,y4,o9,p7,G,e360):Option (Bs×Y57))).bind λ(l363,l364,l365,i366,i367,i368,l369,s370,l371,l372,i373,i374,i375,i376,i377,i378,i379,i380,i381,i382,i383,i384,l385,s386,l387,l388,i389,i390,i391,c392,i393,i394,i395)=>
 some (true,l364,l365,i366,i367,i368,l369,s370,l371,l372,i373,i374,i375,i376,i377,i378,i379,i380,i381,i382,i383,i384,l385,s386,l387,l388,i389,i390,i391,c392,i393,i394,i395):Option (Bool×Y57))).bind λ(c396,A8,U3,K6,i400,K7,U4,s403,U5,U6,K8,K9,L0,L5,L6,L7,L8,L9,M0,M2,M3,M4,U7,s419,U8,U9,M5,i423,i424,c425,i426,i427,i428)=>
 bif (!c396) then(
 some (false,A8,U3,K6,i400,K7,U4,s403,U5,U6,K8,K9,L0,L5,L6,L7,L8,L9,M0,M2,M3,M4,U7,s419,U8,U9,M5,[],0))
 else
 (slc A8 i427 i428).bind λs429=>
 (bt s429).bind λ(v430,i431)=>
 bif (K6==0) then(
 ((
 bif (i431 !=0) then(
 some (A8,U3,i431,fS i427 (A8.length:Int),K7,U4,s403,U5,U6,K8,K9,L0,L5,L6,L7,L8,L9,M0,M2,M3,M4,U7,s419,U8,U9,M5,v430))
 else
 some (A8,U3,K6,i400,K7,U4,s403,U5,U6,K8,K9,L0,L5,L6,L7,L8,L9,M0,M2,M3,M4,U7,s419,U8,U9,M5,v430):Option Y58)).bind λ(l432,l433,i434,i435,i436,l437,s438,l439,l440,i441,i442,i443,i444,i445,i446,i447,i448,i449,i450,i451,i452,l453,s454,l455,l456,i457,l458,i459)=>
 some (true,l432,l433,i434,i435,i436,l437,s438,l439,l440,i441,i442,i443,i444,i445,i446,i447,i448,i449,i450,i451,i452,l453,s454,l455,l456,i457,l458,i459))
 else
 ((
 some (A8,U3,K6,i400,K7,U4,s403,U5,U6,K8,K9,L0,L5,L6,L7,L8,L9,M0,M2,M3,M4,U7,s419,U8,U9,M5,v430):Option Y58)).bind λ(l460,l461,i462,i463,i464,l465,s466,l467,l468,i469,i470,i471,i472,i473,i474,i475,i476,i477,i478,i479,i480,l481,s482,l483,l484,i485,l486,i487)=>
 some (true,l460,l461,i462,i463,i464,l465,s466,l467,l468,i469,i470,i471,i472,i473,i474,i475,i476,i477,i478,i479,i480,l481,s482,l483,l484,i485,l486,i487):Option (Bool×Y58))).bind λ(q,d,e,i,A6,H,p8,y5,p9,r9,I,J,K,L,M,O,P,Q,R,S,T,U,t7,y7,t8,u0,V,u7,W)=>
 ((
 ((
 bif (i !=0) then(
 some (false,d,e,i,A6,H,p8,y5,p9,r9,I,J,K,L,M,O,P,Q,R,S,T,U,t7,y7,t8,u0,V,q,u7,W,0,0,false,0,0,0))
 else
 bif ((e.length:Int)==0) then(
 some (false,d,e,i,A6,H,p8,y5,p9,r9,I,J,K,L,M,O,P,Q,R,S,T,U,t7,y7,t8,u0,V,q,u7,W,0,0,false,0,0,0))
 else
 (ix e 0).bind λe517=>
 (bz e517 2 false 2).bind λc518=>
 bif (!c518) then(
 some (false,d,e,i,A6,H,p8,y5,p9,r9,I,J,K,L,M,O,P,Q,R,S,T,U,t7,y7,t8,u0,V,q,u7,W,0,0,false,0,0,0))
 else
 ((
 bif (i !=0) then(
 bif (i==0) then(
 some ([],d,e,1,fS (d.length:Int) (d.length:Int),H,p8,y5,p9,r9,I,J,K,L,M,O,P,Q,R,S,T,U,t7,y7,t8,u0,V,q,u7,W,0,0,false,0,0,0))
 else
 some ([],d,e,i,A6,H,p8,y5,p9,r9,I,J,K,L,M,O,P,Q,R,S,T,U,t7,y7,t8,u0,V,q,u7,W,0,0,false,0,0,0))
 else
 bif ((e.length:Int)==0) then(
 bif (i==0) then(
 some ([],d,e,1,fS (d.length:Int) (d.length:Int),H,p8,y5,p9,r9,I,J,K,L,M,O,P,Q,R,S,T,U,t7,y7,t8,u0,V,q,u7,W,0,0,false,0,0,0))
 else
 some ([],d,e,i,A6,H,p8,y5,p9,r9,I,J,K,L,M,O,P,Q,R,S,T,U,t7,y7,t8,u0,V,q,u7,W,0,0,false,0,0,0))
 else
 (ix e 0).bind λe519=>
 (slc e 1 (e.length:Int)).bind λs520=>
 (slc d e519.2.2.2.1 e519.2.2.2.2.2).bind λs521=>
 some (s521,d,s520,i,A6,H,p8,y5,p9,r9,I,J,K,L,M,O,P,Q,R,S,T,U,t7,y7,t8,u0,V,q,u7,W,e519):Option (Bs×Y60))).bind λ(l522,l523,l524,i525,i526,i527,l528,s529,l530,l531,i532,i533,i534,i535,i536,i537,i538,i539,i540,i541,i542,i543,l544,s545,l546,l547,i548,c549,l550,i551,i552,i553,c554,i555,i556,i557)=>
 some (true,l523,l524,i525,i526,i527,l528,s529,l530,l531,i532,i533,i534,i535,i536,i537,i538,i539,i540,i541,i542,i543,l544,s545,l546,l547,i548,c549,l550,i551,i552,i553,c554,i555,i556,i557):Option (Bool×Y60))).bind λ(c558,A9,V0,M6,i562,M7,V1,s565,V2,V3,M8,M9,N0,N1,N2,N3,N4,N5,N6,N7,N8,N9,V4,s581,V5,V6,O0,H2,V7,O1,i588,i589,c590,i591,i592,i593)=>
 bif (!c558) then(
 some (false,A9,V0,M6,i562,M7,V1,s565,V2,V3,M8,M9,N0,N1,N2,N3,N4,N5,N6,N7,N8,N9,V4,s581,V5,V6,O0,H2,V7,O1,[],0))
 else
 (slc A9 i592 i593).bind λs594=>
 (bt s594).bind λ(v595,i596)=>
 bif (M6==0) then(
 ((
 bif (i596 !=0) then(
 some (A9,V0,i596,fS i592 (A9.length:Int),M7,V1,s565,V2,V3,M8,M9,N0,N1,N2,N3,N4,N5,N6,N7,N8,N9,V4,s581,V5,V6,O0,H2,V7,O1,v595))
 else
 some (A9,V0,M6,i562,M7,V1,s565,V2,V3,M8,M9,N0,N1,N2,N3,N4,N5,N6,N7,N8,N9,V4,s581,V5,V6,O0,H2,V7,O1,v595):Option Y61)).bind λ(l597,l598,i599,i600,i601,l602,s603,l604,l605,i606,i607,i608,i609,i610,i611,i612,i613,i614,i615,i616,i617,l618,s619,l620,l621,i622,c623,l624,i625,l626,i627)=>
 some (true,l597,l598,i599,i600,i601,l602,s603,l604,l605,i606,i607,i608,i609,i610,i611,i612,i613,i614,i615,i616,i617,l618,s619,l620,l621,i622,c623,l624,i625,l626,i627))
 else
 ((
 some (A9,V0,M6,i562,M7,V1,s565,V2,V3,M8,M9,N0,N1,N2,N3,N4,N5,N6,N7,N8,N9,V4,s581,V5,V6,O0,H2,V7,O1,v595):Option Y61)).bind λ(l628,l629,i630,i631,i632,l633,s634,l635,l636,i637,i638,i639,i640,i641,i642,i643,i644,i645,i646,i647,i648,l649,s650,l651,l652,i653,c654,l655,i656,l657,i658)=>
 some (true,l628,l629,i630,i631,i632,l633,s634,l635,l636,i637,i638,i639,i640,i641,i642,i643,i644,i645,i646,i647,i648,l649,s650,l651,l652,i653,c654,l655,i656,l657,i658):Option (Bool×Y61))).bind λ(r,f,g,j,A7,X,w8,y8,w9,x5,Y,Z,j3,j4,j5,j6,j7,j8,j9,k8,k9,l0,x6,y9,x7,x8,m5,s,x9,m6,y0,m7)=>
 ((
 bif (j !=0) then(
 some (false,f,g,j,A7,X,w8,y8,w9,x5,Y,Z,j3,j4,j5,j6,j7,j8,j9,k8,k9,l0,x6,y9,x7,x8,m5,s,x9,m6,r,y0,m7,0,0,false,0,0,0))
 else
 bif ((g.length:Int)==0) then(
 some (false,f,g,j,A7,X,w8,y8,w9,x5,Y,Z,j3,j4,j5,j6,j7,j8,j9,k8,k9,l0,x6,y9,x7,x8,m5,s,x9,m6,r,y0,m7,0,0,false,0,0,0))
 else
 (ix g 0).bind λe691=>
 (bz e691 2 true 3).bind λc692=>
 bif (!c692) then(
 some (false,f,g,j,A7,X,w8,y8,w9,x5,Y,Z,j3,j4,j5,j6,j7,j8,j9,k8,k9,l0,x6,y9,x7,x8,m5,s,x9,m6,r,y0,m7,0,0,false,0,0,0))
 else
 ((
 bif (j !=0) then(
 bif (j==0) then(
 some ([],f,g,1,fS (f.length:Int) (f.length:Int),X,w8,y8,w9,x5,Y,Z,j3,j4,j5,j6,j7,j8,j9,k8,k9,l0,x6,y9,x7,x8,m5,s,x9,m6,r,y0,m7,0,0,false,0,0,0))
 else
 some ([],f,g,j,A7,X,w8,y8,w9,x5,Y,Z,j3,j4,j5,j6,j7,j8,j9,k8,k9,l0,x6,y9,x7,x8,m5,s,x9,m6,r,y0,m7,0,0,false,0,0,0))
 else
 bif ((g.length:Int)==0) then(
 bif (j==0) then(
 some ([],f,g,1,fS (f.length:Int) (f.length:Int),X,w8,y8,w9,x5,Y,Z,j3,j4,j5,j6,j7,j8,j9,k8,k9,l0,x6,y9,x7,x8,m5,s,x9,m6,r,y0,m7,0,0,false,0,0,0))
 else
 some ([],f,g,j,A7,X,w8,y8,w9,x5,Y,Z,j3,j4,j5,j6,j7,j8,j9,k8,k9,l0,x6,y9,x7,x8,m5,s,x9,m6,r,y0,m7,0,0,false,0,0,0))
 else
 (ix g 0).bind λe693=>
 (slc g 1 (g.length:Int)).bind λs694=>
 (slc f e693.2.2.2.1 e693.2.2.2.2.2).bind λs695=>
 some (s695,f,s694,j,A7,X,w8,y8,w9,x5,Y,Z,j3,j4,j5,j6,j7,j8,j9,k8,k9,l0,x6,y9,x7,x8,m5,s,x9,m6,r,y0,m7,e693):Option (Bs×Y62))).bind λ(l696,l697,l698,i699,i700,i701,l702,s703,l704,l705,i706,i707,i708,i709,i710,i711,i712,i713,i714,i715,i716,i717,l718,s719,l720,l721,i722,c723,l724,i725,c726,l727,i728,i729,i730,c731,i732,i733,i734)=>
 some (true,l697,l698,i699,i700,i701,l702,s703,l704,l705,i706,i707,i708,i709,i710,i711,i712,i713,i714,i715,i716,i717,l718,s719,l720,l721,i722,c723,l724,i725,c726,l727,i728,i729,i730,c731,i732,i733,i734):Option (Bool×Y62))).bind λ(c735,B1,V8,O2,i739,O3,V9,s742,X0,X1,O4,O5,O6,O7,O8,O9,P0,P1,P2,P3,P4,P5,X2,s758,X3,X4,P6,H3,X5,P7,H4,X6,P8,i768,i769,c770,i771,i772,i773)=>
 ((
 bif c735 then(
 (slc B1 i772 i773).bind λs774=>
 (kz N s774).bind λ(l775,v776)=>
 bif (O2==0) then(
 bif (v776.1 !=0) then(
 some (B1,V8,v776.1,fS (aw .i64 i772 v776.2) (B1.length:Int),O3,V9,s742,X0,X1,O4,O5,O6,O7,O8,O9,P0,P1,P2,P3,P4,P5,X2,s758,X3,X4,P6,H3,X5,P7,H4,X6,P8,l775))
 else
 some (B1,V8,O2,i739,O3,V9,s742,X0,X1,O4,O5,O6,O7,O8,O9,P0,P1,P2,P3,P4,P5,X2,s758,X3,X4,P6,H3,X5,P7,H4,X6,P8,l775))
 else
 some (B1,V8,O2,i739,O3,V9,s742,X0,X1,O4,O5,O6,O7,O8,O9,P0,P1,P2,P3,P4,P5,X2,s758,X3,X4,P6,H3,X5,P7,H4,X6,P8,l775))
 else
 some (B1,V8,O2,i739,O3,V9,s742,X0,X1,O4,O5,O6,O7,O8,O9,P0,P1,P2,P3,P4,P5,X2,s758,X3,X4,P6,H3,X5,P7,H4,X6,P8,[]):Y64)).bind λ(X7,G6,i779,i780,P9,X8,s783,X9,Z0,Q0,Q1,Q2,Q3,Q4,Q5,Q6,Q7,Q8,Q9,R0,R3,Z1,s799,Z2,Z3,R4,H5,Z4,R5,H6,Z5,R6,Z6)=>
 (bT N (P9,X8,(s783,X9),Z0,(Q0,Q1,Q2,Q3,Q4,Q5),(Q6,Q7,Q8,Q9,R0,R3),Z1,((s799,Z2),Z3,R4),H5,(Z4,R5),H6,(Z5,R6),Z6)).bind λc810=>
 ((
 ((
 bif decide ((G6.length:Int)>0) then(
 (ix G6 0).bind λe811=>
 bif (i779==0) then(
 some (c810,X7,G6,2,fS e811.2.2.2.1 (X7.length:Int),P9,X8,s783,X9,Z0,Q0,Q1,Q2,Q3,Q4,Q5,Q6,Q7,Q8,Q9,R0,R3,Z1,s799,Z2,Z3,R4,H5,Z4,R5,H6,Z5,R6,Z6))
 else
 some (c810,X7,G6,i779,i780,P9,X8,s783,X9,Z0,Q0,Q1,Q2,Q3,Q4,Q5,Q6,Q7,Q8,Q9,R0,R3,Z1,s799,Z2,Z3,R4,H5,Z4,R5,H6,Z5,R6,Z6))
 else
 some (c810,X7,G6,i779,i780,P9,X8,s783,X9,Z0,Q0,Q1,Q2,Q3,Q4,Q5,Q6,Q7,Q8,Q9,R0,R3,Z1,s799,Z2,Z3,R4,H5,Z4,R5,H6,Z5,R6,Z6):Option (Bool×Y63))).bind λ(c812,Z7,l814,i815,i816,i817,l818,s819,l820,l821,i822,i823,i824,i825,i826,i827,i828,i829,i830,i831,i832,i833,l834,s835,l836,l837,i838,c839,l840,i841,c842,l843,i844,l845)=>
 ((
 bif (!c812) then(
 bif (i815==0) then(
 some (Z7,l814,6,fS 0 (Z7.length:Int),i817,l818,s819,l820,l821,i822,i823,i824,i825,i826,i827,i828,i829,i830,i831,i832,i833,l834,s835,l836,l837,i838,c839,l840,i841,c842,l843,i844,l845))
 else
 some (Z7,l814,i815,i816,i817,l818,s819,l820,l821,i822,i823,i824,i825,i826,i827,i828,i829,i830,i831,i832,i833,l834,s835,l836,l837,i838,c839,l840,i841,c842,l843,i844,l845))
 else
 some (Z7,l814,i815,i816,i817,l818,s819,l820,l821,i822,i823,i824,i825,i826,i827,i828,i829,i830,i831,i832,i833,l834,s835,l836,l837,i838,c839,l840,i841,c842,l843,i844,l845):Y64)).bind λ(l846,l847,i848,i849,i850,l851,s852,l853,l854,i855,i856,i857,i858,i859,i860,i861,i862,i863,i864,i865,i866,l867,s868,l869,l870,i871,c872,l873,i874,c875,l876,i877,l878)=>
 some (i850,l851,s852,l853,l854,i855,i856,i857,i858,i859,i860,i861,i862,i863,i864,i865,i866,l867,s868,l869,l870,i871,c872,l873,i874,c875,l876,i877,l878,i848,i849):Option (Int×Bs×Bs×Bs×Y2×Int×Int×Int×Int×Int×Int×Int×Int×Int×Int×Int×Int×Y2×Bs×Bs×Bs×Int×Bool×Bs×Int×Bool×Bs×Int×Y8×Y3))).bind λ(i879,l880,s881,l882,l883,i884,i885,i886,i887,i888,i889,i890,i891,i892,i893,i894,i895,l896,s897,l898,l899,i900,c901,l902,i903,c904,l905,i906,l907,i908,i909)=>
 bif (i908 !=0) then(
 some ((0,[],([],[]),[],(0,0,0,0,0,0),(0,0,0,0,0,0),[],(([],[]),[],0),false,([],0),false,([],0),[]),i908,i909))
 else
 some ((i879,l880,(s881,l882),l883,(i884,i885,i886,i887,i888,i889),(i890,i891,i892,i893,i894,i895),l896,((s897,l898),l899,i900),c901,(l902,i903),c904,(l905,i906),l907),0,0)
def Cb:Tr cI:=(.node (.node (.node (.node (.node (.node .nil 1610620945 [(.normal,⟨[(2,.ptr 0 0),(3,.ptr 1 0),(4,.ptr 3 0),(5,.ptr 4 0)],[ie,oo5,.junk,gE,YN,.junk,.junk,.junk,.junk,.junk,.junk,.junk,.junk,.junk,.junk,.junk,.junk]⟩)] .nil) 1610630175 [(.normal,⟨[(2,.ptr 0 0),(3,.ptr 1 0),(4,.ptr 3 0),(5,.ptr 4 0)],[ie,oo5,.junk,gE,D7,.junk,.junk,.junk,.junk,.junk,.junk,.junk,.junk,.junk,.junk,.junk,.junk,.junk,.junk,.junk,.junk,.junk,.junk,.junk,.junk,.junk,.junk,.junk,.junk,.junk,.junk]⟩)] .nil) 1946158112 [(.normal,⟨[(0,.ptr 3 0),(1,ay),(4,.ptr 31 0)],[ie,oo5,.junk,gE,D7,.junk,.junk,.junk,.junk,.junk,.junk,.junk,.junk,.junk,.junk,.junk,.junk,.junk,.junk,.junk,.junk,.junk,.junk,.junk,.junk,.junk,.junk,.junk,.junk,.junk,.junk,oo5]⟩)] (.node .nil 1946160160 [(.normal,⟨[(0,.ptr 3 0),(4,.ptr 31 0)],[ie,oo5,.junk,gE,D7,.junk,.junk,.junk,.junk,.junk,.junk,.junk,.junk,.junk,.junk,.junk,.junk,.junk,.junk,.junk,.junk,.junk,.junk,.junk,.junk,.junk,.junk,.junk,.junk,.junk,.junk,oo5]⟩)] .nil)) 3489660938 [(.normal,⟨[],[ie,oo5,.junk,gE,YO,.junk,.junk,.junk,.junk,.junk]⟩)] (.node (.node .nil 3489660943 [(.normal,⟨[],[ie,oo5,.junk,gE,YP,.junk,.junk,.junk,.junk,MS,.junk,.junk,.junk,GD,.junk]⟩)] .nil) 3489660953 [(.normal,⟨[],[ie,oo5,.junk,gE,YQ,.junk,.junk,.junk,.junk,.junk,.junk,.junk,.junk,.junk,.junk,.junk,.junk,.junk,.junk,YR,.junk,.junk,.junk,adR,.junk]⟩)] (.node .nil 3489660955 [(.normal,⟨[],[ie,oo5,.junk,gE,UA,.junk,.junk,.junk,.junk,.junk,.junk,.junk,.junk,.junk,.junk,.junk,.junk,.junk,.junk,.junk,.junk,.junk,.junk,GE,.junk,.junk,oo7]⟩)] .nil))) 3489660958 [(.normal,⟨[],[ie,oo5,.junk,gE,UB,.junk,.junk,.junk,.junk,.junk,.junk,.junk,.junk,.junk,.junk,.junk,.junk,.junk,.junk,.junk,.junk,.junk,.junk,.junk,.junk,.junk,GE,.junk,.junk,oo7]⟩)] (.node (.node (.node .nil 2199023345666 [(.ret,⟨[(2,.ptr 3 0)],[ie,oo5,.junk,gE]⟩)] .nil) 2199023357961 [(.ret,⟨[(4,.ptr 9 0)],[ie,oo5,.junk,gE,YP,.junk,.junk,.junk,.junk,GD,.junk,.junk,.junk]⟩)] (.node .nil 2199023374367 [(.ret,⟨[(4,.ptr 31 0)],[ie,oo5,.junk,.junk,D7,.junk,.junk,.junk,.junk,.junk,.junk,.junk,.junk,.junk,.junk,.junk,.junk,.junk,.junk,.junk,.junk,.junk,.junk,.junk,.junk,.junk,.junk,.junk,.junk,.junk,.junk,oo0]⟩)] .nil)) 2199023464454 [(.ret,⟨[(2,.ptr 6 0),(3,hc0)],[ie,oo5,.junk,gE,ie,UC,gr]⟩)] (.node (.node .nil 2199023464455 [(.ret,⟨[(2,.ptr 7 0),(3,hc0)],[ie,oo5,.junk,gE,YO,.junk,.junk,gr]⟩)] .nil) 2199023464459 [(.ret,⟨[(2,.ptr 11 0),(3,hc0)],[ie,oo5,.junk,gE,YP,.junk,.junk,.junk,.junk,MS,MS,gr]⟩)] (.node .nil 2199023464461 [(.ret,⟨[(2,.ptr 13 0),(3,hc0)],[ie,oo5,.junk,gE,adS,.junk,.junk,.junk,.junk,.junk,.junk,.junk,.junk,gr]⟩)] .nil)))) 2199023464463 [(.ret,⟨[(2,.ptr 15 0),(3,hc0)],[ie,oo5,.junk,gE,.cells [hc4,hc0,dr,hc0,lj,vZ,vZ,vZ,vZ,vZ,vZ,vZ,vZ,vZ,vZ,vZ,vZ,vN,vE,vN,vN,vZ,vF,vN,vZ,vF,vN,vZ,vN] false,.junk,.junk,.junk,.junk,.junk,.junk,.junk,.junk,.junk,.junk,gr]⟩)] (.node (.node (.node (.node (.node .nil 2199023464465 [(.ret,⟨[(2,.ptr 17 0),(3,hc0)],[ie,oo5,.junk,gE,YN,.junk,.junk,.junk,.junk,.junk,.junk,.junk,.junk,.junk,.junk,.junk,.junk,gr]⟩)] .nil) 2199023464469 [(.ret,⟨[(2,.ptr 21 0),(3,hc0)],[ie,oo5,.junk,gE,YQ,.junk,.junk,.junk,.junk,.junk,.junk,.junk,.junk,.junk,.junk,.junk,.junk,.junk,.junk,YR,YR,gr]⟩)] .nil) 2199023464473 [(.ret,⟨[(2,.ptr 25 0),(3,hc0)],[ie,oo5,.junk,gE,UA,.junk,.junk,.junk,.junk,.junk,.junk,.junk,.junk,.junk,.junk,.junk,.junk,.junk,.junk,.junk,.junk,.junk,.junk,GE,UC,gr]⟩)] (.node .nil 2199023464476 [(.ret,⟨[(2,.ptr 28 0),(3,hc0)],[ie,oo5,.junk,gE,UB,.junk,.junk,.junk,.junk,.junk,.junk,.junk,.junk,.junk,.junk,.junk,.junk,.junk,.junk,.junk,.junk,.junk,.junk,.junk,.junk,.junk,GE,UC,gr]⟩)] .nil)) 2199023464478 [(.ret,⟨[(2,.ptr 30 0),(3,hc0)],[ie,oo5,.junk,gE,adT,.junk,.junk,.junk,.junk,.junk,.junk,.junk,.junk,.junk,.junk,.junk,.junk,.junk,.junk,.junk,.junk,.junk,.junk,.junk,.junk,.junk,.junk,.junk,.junk,UC,gr]⟩)] (.node (.node .nil 2199023472645 [(.ret,⟨[(2,hc4)],[ie,oo5,.junk,gE,ie,.junk,.junk]⟩)] .nil) 2199023476743 [(.ret,⟨[(4,hc0)],[ie,oo5,.junk,gE,YO,.junk,.junk,.junk,.junk]⟩)] (.node .nil 2199023484941 [(.ret,⟨[(4,lj)],[ie,oo5,.junk,gE,adS,.junk,.junk,.junk,.junk,.junk,.junk,.junk,.junk,.junk,.junk]⟩)] .nil))) 2199023484945 [(.ret,⟨[(4,lj)],[ie,oo5,.junk,gE,YN,.junk,.junk,.junk,.junk,.junk,.junk,.junk,.junk,.junk,.junk,.junk,.junk,.junk,.junk]⟩)] (.node (.node (.node .nil 2199023497235 [(.ret,⟨[(4,.ptr 19 0)],[ie,oo5,.junk,gE,YQ,.junk,.junk,.junk,.junk,.junk,.junk,.junk,.junk,.junk,.junk,.junk,.junk,.junk,.junk,adR,.junk,.junk,.junk]⟩)] .nil) 2199023505431 [(.ret,⟨[(4,ay),(5,.ptr 23 0)],[ie,oo5,.junk,gE,UA,.junk,.junk,.junk,.junk,.junk,.junk,.junk,.junk,.junk,.junk,.junk,.junk,.junk,.junk,.junk,.junk,.junk,.junk,oo7,.junk,.junk]⟩)] (.node .nil 2199023505434 [(.ret,⟨[(4,ay),(5,.ptr 26 0)],[ie,oo5,.junk,gE,UB,.junk,.junk,.junk,.junk,.junk,.junk,.junk,.junk,.junk,.junk,.junk,.junk,.junk,.junk,.junk,.junk,.junk,.junk,.junk,.junk,.junk,oo7,.junk,.junk]⟩)] .nil)) 2199023509509 [(.ret,⟨[(6,.ptr 5 0),(7,ay)],[ie,oo5,.junk,gE,ie,gr]⟩)] (.node (.node .nil 2199023509528 [(.ret,⟨[(6,.ptr 24 0),(7,ay)],[ie,oo5,.junk,gE,UA,.junk,.junk,.junk,.junk,.junk,.junk,.junk,.junk,.junk,.junk,.junk,.junk,.junk,.junk,.junk,.junk,.junk,.junk,GE,gr]⟩)] .nil) 2199023509531 [(.ret,⟨[(6,.ptr 27 0),(7,ay)],[ie,oo5,.junk,gE,UB,.junk,.junk,.junk,.junk,.junk,.junk,.junk,.junk,.junk,.junk,.junk,.junk,.junk,.junk,.junk,.junk,.junk,.junk,.junk,.junk,.junk,GE,gr]⟩)] (.node .nil 2199023509533 [(.ret,⟨[(6,.ptr 29 0),(7,ay)],[ie,oo5,.junk,gE,adT,.junk,.junk,.junk,.junk,.junk,.junk,.junk,.junk,.junk,.junk,.junk,.junk,.junk,.junk,.junk,.junk,.junk,.junk,.junk,.junk,.junk,.junk,.junk,.junk,gr]⟩)] .nil)))))
def Cc:KC B0:=gC 24 ⟨[bc,bV,Et,xH,rq,Lj,Ev,Ew,nx,Db,nQ],[],[],[],Cb⟩ [hc0] (.tup [Uw,hc5]) (gH NN) (by kernel_rfl)
attribute [local irreducible] gH
end
end Go.Fw
