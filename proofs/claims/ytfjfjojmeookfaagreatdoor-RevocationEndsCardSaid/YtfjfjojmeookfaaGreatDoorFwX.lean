/- A framework for proofs about Go programs in this model: part X. Everything is proved; no condition is added. -/
import Derived.IntWalk
import Derived.Laws.Bits64
import Derived.Lib.ParseIntBCases
import Derived.Lib.CountLaws
import Derived.Test.YtfjfjojmeookfaaGreatDoorFwW
set_option linter.unusedVariables false
set_option linter.unusedSimpArgs false
set_option linter.defProp false
namespace Go.Fw
open Go Go.Proofs.Tryz
noncomputable section
set_option maxRecDepth 100000
set_option maxHeartbeats 0
attribute [local irreducible] ix app slc fP toB agree jV jW jU ml ig bE bY cm dG bD ba aQ dT eI gt eV cJ aT bJ aU bp aW bO bZ fe cD dt cu cw cE cF cG cH dA dF aB aC aS bP bz aR cQ ff eM aI aE bV bL dN cR cy au az du bu cM bc bQ dR cN bq cb fM iw gm gn dZ dO cW cO bW bS bF bx bA bX bv aD eU iy bj eP cp gi ft aJ aN aK fI br cf aO aF aP cX cI cz fu fv bo bh ey cg dV fw fx dd ge eE fy ec dI fG cA bw dq cS iz cq eJ df dr dJ dW eQ em bK cP ii dX gp gj gJ ez gY ia eN eL fA eW ed jg lD jX iI dS eF cj fN kT mw ep dY gK gV fg fB cY jm gu gv gM eX iN jp jh iY kU kV iA gB jY j8 aZ bg aM jE kh gN iO iP iQ iR jr fh gR gP fQ fS f8 oS iB iS j9 kW jb im ib ir dP dL eG js jH mb mB jc ki jd eu iM fT f9 io eY kF iT lE gU bt ic dK jI ip lO li iL gG ji eg eA kj eB ie oG fD pV kQ nN ka je pi gD kR fj kl gH jz iC kn fU fV fW gQ ga
def lP:AD B0:=⟨68,(c1 [dH,bR,wm]),[hc0,.rc [hc3] 0,.rc [.func (.func 28) [] []] 0],(.tup [MX,hc4])⟩
@[local irreducible] noncomputable def fE(N:Nat)(a:Bs)(a2:Int):Option (Y1×Y4):=syv N (lP.go (a,a2))
def qn:KC B0:=gA lP (u2 (fE NN)) (by kernel_rfl)
def fk(N:Nat)(a1:Bs):Option (Y49×Y4):=
 ((
 (aD N a1 0 16).bind λ(l1,v2)=>
 some (a1,l1,v2):Option Y54)).bind λ(l3,l4,i5,i6)=>
 ((
 ((
 bif ((l4.length:Int)==0) then(
 bif (i5==0) then(
 some (l3,l4,1,iG (l3.length:Int) (l3.length:Int)))
 else
 some (l3,l4,i5,i6))
 else
 some (l3,l4,i5,i6):Option Y54)).bind λ(l7,l8,i9,D9)=>
 bif (i9 !=0) then(
 some (l7,l8,i9,D9,0,[],[],[],0,0,0,0,0,0,false,0,0,0,0,0,0,[],[]))
 else
 (ix l8 0).bind λD8=>
 (slc l8 1 (l8.length:Int)).bind λF9=>
 (slc l7 D8.2.2.2.1 D8.2.2.2.2.2).bind λZ8=>
 (gQ N Z8).bind λ(a,G5)=>
 bif (i9==0) then(
 ((
 bif (G5.1 !=0) then(
 some (l7,F9,G5.1,iG (aq .i64 D8.2.2.2.1 G5.2) (l7.length:Int),a.1,a.2.1.1,a.2.1.2,a.2.2.1,a.2.2.2.1.1,a.2.2.2.1.2.1,a.2.2.2.1.2.2.1,a.2.2.2.1.2.2.2.1,a.2.2.2.1.2.2.2.2.1,a.2.2.2.1.2.2.2.2.2,a.2.2.2.2.1,a.2.2.2.2.2.1.1,a.2.2.2.2.2.1.2.1,a.2.2.2.2.2.1.2.2.1,a.2.2.2.2.2.1.2.2.2.1,a.2.2.2.2.2.1.2.2.2.2.1,a.2.2.2.2.2.1.2.2.2.2.2,a.2.2.2.2.2.2))
 else
 some (l7,F9,i9,D9,a.1,a.2.1.1,a.2.1.2,a.2.2.1,a.2.2.2.1.1,a.2.2.2.1.2.1,a.2.2.2.1.2.2.1,a.2.2.2.1.2.2.2.1,a.2.2.2.1.2.2.2.2.1,a.2.2.2.1.2.2.2.2.2,a.2.2.2.2.1,a.2.2.2.2.2.1.1,a.2.2.2.2.2.1.2.1,a.2.2.2.2.2.1.2.2.1,a.2.2.2.2.2.1.2.2.2.1,a.2.2.2.2.2.1.2.2.2.2.1,a.2.2.2.2.2.1.2.2.2.2.2,a.2.2.2.2.2.2):Y67)).bind λ(X6,X7,T6,T7,T8,Z9,X8,X9,T9,U0,U1,U2,U3,U4,T4,U5,U6,U7,U8,U9,V0,Z0,Z1)=>
 some (X6,X7,T6,T7,T8,Z9,X8,X9,T9,U0,U1,U2,U3,U4,T4,U5,U6,U7,U8,U9,V0,Z0,Z1))
 else
 ((
 some (l7,F9,i9,D9,a.1,a.2.1.1,a.2.1.2,a.2.2.1,a.2.2.2.1.1,a.2.2.2.1.2.1,a.2.2.2.1.2.2.1,a.2.2.2.1.2.2.2.1,a.2.2.2.1.2.2.2.2.1,a.2.2.2.1.2.2.2.2.2,a.2.2.2.2.1,a.2.2.2.2.2.1.1,a.2.2.2.2.2.1.2.1,a.2.2.2.2.2.1.2.2.1,a.2.2.2.2.2.1.2.2.2.1,a.2.2.2.2.2.1.2.2.2.2.1,a.2.2.2.2.2.1.2.2.2.2.2,a.2.2.2.2.2.2):Y67)).bind λ(Z2,Z3,V1,V2,V3,s44,Z4,Z5,V4,V5,V6,V7,V8,V9,T5,X0,X1,X2,X3,X4,X5,Z6,Z7)=>
 some (Z2,Z3,V1,V2,V3,s44,Z4,Z5,V4,V5,V6,V7,V8,V9,T5,X0,X1,X2,X3,X4,X5,Z6,Z7):Y67)).bind λ(A8,C8,E0,O3,E1,G4,F5,F6,E2,E3,E4,E5,E6,E7,D7,E8,E9,F0,F1,F2,F3,F7,F8)=>
 ((
 ((
 bif ((C8.length:Int)==0) then(
 bif (E0==0) then(
 some (A8,C8,1,iG (A8.length:Int) (A8.length:Int),E1,G4,F5,F6,E2,E3,E4,E5,E6,E7,D7,E8,E9,F0,F1,F2,F3,F7,F8))
 else
 some (A8,C8,E0,O3,E1,G4,F5,F6,E2,E3,E4,E5,E6,E7,D7,E8,E9,F0,F1,F2,F3,F7,F8))
 else
 some (A8,C8,E0,O3,E1,G4,F5,F6,E2,E3,E4,E5,E6,E7,D7,E8,E9,F0,F1,F2,F3,F7,F8):Y67)).bind λ(R,C9,y0,F4,C1,D2,D0,D1,C2,C3,C4,C5,C6,C7,C0,g,h,i,j,k,l,z,A)=>
 bif (y0 !=0) then(
 some (R,C9,y0,F4,C1,D2,D0,D1,C2,C3,C4,C5,C6,C7,C0,g,h,i,j,k,l,z,A,[],[]))
 else
 (ix C9 0).bind λW=>
 (slc C9 1 (C9.length:Int)).bind λA9=>
 (slc R W.2.2.2.1 W.2.2.2.2.2).bind λR4=>
 (kQ N R4).bind λ(B6,B7)=>
 bif (y0==0) then(
 bif (B7.1 !=0) then(
 some (R,A9,B7.1,iG (aq .i64 W.2.2.2.1 B7.2) (R.length:Int),C1,D2,D0,D1,C2,C3,C4,C5,C6,C7,C0,g,h,i,j,k,l,z,A,B6))
 else
 some (R,A9,y0,F4,C1,D2,D0,D1,C2,C3,C4,C5,C6,C7,C0,g,h,i,j,k,l,z,A,B6))
 else
 some (R,A9,y0,F4,C1,D2,D0,D1,C2,C3,C4,C5,C6,C7,C0,g,h,i,j,k,l,z,A,B6):Option Y68)).bind λ(d,B,Y,D3,Z,B1,y3,y4,f7,f8,f9,j3,j4,j5,S,j6,j7,j8,j9,k9,m5,y5,y8,B2,y9)=>
 (ga 3).bind λm6=>
 ((
 ((
 bif ((B.length:Int)==0) then(
 bif (Y==0) then(
 some (m6,d,B,1,iG (d.length:Int) (d.length:Int),Z,B1,y3,y4,f7,f8,f9,j3,j4,j5,S,j6,j7,j8,j9,k9,m5,y5,y8,B2,y9))
 else
 some (m6,d,B,Y,D3,Z,B1,y3,y4,f7,f8,f9,j3,j4,j5,S,j6,j7,j8,j9,k9,m5,y5,y8,B2,y9))
 else
 some (m6,d,B,Y,D3,Z,B1,y3,y4,f7,f8,f9,j3,j4,j5,S,j6,j7,j8,j9,k9,m5,y5,y8,B2,y9):Option (Int×Y68))).bind λ(H3,b,C,c,m7,m,M,D,E,n,o,p,q,r,s,f,t,u,v,w,x,y,F,G,O,H)=>
 bif (c !=0) then(
 some (b,C,c,m7,m,M,D,E,n,o,p,q,r,s,f,t,u,v,w,x,y,F,G,O,H,[],0))
 else
 (ix C 0).bind λX=>
 (slc C 1 (C.length:Int)).bind λB3=>
 (slc b X.2.2.2.1 X.2.2.2.2.2).bind λR5=>
 (fE N R5 H3).bind λ(B8,B9)=>
 bif (c==0) then(
 ((
 bif (B9.1 !=0) then(
 some (b,B3,B9.1,iG (aq .i64 X.2.2.2.1 B9.2) (b.length:Int),m,M,D,E,n,o,p,q,r,s,f,t,u,v,w,x,y,F,G,O,H,B8))
 else
 some (b,B3,c,m7,m,M,D,E,n,o,p,q,r,s,f,t,u,v,w,x,y,F,G,O,H,B8):Option Y69)).bind λ(O4,O5,H4,H5,H6,R6,O6,O7,H7,H8,H9,I0,I1,I2,G6,I3,I4,I5,I6,I7,I8,O8,O9,R7,P0,P1,I9)=>
 some (O4,O5,H4,H5,H6,R6,O6,O7,H7,H8,H9,I0,I1,I2,G6,I3,I4,I5,I6,I7,I8,O8,O9,R7,P0,P1,I9))
 else
 ((
 some (b,B3,c,m7,m,M,D,E,n,o,p,q,r,s,f,t,u,v,w,x,y,F,G,O,H,B8):Option Y69)).bind λ(P2,P3,J0,J1,J2,R8,P4,P5,J3,J4,J5,J6,J7,J8,G7,J9,K0,K1,K3,K4,K5,P6,P7,R9,P8,P9,K6)=>
 some (P2,P3,J0,J1,J2,R8,P4,P5,J3,J4,J5,J6,J7,J8,G7,J9,K0,K1,K3,K4,K5,P6,P7,R9,P8,P9,K6):Option Y69)).bind λ(I,e,m8,D4,m9,P,J,z6,n6,n7,n8,n9,o7,o8,T,o9,p7,p8,p9,q6,q7,z7,z8,Q,K,A0,q8)=>
 (bD (Q,K) (P,J)).bind λU=>
 ((
 ((
 bif decide ((e.length:Int)>0) then(
 (ix e 0).bind λH2=>
 bif (m8==0) then(
 some (U,I,e,2,iG H2.2.2.2.1 (I.length:Int),m9,P,J,z6,n6,n7,n8,n9,o7,o8,T,o9,p7,p8,p9,q6,q7,z7,z8,Q,K,A0,q8))
 else
 some (U,I,e,m8,D4,m9,P,J,z6,n6,n7,n8,n9,o7,o8,T,o9,p7,p8,p9,q6,q7,z7,z8,Q,K,A0,q8))
 else
 some (U,I,e,m8,D4,m9,P,J,z6,n6,n7,n8,n9,o7,o8,T,o9,p7,p8,p9,q6,q7,z7,z8,Q,K,A0,q8):Option (Bool×Y69))).bind λ(G8,L,A1,q9,D5,r9,B4,A2,A3,s6,s8,t7,t8,u0,u7,V,w8,w9,x5,x6,x7,x8,A4,A5,B5,A6,A7,x9)=>
 ((
 bif (!G8) then(
 bif (q9==0) then(
 some (L,A1,6,iG 0 (L.length:Int),r9,B4,A2,A3,s6,s8,t7,t8,u0,u7,V,w8,w9,x5,x6,x7,x8,A4,A5,B5,A6,A7,x9))
 else
 some (L,A1,q9,D5,r9,B4,A2,A3,s6,s8,t7,t8,u0,u7,V,w8,w9,x5,x6,x7,x8,A4,A5,B5,A6,A7,x9))
 else
 some (L,A1,q9,D5,r9,B4,A2,A3,s6,s8,t7,t8,u0,u7,V,w8,w9,x5,x6,x7,x8,A4,A5,B5,A6,A7,x9):Option Y69)).bind λ(l281,l282,K7,K8,K9,T0,Q0,Q1,L0,L5,L6,L7,L8,L9,G9,M0,M2,M3,M4,M5,M6,Q2,Q3,T1,Q4,Q5,M7)=>
 some (K9,T0,Q0,Q1,L0,L5,L6,L7,L8,L9,G9,M0,M2,M3,M4,M5,M6,Q2,Q3,T1,Q4,Q5,M7,K7,K8):Option (Int×Bs×Bs×Y12×Int×Int×Int×Int×Int×Int×Bool×Int×Int×Int×Int×Int×Int×Y46×Y44×Bs×Bs×Bs×Int×Y4))).bind λ(M8,T2,Q6,Q7,M9,N0,N1,N2,N3,N4,H0,N5,N6,N7,N8,N9,O0,Q8,Q9,T3,R0,R3,O1,D6,O2)=>
 bif (D6 !=0) then(
 some (((0,([],[]),[],(0,0,0,0,0,0),false,(0,0,0,0,0,0),[],[]),([],[]),[],0),D6,O2))
 else
 some (((M8,(T2,Q6),Q7,(M9,N0,N1,N2,N3,N4),H0,(N5,N6,N7,N8,N9,O0),Q8,Q9),(T3,R0),R3,O1),0,0)
def GT:Tr cB:=(.node (.node (.node (.node .nil 1476397063 [(.normal,⟨[(0,.ptr 3 0),(1,.func (.func 23) [] []),(4,.ptr 5 0),(5,.ptr 6 0)],[rN,oo5,.junk,dM,rN,gx,gx]⟩)] .nil) 1610614793 [(.normal,⟨[(0,.ptr 3 0),(1,.func (.func 25) [] []),(4,.ptr 7 0),(5,.ptr 8 0)],[rN,oo5,.junk,dM,ad6,.junk,.junk,Qx,Qx]⟩)] (.node .nil 1744832523 [(.normal,⟨[(0,.ptr 3 0),(1,.func (.func 68) [] [.rc [hc3] 0,.rc [.func (.func 28) [] []] 0]),(4,.ptr 9 0),(5,.ptr 10 0)],[rN,oo5,.junk,dM,YY,.junk,.junk,.junk,.junk,YZ,YZ]⟩)] .nil)) 1946158092 [(.normal,⟨[(0,.ptr 3 0),(1,ay),(4,.ptr 11 0)],[rN,oo5,.junk,dM,Za,.junk,.junk,.junk,.junk,.junk,.junk,oo5]⟩)] (.node (.node .nil 1946160140 [(.normal,⟨[(0,.ptr 3 0),(4,.ptr 11 0)],[rN,oo5,.junk,dM,Za,.junk,.junk,.junk,.junk,.junk,.junk,oo5]⟩)] .nil) 3355443210 [(.normal,⟨[],[rN,oo5,.junk,dM,rN,gx,.junk,.junk,pG,.junk]⟩)] .nil)) 3355443214 [(.normal,⟨[],[rN,oo5,.junk,dM,YY,.junk,.junk,.junk,.junk,YZ,.junk,.junk,oo7,.junk]⟩)] (.node (.node (.node .nil 2199023341570 [(.ret,⟨[(2,.ptr 3 0)],[rN,oo5,.junk,dM]⟩)] .nil) 2199023345669 [(.ret,⟨[(4,.ptr 5 0)],[rN,oo5,.junk,dM,rN,pG,.junk]⟩)] .nil) 2199023353863 [(.ret,⟨[(4,.ptr 7 0)],[rN,oo5,.junk,dM,ad6,.junk,.junk,JL,.junk]⟩)] (.node (.node .nil 2199023362057 [(.ret,⟨[(4,.ptr 9 0)],[rN,oo5,.junk,dM,YY,.junk,.junk,.junk,.junk,oo7,.junk]⟩)] .nil) 2199023374347 [(.ret,⟨[(4,.ptr 11 0)],[rN,oo5,.junk,.junk,Za,.junk,.junk,.junk,.junk,.junk,.junk,oo0]⟩)] .nil)))
def wH:KC B0:=gC 8 ⟨[be,BT,xX,rh,qn,xu],[],[],[],GT⟩ [hc0] (.tup [Ld,hc4]) (fk NN) (by kernel_rfl)
attribute [local irreducible] fk
def FT:AD B0:=⟨11,(c1 []),[hc0,hc0],ay⟩
@[local irreducible] noncomputable def xo(a:Bs)(a2:Bs):Option Bool:=syv NN (FT.go (a,a2))
def Pk:KC B0:=gA FT (u2 xo) (by kernel_rfl)
def n9(N:Nat):Option Bool:=
 (eB N ((0,(([49,46,50,46,51]:Bs),[]),[[(([50,46,53,46,52,46,51]:Bs),([12,2,65,98]:Bs))]],(2000,1,1,0,0,0),false,(0,0,0,0,0,0),[],[]),(([49,46,50,46,51]:Bs),[]),[],0)).bind λ(a,e)=>
 (fk N a).bind λ(g,b)=>
 bif (e !=0) then(
 some false)
 else
 bif (!((b.1==0)&&(b.2==0))) then(
 some false)
 else
 bif ((a.length:Int) !=49) then(
 some false)
 else
 (slc a 0 10).bind λf=>
 (xo f ([48,47,48,36,48,4,6,2,42,3]:Bs)).bind λc=>
 bif c then(
 bif (g.2.1.1==([49,46,50,46,51]:Bs)) then(
 (io N ((0,(([49,46,50,46,51]:Bs),[]),[[(([50,46,53,46,52,46,51]:Bs),([12,2,65,98]:Bs))]],(2000,1,1,0,0,0),false,(0,0,0,0,0,0),[],[]),(([49,46,50,46,51]:Bs),[]),[],0)).bind λd=>
 some d)
 else
 some false)
 else
 some false
def Nc:KC B0:=gC 5 (c1 [tM,wH,Pk,ww]) [] ay (λ_=>n9 NN) (by kernel_rfl)
attribute [local irreducible] n9
def rR(L:List (KL B0)):Ctx B0:=⟨[],[],[],L,.nil⟩
def uS:LD:=⟨38,3,0,⟨[(0,hc9),(3,hc3),(4,hc3)],[]⟩,[(.exit 0,⟨[(0,hc9),(3,hc3)],[]⟩)]⟩
@[local irreducible] noncomputable def uT(N n:Nat):(Y44×Y4)->Option (Y44×Int):=Nat.rec (λ_=>none) (λ_ L x=>syv N (uS.round (rR []).cxs L x)) n
def Gb:KL B0:=gL (rR []) uS (uT NN) (by kernel_rfl)
def zK:AD B0:=⟨38,(rR [Gb]),[hc9],ay⟩
@[local irreducible] noncomputable def rS(N:Nat)(a:Y44):Option Bool:=syv N (zK.go (a))
def zM:KC B0:=gA zK (rS NN) (by kernel_rfl)
def x5:AD B0:=⟨36,(c1 [zM]),[UC],ay⟩
@[local irreducible] noncomputable def qQ(N:Nat)(a:Y45):Option Bool:=syv N (x5.go (a))
def Je:KC B0:=gA x5 (qQ NN) (by kernel_rfl)
def GU:AD B0:=⟨14,(c1 []),[hc1],ay⟩
@[local irreducible] noncomputable def zN(a:Y0):Option Bool:=syv NN (GU.go (a))
def GW:KC B0:=gA GU zN (by kernel_rfl)
def GX:AD B0:=⟨112,(c1 []),[hc1],ay⟩
@[local irreducible] noncomputable def zO(a:Y0):Option Bool:=syv NN (GX.go (a))
def QF:KC B0:=gA GX zO (by kernel_rfl)
def tQ(L:List (KL B0)):Ctx B0:=⟨[QF],[],[],L,.nil⟩
def wI:LD:=⟨78,3,0,⟨[(0,hc2),(3,hc3),(4,hc3)],[]⟩,[(.ret,⟨[(2,vF)],[]⟩),(.exit 0,⟨[(0,hc2),(3,hc3)],[]⟩)]⟩
@[local irreducible] noncomputable def wJ(N n:Nat):(Y11×Y4)->Option ((Unit)⊕(Y11×Int)):=Nat.rec (λ_=>none) (λ_ L x=>syv N (wI.round (tQ []).cxs L x)) n
def GY:KL B0:=gL (tQ []) wI (wJ NN) (by kernel_rfl)
def Bb:AD B0:=⟨78,(tQ [GY]),[hc2],ay⟩
@[local irreducible] noncomputable def tR(N:Nat)(a:Y11):Option Bool:=syv N (Bb.go (a))
def Lw:KC B0:=gA Bb (tR NN) (by kernel_rfl)
def pX(L:List (KL B0)):Ctx B0:=⟨[Lw],[],[],L,.nil⟩
def Bc:LD:=⟨37,8,0,⟨[(0,ny),(3,hc3),(4,hc3),(5,hc3)],[]⟩,[(.exit 2,⟨[(0,ny),(3,hc3),(4,hc3)],[]⟩)]⟩
@[local irreducible] noncomputable def Bd(N n:Nat):(Y12×Int×Y4)->Option (Y12×Y4):=Nat.rec (λ_=>none) (λ_ L x=>syv N (Bc.round (pX []).cxs L x)) n
def tS:KL B0:=gL (pX []) Bc (Bd NN) (by kernel_rfl)
def Be:LD:=⟨37,3,0,⟨[(0,ny),(3,hc3),(4,hc3)],[]⟩,[(.ret,⟨[(2,vF)],[]⟩),(.exit 0,⟨[(0,ny),(3,hc3)],[]⟩)]⟩
@[local irreducible] noncomputable def Bf(N n:Nat):(Y12×Y4)->Option ((Unit)⊕(Y12×Int)):=Nat.rec (λ_=>none) (λ_ L x=>syv N (Be.round (pX [tS]).cxs L x)) n
def Lx:KL B0:=gL (pX [tS]) Be (Bf NN) (by kernel_rfl)
def GZ:AD B0:=⟨37,(pX [tS,Lx]),[ny],ay⟩
@[local irreducible] noncomputable def zP(N:Nat)(a:Y12):Option Bool:=syv N (GZ.go (a))
def QG:KC B0:=gA GZ (zP NN) (by kernel_rfl)
def mH(L:List (KL B0)):Ctx B0:=⟨[Je,GW,QG,zM],[],[],L,.nil⟩
def uU:LD:=⟨13,8,0,⟨[(1,.ptr 0 0),(3,hc3),(4,hc3),(5,hc3)],[pG]⟩,[(.exit 2,⟨[(1,.ptr 0 0),(3,hc3),(4,hc3)],[pG]⟩)]⟩
@[local irreducible] noncomputable def uV(N n:Nat):(Int×Y66)->Option Y66:=Nat.rec (λ_=>none) (λ_ L x=>syv N (uU.round (mH []).cxs L x)) n
def pj:KL B0:=gL (mH []) uU (uV NN) (by kernel_rfl)
def uW:LD:=⟨13,3,0,⟨[(1,.ptr 0 0),(3,hc3),(4,hc3)],[pG]⟩,[(.ret,⟨[(2,vF)],[.junk]⟩),(.exit 0,⟨[(1,.ptr 0 0),(3,hc3)],[pG]⟩)]⟩
@[local irreducible] noncomputable def uX(N n:Nat):Y66->Option ((Unit)⊕(Int×Y47)):=Nat.rec (λ_=>none) (λ_ L x=>syv N (uW.round (mH [pj]).cxs L x)) n
def Gd:KL B0:=gL (mH [pj]) uW (uX NN) (by kernel_rfl)
def zQ:AD B0:=⟨13,(mH [pj,Gd]),[UD],ay⟩
@[local irreducible] noncomputable def rT(N:Nat)(a:Y48):Option Bool:=syv N (zQ.go (a))
def J4:KC B0:=gA zQ (rT NN) (by kernel_rfl)
def G4:AD B0:=⟨6,(c1 [J4,GW]),[Ld],ay⟩
@[local irreducible] noncomputable def zR(N:Nat)(a:Y49):Option Bool:=syv N (G4.go (a))
def QH:KC B0:=gA G4 (zR NN) (by kernel_rfl)
def qH:AD B0:=⟨3,(c1 [Nc,QH,tM,wH]),[Ld,.hole (.int .u16),hc0],ay⟩
@[local irreducible] noncomputable def k9(N:Nat)(a:Y49)(a2:Int)(a3:Bs):Option Bool:=syv N (qH.go (a,a2,a3))
def AG:KC B0:=gA qH (u3 (k9 NN)) (by kernel_rfl)
end
end Go.Fw

def ajZ:=@BitVec.toNat_ofInt
def aka:=@Nat.shiftLeft_add_eq_or_of_lt
def akZ:=@Nat.shiftLeft_eq
def alu:=@BitVec.toNat_or
namespace Go.Fw
open Go
def Tp{a b:Int}(f: -36028797018963968<=a)(g:a<36028797018963968)(h:0<=b)(i:b<256):bits .or .i64 (Ny .i64 a 8) b=256*a+b:=by
 have c:Ny .i64 a 8=256*a:=by
  show IntKind.i64.wrap (a*2 ^ (8:Nat))=_;rw[Go.IntWalk.i64_in _ (by omega)];omega
 rw[c];show IntKind.i64.wrap (((BitVec.ofInt 64 (256*a))|||(BitVec.ofInt 64 b)).toNat:Int)=_;rw[alu,ajZ,ajZ];have e:((256*a) % ((2 ^ 64:Nat):Int)).toNat=(a % 72057594037927936).toNat*2 ^ 8:=by omega
 have d:(b % ((2 ^ 64:Nat):Int)).toNat=b.toNat:=by omega
 rw[e,d,<-akZ,<-aka (by omega:b.toNat<2 ^ 8),akZ,IntKind.wrap_i64];omega
end Go.Fw
def ajQ:=@List.dropLast_concat_getLast
namespace Go.Fw
open Go
def cC{i:Nat}(h:i<4611686018427387904):aq .i64 (i:Int) 1=((i+1:Nat):Int):=by
 show IntKind.i64.wrap ((i:Int)+1)=_;rw[aie _ (by omega)];omega
def UX{i:Nat}(a:0<i)(h:i<4611686018427387904):aX .i64 (i:Int) 1=((i-1:Nat):Int):=by
 show IntKind.i64.wrap ((i:Int)-1)=_;rw[aie _ (by omega)];omega
def cr{α:Type}{l:List α}{i:Nat}{x:α}(h:l[i]?=some x):ix l (i:Int)=some x:=by
 unfold ix;rw[ahY (by omega),aiL,h]
def Tq(x:UInt8):toB (x.toNat:Int)=some x:=by
 unfold toB;have:=x.toNat_lt;rw[ahY ⟨by omega,by omega⟩];simp
def Ts{i n:Nat}(h:i<n):inb (i:Int) n=true:=by
 unfold inb;simp only[ahF,aij];omega
def Zo(p m q:List UInt8)(x y:UInt8):(((p++(x::m++[y])++q).set p.length y).set (p.length+m.length+1) x)=(p++[y])++m++(x::q):=by
 have a:p++(x::m++[y])++q=p++(x::(m++(y::q))):=by simp
 rw[a,akm _ _ (ahO _),akd,ajG,akm _ _ (by omega)];rw[show p.length+m.length+1-p.length=m.length+1 from by omega,akc,akm _ _ (ahO _),akd,ajG];simp
def QY(N n:Nat)(b c:Int)(a:Bs):aR N (n+1) (b,c,a)=bif decide (b<c) then(bif inb c a.length then((ix a c).bind λe=>bif inb b a.length then((ix a b).bind λf=>bif inb b a.length then(bif inb b a.length then((toB (e.toNat:Int)).bind λd=>
 bif inb c (a.set (Int.toNat b) d).length then(bif inb c (a.set (Int.toNat b) d).length then((toB (f.toNat:Int)).bind λg=>aR N n (aq .i64 b 1,aX .i64 c 1,(a.set (Int.toNat b) d).set (Int.toNat c) g)) else none) else none) else none) else none) else none) else none) else some a:=rfl
def Tt(N:Nat):∀(k:Nat)(a p q:List UInt8)(n:Nat),a.length<=k->a.length<2*n->(p++a++q).length<4611686018427387904->
 aR N n ((p.length:Int),(((p.length+a.length:Nat):Int)-1),p++a++q)=some (p++a.reverse++q):=by
 intro k;induction k with
 |zero=>
  intro a p q n c g d;obtain⟨n,rfl⟩:∃m,n=m+1:=⟨n-1,by omega⟩;have:a=[]:=aip (by omega);subst this;show(bif decide ((p.length:Int)<((p.length+([]:List UInt8).length:Nat):Int)-1) then _ else _)=_;rw[ahH (by simp;omega)];simp
 |succ k t=>
  intro a p q n c g d;obtain⟨n,rfl⟩:∃m,n=m+1:=⟨n-1,by omega⟩
  match a,c,g,d with
  |[],_,_,_=>
   show(bif decide ((p.length:Int)<((p.length+([]:List UInt8).length:Nat):Int)-1) then _ else _)=_;rw[ahH (by simp;omega)];simp
  |[x],_,_,_=>
   show(bif decide ((p.length:Int)<((p.length+[x].length:Nat):Int)-1) then _ else _)=_;rw[ahH (by simp)];simp
  |x::z::r,c,g,d=>
   obtain⟨m,y,s⟩:∃m y,z::r=m++[y]:=⟨(z::r).dropLast,(z::r).getLast (by simp),(ajQ (by simp)).symm⟩;rw[s]at c g d⊢;have e:(x::(m++[y])).length=m.length+2:=by simp
   have j:(p++(x::(m++[y]))++q)[p.length+m.length+1]?=some y:=by
    rw[ah6,ahV (by omega),show p.length+m.length+1-p.length=m.length+1 from by omega,aix,aiV,ah6,ahV (ahO _),akd];rfl
   have l:(p++(x::(m++[y]))++q)[p.length]?=some x:=by
    rw[ah6,ahV (ahO _),akd];rfl
   have f:(p++(x::(m++[y]))++q).length=p.length+m.length+2+q.length:=by simp;omega
   have i:((p.length+(x::(m++[y])).length:Nat):Int)-1=((p.length+m.length+1:Nat):Int):=by rw[e];omega
   rw[i];have b:aR N (n+1) ((p.length:Int),((p.length+m.length+1:Nat):Int),p++(x::(m++[y]))++q)=aR N n (((p.length+1:Nat):Int),((p.length+m.length:Nat):Int),(p++[y])++m++(x::q)):=by
    rw[QY,ahK (by omega:(p.length:Int)<((p.length+m.length+1:Nat):Int))];simp only[ahS,cr j,cr l,ahE,Tq,aiL,ajB,f];rw[Ts (by omega:p.length+m.length+1<p.length+m.length+2+q.length),Ts (by omega:p.length<p.length+m.length+2+q.length)];simp only[ahS];rw[cC (by omega),UX (by omega) (by omega),show p.length+m.length+1-1=p.length+m.length from by omega];rw[show p++(x::(m++[y]))++q=p++(x::m++[y])++q from rfl,Zo]
   rw[b];have o:((p++[y])++m++(x::q)).length=p.length+m.length+2+q.length:=by simp;omega
   rw[f]at d;have h:=t m (p++[y]) (x::q) n (by simp at c;omega) (by simp at g;omega) (by rw[o];omega);rw[show((p++[y]).length:Int)=((p.length+1:Nat):Int) from by simp,show(((p++[y]).length+m.length:Nat):Int)-1=((p.length+m.length:Nat):Int) from by simp;omega]at h;rw[h];simp
end Go.Fw
def ake:=@Nat.pow_succ
def akq:=@Int.fdiv_eq_ediv_of_nonneg
def akP:=@List.reverse_cons
namespace Go.Fw
open Go
def leB:Nat->Nat->List UInt8
 |0,_=>[]
 |f+1,n=>if n=0 then [] else UInt8.ofNat (n % 256)::leB f (n / 256)
def Nj:∀(f n:Nat),(leB f n).length<=f
 |0,_=>ahO _
 |f+1,n=>by
  unfold leB;split
  ·simp
  ·simp only[ahL];have:=Nj f (n / 256);omega
def nC(n:Nat):toB (IntKind.wrap .u8 (n:Int))=some (UInt8.ofNat (n % 256)):=by
 unfold toB;rw[IntKind.wrap_u8,ahY ⟨by omega,by omega⟩];congr 1
def abf(n:Nat):vL .u64 (n:Int) 8=((n / 256:Nat):Int):=by
 show(n:Int).fdiv (2 ^ (8:Nat))=_;rw[akq _ (by decide)];omega
def Oe(N n:Nat)(i2:Int)(a:Bs):bz N (n+1) (i2,a)=bif decide (i2>0) then((toB (IntKind.wrap .u8 i2)).bind λb=>(app 1 a [b]).bind λc=>bz N n (vL .u64 i2 8,c)) else some a:=rfl
def aen(N:Nat):∀(f a n:Nat)(l:List UInt8),a<256 ^ f->f<n->l.length+f<1000->bz N n ((a:Int),l)=some (l++leB f a):=by
 intro f;induction f with
 |zero=>
  intro a n l c e _;obtain⟨n,rfl⟩:∃m,n=m+1:=⟨n-1,by omega⟩;have:a=0:=by simpa using c
  subst this;rw[Oe,ahH (by simp)];simp[leB]
 |succ f g=>
  intro a n l c e h;obtain⟨n,rfl⟩:∃m,n=m+1:=⟨n-1,by omega⟩;rw[Oe];by_cases d:a=0
  ·subst d;rw[ahH (by simp)];simp[leB]
  ·rw[ahK (by omega:(a:Int)>0),ahS,nC,abf];simp only[ahE];have b:app 1 l [UInt8.ofNat (a % 256)]=some (l++[UInt8.ofNat (a % 256)]):=by
    unfold app cK;rw[ahY ⟨by simp only[ahL,ah1];omega,by simp only[ahL,ah1];omega⟩]
   rw[b];simp only[ahE];rw[g (a / 256) n _ (by rw[ake]at c;omega) (by omega) (by simp;omega)];simp[leB,d]
def gI(n:Nat):List UInt8:=(leB 8 (n / 256)).reverse++[UInt8.ofNat (n % 256)]
def SU(N:Nat)(b:20<=N)(n:Nat)(c:n<18446744073709551616):cQ N (n:Int)=some (gI n):=by
 unfold cQ syv;rw[nC,abf];simp only[ahE];rw[aen N 8 (n / 256) N _ (by omega) (by omega) (by simp)];simp only[ahE];have a:=Nj 8 (n / 256);have h:=Tt N 9 ([UInt8.ofNat (n % 256)]++leB 8 (n / 256)) [] [] N (by simp;omega) (by simp;omega) (by simp;omega);simp only[ait,ah4,ah1,aiw]at h;have e:aX .i64 ((([UInt8.ofNat (n % 256)]++leB 8 (n / 256)).length:Nat):Int) 1=((([UInt8.ofNat (n % 256)]++leB 8 (n / 256)).length:Nat):Int)-1:=by
  show IntKind.i64.wrap _=_;rw[aie _ (by simp;omega)]
 rw[e];rw[show(0:Int)=((0:Nat):Int) from rfl,h];simp[gI]
def beN(l:List UInt8):Nat:=l.foldl (λn x=>256*n+x.toNat) 0
def yq(a:List UInt8)(x:UInt8):beN (a++[x])=256*beN a+x.toNat:=by
 unfold beN;rw[List.foldl_append];rfl
def WC:∀(f n:Nat),n<256 ^ f->beN (leB f n).reverse=n
 |0,n,h=>by
  have:n=0:=by simpa using h
  subst this;rfl
 |f+1,n,h=>by
  unfold leB;split
  ·rename_i a;subst a;rfl
  ·rw[akP,yq,WC f (n / 256) (by rw[ake]at h;omega)];have:(UInt8.ofNat (n % 256)).toNat=n % 256:=by simp
   rw[this];omega
def ab4(n:Nat)(h:n<18446744073709551616):beN (gI n)=n:=by
 unfold gI;rw[yq,WC 8 (n / 256) (by omega)];have:(UInt8.ofNat (n % 256)).toNat=n % 256:=by simp
 rw[this];omega
def Id(n:Nat):1<=(gI n).length/\(gI n).length<=9:=by
 unfold gI;have:=Nj 8 (n / 256);simp;omega
end Go.Fw
namespace Go.Fw
open Go
def Of:∀(f k n:Nat),n<256 ^ k->(leB f n).length<=k
 |0,_,_,_=>aiH _
 |f+1,k,n,h=>by
  unfold leB;split
  ·exact aiH _
  ·rename_i a;cases k with
   |zero=>simp at h;omega
   |succ k=>
    have:=Of f k (n / 256) (by rw[ake]at h;omega);simp only[ahL];omega
def Q0:∀(f n:Nat),0<n->n<256 ^ f->∃x r,(leB f n).reverse=x::r/\x.toNat≠0
 |0,n,a,h=>by simp at h;omega
 |f+1,n,a,h=>by
  unfold leB;rw[ain (by omega),akP];by_cases b:n / 256=0
  ·refine⟨UInt8.ofNat (n % 256),[],?_,?_⟩
   ·rw[b];cases f<;>simp[leB]
   ·have:(UInt8.ofNat (n % 256)).toNat=n % 256:=by simp
    rw[this];omega
  ·obtain⟨x,r,e,c⟩:=Q0 f (n / 256) (by omega) (by rw[ake]at h;omega);exact⟨x,r++[UInt8.ofNat (n % 256)],by rw[e];rfl,c⟩
def Zq(n:Nat)(c:0<n)(h:n<18446744073709551616):∃x r,gI n=x::r/\x.toNat≠0:=by
 unfold gI;by_cases a:n / 256=0
 ·refine⟨UInt8.ofNat (n % 256),[],?_,?_⟩
  ·rw[a];simp[leB]
  ·have:(UInt8.ofNat (n % 256)).toNat=n % 256:=by simp
   rw[this];omega
 ·obtain⟨x,r,e,b⟩:=Q0 8 (n / 256) (by omega) (by omega);exact⟨x,r++[UInt8.ofNat (n % 256)],by rw[e];rfl,b⟩
def Og(n:Nat)(h:n<256):gI n=[UInt8.ofNat n]:=by
 unfold gI;rw[show n / 256=0 from by omega,show n % 256=n from by omega];simp[leB]
def Ke(n:Nat)(h:n<4294967296):(gI n).length<=4:=by
 unfold gI;have:=Of 8 3 (n / 256) (by omega);simp;omega
def aY(n:Nat):List UInt8:=if n<128 then gI n else UInt8.ofNat (128+(gI n).length)::gI n
def oK(n:Nat)(h:n<4294967296):1<=(aY n).length/\(aY n).length<=5:=by
 have a:=Id n;have b:=Ke n h;unfold aY;split
 ·omega
 ·simp only[ahL];omega
def UY(N:Nat)(b:20<=N)(n:Nat)(d:n<=2147483647):ff N (n:Int)=some (aY n,0):=by
 unfold ff syv;rw[ahH (by omega:¬(n:Int)<0),ahH (by omega:¬(n:Int)>2147483647),Go.IntWalk.u64_in _ (by omega),SU N b n (by omega)];simp only[ahM,ahE];by_cases h:n<128
 ·rw[ahK (by omega:(n:Int)<128)];simp[aY,h]
 ·rw[ahH (by omega:¬(n:Int)<128)];have c:=Ke n (by omega);have e:aq .i64 128 (((gI n).length:Nat):Int)=((128+(gI n).length:Nat):Int):=by
   show IntKind.i64.wrap _=_;rw[aie _ (by omega)];omega
  rw[e,nC,show(128+(gI n).length) % 256=128+(gI n).length from by omega];simp only[ahM,ahE];have a:app 1 [UInt8.ofNat (128+(gI n).length)] (gI n)=some ([UInt8.ofNat (128+(gI n).length)]++gI n):=by
   unfold app cK;rw[ahY ⟨by simp only[ahL,ah1];omega,by simp only[ahL,ah1];omega⟩]
  rw[a];simp[aY,h]
def Oh(N n:Nat)(l:Bs)(a c b:Int):aU N (n+1) (l,a,c,b,0,0)=bif decide (b>a) then some (l,a,c,0,0) else((ix l b).bind λd=>aU N n (l,a,bits .or .i64 (Ny .i64 c 8) (IntKind.wrap .i64 (d.toNat:Int)),aq .i64 b 1,0,0)):=rfl
def z7(b:UInt8):IntKind.wrap .i64 (b.toNat:Int)=(b.toNat:Int):=by
 have:=b.toNat_lt;rw[aie _ (by omega)]
def Hd(N:Nat)(b:UInt8)(m a:List UInt8)(p:m.length<=4):∀(k n i L:Nat),m.length-i=k->i<=m.length->k<n->L<256 ^ i->
 aU N n (b::(m++a),(m.length:Int),(L:Int),((i+1:Nat):Int),0,0)=some (b::(m++a),(m.length:Int),(((m.drop i).foldl (λn x=>256*n+x.toNat) L:Nat):Int),0,0):=by
 intro k;induction k with
 |zero=>
  intro n i L f e g _;obtain⟨n,rfl⟩:∃m,n=m+1:=⟨n-1,by omega⟩;rw[Oh,ahK (by omega:((i+1:Nat):Int)>(m.length:Int)),aji (by omega)];rfl
 |succ k h=>
  intro n i L f e g l;obtain⟨n,rfl⟩:∃m,n=m+1:=⟨n-1,by omega⟩;have c:i<m.length:=by omega
  have d:(b::(m++a))[i+1]?=some m[i]:=by
   rw[aiV,ahP c,ahG c]
  rw[Oh,ahH (by omega:¬((i+1:Nat):Int)>(m.length:Int)),ahM,cr d];simp only[ahE];have q:(256:Nat) ^ i<=256 ^ 4:=akp (by decide) (by omega);have j:(256:Nat) ^ 4=4294967296:=by decide
  have o:=(m[i]).toNat_lt;rw[z7,Tp (by omega) (by omega) (by omega) (by omega),cC (by omega),ah9 c,als];rw[show(256*(L:Int)+((m[i]).toNat:Int))=((256*L+(m[i]).toNat:Nat):Int) from by omega];exact h n (i+1) _ (by omega) (by omega) (by omega) (by rw[ake];omega)
def Zr(N:Nat)(t:20<=N)(n:Nat)(u:n<=2147483647)(a:List UInt8):bp N (aY n++a)=some ((n:Int),((aY n).length:Int),0,0):=by
 unfold bp syv;by_cases h:n<128
 ·have e:aY n=[UInt8.ofNat n]:=by simp[aY,h,Og n (by omega)]
  rw[e];have g:(((([UInt8.ofNat n]++a).length:Nat):Int)==0)=false:=by simp;omega
  have c:ix ([UInt8.ofNat n]++a) 0=some (UInt8.ofNat n):=rfl;have k:(UInt8.ofNat n).toNat=n:=by simp;omega
  rw[g];simp only[ahM,c,ahE,k];rw[ahK (by omega:(n:Int)<128),ahS,aie _ (by omega)];rfl
 ·have j:=Ke n (by omega);have p:=(Id n).1;have e:aY n=UInt8.ofNat (128+(gI n).length)::gI n:=by simp[aY,h]
  obtain⟨x,r,q,s⟩:=Zq n (by omega) (by omega);rw[e,aix];generalize o:UInt8.ofNat (128+(gI n).length)=b;have i:b.toNat=128+(gI n).length:=by rw[<-o];simp;omega
  have g:((((b::(gI n++a)).length:Nat):Int)==0)=false:=by simp;omega
  have c:ix (b::(gI n++a)) 0=some b:=rfl;have d:ix (b::(gI n++a)) 1=some x:=by rw[q];rfl
  have f:aX .i64 (b.toNat:Int) 128=((gI n).length:Int):=by
   show IntKind.i64.wrap _=_;rw[i,aie _ (by omega)];omega
  rw[g];simp only[ahM,c,ahE,z7];rw[ahH (by omega:¬(b.toNat:Int)<128),f];rw[show((((gI n).length:Nat):Int)==0)=false from aic.2 (by omega),ahH (by omega:¬(((gI n).length:Nat):Int)>4),ahH (by simp;omega:¬(((b::(gI n++a)).length:Nat):Int)<=(((gI n).length:Nat):Int))];simp only[ahM];have l:=Hd N b (gI n) a j (gI n).length N 0 0 (by omega) (by omega) (by omega) (by simp);rw[aiv,show(gI n).foldl (λn x=>256*n+x.toNat) 0=n from ab4 n (by omega)]at l;rw[show aU N N (b::(gI n++a),(((gI n).length:Nat):Int),0,1,0,0)=_ from l];simp only[ahE,d];rw[show((x.toNat:Int)==0)=false from aic.2 (by omega),ahH (by omega:¬(n:Int)<128),ahH (by omega:¬(n:Int)>2147483647)];have m:aq .i64 1 (((gI n).length:Nat):Int)=(((b::gI n).length:Nat):Int):=by
   show IntKind.i64.wrap _=_;rw[aie _ (by omega)];simp;omega
  rw[m];rfl
end Go.Fw
namespace Go.Fw
open Go
def ab5:∀(l:List UInt8)(x:UInt8)(r:List UInt8),l=x::r->x.toNat≠0->0<beN l:=by
 intro l x r h d;subst h;have b:∀(r:List UInt8)(a:Nat),0<a->0<r.foldl (λn x=>256*n+x.toNat) a:=by
  intro r;induction r with
  |nil=>intro a h;exact h
  |cons y r c=>intro a h;exact c _ (by show 0<256*a+y.toNat;omega)
 exact b r _ (by show 0<256*0+x.toNat;omega)
def aeo:∀(f:Nat)(l:List UInt8),l.length<=f->(∀x r,l=x::r->x.toNat≠0)->(leB f (beN l)).reverse=l:=by
 intro f;induction f with
 |zero=>
  intro l h _;have:l=[]:=aip (by omega);subst this;rfl
 |succ f n=>
  intro l h j;cases a:l with
  |nil=>simp[beN,leB]
  |cons x r=>
   have b:=j x r a;have e:=ab5 l x r a b;rw[<-a];obtain⟨m,d,c⟩:∃m d,l=m++[d]:=⟨l.dropLast,l.getLast (by rw[a];simp),(ajQ (by rw[a];simp)).symm⟩;have p:=d.toNat_lt;have o:beN l=256*beN m+d.toNat:=by rw[c,yq]
   have g:beN l / 256=beN m:=by omega
   have i:beN l % 256=d.toNat:=by omega
   unfold leB;rw[ain (by omega),g,i,akP,n m (by rw[c]at h;simp at h;omega) (λy s k=>by
    rw[c,k]at a;simp only[aix,ajA]at a;rw[a.1];exact b)]
   rw[c];simp
def aep(l:List UInt8)(e:l.length<=9)(x:UInt8)(r:List UInt8)(a:l=x::r)(b:x.toNat≠0∨r=[]):gI (beN l)=l:=by
 obtain⟨m,d,c⟩:∃m d,l=m++[d]:=⟨l.dropLast,l.getLast (by rw[a];simp),(ajQ (by rw[a];simp)).symm⟩;have h:=d.toNat_lt;have g:beN l=256*beN m+d.toNat:=by rw[c,yq]
 unfold gI;rw[show beN l / 256=beN m from by omega,show beN l % 256=d.toNat from by omega,aeo 8 m (by rw[c]at e;simp at e;omega) (λy s f=>by
  rw[c,f]at a;simp only[aix,ajA]at a;rcases b with b|b
  ·rw[a.1];exact b
  ·rw[b]at a;simp at a),c]
 simp
def Zs(N:Nat)(H:20<=N)(a:List UInt8)(I:a.length<4611686018427387904)(L k o:Int)(h:bp N a=some (L,k,0,o)):∃(n:Nat)(i:List UInt8),n<=2147483647/\a=aY n++i/\L=(n:Int)/\k=((aY n).length:Int):=by
 unfold bp syv at h;cases a with
 |nil=>cases h
 |cons b r=>
  have C:((((b::r).length:Nat):Int)==0)=false:=aic.2 (by simp only[ahL];omega);have p:ix (b::r) 0=some b:=rfl;have J:=b.toNat_lt;rw[C]at h;simp only[ahM,p,ahE,z7]at h;by_cases v:(b.toNat:Int)<128
  ·rw[ahK v]at h;simp only[ahS,ahI,ah3]at h;obtain⟨rfl,rfl,_,_⟩:=h;have e:aY b.toNat=[b]:=by
    unfold aY;rw[ahY (by omega),Og _ (by omega)];simp
   exact⟨b.toNat,r,by omega,by rw[e];rfl,rfl,by rw[e];rfl⟩
  ·rw[ahH v]at h;obtain⟨c,E⟩:∃c:Nat,b.toNat=128+c:=⟨b.toNat-128,by omega⟩;have g:aX .i64 (b.toNat:Int) 128=(c:Int):=by
    show IntKind.i64.wrap _=_;rw[E,aie _ (by omega)];omega
   rw[g]at h;simp only[ahM,bJ,ahE]at h;by_cases D:c=0
   ·subst D;cases h
   ·rw[show((c:Int)==0)=false from aic.2 (by omega)]at h;simp only[ahM]at h;by_cases w:(c:Int)>4
    ·rw[ahK w]at h;cases h
    ·rw[ahH w]at h;simp only[ahM]at h;by_cases j:(((b::r).length:Nat):Int)<=(c:Int)
     ·rw[ahK j]at h;cases h
     ·rw[ahH j]at h;simp only[ahM]at h;simp only[ahL]at j;have t:r=r.take c++r.drop c:=(aiQ c r).symm;have f:(r.take c).length=c:=by rw[aid];omega
      have A:=Hd N b (r.take c) (r.drop c) (by omega) (r.take c).length N 0 0 (by omega) (by omega) (by omega) (by simp);rw[aiv,<-t,f]at A;rw[show aU N N (b::r,(c:Int),0,1,0,0)=_ from A]at h;obtain⟨x,s,B⟩:∃x s,r.take c=x::s:=by
       cases G:r.take c with
       |nil=>rw[G]at f;simp at f;omega
       |cons x s=>exact⟨x,s,rfl⟩
      have d:ix (b::r) 1=some x:=by rw[t,B];rfl
      simp only[ahE,d]at h;by_cases l:((x.toNat:Int)==0)=true
      ·rw[l]at h;cases h
      ·rw[show((x.toNat:Int)==0)=false from by simpa using l]at h;have u:x.toNat≠0:=by
        intro F;apply l;rw[F];rfl
       simp only[ahM]at h;have m:(r.take c).foldl (λn x=>256*n+x.toNat) 0=beN (r.take c):=rfl;rw[m]at h;by_cases y:((beN (r.take c):Nat):Int)<128
       ·rw[ahK y]at h;cases h
       ·rw[ahH y]at h;simp only[ahM]at h;by_cases z:((beN (r.take c):Nat):Int)>2147483647
        ·rw[ahK z]at h;cases h
        ·rw[ahH z]at h;simp only[ahM,ahI,ah3]at h;obtain⟨rfl,rfl,_⟩:=h;have q:=aep (r.take c) (by omega) x s B (.inl u);have e:aY (beN (r.take c))=b::r.take c:=by
          unfold aY;rw[ain (by omega),q,f];congr 1;apply UInt8.toNat_inj.1;simp;omega
         refine⟨beN (r.take c),r.drop c,by omega,by rw[e,aix,<-t],rfl,?_⟩;rw[e];show IntKind.i64.wrap _=_;rw[aie _ (by omega)];simp only[ahL,f];omega
end Go.Fw
namespace Go.Fw
open Go
def idB(c:Nat)(k:Bool)(num:Nat):UInt8:=UInt8.ofNat (64*c+(if k then 32 else 0)+num)
def Oi:∀(c:Fin 4)(k:Bool)(num:Fin 31),bP (c.val:Int) k (num.val:Int)=some (((idB c.val k num.val).toNat:Int),0)/\aT ((idB c.val k num.val).toNat:Int)=some ((c.val:Int),k,(num.val:Int),0):=aih (by kernel_rfl)
def Oj{c num:Nat}(k:Bool)(a:c<4)(b:num<31):bP (c:Int) k (num:Int)=some (((idB c k num).toNat:Int),0):=(Oi ⟨c,a⟩ k ⟨num,b⟩).1
def UZ{c num:Nat}(k:Bool)(a:c<4)(b:num<31):aT ((idB c k num).toNat:Int)=some ((c:Int),k,(num:Int),0):=(Oi ⟨c,a⟩ k ⟨num,b⟩).2
def SW:∀n:Fin 256,(match aT ((UInt8.ofNat n.val).toNat:Int) with
 |some (c,k,num,e)=>decide (e=0->0<=c/\c<4/\0<=num/\num<31/\UInt8.ofNat n.val=idB c.toNat k num.toNat)
 |none=>false)=true:=aih (by kernel_rfl)
def LM(b:UInt8):∃c k a e,aT (b.toNat:Int)=some (c,k,a,e)/\(e=0->∃f d:Nat,f<4/\d<31/\c=(f:Int)/\a=(d:Int)/\b=idB f k d):=by
 have h:=SW ⟨b.toNat,b.toNat_lt⟩;rw[show UInt8.ofNat (⟨b.toNat,b.toNat_lt⟩:Fin 256).val=b from by simp]at h;cases g:aT (b.toNat:Int) with
 |none=>rw[g]at h;cases h
 |some x=>
  obtain⟨c,k,a,e⟩:=x;rw[g]at h;refine⟨c,k,a,e,rfl,λj=> ?_⟩;obtain⟨l,m,n,o,i⟩:=aih h j;exact⟨c.toNat,a.toNat,by omega,by omega,by omega,by omega,i⟩
def qq(b:UInt8)(r:List UInt8):slc (b::r) 1 ((b::r).length:Int)=some r:=by
 unfold slc;rw[ahY ⟨by decide,by simp only[ahL];omega,by omega⟩,aiL,ajh];rfl
def gb{a b:Int}(h: -4611686018427387904<=a+b/\a+b<=4611686018427387904):aq .i64 a b=a+b:=by
 show IntKind.i64.wrap _=_;rw[aie _ (by omega)]
def pZ{a b:Int}(h: -4611686018427387904<=a-b/\a-b<=4611686018427387904):aX .i64 a b=a-b:=by
 show IntKind.i64.wrap _=_;rw[aie _ (by omega)]
def U0(N:Nat)(f:20<=N){c num n:Nat}(k:Bool)(g:c<4)(i:num<31)(h:n<=2147483647)(a:List UInt8):
 aW N (idB c k num::(aY n++a))=some (((c:Int),(num:Int),k,(n:Int),((1+(aY n).length:Nat):Int)),0,0):=by
 have j:=oK n (by omega);unfold aW syv;have e:((((idB c k num::(aY n++a)).length:Nat):Int)==0)=false:=aic.2 (by simp only[ahL];omega);have b:ix (idB c k num::(aY n++a)) 0=some (idB c k num):=rfl;rw[e,qq];simp only[ahM,b,ahE,UZ k g i,Zr N f n h a];have d:aq .i64 1 (((aY n).length:Nat):Int)=((1+(aY n).length:Nat):Int):=by
  rw[gb (by omega)];omega
 rw[d];rfl
def Ev(N:Nat)(u:20<=N)(a:List UInt8)(v:a.length<4611686018427387904)(c num L sz o:Int)(k:Bool)(h:aW N a=some ((c,num,k,L,sz),0,o)):
 ∃(f d n:Nat)(e:List UInt8),f<4/\d<31/\n<=2147483647/\a=idB f k d::(aY n++e)/\c=(f:Int)/\num=(d:Int)/\L=(n:Int)/\sz=((1+(aY n).length:Nat):Int):=by
 unfold aW syv at h;cases a with
 |nil=>cases h
 |cons b r=>
  have t:((((b::r).length:Nat):Int)==0)=false:=aic.2 (by simp only[ahL];omega);have l:ix (b::r) 0=some b:=rfl;obtain⟨c1,C,s,p,hid,i⟩:=LM b;rw[t,qq]at h;simp only[ahM,l,ahE,hid]at h;by_cases j:p=0
  ·obtain⟨f,d,w,z,rfl,rfl,rfl⟩:=i j;subst j;rw[show((0:Int) !=0)=false from rfl]at h;simp only[ahM]at h;cases m:bp N r with
   |none=>rw[m]at h;cases h
   |some x=>
    obtain⟨A,D,q,E⟩:=x;rw[m]at h;simp only[ahE]at h;by_cases g:q=0
    ·subst g;rw[show((0:Int) !=0)=false from rfl]at h;simp only[ahM,ahI,ah3]at h;obtain⟨⟨rfl,rfl,rfl,rfl,rfl⟩,_⟩:=h;obtain⟨n,e,y,rfl,rfl,rfl⟩:=Zs N u r (by simp at v;omega) _ _ _ m;have B:=oK n (by omega);refine⟨f,d,n,e,w,z,y,rfl,rfl,rfl,rfl,?_⟩;rw[gb (by omega)];omega
    ·rw[show(q !=0)=true from by simpa using g]at h;simp only[ahS,ahI,ah3]at h;omega
  ·rw[show(p !=0)=true from by simpa using j]at h;simp only[ahS,ahI,ah3]at h;omega
end Go.Fw
namespace Go.Fw
open Go
def Q1(N n:Nat)(c d:List Bs)(i2 i4 i5:Int):aB N (n+1) (c,i2,d,i4,i5)=bif decide (i5<i4) then((ix d i5).bind λe=>((bif decide (aq .i64 i2 (e.length:Int)<0) then none else some (c,aq .i64 i2 (e.length:Int),d,i4,i5):Option (List Bs×Int×List Bs×Int×Int))).bind λ(g,f,h,a,b)=>
 aB N n (g,f,h,a,aq .i64 b 1)) else some (c,i2):=rfl
def Q2(N n:Nat)(c:List Bs)(b a:Int)(d:Bs):aC N (n+1) (c,b,a,d)=bif decide (a<b) then((ix c a).bind λe=>(app 1 d e).bind λf=>aC N n (c,b,aq .i64 a 1,f)) else some d:=rfl
def afB(N:Nat)(xs:List Bs)(g:xs.length<4611686018427387904):∀(k n i s:Nat),xs.length-i=k->i<=xs.length->k<n->s+(xs.drop i).flatten.length<=1099511627776->
 aB N n (xs,(s:Int),xs,(xs.length:Int),(i:Int))=some (xs,((s+(xs.drop i).flatten.length:Nat):Int)):=by
 intro k;induction k with
 |zero=>
  intro n i s c b d _;obtain⟨n,rfl⟩:∃m,n=m+1:=⟨n-1,by omega⟩;rw[Q1,ahH (by omega:¬(i:Int)<(xs.length:Int)),aji (by omega)];rfl
 |succ k f=>
  intro n i s c b d e;obtain⟨n,rfl⟩:∃m,n=m+1:=⟨n-1,by omega⟩;have a:i<xs.length:=by omega
  rw[ah9 a,List.flatten_cons,ahJ]at e;rw[Q1,ahK (by omega:(i:Int)<(xs.length:Int)),ahS,cr (ahG a)];simp only[ahE];rw[gb (by omega),show(s:Int)+((xs[i].length:Nat):Int)=((s+xs[i].length:Nat):Int) from by omega,ahH (by omega:¬((s+xs[i].length:Nat):Int)<0)];simp only[ahM,ahE];rw[cC (by omega),f n (i+1) _ (by omega) (by omega) (by omega) (by omega),ah9 a,List.flatten_cons,ahJ,ajL]
def afC(N:Nat)(xs:List Bs)(h:xs.length<4611686018427387904):∀(k n i:Nat)(l:Bs),xs.length-i=k->i<=xs.length->k<n->l.length+(xs.drop i).flatten.length<=1099511627776->
 aC N n (xs,(xs.length:Int),(i:Int),l)=some (l++(xs.drop i).flatten):=by
 intro k;induction k with
 |zero=>
  intro n i l d c e _;obtain⟨n,rfl⟩:∃m,n=m+1:=⟨n-1,by omega⟩;rw[Q2,ahH (by omega:¬(i:Int)<(xs.length:Int)),aji (by omega)];simp
 |succ k g=>
  intro n i l d c e f;obtain⟨n,rfl⟩:∃m,n=m+1:=⟨n-1,by omega⟩;have a:i<xs.length:=by omega
  rw[ah9 a,List.flatten_cons,ahJ]at f;rw[Q2,ahK (by omega:(i:Int)<(xs.length:Int)),ahS,cr (ahG a)];simp only[ahE];have b:app 1 l xs[i]=some (l++xs[i]):=by
   unfold app cK;rw[ahY ⟨by omega,by omega⟩]
  rw[b];simp only[ahE];rw[cC (by omega),g n (i+1) _ (by omega) (by omega) (by omega) (by rw[ahJ];omega),ah9 a,List.flatten_cons,ah6]
def ub(N:Nat)(xs:List Bs)(c:xs.length<N)(e:N<4611686018427387904)(d:xs.flatten.length<=1099511627776):aS N xs=some xs.flatten:=by
 unfold aS syv;have a:=afB N xs (by omega) xs.length N 0 0 rfl (by omega) c (by simpa using d);rw[aiv,aiw]at a;rw[show aB N N (xs,0,xs,(xs.length:Int),0)=_ from a];simp only[ahE];have f:jW ((xs.flatten.length:Nat):Int)=some []:=by
  unfold jW cK;rw[ahK (by omega:(0:Int)<=((xs.flatten.length:Nat):Int)),ahK (by omega:((xs.flatten.length:Nat):Int)<=((1099511627776:Nat):Int))];rfl
 rw[f];simp only[ahE];have b:=afC N xs (by omega) xs.length N 0 [] rfl (by omega) c (by simpa using d);rw[aiv,ait]at b;rw[show aC N N (xs,(xs.length:Int),0,[])=_ from b];rfl
def tlv(c:Nat)(k:Bool)(num:Nat)(body:List UInt8):List UInt8:=idB c k num::(aY body.length++body)
def m5(c:Nat)(k:Bool)(num:Nat)(body:List UInt8):(tlv c k num body).length=1+(aY body.length).length+body.length:=by
 unfold tlv;simp;omega
def U1(N:Nat)(b:20<=N)(a:N<4611686018427387904){c num:Nat}(k:Bool)(e:c<4)(f:num<31)(body:List UInt8)(d:body.length<=2147483647):eM N (c:Int) k (num:Int) body=some (tlv c k num body,0):=by
 have g:=oK body.length (by omega);unfold eM syv;rw[Oj k e f];simp only[ahE];rw[show((0:Int) !=0)=false from rfl,UY N b body.length d];simp only[ahM,ahE];rw[show((0:Int) !=0)=false from rfl,Tq];simp only[ahM,ahE];rw[ub N _ (by simp;omega) a (by simp;omega)];simp[tlv]
def Q3(N:Nat)(b:20<=N)(a:N<4611686018427387904){c num:Nat}(k:Bool)(e:c<4)(f:num<31)(xs:List Bs)(g:xs.length<N)(d:xs.flatten.length<=2147483647):aI N (c:Int) k (num:Int) xs=some (tlv c k num xs.flatten,0):=by
 unfold aI syv;rw[ub N xs g a (by omega)];simp only[ahE];rw[U1 N b a k e f _ d];rfl
def Q4(N:Nat)(b:20<=N)(a:N<4611686018427387904)(xs:List Bs)(e:xs.length<N)(d:xs.flatten.length<=2147483647):aE N xs=some (tlv 0 true 16 xs.flatten,0):=by
 unfold aE syv;rw[show aI N 0 true 16 xs=_ from Q3 N b a (c:=0) (num:=16) true (by omega) (by omega) xs e d];rfl
end Go.Fw
def ail:=@List.drop_of_length_le
def alo:=@List.take_append
namespace Go.Fw
open Go
def Nk{α:Type}(p s q:List α):slc (p++s++q) (p.length:Int) ((p.length+s.length:Nat):Int)=some s:=by
 unfold slc;rw[ahY ⟨by omega,by omega,by simp only[ahJ];omega⟩,aiL,aiL,ah6,alo,aib (by omega),ajj,ail (ahO _)];simp
abbrev bU:=Int×Int×Bool×Int×Int×Int
def lf(c:Nat)(k:Bool)(num:Nat)(body:List UInt8)(off:Nat):bU:=((c:Int),(num:Int),k,(off:Int),((off+1+(aY body.length).length:Nat):Int),((off+(tlv c k num body).length:Nat):Int))
def Ew(N:Nat)(g:20<=N){c num:Nat}(k:Bool)(i:c<4)(n:num<31)(p body s q:List UInt8)(j:(p++(tlv c k num body++s)++q).length<4611686018427387904)(h:body.length<=2147483647):
 bF N (p++(tlv c k num body++s)++q) (p.length:Int) ((p.length+(tlv c k num body++s).length:Nat):Int)=some (lf c k num body p.length,0,0):=by
 have l:=oK body.length (by omega);have m:=m5 c k num body;simp only[ahJ]at j;unfold bF syv;rw[ahK (by omega:((p.length+(tlv c k num body++s).length:Nat):Int)<=((p.length+(tlv c k num body++s).length:Nat):Int)),ahK (by simp only[ahJ];omega:((p.length+(tlv c k num body++s).length:Nat):Int)<=(((p++(tlv c k num body++s)++q).length:Nat):Int))];simp only[ajf,ahS,Nk,ahE];have b:=U0 N g k i n h (body++s);rw[show idB c k num::(aY body.length++(body++s))=tlv c k num body++s from by simp[tlv]]at b;rw[b];simp only[ahE];rw[show((0:Int) !=0)=false from rfl];simp only[ahM];have d:aX .i64 (aX .i64 ((p.length+(tlv c k num body++s).length:Nat):Int) (p.length:Int)) ((1+(aY body.length).length:Nat):Int)=((body.length+s.length:Nat):Int):=by
  rw[pZ (a:=((p.length+(tlv c k num body++s).length:Nat):Int)) (by simp only[ahJ];omega),pZ (by simp only[ahJ];omega)];simp only[ahJ];omega
 rw[d,ahH (by omega:¬((body.length+s.length:Nat):Int)<(body.length:Int))];have e:aq .i64 (p.length:Int) ((1+(aY body.length).length:Nat):Int)=((p.length+1+(aY body.length).length:Nat):Int):=by
  rw[gb (by omega)];omega
 have f:aq .i64 ((p.length+1+(aY body.length).length:Nat):Int) (body.length:Int)=((p.length+(tlv c k num body).length:Nat):Int):=by
  rw[gb (by omega)];omega
 rw[e,f];rfl
def Q5(N:Nat)(a:20<=N){c num:Nat}(k:Bool)(d:c<4)(g:num<31)(body:List UInt8)(b:body.length<=2147483647):bx N (tlv c k num body)=some (lf c k num body 0,0,0):=by
 have e:=oK body.length (by omega);have f:=m5 c k num body;have h:=Ew N a k d g [] body [] [] (by simp only[ahJ,ah1];omega) b;simp only[ait,ah4,ah1,aiw]at h;unfold bx syv;rw[show bF N (tlv c k num body) 0 (((tlv c k num body).length:Nat):Int)=_ from h];simp only[ahE];rw[show((0:Int)==0)=true from rfl,ahH (by show ¬((0+(tlv c k num body).length:Nat):Int)<_;omega)];rfl
def Ex(N:Nat)(B:20<=N)(a:List UInt8)(i j:Nat)(D:i<=j)(I:j<=a.length)(H:a.length<4611686018427387904)(v:bU)(o:Int)(h:bF N a (i:Int) (j:Int)=some (v,0,o)):
 ∃(c num:Nat)(k:Bool)(body q:List UInt8),c<4/\num<31/\body.length<=2147483647/\a.drop i=tlv c k num body++q/\v=lf c k num body i/\i+(tlv c k num body).length<=j:=by
 unfold bF syv at h;rw[ahK (by omega:(j:Int)<=(j:Int)),ahK (by omega:(j:Int)<=((a.length:Nat):Int))]at h;have F:slc a (i:Int) (j:Int)=some ((a.take j).drop i):=by
  unfold slc;rw[ahY ⟨by omega,by omega,by omega⟩];simp
 simp only[ajf,ahS,F,ahE]at h;cases l:aW N ((a.take j).drop i) with
 |none=>rw[l]at h;cases h
 |some x=>
  obtain⟨⟨c1,u,t,L,M⟩,e,K⟩:=x;rw[l]at h;simp only[ahE]at h;by_cases p:e=0
  ·subst p;obtain⟨c,num,n,b,C,G,J,m,rfl,rfl,rfl,rfl⟩:=Ev N B _ (by simp only[aiC,aid];omega) _ _ _ _ _ _ l;rw[show((0:Int) !=0)=false from rfl]at h;simp only[ahM]at h;have E:=oK n (by omega);have r:j-i=1+(aY n).length+b.length:=by
    have:=aii List.length m;simp only[aiC,aid,ahL,ahJ]at this;omega
   have w:aX .i64 (aX .i64 (j:Int) (i:Int)) ((1+(aY n).length:Nat):Int)=(b.length:Int):=by
    rw[pZ (a:=(j:Int)) (by omega),pZ (by omega)];omega
   rw[w]at h;by_cases s:((b.length:Nat):Int)<(n:Int)
   ·rw[ahK s]at h;simp only[ahS,ahI,ah3]at h;omega
   ·rw[ahH s]at h;have y:aq .i64 (i:Int) ((1+(aY n).length:Nat):Int)=((i+1+(aY n).length:Nat):Int):=by
     rw[gb (by omega)];omega
    have z:aq .i64 ((i+1+(aY n).length:Nat):Int) (n:Int)=((i+1+(aY n).length+n:Nat):Int):=by
     rw[gb (by omega)];omega
    rw[y,z]at h;simp only[ahM,ahI,ah3]at h;have d:(b.take n).length=n:=by rw[aid];omega
    have f:b=b.take n++b.drop n:=(aiQ n b).symm;have g:=m5 c t num (b.take n);rw[d]at g;refine⟨c,num,t,b.take n,b.drop n++a.drop j,C,G,by omega,?_,?_,by omega⟩
    ·have:a.drop i=(a.take j).drop i++a.drop j:=by
      have A:a=a.take j++a.drop j:=(aiQ j a).symm
      conv=>lhs;rw[A]
      rw[ajj,aid];congr 1;rw[show i-min j a.length=0 from by omega,aiv]
     rw[this,m];unfold tlv;rw[d];simp only[aix,ah6];rw[<-ah6 (b.take n),<-f]
    ·unfold lf;rw[d];refine h.1.symm.trans ?_;congr 5;rw[g];omega
  ·rw[show(e !=0)=true from by simpa using p]at h;simp only[ahS,ahI,ah3]at h;omega
end Go.Fw
namespace Go.Fw
open Go
abbrev TLV:=Nat×Bool×Nat×List UInt8
def am(t:TLV):List UInt8:=tlv t.1 t.2.1 t.2.2.1 t.2.2.2
def okT(t:TLV):Prop:=t.1<4/\t.2.2.1<31/\t.2.2.2.length<=2147483647
def jA:Nat->List TLV->List bU
 |_,[]=>[]
 |off,t::r=>lf t.1 t.2.1 t.2.2.1 t.2.2.2 off::jA (off+(am t).length) r
def aA(a:List TLV):List UInt8:=(a.map am).flatten
def iq(t:TLV)(r:List TLV):aA (t::r)=am t++aA r:=by simp[aA]
def Ey(t:TLV):2<=(am t).length:=by
 unfold am;rw[m5];have:1<=(aY t.2.2.2.length).length:=by
  unfold aY;have:=Id t.2.2.2.length;split
  ·omega
  ·simp only[ahL];omega
 omega
def iV:∀(a:List TLV),2*a.length<=(aA a).length
 |[]=>by simp[aA]
 |t::r=>by
  have b:=Ey t;have c:=iV r;rw[iq,ahJ,ahL];omega
def C9(N n:Nat)(a:Bs)(i2 i3:Int)(b:List bU):bX N (n+1) (a,i2,i3,0,0,b)=bif decide (i3<i2) then((bF N a i3 i2).bind λ(c,d)=>bif (d.1 !=0) then some (Sum.inl d) else((app 48 b [c]).bind λe=>bX N n (a,i2,c.2.2.2.2.2,0,0,e))) else some (Sum.inr (0,0,b)):=rfl
def Tv(l:List bU)(v:bU)(h:l.length<10000000):app 48 l [v]=some (l++[v]):=by
 unfold app cK;rw[ahY ⟨by simp only[ahL,ah1];omega,by simp only[ahL,ah1];omega⟩]
def Tw(N:Nat)(e:20<=N):∀(a:List TLV)(p q:List UInt8)(n:Nat)(acc:List bU),(∀t∈a,okT t)->a.length<n->(p++aA a++q).length<4611686018427387904->acc.length+a.length<10000000->
 bX N n (p++aA a++q,((p.length+(aA a).length:Nat):Int),(p.length:Int),0,0,acc)=some (.inr (0,0,acc++jA p.length a))
 |[],p,q,n,acc,_,c,_,_=>by
  obtain⟨n,rfl⟩:∃m,n=m+1:=⟨n-1,by simp at c;omega⟩;rw[C9,ahH (by simp[aA])];simp[jA]
 |t::r,p,q,n,acc,g,c,d,f=>by
  obtain⟨n,rfl⟩:∃m,n=m+1:=⟨n-1,by simp at c;omega⟩;obtain⟨i,j,k⟩:=g t (aik ..);have o:=Ey t;rw[C9,ahK (by rw[iq,ahJ];omega:((p.length:Nat):Int)<((p.length+(aA (t::r)).length:Nat):Int)),ahS];have b:=Ew N e t.2.1 i j p t.2.2.2 (aA r) q (by rw[show tlv t.1 t.2.1 t.2.2.1 t.2.2.2++aA r=aA (t::r) from(iq t r).symm];exact d) k;rw[show tlv t.1 t.2.1 t.2.2.1 t.2.2.2++aA r=aA (t::r) from(iq t r).symm]at b;rw[b];simp only[ahE];rw[show((0:Int) !=0)=false from rfl,ahM,Tv _ _ (by simp at f;omega)];simp only[ahE];have h:=Tw N e r (p++am t) q n (acc++[lf t.1 t.2.1 t.2.2.1 t.2.2.2 p.length]) (λx l=>g x (ah0 _ l)) (by simp at c;omega) (by rw[iq]at d;simp at d⊢;omega) (by simp at f⊢;omega);rw[show p++am t++aA r++q=p++aA (t::r)++q from by rw[iq];simp,show(((p++am t).length+(aA r).length:Nat):Int)=((p.length+(aA (t::r)).length:Nat):Int) from by rw[iq];simp;omega,ahJ]at h;rw[show(lf t.1 t.2.1 t.2.2.1 t.2.2.2 p.length).2.2.2.2.2=((p.length+(am t).length:Nat):Int) from rfl,h,jA];simp
def Zt(N:Nat)(b:20<=N)(a:List TLV)(p q:List UInt8)(f:∀t∈a,okT t)(e:a.length<N)(c:(p++aA a++q).length<4611686018427387904)(d:a.length<10000000):
 bv N (p++aA a++q) (p.length:Int) ((p.length+(aA a).length:Nat):Int)=some (jA p.length a,0,0):=by
 unfold bv syv;rw[ahH (by omega:¬((p.length:Nat):Int)<0),ahH (by omega:¬((p.length:Nat):Int)>((p.length+(aA a).length:Nat):Int)),ahH (by simp only[ahJ];omega:¬((p.length+(aA a).length:Nat):Int)>(((p++aA a++q).length:Nat):Int))];simp only[ahM];rw[Tw N b a p q N [] f e c (by simpa using d)];simp
def aeq(N:Nat)(C:20<=N)(a:List UInt8)(j:Nat)(J:j<=a.length)(D:a.length<4611686018427387904):∀(n i:Nat)(acc:List bU)(y:(Int×Int)⊕(Int×Int×List bU)),i<=j->bX N n (a,(j:Int),(i:Int),0,0,acc)=some y->
 (∃e o,y=.inl (e,o)/\e≠0)∨∃l,(∀t∈l,okT t)/\(a.take j).drop i=aA l/\y=.inr (0,0,acc++jA i l):=by
 intro n;induction n with
 |zero=>intro i acc y _ h;cases h
 |succ n L=>
  intro i acc y H h;rw[C9]at h;by_cases I:i<j
  ·rw[ahK (by omega:(i:Int)<(j:Int)),ahS]at h;cases A:bF N a (i:Int) (j:Int) with
   |none=>rw[A]at h;cases h
   |some x=>
    obtain⟨v,e,o⟩:=x;rw[A]at h;simp only[ahE]at h;by_cases s:e=0
    ·subst s;obtain⟨c,d,k,b,q,F,K,E,B,rfl,w⟩:=Ex N C a i j H J D v o A;rw[show((0:Int) !=0)=false from rfl,ahM]at h;cases f:app 48 acc [lf c k d b i] with
     |none=>rw[f]at h;cases h
     |some M=>
      rw[f]at h;simp only[ahE]at h;have u:M=acc++[lf c k d b i]:=by
       unfold app at f;split at f
       ·cases f;rfl
       ·cases f
      subst u;have g:(a.take j).drop i=tlv c k d b++(a.take j).drop (i+(tlv c k d b).length):=by
       have m:(a.take j).drop i=(a.drop i).take (j-i):=by rw[akO]
       have p:(a.take j).drop (i+(tlv c k d b).length)=(a.drop (i+(tlv c k d b).length)).take (j-(i+(tlv c k d b).length)):=by rw[akO]
       have r:a.drop (i+(tlv c k d b).length)=q:=by
        rw[<-ajc,B,ajj,ail (ahO _)];simp
       rw[m,p,r,B,alo,aib (by omega)];congr 2;omega
      rcases L (i+(tlv c k d b).length) _ y w h with G|⟨l,m,p,r⟩
      ·exact .inl G
      ·refine .inr ⟨(c,k,d,b)::l,?_,?_,?_⟩
       ·intro t z;rcases ah8.1 z with rfl|z
        ·exact⟨F,K,E⟩
        ·exact m t z
       ·rw[g,p,iq];rfl
       ·rw[r,jA];simp[am]
    ·rw[show(e !=0)=true from by simpa using s,cond_true]at h;cases h;exact .inl ⟨e,o,rfl,s⟩
  ·rw[ahH (by omega:¬(i:Int)<(j:Int))]at h;cases h;refine .inr ⟨[],by simp,?_,by simp[jA]⟩;have:i=j:=by omega
   subst this;rw[ail (by rw[aid];omega)];rfl
def Kf(N:Nat)(k:20<=N)(a:List UInt8)(i j:Nat)(c:i<=j)(n:j<=a.length)(m:a.length<4611686018427387904)(l:List bU)(o:Int)(h:bv N a (i:Int) (j:Int)=some (l,0,o)):
 ∃b,(∀t∈b,okT t)/\(a.take j).drop i=aA b/\l=jA i b:=by
 unfold bv syv at h;rw[ahH (by omega:¬((i:Nat):Int)<0),ahH (by omega:¬((i:Nat):Int)>(j:Int)),ahH (by omega:¬((j:Nat):Int)>((a.length:Nat):Int))]at h;simp only[ahM]at h;cases d:bX N N (a,(j:Int),(i:Int),0,0,[]) with
 |none=>rw[d]at h;cases h
 |some y=>
  rw[d]at h;rcases aeq N k a j n m N i [] y c d with⟨e,q,rfl,p⟩|⟨b,f,g,rfl⟩
  ·simp only[ahE,ahI,ah3]at h;omega
  ·simp only[ahE,ahI,ah3]at h;exact⟨b,f,g,by rw[<-h.1];simp⟩
end Go.Fw
def aj7:=@Bool.not_false
namespace Go.Fw
open Go
def WD(v:bU)(c num:Int)(k:Bool):bA v c k num=some (bif (v.1==c) then(bif (v.2.2.1==k) then(v.2.1==num) else false) else false):=by
 obtain⟨a,b,d,e,f,g⟩:=v;unfold bA syv;simp only;cases (a==c)<;>cases (d==k)<;>rfl
def LN(c num b a:Nat)(k d:Bool)(body:List UInt8)(off:Nat):bA (lf c k num body off) (b:Int) d (a:Int)=some (decide (c=b/\k=d/\num=a)):=by
 rw[WD];unfold lf;simp only;congr 1;by_cases f:c=b
 ·subst f;rw[aln,ahS];by_cases e:k=d
  ·subst e;rw[aln,ahS];by_cases g:num=a
   ·subst g;simp
   ·rw[show((num:Int)==(a:Int))=false from aic.2 (by omega)];simp[g]
  ·rw[show(k==d)=false from aic.2 e];simp[e]
 ·rw[show((c:Int)==(b:Int))=false from aic.2 (by omega)];simp[f]
def Nl(N:Nat)(j:20<=N)(a:List UInt8)(l:a.length<4611686018427387904)(v:bU)(o:Int)(h:bx N a=some (v,0,o)):
 ∃(c num:Nat)(k:Bool)(body:List UInt8),c<4/\num<31/\body.length<=2147483647/\a=tlv c k num body/\v=lf c k num body 0:=by
 unfold bx syv at h;cases f:bF N a 0 ((a.length:Nat):Int) with
 |none=>rw[f]at h;cases h
 |some x=>
  obtain⟨u,e,t⟩:=x;rw[f]at h;simp only[ahE]at h;by_cases g:e=0
  ·subst g;obtain⟨c,num,k,body,q,n,s,m,b,rfl,p⟩:=Ex N j a 0 a.length (aiH _) (ahO _) l u t f;rw[show((0:Int)==0)=true from rfl,ahS]at h;rw[aiv]at b;have i:a.length=(tlv c k num body).length+q.length:=by rw[b,ahJ]
   by_cases d:(lf c k num body 0).2.2.2.2.2<((a.length:Nat):Int)
   ·rw[ahK d]at h;simp only[ahS,ahI,ah3]at h;omega
   ·rw[ahH d]at h;have r:¬(((0+(tlv c k num body).length:Nat):Int)<((a.length:Nat):Int)):=d;have:q=[]:=aip (by omega);subst this;simp only[ahM,ahI,ah3]at h;exact⟨c,num,k,body,n,s,m,by rw[b,ah4],h.1.symm⟩
  ·rw[show(e==0)=false from by simpa using g]at h;simp only[ahM,ahI,ah3]at h;omega
def WE(N:Nat)(b:20<=N){c num:Nat}(h:c<4)(m:num<31)(a:List TLV)(l:∀t∈a,okT t)(k:a.length<N)(j:a.length<10000000)(g:(aA a).length<=2147483647):
 aD N (tlv c true num (aA a)) (c:Int) (num:Int)=some (jA (1+(aY (aA a).length).length) a,0,0):=by
 have i:=oK (aA a).length (by omega);unfold aD syv;rw[Q5 N b true h m (aA a) g];simp only[ahE];rw[show((0:Int) !=0)=false from rfl,LN];simp only[ahM,ahE,and_self,decide_true,aiK];have d:=Zt N b a (idB c true num::aY (aA a).length) [] l k (by simp;omega) j;rw[ah4,show(idB c true num::aY (aA a).length)++aA a=tlv c true num (aA a) from by simp[tlv],show((idB c true num::aY (aA a).length).length)=1+(aY (aA a).length).length from by simp;omega]at d;have e:(lf c true num (aA a) 0).2.2.2.2.1=((1+(aY (aA a).length).length:Nat):Int):=by
  show((0+1+(aY (aA a).length).length:Nat):Int)=_;omega
 have f:(lf c true num (aA a) 0).2.2.2.2.2=((1+(aY (aA a).length).length+(aA a).length:Nat):Int):=by
  show((0+(tlv c true num (aA a)).length:Nat):Int)=_;rw[m5];omega
 rw[e,f,d];rfl
def WF(N:Nat)(p:20<=N){c num:Nat}(a:List UInt8)(q:a.length<4611686018427387904)(l:List bU)(o:Int)(h:aD N a (c:Int) (num:Int)=some (l,0,o)):
 ∃f,(∀t∈f,okT t)/\(aA f).length<=2147483647/\c<4/\num<31/\a=tlv c true num (aA f)/\l=jA (1+(aY (aA f).length).length) f:=by
 unfold aD syv at h;cases m:bx N a with
 |none=>rw[m]at h;cases h
 |some x=>
  obtain⟨J,e,H⟩:=x;rw[m]at h;simp only[ahE]at h;by_cases r:e=0
  ·subst r;obtain⟨c1,d,k,b,D,F,C,i,rfl⟩:=Nl N p a q J H m;have E:=oK b.length (by omega);rw[show((0:Int) !=0)=false from rfl,ahM,LN]at h;simp only[ahE]at h;by_cases s:c1=c/\k=true/\d=num
   ·obtain⟨rfl,rfl,rfl⟩:=s;simp only[and_self,decide_true,aiK,ahM]at h;have j:=m5 c1 true d b;have B:a.length=1+(aY b.length).length+b.length:=by rw[i,j]
    have u:(lf c1 true d b 0).2.2.2.2.1=((1+(aY b.length).length:Nat):Int):=by
     show((0+1+(aY b.length).length:Nat):Int)=_;omega
    have v:(lf c1 true d b 0).2.2.2.2.2=((a.length:Nat):Int):=by
     show((0+(tlv c1 true d b).length:Nat):Int)=_;rw[<-i];omega
    rw[u,v]at h;cases n:bv N a ((1+(aY b.length).length:Nat):Int) ((a.length:Nat):Int) with
    |none=>rw[n]at h;cases h
    |some y=>
     obtain⟨G,K,I⟩:=y;rw[n]at h;simp only[ahE,ahI,ah3]at h;obtain⟨rfl,rfl,rfl⟩:=h;obtain⟨f,w,z,A⟩:=Kf N p a _ a.length (by omega) (ahO _) q G I n;have g:b=aA f:=by
      rw[<-z,ajh,i];show b=(idB c1 true d::(aY b.length++b)).drop (1+(aY b.length).length);rw[akN,aj4,ajj,ail (ahO _)];simp
     subst g;exact⟨f,w,C,D,F,i,A⟩
   ·rw[ahH s]at h;simp only[aj7,ahS,ahI,ah3]at h;omega
  ·rw[show(e !=0)=true from by simpa using r]at h;simp only[ahS,ahI,ah3]at h;omega
end Go.Fw
namespace Go.Fw
open Go
def wK{x:List UInt8}(h:x.length<=1099511627776):fP x=some x:=by
 unfold fP app cK;simp only[ah1,aiw,aly,ait];rw[ahY ⟨by omega,by omega⟩]
abbrev uc:=Bs×Int
def vC(x:uc)(e:x.1.length<4611686018427387904):∃c,ba x=some c/\(c=true->0<=x.2/\x.2<=7):=by
 unfold ba syv;by_cases d:x.1.length=0
 ·rw[show(((x.1.length:Nat):Int)==0)=true from by rw[d];rfl];exact⟨_,rfl,λh=>by have:=aih (by simpa using h:decide (x.2=0)=true);omega⟩
 ·rw[show(((x.1.length:Nat):Int)==0)=false from aic.2 (by omega)];simp only[ahM];by_cases a:x.2>=0
  ·by_cases b:x.2<=7
   ·rw[ahK a,ahK b,UX (by omega) (by omega),cr (ahG (by omega:x.1.length-1<x.1.length))];exact⟨_,rfl,λ_=>⟨by omega,b⟩⟩
   ·rw[ahK a,ahH b];exact⟨false,rfl,λh=>by cases h⟩
  ·rw[ahH a];exact⟨false,rfl,λh=>by cases h⟩
def lB(x:uc):List UInt8:=UInt8.ofNat x.2.toNat::x.1
def Zu(N:Nat)(i:20<=N)(a:N<4611686018427387904)(x:uc)(j:x.1.length<=1000000000)(e:ba x=some true):kj N x=some (lB x,0):=by
 obtain⟨c,b,f⟩:=vC x (by omega);rw[e]at b;cases b;obtain⟨g,h⟩:=f rfl;unfold kj syv;rw[e];obtain⟨n,d⟩:∃n:Nat,x.2=(n:Int):=⟨x.2.toNat,by omega⟩;simp only[ahE,aiK,ahM];rw[d,nC];simp only[ahE];rw[ub N _ (by simp;omega) a (by simp;omega)];unfold lB;rw[d,aiL,show n % 256=n from by omega];simp
def Zv(x:uc)(h:x.1.length<=1000000000)(d:ba x=some true):cz (lB x)=some (x,0):=by
 obtain⟨c,a,i⟩:=vC x (by omega);rw[d]at a;cases a;obtain⟨f,g⟩:=i rfl;obtain⟨b,n⟩:=x;simp only at f g h;unfold cz lB syv;rw[show(((((UInt8.ofNat n.toNat::b).length):Nat):Int)==0)=false from aic.2 (by simp only[ahL];omega),qq];simp only[ahM,ahE];rw[wK (by omega),show ix (UInt8.ofNat n.toNat::b) 0=some (UInt8.ofNat n.toNat) from rfl];simp only[ahE];have e:IntKind.wrap .i64 ((UInt8.ofNat n.toNat).toNat:Int)=n:=by
  rw[z7];simp;omega
 rw[e,d];rfl
def Zw(c:List UInt8)(d:c.length<=1000000000):∃x e,cz c=some (x,e)/\(e=0->c=lB x/\ba x=some true):=by
 unfold cz syv;cases c with
 |nil=>exact⟨([],0),6,rfl,λh=>by cases h⟩
 |cons b r=>
  rw[show((((b::r).length:Nat):Int)==0)=false from aic.2 (by simp only[ahL];omega),qq];simp only[ahL]at d;simp only[ahM,ahE];rw[wK (by omega),show ix (b::r) 0=some b from rfl];simp only[ahE,z7];obtain⟨v,a,f⟩:=vC (r,(b.toNat:Int)) (by simp only;omega);rw[a];cases v with
  |false=>exact⟨([],0),6,rfl,λh=>by cases h⟩
  |true=>
   refine⟨(r,(b.toNat:Int)),0,rfl,λ_=>⟨?_,a⟩⟩;unfold lB;simp
end Go.Fw
def ak0:=@decide_eq_decide
namespace Go.Fw
open Go
set_option maxRecDepth 100000 in
def Tx:∀b:UInt8,(bits .and .u8 (b.toNat:Int) 128==0)=decide (b.toNat<128):=by
 intro b;have h:∀n:Fin 256,(bits .and .u8 (n.val:Int) 128==0)=decide (n.val<128):=by decide
 exact h ⟨b.toNat,b.toNat_lt⟩
def mN:List UInt8->Bool
 |[]=>false
 |[_]=>true
 |a::b::_=> !(a.toNat==0&&decide (b.toNat<128))&& !(a.toNat==255&& !decide (b.toNat<128))
def Ez(n k:Nat):((n:Int)==(k:Int))=(n==k):=by
 show decide ((n:Int)=(k:Int))=decide (n=k);exact ak0.2 (by omega)
def kX(v:List UInt8):cW v=some (mN v):=by
 unfold cW syv
 match v with
 |[]=>rfl
 |[a]=>rfl
 |a::b::r=>
  have f:decide ((((a::b::r).length:Nat):Int)<2)=false:=by
   simp only[ahL,akM];omega
  rw[f];have i:ix (a::b::r) 1=some b:=rfl;have h:ix (a::b::r) 0=some a:=rfl;have e:((a.toNat:Int)==0)=(a.toNat==0):=Ez _ 0;have c:((a.toNat:Int)==255)=(a.toNat==255):=Ez _ 255;have d:=Tx b;have g:(bits .and .u8 (b.toNat:Int) 128 !=0)= !decide (b.toNat<128):=by rw[<-d];rfl
  simp only[i,h,ahE,ahM,e,c,d,g,mN];cases j:(a.toNat==0)<;>cases k:(a.toNat==255)<;>cases l:decide (b.toNat<128)<;>rfl
end Go.Fw
def ajH:=@Go.IntKind.wrap_u64
namespace Go.Fw
open Go
def Zz{α:Type}(k:Nat)(a:k<=16)(l r:List α)(h:l.length+r.length<=60000000000):app k l r=some (l++r):=by
 unfold app cK;have:(l.length+r.length)*k<=(l.length+r.length)*16:=Nat.mul_le_mul_left _ a;rw[ahY ⟨by omega,by omega⟩]
def WG(l:List Int):∃c,dT l=some c:=by
 unfold dT syv
 match l with
 |[]=>exact⟨_,rfl⟩
 |[_]=>exact⟨_,rfl⟩
 |a::b::r=>
  rw[ahH (by simp only[ahL];omega),show ix (a::b::r) 0=some a from rfl,show ix (a::b::r) 1=some b from rfl];simp only[ahM,ahE];cases decide (a>2)<;>cases decide (a<2)<;>exact⟨_,rfl⟩
def He(n:Nat)(h:n<18446744073709551616):(Lib.decDigits n).length<=20:=by
 rw[ak6];rcases akG n with rfl|a
 ·unfold Lib.nDigits;simp
 ·have:=Lib.numDigits_eq n a h;split at this<;>omega
def Q6(n:Nat)(h:n<18446744073709551616):aQ (n:Int)=some (Lib.decDigits n):=by
 have a:Nat.blt n 18446744073709551616=true:=aiE h;have b:jV (Int.ofNat n)=some (Lib.decDigits n):=by
  show(bif Nat.blt n 18446744073709551616 then some (Lib.decDigits n) else none)=_;rw[a];rfl
 show(jV (Int.ofNat n)).bind _=_;rw[b];rfl
def WH(N n:Nat)(s:List Int)(i:Nat)(acc:List Bs):eU N (n+1) (s,(s.length:Int),(i:Int),acc)=bif decide ((i:Int)<(s.length:Int)) then(ix s (i:Int)).bind λe=>(aQ (IntKind.wrap .u64 e)).bind λt=>(app 16 acc [t]).bind λl=>eU N n (s,(s.length:Int),aq .i64 (i:Int) 1,l) else some acc:=rfl
def oo(x:Int):List UInt8:=Lib.decDigits (IntKind.wrap .u64 x).toNat
def U2(N:Nat)(s:List Int)(h:s.length<=2000000000):∀(k n i:Nat),s.length-i=k->k<n->i<=s.length->
 eU N n (s,(s.length:Int),(i:Int),(s.take i).map oo)=some (s.map oo):=by
 intro k;induction k with
 |zero=>
  intro n i d e c;obtain⟨n,rfl⟩:∃m,n=m+1:=⟨n-1,by omega⟩;rw[WH,ahH (by omega),show i=s.length from by omega,ajh];rfl
 |succ k g=>
  intro n i d e c;obtain⟨n,rfl⟩:∃m,n=m+1:=⟨n-1,by omega⟩;have a:i<s.length:=by omega
  have f:0<=IntKind.wrap .u64 s[i]/\IntKind.wrap .u64 s[i]<18446744073709551616:=by
   rw[ajH];omega
  have b:aQ (IntKind.wrap .u64 s[i])=some (oo s[i]):=by
   have:=Q6 (IntKind.wrap .u64 s[i]).toNat (by omega);rw[ajl f.1]at this;exact this
  rw[WH,ahK (by omega),ahS,cr (ahG a),ahE,b,ahE,Zz 16 (by omega) _ _ (by simp;omega),ahE,cC (by omega)];have:=g n (i+1) (by omega) (by omega) (by omega);rw[aiM,ahG a,aiN]at this;exact this
def WI(x:Int):(oo x).length<=20:=by
 unfold oo;refine He _ ?_;rw[ajH];omega
def ab6(s:List Int):(Lib.joinTail [46] (s.map oo)).length<=21*s.length:=by
 induction s with
 |nil=>simp[Lib.joinTail]
 |cons x r a=>
  have h:=WI x;unfold Lib.joinTail at a⊢;simp only[ahU,List.flatten_cons,ahJ,ahL,ah1]at a⊢;omega
def ZA(N:Nat)(s:List Int)(g:s.length<=2000000000)(d:s.length<N):∃t e,iy N s=some (t,e)/\(dT s=some true->t=Lib.join (s.map oo) [46]/\e=0)/\(dT s=some false->e=8):=by
 unfold iy syv;obtain⟨c,f⟩:=WG s;rw[f,ahE];cases c with
 |false=>exact⟨_,_,rfl,(λh=>by cases h),λ_=>rfl⟩
 |true=>
  have a:=U2 N s g s.length N 0 (by omega) d (by omega);rw[ald,ai0]at a;have k:(Lib.join (s.map oo) [46]).length<=21*s.length:=by
   cases s with
   |nil=>simp[Lib.join_nil]
   |cons x r=>
    have i:=WI x;have j:=ab6 r;rw[ahU,Lib.join_cons,ahJ,ahL];omega
  have b:jU (s.map oo) [46]=some (Lib.join (s.map oo) [46]):=by
   unfold jU C1;rw[show Nat.ble (s.map oo).length 140737488355328=true from aiE (by rw[aiq];omega),show Nat.ble (Lib.join (s.map oo) [46]).length 140737488355328=true from aiE (by omega)];rfl
  refine⟨Lib.join (s.map oo) [46],0,?_,λ_=>⟨rfl,rfl⟩,λh=>by cases h⟩;simp only[aiK,ahM];rw[show eU N N (s,(s.length:Int),0,[])=_ from a,ahE,b];rfl
end Go.Fw
namespace Go.Fw
open Go
def Zp(N:Nat)(A:20<=N)(a:List UInt8)(B:a.length<4611686018427387904):∃L k e o:Int,bp N a=some (L,k,e,o)/\0<=o/\o<=(a.length:Int):=by
 unfold bp syv;cases a with
 |nil=>exact⟨0,0,1,0,rfl,by omega,by simp⟩
 |cons b r=>
  have t:((((b::r).length:Nat):Int)==0)=false:=aic.2 (by simp only[ahL];omega);have i:ix (b::r) 0=some b:=rfl;have C:=b.toNat_lt;have d:(0:Int)<=((b::r).length:Int):=by omega
  rw[t];simp only[ahM,i,ahE,z7,bJ,syv];by_cases l:(b.toNat:Int)<128
  ·rw[ahK l];exact⟨_,_,_,_,rfl,by omega,d⟩
  ·rw[ahH l];obtain⟨c,w⟩:∃c:Nat,b.toNat=128+c:=⟨b.toNat-128,by omega⟩;have g:aX .i64 (b.toNat:Int) 128=(c:Int):=by
    show IntKind.i64.wrap _=_;rw[w,aie _ (by omega)];omega
   rw[g];simp only[ahM];by_cases u:c=0
   ·subst u;exact⟨0,0,4,0,rfl,by omega,d⟩
   ·rw[show((c:Int)==0)=false from aic.2 (by omega)];simp only[ahM];by_cases m:(c:Int)>4
    ·rw[ahK m];exact⟨0,0,4,0,rfl,by omega,d⟩
    ·rw[ahH m];simp only[ahM];by_cases h:(((b::r).length:Nat):Int)<=(c:Int)
     ·rw[ahK h];exact⟨0,0,1,_,rfl,d,Int.le_refl _⟩
     ·rw[ahH h];simp only[ahM];simp only[ahL]at h;have q:r=r.take c++r.drop c:=(aiQ c r).symm;have j:(r.take c).length=c:=by rw[aid];omega
      have p:=Hd N b (r.take c) (r.drop c) (by omega) (r.take c).length N 0 0 (by omega) (by omega) (by omega) (by simp);rw[aiv,<-q,j]at p;rw[show aU N N (b::r,(c:Int),0,1,0,0)=_ from p];obtain⟨x,s,z⟩:∃x s,r.take c=x::s:=by
       cases y:r.take c with
       |nil=>rw[y]at j;simp at j;omega
       |cons x s=>exact⟨x,s,rfl⟩
      have f:ix (b::r) 1=some x:=by rw[q,z];rfl
      simp only[ahE,f];generalize (r.take c).foldl (λn x=>256*n+x.toNat) 0=v;cases ((x.toNat:Int)==0)
      ·simp only[ahM];cases decide ((v:Int)<128)
       ·simp only[ahM];cases decide ((v:Int)>2147483647)
        ·exact⟨_,_,_,_,rfl,by omega,d⟩
        ·exact⟨0,0,4,0,rfl,by omega,d⟩
       ·exact⟨0,0,4,0,rfl,by omega,d⟩
      ·exact⟨0,0,4,0,rfl,by omega,d⟩
def LL(N:Nat)(l:20<=N)(a:List UInt8)(c:a.length<4611686018427387904):∃h e o,aW N a=some (h,e,o)/\(0:Int)<=o/\o<=(a.length:Int):=by
 unfold aW syv;cases a with
 |nil=>exact⟨_,_,_,rfl,by omega,by simp⟩
 |cons b r=>
  have j:((((b::r).length:Nat):Int)==0)=false:=aic.2 (by simp only[ahL];omega);have d:ix (b::r) 0=some b:=rfl;have f:(0:Int)<=((b::r).length:Int):=by omega
  obtain⟨c1,q,g,i,hid,_⟩:=LM b;obtain⟨L,k,e,o,m,n,p⟩:=Zp N l r (by simp at c;omega);rw[j,qq];simp only[ahM,d,ahE,hid,m];cases (i !=0)
  ·simp only[ahM];cases (e !=0)
   ·exact⟨_,_,_,rfl,by omega,f⟩
   ·refine⟨_,_,_,rfl,?_,?_⟩
    ·simp only[ahL]at c;rw[gb (by omega)];omega
    ·simp only[ahL]at c⊢;rw[gb (by omega)];omega
  ·exact⟨_,_,_,rfl,by omega,f⟩
def QZ(N:Nat)(d:20<=N)(a:List UInt8)(i j:Nat)(g:i<=j)(n:j<=a.length)(m:a.length<2305843009213693952):∃v e o,bF N a (i:Int) (j:Int)=some (v,e,o)/\(0:Int)<=o/\o<=(j:Int):=by
 unfold bF syv;rw[ahK (by omega:(j:Int)<=(j:Int)),ahK (by omega:(j:Int)<=((a.length:Nat):Int))];have k:slc a (i:Int) (j:Int)=some ((a.take j).drop i):=by
  unfold slc;rw[ahY ⟨by omega,by omega,by omega⟩];simp
 have b:((a.take j).drop i).length=j-i:=by simp only[aiC,aid];omega
 simp only[ajf,ahS,k,ahE];obtain⟨h,e,o,f,l,c⟩:=LL N d ((a.take j).drop i) (by omega);rw[f];simp only[ahE];rw[b]at c;cases (e !=0)
 ·simp only[ahM];cases decide (aX .i64 (aX .i64 (j:Int) (i:Int)) h.2.2.2.2<h.2.2.2.1)
  ·exact⟨_,_,_,rfl,by omega,by omega⟩
  ·exact⟨_,_,_,rfl,by omega,by omega⟩
 ·refine⟨_,_,_,rfl,?_,?_⟩
  ·rw[gb (by omega)];omega
  ·rw[gb (by omega)];omega
def aem(N:Nat)(p:20<=N)(a:List UInt8)(j:Nat)(t:j<=a.length)(G:a.length<10000000):∀(k n i:Nat)(acc:List bU),j-i<=k->k<n->i<=j->2*acc.length<=i->
 ∃y,bX N n (a,(j:Int),(i:Int),0,0,acc)=some y/\∀e o,y=.inl (e,o)->(0:Int)<=o/\o<=(a.length:Int):=by
 intro k;induction k with
 |zero=>
  intro n i acc z A f _;obtain⟨n,rfl⟩:∃m,n=m+1:=⟨n-1,by omega⟩;rw[C9,ahH (by omega:¬(i:Int)<(j:Int))];exact⟨_,rfl,λe o h=>by cases h⟩
 |succ k D=>
  intro n i acc z A f r;obtain⟨n,rfl⟩:∃m,n=m+1:=⟨n-1,by omega⟩;rw[C9];by_cases x:i<j
  ·rw[ahK (by omega:(i:Int)<(j:Int)),ahS];obtain⟨v,e,o,u,w,F⟩:=QZ N p a i j f t (by omega);rw[u];simp only[ahE];by_cases s:e=0
   ·subst s;obtain⟨c,d,l,b,q,I,K,H,J,rfl,g⟩:=Ex N p a i j f t (by omega) v o u;have B:=Ey (c,l,d,b);have C:2<=(tlv c l d b).length:=B;rw[show((0:Int) !=0)=false from rfl,ahM,Tv _ _ (by omega)];simp only[ahE];exact D n (i+(tlv c l d b).length) _ (by omega) (by omega) g (by simp;omega)
   ·rw[show(e !=0)=true from by simpa using s,cond_true];exact⟨_,rfl,λE L h=>by cases h;exact⟨w,by omega⟩⟩
  ·rw[ahH (by omega:¬(i:Int)<(j:Int))];exact⟨_,rfl,λe o h=>by cases h⟩
def Kc(N:Nat)(a:List UInt8)(g:a.length+20<=N)(i j:Nat)(b:i<=j)(d:j<=a.length)(c:a.length<10000000):∃l e o,bv N a (i:Int) (j:Int)=some (l,e,o)/\(0:Int)<=o/\o<=(a.length:Int):=by
 unfold bv syv;rw[ahH (by omega:¬((i:Nat):Int)<0),ahH (by omega:¬((i:Nat):Int)>(j:Int)),ahH (by omega:¬((j:Nat):Int)>((a.length:Nat):Int))];simp only[ahM];obtain⟨y,f,h⟩:=aem N (by omega) a j d c j N i [] (by omega) (by omega) b (by simp);rw[f];cases y with
 |inl p=>
  obtain⟨e,o⟩:=p;exact⟨[],e,o,rfl,h e o rfl⟩
 |inr p=>
  obtain⟨_,_,l⟩:=p;exact⟨l,0,0,rfl,by omega,by omega⟩
def Tu(N:Nat)(f:20<=N)(a:List UInt8)(m:a.length<2305843009213693952):∃v e o,bx N a=some (v,e,o)/\(e=0∨(0:Int)<=o/\o<=(a.length:Int)):=by
 unfold bx syv;obtain⟨v,e,o,i,j,l⟩:=QZ N f a 0 a.length (aiH _) (ahO _) m;rw[show bF N a 0 ((a.length:Nat):Int)=_ from i];simp only[ahE];by_cases g:e=0
 ·subst g;obtain⟨c,d,k,b,q,r,t,p,s,rfl,n⟩:=Ex N f a 0 a.length (aiH _) (ahO _) (by omega) v o i;rw[show((0:Int)==0)=true from rfl,ahS];by_cases h:(lf c k d b 0).2.2.2.2.2<((a.length:Nat):Int)
  ·rw[ahK h];refine⟨_,_,_,rfl,.inr ⟨?_,by omega⟩⟩;show(0:Int)<=((0+(tlv c k d b).length:Nat):Int);omega
  ·rw[ahH h];exact⟨_,_,_,rfl,.inl rfl⟩
 ·rw[show(e==0)=false from by simpa using g];exact⟨_,_,_,rfl,.inr ⟨j,l⟩⟩
end Go.Fw
namespace Go.Fw
open Go
def Jq(N:Nat)(a:Bs)(T:a.length<10000000)(R:Bs->Int->Int->Int->Option (Fw.Spot×(Int×Int)))(d:Nat)(hd:d<=100)
 (J:∀i j:Nat,i<=j->j<=a.length->∃v e o,R a (i:Int) (j:Int) (d:Int)=some (v,e,o)/\(0:Int)<=o/\o<=(a.length:Int)/\(e=0->∃s:Nat,v.stop=(s:Int)/\i<s/\s<=j))
 (b:Nat)(M:b<=a.length)(r t u:Int)(w:Bool):∀(k n c:Nat)(f:List Fw.Spot)(g:List Fw.Node),b-c=k->k<n->c<=b->f.length<=c->g.length<=c->
 ∃y,bO N R n (a,((d+1:Nat):Int),(c:Int),0,0,0,0,false,[],0,0,g,f,r,(b:Int),t,u,w)=some y/\
  ((∃e o:Int,y=.inl (0,0,0,0,false,e,o)/\e≠0/\0<=o/\o<=(a.length:Int))∨∃l S,y=.inr (0,0,0,0,false,[],0,0,l,S,r,(b:Int),t,u,w)):=by
 intro k;induction k using Nat.strongRecOn with
 |_ k Q=>
  intro n c f g U V W F G;obtain⟨n,rfl⟩:∃m,n=m+1:=⟨n-1,by omega⟩;rcases ahW c b with L|K
  ·have h:decide ((c:Int)<(b:Int))=true:=ahK (by omega);have p:aX .i64 ((d+1:Nat):Int) 1=(d:Int):=by
    show IntKind.i64.wrap _=_;rw[aie _ (by omega)];omega
   obtain⟨v,e,o,D,E,H,I⟩:=J c b (by omega) M;have q:=Q;unfold bO at q⊢;simp only[h,ahS,p,D,ahE];by_cases x:e=0
   ·obtain⟨s,A,O,P⟩:=I x;rw[show(e !=0)=false from by rw[x];rfl];simp only[ahM];have B:∀z:Fw.Spot,app 112 f [z]=some (f++[z]):=λz=>by
     unfold app cK;rw[ahY ⟨by simp only[ahL,ah1];omega,by simp only[ahL,ah1];omega⟩]
    have C:∀z:Fw.Node,app 72 g [z]=some (g++[z]):=λz=>by
     unfold app cK;rw[ahY ⟨by simp only[ahL,ah1];omega,by simp only[ahL,ah1];omega⟩]
    rw[B,ahE,C,ahE,A];exact q (b-s) (by omega) n s _ _ rfl (by omega) (by omega) (by simp;omega) (by simp;omega)
   ·rw[show(e !=0)=true from by simpa using x];exact⟨_,rfl,.inl ⟨e,o,rfl,x,E,H⟩⟩
  ·have h:decide ((c:Int)<(b:Int))=false:=ahH (by omega);refine⟨_,?_,.inr ⟨g,f,rfl⟩⟩;unfold bO;simp only[h,ahM]
def Ok(N n:Nat)(e:Bs)(a2 a3 a4:Int):bZ N (n+1) e a2 a3 a4=(
 bif (a4==0) then(
 (cJ 5 a2).bind λ(b,H)=>
 some (Fw.Spot.mk b.at' b.stop (Fw.Node.mk b.nd.cls b.nd.num b.nd.cons b.nd.body b.nd.kids) b.kids,H))
 else
 bif (decide (a3<=a3)&&decide (a3<=e.length)) then(
 (slc e a2 a3).bind λG=>
 (aW N G).bind λ(a,w)=>
 bif (w.1 !=0) then(
 (cJ w.1 (aq .i64 a2 w.2)).bind λ(c,I)=>
 some (Fw.Spot.mk c.at' c.stop (Fw.Node.mk c.nd.cls c.nd.num c.nd.cons c.nd.body c.nd.kids) c.kids,I))
 else
 bif decide (aX .i64 a3 (aq .i64 a2 a.2.2.2.2)<a.2.2.2.1) then(
 (cJ 1 a3).bind λ(d,J)=>
 some (Fw.Spot.mk d.at' d.stop (Fw.Node.mk d.nd.cls d.nd.num d.nd.cons d.nd.body d.nd.kids) d.kids,J))
 else
 bif (!a.2.2.1) then(
 (slc e (aq .i64 a2 a.2.2.2.2) (aq .i64 (aq .i64 a2 a.2.2.2.2) a.2.2.2.1)).bind λv=>
 (fP v).bind λs=>
 some (Fw.Spot.mk a2 (aq .i64 (aq .i64 a2 a.2.2.2.2) a.2.2.2.1) (Fw.Node.mk a.1 a.2.1 a.2.2.1 s []) [],0,0))
 else
 (bO N (bZ N n) N (e,a4,aq .i64 a2 a.2.2.2.2,0,0,0,0,false,[],0,0,[],[],a2,aq .i64 (aq .i64 a2 a.2.2.2.2) a.2.2.2.1,a.1,a.2.1,a.2.2.1)).bind λx=>(match x with
 |Sum.inl (h,i,j,k,f,l,m)=>some (Fw.Spot.mk h i (Fw.Node.mk j k f [] []) [],l,m)
 |Sum.inr ((z,A,B,C,y,F,D,E,t,u,o,p,q,r,g))=>some (Fw.Spot.mk o p (Fw.Node.mk q r g [] t) u,0,0)))
 else
 none):=rfl
def Kg(N:Nat)(a:Bs)(hN:a.length+20<=N)(K:a.length<10000000):∀(d n:Nat),d<n->d<=100->∀i j:Nat,i<=j->j<=a.length->
 ∃v e o,bZ N n a (i:Int) (j:Int) (d:Int)=some (v,e,o)/\(0:Int)<=o/\o<=(a.length:Int)/\(e=0->∃s:Nat,v.stop=(s:Int)/\i<s/\s<=j):=by
 intro d;induction d with
 |zero=>
  intro n P _ i j g C;obtain⟨n,rfl⟩:∃m,n=m+1:=⟨n-1,by omega⟩;exact⟨_,5,(i:Int),rfl,by omega,by omega,λh=>by cases h⟩
 |succ d S=>
  intro n P hd i j g C;obtain⟨n,rfl⟩:∃m,n=m+1:=⟨n-1,by omega⟩;have J:=S n (by omega) (by omega);have u:=Jq N a K (bZ N n) d (by omega) J;have I:((((d+1:Nat)):Int)==0)=false:=aic.2 (by omega);have O:(decide ((j:Int)<=(j:Int))&&decide ((j:Int)<=(a.length:Int)))=true:=by simp;omega
  have r:∀p q:Nat,p<=q->q<=a.length->slc a (p:Int) (q:Int)=some ((a.take q).drop p):=λp q Y Z=>by
   unfold slc;rw[ahY ⟨by omega,by omega,by omega⟩];simp
  have b:((a.take j).drop i).length=j-i:=by rw[aiC,aid];omega
  obtain⟨h,e,o,B,Q,w⟩:=LL N (by omega) ((a.take j).drop i) (by omega);rw[b]at w;rw[Ok,I,ahM,O,ahS,r i j g C,ahE,B,ahE];by_cases t:e=0
  ·subst t;obtain⟨c,z,k,L,U⟩:=h;obtain⟨A,f,m,E,q1,q2,q3,T,rfl,rfl,rfl,rfl⟩:=Ev N (by omega) _ (by omega) c z L U o k B;have D:=aii List.length T;rw[b]at D;simp only[ahL,ahJ]at D;have V:aq .i64 (i:Int) ((1+(aY m).length:Nat):Int)=((i+(1+(aY m).length):Nat):Int):=by rw[gb (by omega)];omega
   have W:aX .i64 (j:Int) ((i+(1+(aY m).length):Nat):Int)=((j-(i+(1+(aY m).length)):Nat):Int):=by
    show IntKind.i64.wrap _=_;rw[aie _ (by omega)];omega
   simp only[alk,ahM,V,W];by_cases hm:j-(i+(1+(aY m).length))<m
   ·rw[ahK (by omega)];exact⟨_,1,(j:Int),rfl,by omega,by omega,λh=>by cases h⟩
   ·rw[ahH (by omega)];have X:aq .i64 ((i+(1+(aY m).length):Nat):Int) (m:Int)=((i+(1+(aY m).length)+m:Nat):Int):=by rw[gb (by omega)];omega
    simp only[ahM,X];cases k
    ·simp only[aj7,ahS];rw[r _ _ (by omega) (by omega),ahE,wK (by rw[aiC,aid];omega),ahE];exact⟨_,0,0,rfl,by omega,by omega,λ_=>⟨i+(1+(aY m).length)+m,rfl,by omega,by omega⟩⟩
    ·simp only[aiK,ahM];obtain⟨y,R,M⟩:=u (i+(1+(aY m).length)+m) (by omega) (i:Int) (A:Int) (f:Int) true _ N (i+(1+(aY m).length)) [] [] rfl (by omega) (by omega) (by simp) (by simp);have x:bO N (bZ N n) N (a,((d+1:Nat):Int),((i+(1+(aY m).length):Nat):Int),0,0,0,0,false,[],0,0,[],[],(i:Int),((i+(1+(aY m).length)+m:Nat):Int),(A:Int),(f:Int),true)=some y:=R;rw[x,ahE];rcases M with⟨e,o,rfl,F,G,H⟩|⟨l,l',rfl⟩
     ·exact⟨_,e,o,rfl,G,H,λh=>absurd h F⟩
     ·exact⟨_,0,0,rfl,by omega,by omega,λ_=>⟨i+(1+(aY m).length)+m,rfl,by omega,by omega⟩⟩
  ·dsimp only;rw[show(e !=0)=true from by simpa using t];refine⟨_,e,aq .i64 (i:Int) o,rfl,?_,?_,λh=>absurd h t⟩
   ·rw[gb (by omega)];omega
   ·rw[gb (by omega)];omega
def U3(N:Nat)(a:Bs)(h:a.length+20<=N)(i:a.length<10000000):∃v e o,cD N a=some (v,e,o)/\(0:Int)<=o/\o<=(a.length:Int):=by
 unfold cD fe syv;obtain⟨v,e,o,f,c,d,g⟩:=Kg N a h i 16 N (by omega) (by omega) 0 a.length (by omega) (ahO _);rw[show bZ N N a 0 (a.length:Int) 16=_ from f,ahE];dsimp only;by_cases b:e=0
 ·obtain⟨s,k,_,l⟩:=g b;rw[show(e==0)=true from by simpa using b,k];simp only[ahS];by_cases j:s<a.length
  ·rw[ahK (by omega:(s:Int)<(a.length:Int))];exact⟨_,_,_,rfl,by show(0:Int)<=(s:Int);omega,by show(s:Int)<=_;omega⟩
  ·rw[ahH (by omega:¬(s:Int)<(a.length:Int))];exact⟨_,_,_,rfl,c,d⟩
 ·rw[show(e==0)=false from by simpa using b];exact⟨_,_,_,rfl,c,d⟩
end Go.Fw


namespace Go.Fw
open Go
def ZB(a:Bs):∃c e,cP a=some (c,e):=by
 unfold cP syv
 match a with
 |[]=>exact⟨_,_,rfl⟩
 |x::y::r=>
  rw[show((((x::y::r).length:Nat):Int) !=1)=true from by simp only[bne_iff_ne,ne_eq,ahL];omega];exact⟨_,_,rfl⟩
 |[x]=>
  rw[show((((([x]:Bs)).length:Nat):Int) !=1)=false from rfl];simp only[ahM,show ix [x] 0=some x from rfl,ahE];cases ((x.toNat:Int) !=0)<;>cases ((x.toNat:Int) !=255)<;>exact⟨_,_,rfl⟩
end Go.Fw

namespace Go.Fw
open Go
def Hf(a:List UInt8):∀(k:Nat)(s:List UInt8),(Lib.splitK a 0 k s).length<=k+1/\∀x∈Lib.splitK a 0 k s,x.length<=s.length
 |0,s=>by
  unfold Lib.splitK;exact⟨by simp,λx b=>by simp at b;subst b;exact ahO _⟩
 |k+1,s=>by
  unfold Lib.splitK;split
  ·exact⟨by simp,λx b=>by simp at b;subst b;exact ahO _⟩
  ·obtain⟨d,c⟩:=Hf a k (s.drop ((Lib.index s a).toNat+a.length));refine⟨by simp only[ahL];omega,λx b=> ?_⟩;rcases ah8.1 b with rfl|b
   ·rw[aid];omega
   ·have:=c x b;rw[aiC]at this;omega
def Ol(s:List UInt8)(c:s.length<=1000000000):∃l,ig s [46]=some l/\l.length<=s.length+2/\∀x∈l,x.length<=s.length:=by
 refine⟨Lib.split s [46],?_,?_,(Hf [46] _ s).2⟩
 ·unfold ig;rw[show Nat.blt s.length 4294967281=true from aiE (by omega)];rfl
 ·have a:=(Hf [46] (Lib.count s [46]) s).1;have b:=Lib.count_le s [46];show(Lib.splitK [46] 0 (Lib.count s [46]) s).length<=_;omega
def aer(s:List UInt8)(b:s.length<=1000000000):(∃n:Nat,ml s=some (.inl (n:Int))/\n<=4294967295/\Lib.parseUintB 32 s=.ok n)∨∃z,ml s=some (.inr z):=by
 have a:Nat.ble s.length yk=true:=aiE (by unfold yk;omega);unfold ml;rw[a,ahS];cases h:Lib.parseUintB 32 s with
 |ok u=>
  have:=Lib.parseUintB_le h;exact .inl ⟨u,rfl,by simpa using this,rfl⟩
 |range=>exact .inr ⟨_,rfl⟩
 |_=>exact .inr ⟨_,rfl⟩
end Go.Fw
namespace Go.Fw
open Go
def OW{α:Type}(x:Option α)(Q:α->Prop):Prop:=∃a,x=some a/\Q a
def aa{α:Type}{Q:α->Prop}{a:α}(h:Q a):OW (some a) Q:=⟨a,rfl,h⟩
def ai{α b:Type}{Q:b->Prop}{R:α->Prop}{x:Option α}{f:α->Option b}(h:OW x R)(k:∀a,R a->OW (f a) Q):OW (x.bind f) Q:=by
 obtain⟨a,rfl,c⟩:=h;exact k a c
def ax{α:Type}{Q:α->Prop}{c:Bool}{x y:Option α}(a:c=true->OW x Q)(b:c=false->OW y Q):OW (bif c then x else y) Q:=by
 cases c
 ·exact b rfl
 ·exact a rfl
def Ix{α:Type}{Q R:α->Prop}{x:Option α}(h:OW x Q)(k:∀a,Q a->R a):OW x R:=by
 obtain⟨a,rfl,b⟩:=h;exact⟨a,rfl,k a b⟩
def Iy{α:Type}{Q:α->Prop}{x:Option α}{a:α}(h:x=some a)(k:Q a):OW x Q:=⟨a,h,k⟩
def OP{α:Type}(x:Option α)(Q:α->Prop):Prop:=∀a,x=some a->Q a
def kS{α:Type}{Q:α->Prop}{a:α}(h:Q a):OP (some a) Q:=λ_ e=>by cases e;exact h
def yP{α c:Type}{Q:c->Prop}{R:α->Prop}{x:Option α}{f:α->Option c}(h:OP x R)(k:∀a,R a->OP (f a) Q):OP (x.bind f) Q:=by
 intro b e;cases x with
 |none=>cases e
 |some a=>exact k a (h a rfl) b e
def HE{α:Type}(x:Option α):OP x λ_=>True:=λ_ _=>trivial
def o9{α:Type}{Q:α->Prop}{c:Bool}{x y:Option α}(a:c=true->OP x Q)(b:c=false->OP y Q):OP (bif c then x else y) Q:=by
 cases c
 ·exact b rfl
 ·exact a rfl
def VQ{α:Type}{Q R:α->Prop}{x:Option α}(h:OW x Q)(k:OP x R):OW x λa=>Q a/\R a:=by
 obtain⟨a,b,c⟩:=h;exact⟨a,b,c,k a b⟩
def T2{σ b:Type}(F:Nat->σ->Option b)(I:σ->Prop)(m:σ->Nat)(Q:b->Prop)
 (step:∀n s,I s->(∀a,I a->m a<m s->OW (F n a) Q)->OW (F (n+1) s) Q):∀n s,I s->m s<n->OW (F n s) Q:=by
 intro n;induction n with
 |zero=>intro s _ h;omega
 |succ n e=>exact λs d g=>step n s d λa c f=>e a c (by omega)
inductive gz{α β:Type}(R:α->β->Prop):List α->List β->Prop where
 |nil:gz R [] []
 |cons {a b xs ys}:R a b->gz R xs ys->gz R (a::xs) (b::ys)
def gz.length{α b:Type}{R:α->b->Prop}{xs:List α}{a:List b}(h:gz R xs a):xs.length=a.length:=by
 induction h with
 |nil=>rfl
 |cons _ _ c=>simp[c]
def gz.get{α c:Type}{R:α->c->Prop}{xs:List α}{d:List c}(h:gz R xs d):∀{i:Nat}{b:c},d[i]?=some b->∃a,xs[i]?=some a/\R a b:=by
 induction h with
 |nil=>intro i b h;simp at h
 |cons e _ f=>
  intro i b h;cases i with
  |zero=>simp at h;subst h;exact⟨_,rfl,e⟩
  |succ i=>simp at h⊢;exact f h
def EL(a:Bs)(t:TLV)(e:bU):Prop:=∃p q:Bs,a=p++am t++q/\e=lf t.1 t.2.1 t.2.2.1 t.2.2.2 p.length
def vP(t:TLV):(am t).length=1+(aY t.2.2.2.length).length+t.2.2.2.length:=m5 _ _ _ _
def EL.bd{a:Bs}{t:TLV}{e:bU}(h:EL a t e):∃p q r:Nat,e.2.2.2.1=(p:Int)/\e.2.2.2.2.1=(q:Int)/\e.2.2.2.2.2=(r:Int)/\p<=q/\q<=r/\r<=a.length/\p+(am t).length=r:=by
 obtain⟨p,q,rfl,rfl⟩:=h;refine⟨p.length,p.length+1+(aY t.2.2.2.length).length,p.length+(am t).length,rfl,rfl,rfl,by omega,?_,?_,rfl⟩
 ·have:=vP t;omega
 ·simp only[ahJ];omega
def EL.whole{a:Bs}{t:TLV}{e:bU}(h:EL a t e):slc a e.2.2.2.1 e.2.2.2.2.2=some (am t):=by
 obtain⟨p,q,rfl,rfl⟩:=h;exact Nk p (am t) q
def EL.body{a:Bs}{t:TLV}{e:bU}(h:EL a t e):slc a e.2.2.2.2.1 e.2.2.2.2.2=some t.2.2.2:=by
 obtain⟨p,q,rfl,rfl⟩:=h;have h:=Nk (p++(idB t.1 t.2.1 t.2.2.1::aY t.2.2.2.length)) t.2.2.2 q;have c:p++(idB t.1 t.2.1 t.2.2.1::aY t.2.2.2.length)++t.2.2.2++q=p++am t++q:=by simp[am,tlv]
 have b:(p++(idB t.1 t.2.1 t.2.2.1::aY t.2.2.2.length)).length=p.length+1+(aY t.2.2.2.length).length:=by simp;omega
 have d:(p++(idB t.1 t.2.1 t.2.2.1::aY t.2.2.2.length)).length+t.2.2.2.length=p.length+(am t).length:=by rw[b,vP];omega
 rw[c,d,b]at h;exact h
def EL.is{a:Bs}{t:TLV}{e:bU}(h:EL a t e)(c num:Nat)(k:Bool):bA e (c:Int) k (num:Int)=some (decide (t.1=c/\t.2.1=k/\t.2.2.1=num)):=by
 obtain⟨p,q,rfl,rfl⟩:=h;exact LN _ _ _ _ _ _ _ _
def Iz:∀(a:List TLV)(p q:Bs),gz (EL (p++aA a++q)) a (jA p.length a)
 |[],_,_=>.nil
 |t::r,p,q=>by
  refine .cons ⟨p,aA r++q,by rw[iq];simp,rfl⟩ ?_;have h:=Iz r (p++am t) q;rw[show p++am t++aA r++q=p++aA (t::r)++q from by rw[iq];simp,ahJ]at h;exact h
def FN(N:Nat):Prop:=1000000000<=N/\N<4611686018427387904
def aaq{a:List TLV}(h:(aA a).length<10000000):a.length<10000000:=by
 have:=iV a;omega
def T3{N:Nat}(b:FN N){c num:Nat}(e:c<4)(i:num<31)(a:List TLV)(g:∀t∈a,okT t)(d:(aA a).length<10000000):
 ∃l,aD N (tlv c true num (aA a)) (c:Int) (num:Int)=some (l,0,0)/\gz (EL (tlv c true num (aA a))) a l:=by
 have f:=aaq d;refine⟨_,WE N (by unfold FN at b;omega) e i a g (by unfold FN at b;omega) f (by omega),?_⟩;have h:=Iz a (idB c true num::aY (aA a).length) [];rw[ah4,show(idB c true num::aY (aA a).length)++aA a=tlv c true num (aA a) from by simp[tlv],show((idB c true num::aY (aA a).length).length)=1+(aY (aA a).length).length from by simp;omega]at h;exact h
def sT{N:Nat}(B:FN N)(a:Bs)(x:a.length<10000000)(c num:Nat):OW (aD N a (c:Int) (num:Int)) λr=>
 (r.2=(0,0)/\∃g,(∀t∈g,okT t)/\c<4/\num<31/\a=tlv c true num (aA g)/\gz (EL a) g r.1)∨r.2.1≠0/\0<=r.2.2/\r.2.2<=(a.length:Int):=by
 unfold FN at B;have q:∃l e o,aD N a (c:Int) (num:Int)=some (l,e,o)/\(e=0/\o=0∨(0:Int)<=o/\o<=(a.length:Int)):=by
  unfold aD syv;obtain⟨v,e,o,i,s⟩:=Tu N (by omega) a (by omega);rw[i,ahE];dsimp only;by_cases f:e=0
  ·subst f;obtain⟨c1,d,k,b,q1,G,q3,y,rfl⟩:=Nl N (by omega) a (by omega) v o i;rw[show((0:Int) !=0)=false from rfl,ahM,LN,ahE];cases (!decide (c1=c/\k=true/\d=num))
   ·have p:=m5 c1 k d b;have C:a.length=1+(aY b.length).length+b.length:=by rw[y,p]
    have z:(lf c1 k d b 0).2.2.2.2.1=((1+(aY b.length).length:Nat):Int):=by
     show((0+1+(aY b.length).length:Nat):Int)=_;omega
    have A:(lf c1 k d b 0).2.2.2.2.2=((a.length:Nat):Int):=by
     show((0+(tlv c1 k d b).length:Nat):Int)=_;rw[<-y];omega
    rw[ahM,z,A];obtain⟨l,e,o,j,m⟩:=Kc N a (by omega) (1+(aY b.length).length) a.length (by omega) (ahO _) x;rw[j];exact⟨_,_,_,rfl,.inr m⟩
   ·exact⟨_,_,_,rfl,.inr ⟨by omega,by omega⟩⟩
  ·rw[show(e !=0)=true from by simpa using f];exact⟨_,_,_,rfl,.inr (s.resolve_left f)⟩
 obtain⟨l,e,o,h,E⟩:=q;refine⟨_,h,?_⟩;by_cases f:e=0
 ·subst f;obtain⟨g,i,s,j,m,n,rfl⟩:=WF N (by omega) a (by omega) l o h;have D:(aA g).length<10000000:=by
   rw[n,m5]at x;omega
  obtain⟨F,u,w⟩:=T3 (N:=N) ⟨by omega,by omega⟩ j m g i D;rw[<-n]at u w;rw[u]at h;simp only[ahI,ah3,true_and]at h;obtain⟨rfl,rfl⟩:=h;exact .inl ⟨rfl,g,i,j,m,n,w⟩
 ·refine .inr ⟨f,?_⟩;rcases E with h|h
  ·exact absurd h.1 f
  ·exact h
def IA{N:Nat}(b:FN N)(t:TLV)(a:okT t):∃e,bx N (am t)=some (e,0,0)/\EL (am t) t e:=by
 unfold FN at b;refine⟨_,Q5 N (by omega) t.2.1 a.1 a.2.1 t.2.2.2 a.2.2,[],[],by simp,rfl⟩
def IB{N:Nat}(m:FN N)(a:Bs)(q:a.length<10000000):OW (bx N a) λr=>
 (r.2=(0,0)/\∃t,okT t/\a=am t/\EL a t r.1)∨r.2.1≠0/\0<=r.2.2/\r.2.2<=(a.length:Int):=by
 unfold FN at m;obtain⟨v,e,o,d,l⟩:=Tu N (by omega) a (by omega);refine⟨_,d,?_⟩;by_cases g:e=0
 ·subst g;obtain⟨c1,c,k,b,q1,i,q3,n,rfl⟩:=Nl N (by omega) a (by omega) v o d;obtain⟨p,h,f⟩:=IA (N:=N) ⟨by omega,by omega⟩ (c1,k,c,b) ⟨q1,i,q3⟩;have j:a=am (c1,k,c,b):=n;rw[<-j]at h f;rw[h]at d;simp only[ahI,ah3,true_and]at d;obtain⟨d,rfl⟩:=d;rw[d]at f;exact .inl ⟨rfl,_,⟨q1,i,q3⟩,j,f⟩
 ·exact .inr ⟨g,l.resolve_left g⟩
def xp{α:Type}{l:List α}{i:Int}(b:0<=i)(h:i<(l.length:Int)):OW (ix l i) λx=>l[i.toNat]?=some x/\x∈l:=by
 have a:i.toNat<l.length:=by omega
 refine⟨l[i.toNat],?_,ahG a,ais a⟩;have:=cr (ahG a);rwa[show((i.toNat:Nat):Int)=i from by omega]at this
def E8{α:Type}{l:List α}{i j:Int}(a:0<=i)(h:i<=j)(b:j<=(l.length:Int)):OW (slc l i j) λx=>x=(l.take j.toNat).drop i.toNat:=by
 refine⟨_,?_,rfl⟩;unfold slc;rw[ahY ⟨by omega,by omega,by omega⟩]
def af6{α:Type}{k:Nat}(a:k<=200){l r:List α}(h:l.length+r.length<=1000000000):OW (app k l r) λx=>x=l++r:=by
 refine⟨_,?_,rfl⟩;unfold app cK;have:(l.length+r.length)*k<=(l.length+r.length)*200:=Nat.mul_le_mul_left _ a;rw[ahY ⟨by omega,by omega⟩]
def fY{α:Type}{k:Nat}(b:k<=200){l r:List α}(h:l.length+r.length<=1000000000):app k l r=some (l++r):=by
 obtain⟨x,a,rfl⟩:=af6 b h;exact a
end Go.Fw
def alq:=@Go.Lib.join_one
namespace Go.Fw
open Go
def R9(c:UInt8):∀(x:List UInt8),c ∉ x->Lib.index x [c]= -1
 |[],_=>rfl
 |b::l,h=>by
  have a:(c==b)=false:=aic.2 λe=>h (by simp[e]);unfold Lib.index;rw[R9 c l λe=>h (ah0 _ e)];simp[List.isPrefixOf,a]
def KH(c:UInt8)(t:List UInt8):∀(x:List UInt8),c ∉ x->Lib.index (x++c::t) [c]=(x.length:Int)
 |[],_=>by simp[Lib.index,List.isPrefixOf]
 |b::l,h=>by
  have a:(c==b)=false:=aic.2 λe=>h (by simp[e]);have d:=KH c t l λe=>h (ah0 _ e);rw[aix];unfold Lib.index;rw[d];have:((l.length:Int)== -1)=false:=aic.2 (by omega);simp[List.isPrefixOf,a,this]
def Jw(c:UInt8):∀(s:List UInt8),Lib.index s [c]≠-1->s=s.take (Lib.index s [c]).toNat++c::s.drop ((Lib.index s [c]).toNat+1)
 |[],h=>by exact absurd rfl h
 |b::l,h=>by
  unfold Lib.index at h⊢;by_cases e:c=b
  ·subst e;simp[List.isPrefixOf]
  ·have d:(c==b)=false:=aic.2 e;simp only[List.isPrefixOf,d,alz,aiy,aiB]at h⊢;by_cases a:Lib.index l [c]= -1
   ·rw[a]at h;exact absurd rfl h
   ·have f:(Lib.index l [c]== -1)=false:=aic.2 a;have g:=Lib.index_ge l [c];simp only[f,aiy,aiB];rw[show(Lib.index l [c]+1).toNat=(Lib.index l [c]).toNat+1 from by omega];simp only[ajy,aj4,aix];rw[<-Jw c l a]
def qw(x y:List UInt8)(r:List (List UInt8)):Lib.join (x::y::r) [46]=x++46::Lib.join (y::r) [46]:=by
 rw[Lib.join_cons,Lib.join_cons];simp[Lib.joinTail]
def XX(k:Nat)(s:List UInt8):∃y r,Lib.splitK [46] 0 k s=y::r:=by
 cases k with
 |zero=>exact⟨_,_,rfl⟩
 |succ k=>
  unfold Lib.splitK;split
  ·exact⟨_,_,rfl⟩
  ·exact⟨_,_,rfl⟩
def Jy:∀(k:Nat)(s:List UInt8),Lib.join (Lib.splitK [46] 0 k s) [46]=s
 |0,s=>alq s _
 |k+1,s=>by
  unfold Lib.splitK;split
  ·exact alq s _
  ·rename_i h;have b:Lib.index s [46]≠-1:=λe=>h (by rw[e];rfl);obtain⟨y,r,c⟩:=XX k (s.drop ((Lib.index s [46]).toNat+[(46:UInt8)].length));have a:=Jy k (s.drop ((Lib.index s [46]).toNat+[(46:UInt8)].length));rw[c]at a⊢;rw[qw,a];exact(Jw 46 s b).symm
def VX(s:List UInt8):Lib.join (Lib.split s [46]) [46]=s:=Jy _ s
def Mq:∀(r:List (List UInt8))(x:List UInt8),(∀y∈x::r,(46:UInt8) ∉ y)->Lib.count (Lib.join (x::r) [46]) [46]=r.length
 |[],x,h=>by
  rw[alq];exact Lib.count_miss (R9 46 x (h x (by simp)))
 |y::r,x,h=>by
  have a:=KH 46 (Lib.join (y::r) [46]) x (h x (by simp));rw[qw,Lib.count_hit (by simp) a,show x.length+[(46:UInt8)].length=x.length+1 from rfl,<-ajc,ajj,ail (ahO _)];simp only[akd,aiv,ait,aj4,ahL];rw[Mq r y λz b=>h z (ah0 _ b)];omega
def Jz:∀(r:List (List UInt8))(x:List UInt8),(∀y∈x::r,(46:UInt8) ∉ y)->Lib.splitK [46] 0 r.length (Lib.join (x::r) [46])=x::r
 |[],x,h=>by rw[alq];rfl
 |y::r,x,h=>by
  have a:=KH 46 (Lib.join (y::r) [46]) x (h x (by simp));rw[ahL,qw];unfold Lib.splitK;rw[a,ain (by simp only[ajY];omega)];simp only[aj1,aiL,ahL,ah1,aiw];rw[alo,aib (ahO _),<-ajc,ajj,ail (ahO _)];simp only[akd,ald,ah4,aiv,ait,aj4];rw[Jz r y λz b=>h z (ah0 _ b)]
def VY(xs:List (List UInt8))(a:xs≠[])(h:∀y∈xs,(46:UInt8) ∉ y):Lib.split (Lib.join xs [46]) [46]=xs:=by
 cases xs with
 |nil=>exact absurd rfl a
 |cons x r=>
  unfold Lib.split;rw[Mq r x h];exact Jz r x h
def XY(n:Nat):∀b∈Lib.decDigits n,48<=b.toNat/\b.toNat<=57:=by
 induction n using Nat.strongRecOn with
 |ind n c=>
  intro b a;rw[Lib.decDigits]at a;split at a
  ·simp only[aiF]at a;subst a;rw[aje];omega
  ·simp only[air,aiF]at a;rcases a with a|rfl
   ·exact c (n / 10) (by omega) b a
   ·rw[aje];omega
def XZ(n:Nat):(46:UInt8) ∉ Lib.decDigits n:=λh=>by
 have:=(XY n _ h).1;simp at this
def X0(n:Nat):Lib.decDigits n≠[]:=by
 rw[Lib.decDigits];split<;>simp
def T7(M:Nat)(d:UInt8):∀(l:List UInt8)(acc v:Nat),Lib.parseUintM M acc l=.ok v->Lib.parseUintM M acc (l++[d])=Lib.parseUintM M v [d]
 |[],acc,v,h=>by cases h;rfl
 |c::r,acc,v,h=>by
  rw[aix];unfold Lib.parseUintM at h⊢;split at h<;>try (cases h;done)
  rename_i a;rw[ahY a];split at h<;>try (cases h;done)
  rename_i b;rw[ain b];split at h<;>try (cases h;done)
  rename_i e;rw[ain e];exact T7 M d r _ v h
def ac0(M:Nat)(b:M<=4294967295)(n:Nat):n<=M->Lib.parseUintM M 0 (Lib.decDigits n)=.ok n:=by
 induction n using Nat.strongRecOn with
 |ind n a=>
  intro c;rw[Lib.decDigits];split
  ·rename_i h;have e:(UInt8.ofNat (48+n)).toNat=48+n:=by rw[aje];omega
   unfold Lib.parseUintM;rw[ahY (by rw[e];omega),ain (by omega),ain (by rw[e];omega)];unfold Lib.parseUintM;rw[e];congr 1;omega
  ·rename_i h;have e:(UInt8.ofNat (48+n % 10)).toNat=48+n % 10:=by rw[aje];omega
   rw[T7 M _ _ 0 _ (a (n / 10) (by omega) (by omega))];unfold Lib.parseUintM;rw[ahY (by rw[e];omega),ain (by omega),ain (by rw[e];omega)];unfold Lib.parseUintM;rw[e];congr 1;omega
def Mr(n:Nat)(a:n<=4294967295):ml (Lib.decDigits n)=some (.inl (n:Int)):=by
 have b:=He n (by omega);unfold ml;rw[show Nat.ble (Lib.decDigits n).length yk=true from aiE (by unfold yk;omega),ahS];unfold Lib.parseUintB;rw[ain (X0 n),ac0 _ (by decide) n (by simpa using a)];rfl
end Go.Fw
def ajK:=@Go.IntKind.wrap_u32
namespace Go.Fw
open Go
def ut:List Nat->Bool
 |[]=>false
 |a::t=>match t with
  |[]=>false
  |b::_=>decide (a<=2/\(a<2->b<40)/\(¬a<2->b<=4294967215))
def mr(s:Bs)(L:List Nat):Prop:=ut L=true/\(∀x∈L,x<=4294967295)/\s=Lib.join (L.map Lib.decDigits) [46]
def cn(L:List Nat):List Int:=L.map λ(n:Nat)=>(n:Int)
def adc{a b:Nat}(d:a<=4294967295)(e:b<=4294967295)(h:Lib.decDigits a=Lib.decDigits b):a=b:=by
 have c:=Mr a d;rw[h,Mr b e]at c;simp only[ahI,Sum.inl.injEq]at c;omega
def KM:∀{L M:List Nat},(∀x∈L,x<=4294967295)->(∀x∈M,x<=4294967295)->L.map Lib.decDigits=M.map Lib.decDigits->L=M
 |[],[],_,_,_=>rfl
 |[],_::_,_,_,h=>by simp at h
 |_::_,[],_,_,h=>by simp at h
 |a::L,b::M,d,e,h=>by
  simp only[ahU,ajA]at h;rw[adc (d a (by simp)) (e b (by simp)) h.1,KM (λx c=>d x (by simp[c])) (λx c=>e x (by simp[c])) h.2]
def V6(L:List Nat):∀y∈L.map Lib.decDigits,(46:UInt8) ∉ y:=by
 intro y a;obtain⟨n,_,rfl⟩:=aiz.1 a;exact XZ n
def Yc{L:List Nat}(h:ut L=true):L.map Lib.decDigits≠[]:=by
 cases L with
 |nil=>cases h
 |cons a r=>simp
def mr.split{s:Bs}{L:List Nat}(h:mr s L):Lib.split s [46]=L.map Lib.decDigits:=by
 rw[h.2.2];exact VY _ (Yc h.1) (V6 L)
def mr.uniq{s:Bs}{L M:List Nat}(h:mr s L)(k:mr s M):L=M:=KM h.2.1 k.2.1 (h.split.symm.trans k.split)
def OT(L:List Nat):dT (cn L)=some (ut L):=by
 unfold dT syv
 match L with
 |[]=>rfl
 |[_]=>rfl
 |a::b::r=>
  have c:ix (cn (a::b::r)) 0=some (a:Int):=rfl;have d:ix (cn (a::b::r)) 1=some (b:Int):=rfl;have e:decide (((cn (a::b::r)).length:Int)<2)=false:=ahH (by simp only[cn,aiq,ahL];omega);rw[c,d,e];simp only[ahM,ahE];show _=some (decide (a<=2/\(a<2->b<40)/\(¬a<2->b<=4294967215)));by_cases h:a<=2
  ·rw[ahH (by omega:¬(a:Int)>2),ahM];by_cases f:a<2
   ·rw[ahK (by omega:(a:Int)<2),ahS];exact aii some (ak0.2 (by omega))
   ·rw[ahH (by omega:¬(a:Int)<2),ahM];exact aii some (ak0.2 (by omega))
  ·rw[ahK (by omega:(a:Int)>2),ahS,ahH (by omega)]
def afc(N:Nat)(l:List Bs)(A:l.length<=100000000)(p:∀x∈l,x.length<=100000000):∀(n:Nat)(s:List Bs×Int×Int×List Int),(∃L:List Nat,(∀x∈L,x<=4294967295)/\L.length<=l.length/\l.take L.length=L.map Lib.decDigits/\s=(l,(l.length:Int),(L.length:Int),cn L))->
 l.length-s.2.2.1.toNat<n->OW (eI N n s) λy=>(∃L:List Nat,(∀x∈L,x<=4294967295)/\l=L.map Lib.decDigits/\y=.inr (cn L))∨(y=.inl 11/\¬∃L:List Nat,(∀x∈L,x<=4294967295)/\l=L.map Lib.decDigits):=by
 refine T2 _ _ (λ(s:List Bs×Int×Int×List Int)=>l.length-s.2.2.1.toNat) _ ?_;rintro n _ ⟨L,q,w,r,rfl⟩ v;show OW (bif decide ((L.length:Int)<(l.length:Int)) then _ else _) _;by_cases a:L.length<l.length
 ·rw[ahK (by omega:(L.length:Int)<(l.length:Int)),ahS,cr (ahG a),ahE];have g:=ais a;have o:l.take (L.length+1)=L.map Lib.decDigits++[l[L.length]]:=by
   rw[aiM,ahG a,r];rfl
  have d:(∀m≤4294967295,l[L.length]≠Lib.decDigits m)->OW (some (Sum.inl 11):Option (Int⊕List Int)) λy=>(∃L:List Nat,(∀x∈L,x<=4294967295)/\l=L.map Lib.decDigits/\y=.inr (cn L))∨(y=.inl 11/\¬∃L:List Nat,(∀x∈L,x<=4294967295)/\l=L.map Lib.decDigits):=by
   refine λu=>aa (.inr ⟨rfl,?_⟩);rintro⟨M,t,f⟩;have k:L.length<M.length:=by rw[f,aiq]at a;exact a
   refine u M[L.length] (t _ (ais k)) ?_;simp only[f,List.getElem_map]
  rcases aer l[L.length] (by have:=p _ g;omega) with⟨m,c,B,_⟩|⟨z,c⟩
  ·rw[c,ahE];dsimp only;rw[Q6 m (by omega),ahE];by_cases i:Lib.decDigits m=l[L.length]
   ·rw[show(!(Lib.decDigits m==l[L.length]))=false from by rw[i];simp,ahM,show IntKind.wrap .u32 (m:Int)=(m:Int) from by rw[ajK];omega,fY (by omega) (by simp only[cn,aiq,ahL,ah1];omega),ahE,cC (by omega)];refine v _ ⟨L++[m],?_,by simp;omega,?_,?_⟩ ?_
    ·intro x p;rcases air.1 p with h|h
     ·exact q x h
     ·simp at h;omega
    ·rw[ahJ,ai9,o,<-i];simp
    ·simp[cn]
    ·show l.length-(((L.length+1:Nat):Int)).toNat<l.length-((L.length:Int)).toNat;omega
   ·rw[show(!(Lib.decDigits m==l[L.length]))=true from by simpa using i,cond_true];refine d λj b e=>i ?_;rw[e,Mr j b]at c;simp only[ahI,Sum.inl.injEq]at c;rw[e,show m=j from by omega]
  ·rw[c,ahE];refine d λj b e=> ?_;rw[e,Mr j b]at c;simp at c
 ·rw[ahH (by omega:¬(L.length:Int)<(l.length:Int)),ahM];refine aa (.inl ⟨L,q,?_,rfl⟩);rw[<-r,aib (by omega)]
def Yd{N:Nat}(j:FN N)(s:Bs)(f:s.length<10000000):OW (gt N s) λr=>(∃L,mr s L/\r=(cn L,0))∨(r=([],11)/\¬∃L,mr s L):=by
 unfold FN at j;unfold gt syv;obtain⟨l,b,n,i⟩:=Ol s (by omega);have c:l=Lib.split s [46]:=by
  unfold ig at b;rw[show Nat.blt s.length 4294967281=true from aiE (by omega)]at b;exact(aiI b).symm
 rw[b,ahE];refine ai (afc N l (by omega) (λx m=>by have:=i x m;omega) N (l,(l.length:Int),0,[]) ⟨[],by simp,by simp,by simp,rfl⟩ (by show l.length-0<N;omega)) ?_;rintro y (⟨L,g,h,rfl⟩|⟨rfl,k⟩)
 ·dsimp only;rw[OT,ahE];have f:s=Lib.join (L.map Lib.decDigits) [46]:=by rw[<-h,c,VX]
  cases d:ut L
  ·refine aa (.inr ⟨rfl,?_⟩);rintro⟨M,a⟩;have e:L=M:=KM g a.2.1 (by rw[<-a.split,<-h,c]);rw[e,a.1]at d;cases d
  ·exact aa (.inl ⟨L,⟨d,g,f⟩,rfl⟩)
 ·refine aa (.inr ⟨rfl,?_⟩);rintro⟨M,a⟩;exact k ⟨M,a.2.1,by rw[c,a.split]⟩
noncomputable def ofP(p:Prop):Bool:= @decide p (Classical.propDecidable p)
def sX{p:Prop}:ofP p=true↔p:= @decide_eq_true_iff p (Classical.propDecidable p)
noncomputable def j5(s:Bs):Bool:=ofP (∃L,mr s L)
def nw{s:Bs}:j5 s=true↔∃L,mr s L:=sX
def BA{N:Nat}(c:FN N)(s:Bs)(d:s.length<10000000):eV N s=some (j5 s):=by
 unfold eV syv;obtain⟨r,h,a⟩:=Yd c s d;rw[h,ahE];rcases a with⟨L,b,rfl⟩|⟨rfl,a⟩
 ·rw[nw.2 ⟨L,b⟩];rfl
 ·have:j5 s=false:=by
   cases h:j5 s with
   |false=>rfl
   |true=>exact absurd (nw.1 h) a
  rw[this];rfl
end Go.Fw
namespace Go.Fw
open Go
def b7:Nat->Nat->List UInt8
 |0,_=>[]
 |f+1,n=>if n=0 then [] else UInt8.ofNat (n % 128+128)::b7 f (n / 128)
def MC:∀(f n:Nat),(b7 f n).length<=f
 |0,_=>ahO _
 |f+1,n=>by
  unfold b7;split
  ·simp
  ·simp only[ahL];have:=MC f (n / 128);omega
def Uf:∀(f n:Nat),n<128 ^ f->b7 (f+1) n=b7 f n
 |0,n,h=>by
  have:n=0:=by simpa using h
  subst this;rfl
 |f+1,n,h=>by
  unfold b7;split
  ·rfl
  ·rw[Uf f (n / 128) (by rw[ake]at h;omega)]
def hi7(n:Nat):List UInt8:=(b7 5 n).reverse
def gh(n:Nat):List UInt8:=hi7 (n / 128)++[UInt8.ofNat (n % 128)]
def KQ(n d:Nat)(hd:d<128)(b:n<268435456)(a:n*128+d≠0):hi7 (n*128+d)=hi7 n++[UInt8.ofNat (d+128)]:=by
 unfold hi7;rw[show b7 5 (n*128+d)=UInt8.ofNat ((n*128+d) % 128+128)::b7 4 ((n*128+d) / 128) from by rw[b7,ain a],akP,show(n*128+d) / 128=n from by omega,show(n*128+d) % 128=d from by omega,Uf 4 n (by omega)]
def Av:hi7 0=[]:=rfl
def Fo(n:Nat):bits .and .u32 (n:Int) 127=((n % 128:Nat):Int):=by
 show IntKind.u32.wrap (((BitVec.ofInt 32 (n:Int))&&& (BitVec.ofInt 32 127)).toNat:Int)=_;rw[BitVec.toNat_and,ajZ,show(BitVec.ofInt 32 127).toNat=2 ^ 7-1 from rfl,Nat.and_two_pow_sub_one_eq_mod,ajK];omega
def Yi(n:Nat)(h:n<128):bits .or .u32 (n:Int) 128=((n+128:Nat):Int):=by
 show IntKind.u32.wrap (((BitVec.ofInt 32 (n:Int))|||(BitVec.ofInt 32 128)).toNat:Int)=_;rw[alu,ajZ,show(BitVec.ofInt 32 128).toNat=1<<<7 from rfl,show((n:Int) % ((2 ^ 32:Nat):Int)).toNat=n from by omega,Nat.or_comm,<-aka (by omega:n<2 ^ 7),ajK];omega
def V9(n:Nat):vL .u32 (n:Int) 7=((n / 128:Nat):Int):=by
 show(n:Int).fdiv (2 ^ (7:Nat))=_;rw[akq _ (by decide)];omega
def Yj(N:Nat)(l:Bs):∀(f a n:Nat)(acc:List UInt8),a<128 ^ f->f<n->acc.length+f<1000->cE N n ((a:Int),l,acc)=some (l,acc++b7 f a):=by
 intro f;induction f with
 |zero=>
  intro a n acc b d _;obtain⟨n,rfl⟩:∃m,n=m+1:=⟨n-1,by omega⟩;have:a=0:=by simpa using b
  subst this;show some (l,acc)=_;simp[b7]
 |succ f e=>
  intro a n acc b d g;obtain⟨n,rfl⟩:∃m,n=m+1:=⟨n-1,by omega⟩;show(bif decide ((a:Int)>0) then _ else _)=_;by_cases c:a=0
  ·subst c;simp[b7]
  ·rw[ahK (by omega:(a:Int)>0),ahS,Fo,Yi _ (by omega),nC,ahE,fY (by omega) (by simp;omega),ahE,V9];refine(e (a / 128) n _ (by rw[ake]at b;omega) (by omega) (by simp;omega)).trans ?_;simp[b7,c,show(a % 128+128) % 256=a % 128+128 from by omega]
def afm(N:Nat)(l:Bs):∀(f a n:Nat)(acc:List UInt8),a<128 ^ f->f<n->acc.length+f<1000->cG N n ((a:Int),l,acc)=some (l,acc++b7 f a):=by
 have e:cG N=cE N:=by unfold cG cE syv;rfl
 rw[e];exact Yj N l
def aaX(i:Int)(n:Nat):(decide (i>=0)&&decide ((n:Int)>i))=inb i n:=rfl
def Yk(N:Nat)(l:Bs):∀(n:Nat)(i j:Int)(m:Bs),cF N n (i,j,l,m)=(aR N n (i,j,m)).map λr=>(l,r):=by
 intro n;induction n with
 |zero=>intro i j m;rfl
 |succ n d=>
  intro i j m;rw[QY];show(bif decide (i<j) then _ else _)=_;dsimp only;simp only[aaX];cases decide (i<j)
  ·rfl
  ·rw[ahS,ahS];cases inb j m.length
   ·rfl
   ·rw[ahS,ahS];cases ix m j with
    |none=>rfl
    |some b=>
    rw[ahE,ahE];cases inb i m.length
    ·rfl
    ·rw[ahS,ahS];cases ix m i with
     |none=>rfl
     |some a=>
     rw[ahE,ahE];simp only[ahS];cases toB (b.toNat:Int) with
     |none=>rfl
     |some c=>
     rw[ahE,ahE];cases inb j (m.set (Int.toNat i) c).length
     ·rfl
     ·simp only[ahS];cases toB (a.toNat:Int) with
      |none=>rfl
      |some e=>
      rw[ahE,ahE];exact d _ _ _
def Ug(N:Nat)(a:FN N)(m:Bs)(b:m.length<=100):aR N N (0,aX .i64 (m.length:Int) 1,m)=some m.reverse:=by
 unfold FN at a;have h:=Tt N 101 m [] [] N (by omega) (by omega) (by simp;omega);simp only[ait,ah4,ah1,aiw]at h;rw[pZ (by omega),show(0:Int)=((0:Nat):Int) from rfl];exact h
def afn(N:Nat)(l:Bs):∀(n:Nat)(i j:Int)(m:Bs),cH N n (i,j,l,m)=(aR N n (i,j,m)).map λr=>(l,r):=by
 have e:cH N=cF N:=by unfold cH cF syv;rfl
 rw[e];exact Yk N l
def KR(n:Nat):(gh n).length<=6:=by
 unfold gh hi7;have:=MC 5 (n / 128);simp;omega
def adj(N:Nat)(h:FN N)(acc:Bs)(n:Nat)(l:n<=4294967295)(k:Bs->Option Bs)(j:acc.length<=900000000):
 ((toB (IntKind.wrap .u8 (bits .and .u32 (n:Int) 127))).bind λb=>(cG N N (vL .u32 (n:Int) 7,acc,[b])).bind λ(d,a)=>(cH N N (0,aX .i64 (a.length:Int) 1,d,a)).bind λ(e,f)=>(app 1 e f).bind λg=>k g)=k (acc++gh n):=by
 have c:=h;unfold FN at c;have i:=MC 5 (n / 128);rw[Fo,nC,ahE,V9,afm N acc 5 (n / 128) N _ (by omega) (by omega) (by simp),ahE];dsimp only;rw[afn,Ug N h _ (by simp;omega),ai2,ahE];dsimp only;rw[fY (by omega) (by simp;omega),ahE];congr 2;simp[gh,hi7,show n % 128 % 256=n % 128 from by omega]
def Yl(N:Nat)(h:FN N){α:Type}(n:Nat)(j:n<=4294967295)(k:Bs->Option α):
 ((toB (IntKind.wrap .u8 (bits .and .u32 (n:Int) 127))).bind λb=>(cE N N (vL .u32 (n:Int) 7,[],[b])).bind λ(d,a)=>(cF N N (0,aX .i64 (a.length:Int) 1,d,a)).bind λ(e,f)=>(app 1 e f).bind λg=>k g)=k (gh n):=by
 have c:=h;unfold FN at c;have i:=MC 5 (n / 128);rw[Fo,nC,ahE,V9,Yj N [] 5 (n / 128) N _ (by omega) (by omega) (by simp),ahE];dsimp only;rw[Yk,Ug N h _ (by simp;omega),ai2,ahE];dsimp only;rw[fY (by omega) (by simp;omega),ahE];congr 1;simp[gh,hi7,show n % 128 % 256=n % 128 from by omega]
def Ca:List Nat->Bs
 |a::b::r=>gh (40*a+b)++(r.map gh).flatten
 |_=>[]
def afo(N:Nat)(d:FN N)(s:List Nat)(r:s.length<=100000000)(l:∀x∈s,x<=4294967295):∀(k n i:Nat)(acc:Bs),s.length-i=k->k<n->i<=s.length->acc.length<=6*(i+1)->
 dA N n (cn s,((cn s).length:Int),(i:Int),acc)=some (acc++((s.drop i).map gh).flatten):=by
 have f:(cn s).length=s.length:=by simp[cn]
 intro k;induction k with
 |zero=>
  intro n i acc h j g e;obtain⟨n,rfl⟩:∃m,n=m+1:=⟨n-1,by omega⟩;show(bif decide ((i:Int)<((cn s).length:Int)) then _ else _)=_;rw[ahH (by omega),ahM,ail (by omega)];simp
 |succ k p=>
  intro n i acc h j g e;obtain⟨n,rfl⟩:∃m,n=m+1:=⟨n-1,by omega⟩;have a:i<s.length:=by omega
  have o:ix (cn s) (i:Int)=some (s[i]:Int):=by
   refine cr ?_;simp[cn,a]
  have b:=l s[i] (ais a);show(bif decide ((i:Int)<((cn s).length:Int)) then _ else _)=_;rw[ahK (by omega),ahS,o,ahE,adj N d acc _ b _ (by omega),cC (by omega)];have q:=KR s[i];have c:=p n (i+1) (acc++gh s[i]) (by omega) (by omega) (by omega) (by simp;omega);refine c.trans ?_;rw[ah9 a,ahU,List.flatten_cons,<-ah6]
def adk{N:Nat}(d:FN N)(s:Bs)(C:s.length<10000000):(∀L,mr s L->dF N s=some (Ca L,0))/\(j5 s=false->dF N s=some ([],8)):=by
 have k:=d;unfold FN at k;obtain⟨r,h,c⟩:=Yd d s C;refine⟨λL i=> ?_,λo=> ?_⟩
 ·rcases c with⟨M,j,rfl⟩|⟨_,c⟩
  ·have e:=i.uniq j;subst e;obtain⟨f,g,n⟩:=i
   match L,f,g,n,h with
   |a::b::t,f,g,n,h=>
   have E:a<=2/\(a<2->b<40)/\(¬a<2->b<=4294967215):=aih f;have p:t.length<=s.length:=by
    have A:(a::b::t).length<=s.length+2:=by
     obtain⟨l,q1,q,_⟩:=Ol s (by omega);have B:l=Lib.split s [46]:=by
      unfold ig at q1;rw[show Nat.blt s.length 4294967281=true from aiE (by omega)]at q1;exact(aiI q1).symm
     have w:=(show mr s (a::b::t) from⟨f,g,n⟩).split;rw[B,w,aiq]at q;exact q
    simp only[ahL]at A;omega
   unfold dF syv;rw[h,ahE];dsimp only;have u:ix (cn (a::b::t)) 0=some (a:Int):=rfl;have v:ix (cn (a::b::t)) 1=some (b:Int):=rfl;have y:aq .u32 (kZ .u32 40 (a:Int)) (b:Int)=((40*a+b:Nat):Int):=by
    show IntKind.u32.wrap (IntKind.u32.wrap (40*(a:Int))+(b:Int))=_;rw[ajK,ajK];omega
   rw[show((0:Int) !=0)=false from rfl,ahM,u,v,ahE,ahE,y,Yl N d _ (by omega)];have m:slc (cn (a::b::t)) 2 ((cn (a::b::t)).length:Int)=some (cn t):=by
    unfold slc;rw[ahY ⟨by omega,by simp only[cn,aiq,ahL];omega,by omega⟩,aiL,aib (ahO _)];rfl
   rw[m,ahE];have F:=KR (40*a+b);have z:=afo N d t (by omega) (λx D=>g x (by simp[D])) t.length N 0 (gh (40*a+b)) (by omega) (by omega) (by omega) (by omega);rw[show dA N N (cn t,((cn t).length:Int),0,gh (40*a+b))=_ from z,ahE];rfl
  ·exact absurd ⟨L,i⟩ c
 ·rcases c with⟨M,j,rfl⟩|⟨rfl,c⟩
  ·rw[nw.2 ⟨M,j⟩]at o;cases o
  ·unfold dF syv;rw[h,ahE];rfl
end Go.Fw
