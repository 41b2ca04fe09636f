/- A framework for proofs about Go programs in this model: part Z. Everything is proved; no condition is added. -/
import Derived.IntWalk
import Derived.Laws.Bits64
import Derived.Lib.ParseIntBCases
import Derived.Lib.CountLaws
import Derived.Test.YtlicgchfbhkelaaGreatDoorFwY
set_option linter.unusedVariables false
set_option linter.unusedSimpArgs false
set_option linter.defProp false
namespace Go.Fw
open Go Go.Proofs.Tryz
noncomputable section
set_option maxRecDepth 100000
set_option maxHeartbeats 0
attribute [local irreducible] ix app slc fM toB agree jO jP jN mz gW bE bZ cg cy dV bq aZ bS aM dO eB gp eP cG aQ bK aW bu aX bO cb eV cz dt cp cq cA cB cC cD dE dI aB aC aO bP bx aN cQ fI eW aD aH bW bM dL cR cr aq aA du bp cO ba bQ ed dw bj cf eY ig gi gj dW dM bY cE bo dA cw cn bR bF bz bX br aF eO ii bg eH cm gb fj aI aK aP gd bA cJ aR aJ aT cX cF bt fo fq bh be eg cK eD ge gg dJ gy ey fu dX dK fB cu bv dq cT gP cS eZ dP dQ em dR eI dZ bL cP gY dS gk fF gZ eQ iu iD fD fv fw eR dY iV lK jQ jf ez eK cL gu mb nO ec dT gz gQ fc fy cY jR gN gO ij fN jv ku iW iM lg lh il gv jS kh bw bJ aY kW lC gV jw jy jz jA kw gm gI gF fO fP fV pm im iF ki li iQ iX iY jp eL eN fJ kx jC mq mH iR ky iS bT iI fQ my kX ny iJ bB iT ep kY iZ fW gB kM gG lW lx iz ib fe dU io wY kZ nZ oZ jj jk lc ff kz gH
def xb:AD B0:=⟨28,(c1 [eC,bV,nx]),[hc0],(.tup [GC,hc5])⟩
@[local irreducible] noncomputable def lL(N:Nat)(a:Bs):Option (Y6×Y3):=syv N (xb.go (a))
def Ha:KC B0:=gA xb (lL NN) (by kernel_rfl)
def eF(N:Nat)(a1:Bs):Option (Y10×Y3):=
 ((
 (aF N a1 0 16).bind λ(l1,v2)=>
 some (a1,l1,v2):Option (Bs×Y22×Y3))).bind λ(l3,l4,i5,i6)=>
 ((
 ((
 bif (i5 !=0) then(
 bif (i5==0) then(
 some ([],l3,l4,1,fS (l3.length:Int) (l3.length:Int),0,0,false,0,0,0))
 else
 some ([],l3,l4,i5,i6,0,0,false,0,0,0))
 else
 bif ((l4.length:Int)==0) then(
 bif (i5==0) then(
 some ([],l3,l4,1,fS (l3.length:Int) (l3.length:Int),0,0,false,0,0,0))
 else
 some ([],l3,l4,i5,i6,0,0,false,0,0,0))
 else
 (ix l4 0).bind λe7=>
 (slc l4 1 (l4.length:Int)).bind λs8=>
 (slc l3 e7.2.2.2.1 e7.2.2.2.2.2).bind λs9=>
 some (s9,l3,s8,i5,i6,e7):Y53)).bind λ(P0,m6,y4,O,z7,U2,U3,U1,K8,U4,U5)=>
 bif (O !=0) then(
 some (m6,y4,O,z7,0,[],[],[],[],0,0,0,0,0,0,0,0,0,0,0,0,[],[],[],[],0,false,[],0,false,[],0,[]))
 else
 (gH N P0).bind λ(a,A5)=>
 bif (O==0) then(
 ((
 bif (A5.1 !=0) then(
 some (m6,y4,A5.1,fS (aw .i64 K8 A5.2) (m6.length:Int),a.1,a.2.1,a.2.2.1.1,a.2.2.1.2,a.2.2.2.1,a.2.2.2.2.1.1,a.2.2.2.2.1.2.1,a.2.2.2.2.1.2.2.1,a.2.2.2.2.1.2.2.2.1,a.2.2.2.2.1.2.2.2.2.1,a.2.2.2.2.1.2.2.2.2.2,a.2.2.2.2.2.1.1,a.2.2.2.2.2.1.2.1,a.2.2.2.2.2.1.2.2.1,a.2.2.2.2.2.1.2.2.2.1,a.2.2.2.2.2.1.2.2.2.2.1,a.2.2.2.2.2.1.2.2.2.2.2,a.2.2.2.2.2.2.1,a.2.2.2.2.2.2.2.1.1.1,a.2.2.2.2.2.2.2.1.1.2,a.2.2.2.2.2.2.2.1.2.1,a.2.2.2.2.2.2.2.1.2.2,a.2.2.2.2.2.2.2.2.1,a.2.2.2.2.2.2.2.2.2.1.1,a.2.2.2.2.2.2.2.2.2.1.2,a.2.2.2.2.2.2.2.2.2.2.1,a.2.2.2.2.2.2.2.2.2.2.2.1.1,a.2.2.2.2.2.2.2.2.2.2.2.1.2,a.2.2.2.2.2.2.2.2.2.2.2.2))
 else
 some (m6,y4,O,z7,a.1,a.2.1,a.2.2.1.1,a.2.2.1.2,a.2.2.2.1,a.2.2.2.2.1.1,a.2.2.2.2.1.2.1,a.2.2.2.2.1.2.2.1,a.2.2.2.2.1.2.2.2.1,a.2.2.2.2.1.2.2.2.2.1,a.2.2.2.2.1.2.2.2.2.2,a.2.2.2.2.2.1.1,a.2.2.2.2.2.1.2.1,a.2.2.2.2.2.1.2.2.1,a.2.2.2.2.2.1.2.2.2.1,a.2.2.2.2.2.1.2.2.2.2.1,a.2.2.2.2.2.1.2.2.2.2.2,a.2.2.2.2.2.2.1,a.2.2.2.2.2.2.2.1.1.1,a.2.2.2.2.2.2.2.1.1.2,a.2.2.2.2.2.2.2.1.2.1,a.2.2.2.2.2.2.2.1.2.2,a.2.2.2.2.2.2.2.2.1,a.2.2.2.2.2.2.2.2.2.1.1,a.2.2.2.2.2.2.2.2.2.1.2,a.2.2.2.2.2.2.2.2.2.2.1,a.2.2.2.2.2.2.2.2.2.2.2.1.1,a.2.2.2.2.2.2.2.2.2.2.2.1.2,a.2.2.2.2.2.2.2.2.2.2.2.2):Y64)).bind λ(P1,P2,K9,L0,L5,P3,R5,P4,P5,L6,L7,L8,L9,M0,M2,M3,M4,M5,M6,M7,M8,P6,R6,P7,P8,M9,K4,P9,N0,K5,Q0,N1,Q1)=>
 some (P1,P2,K9,L0,L5,P3,R5,P4,P5,L6,L7,L8,L9,M0,M2,M3,M4,M5,M6,M7,M8,P6,R6,P7,P8,M9,K4,P9,N0,K5,Q0,N1,Q1))
 else
 ((
 some (m6,y4,O,z7,a.1,a.2.1,a.2.2.1.1,a.2.2.1.2,a.2.2.2.1,a.2.2.2.2.1.1,a.2.2.2.2.1.2.1,a.2.2.2.2.1.2.2.1,a.2.2.2.2.1.2.2.2.1,a.2.2.2.2.1.2.2.2.2.1,a.2.2.2.2.1.2.2.2.2.2,a.2.2.2.2.2.1.1,a.2.2.2.2.2.1.2.1,a.2.2.2.2.2.1.2.2.1,a.2.2.2.2.2.1.2.2.2.1,a.2.2.2.2.2.1.2.2.2.2.1,a.2.2.2.2.2.1.2.2.2.2.2,a.2.2.2.2.2.2.1,a.2.2.2.2.2.2.2.1.1.1,a.2.2.2.2.2.2.2.1.1.2,a.2.2.2.2.2.2.2.1.2.1,a.2.2.2.2.2.2.2.1.2.2,a.2.2.2.2.2.2.2.2.1,a.2.2.2.2.2.2.2.2.2.1.1,a.2.2.2.2.2.2.2.2.2.1.2,a.2.2.2.2.2.2.2.2.2.2.1,a.2.2.2.2.2.2.2.2.2.2.2.1.1,a.2.2.2.2.2.2.2.2.2.2.2.1.2,a.2.2.2.2.2.2.2.2.2.2.2.2):Y64)).bind λ(Q2,Q3,N2,N3,N4,Q4,R7,Q5,Q6,N5,N6,N7,N8,N9,O0,O1,O2,O3,O4,O5,O6,Q7,R8,Q8,Q9,O7,K6,R0,O8,K7,R3,O9,R4)=>
 some (Q2,Q3,N2,N3,N4,Q4,R7,Q5,Q6,N5,N6,N7,N8,N9,O0,O1,O2,O3,O4,O5,O6,Q7,R8,Q8,Q9,O7,K6,R0,O8,K7,R3,O9,R4):Y64)).bind λ(d,k,r,z8,A0,A3,y7,y5,A4,A1,A2,z,A,B,C,D,E,F,G,H,I,m7,w9,m8,m9,J,s,n6,K,t,n7,L,n8)=>
 ((
 ((
 bif (r !=0) then(
 bif (r==0) then(
 some ([],d,k,1,fS (d.length:Int) (d.length:Int),0,0,false,0,0,0))
 else
 some ([],d,k,r,z8,0,0,false,0,0,0))
 else
 bif ((k.length:Int)==0) then(
 bif (r==0) then(
 some ([],d,k,1,fS (d.length:Int) (d.length:Int),0,0,false,0,0,0))
 else
 some ([],d,k,r,z8,0,0,false,0,0,0))
 else
 (ix k 0).bind λx=>
 (slc k 1 (k.length:Int)).bind λJ1=>
 (slc d x.2.2.2.1 x.2.2.2.2.2).bind λJ2=>
 some (J2,d,J1,r,z8,x):Y53)).bind λ(F6,h,l,f,M,T1,T2,R9,B3,T3,T4)=>
 bif (f !=0) then(
 some (h,l,f,M,[],[]))
 else
 (kZ N F6).bind λ(x8,x9)=>
 bif (f==0) then(
 ((
 bif (x9.1 !=0) then(
 some (h,l,x9.1,fS (aw .i64 B3 x9.2) (h.length:Int),x8))
 else
 some (h,l,f,M,x8):Y65)).bind λ(F7,F8,B4,B5,J3,F9)=>
 some (F7,F8,B4,B5,J3,F9))
 else
 ((
 some (h,l,f,M,x8):Y65)).bind λ(G4,G5,B6,B7,J4,G6)=>
 some (G4,G5,B6,B7,J4,G6):Y65)).bind λ(b,c,e,P,q,m)=>
 ((
 ((
 bif (e !=0) then(
 bif (e==0) then(
 some ([],b,c,1,fS (b.length:Int) (b.length:Int),0,0,false,0,0,0))
 else
 some ([],b,c,e,P,0,0,false,0,0,0))
 else
 bif ((c.length:Int)==0) then(
 bif (e==0) then(
 some ([],b,c,1,fS (b.length:Int) (b.length:Int),0,0,false,0,0,0))
 else
 some ([],b,c,e,P,0,0,false,0,0,0))
 else
 (ix c 0).bind λy=>
 (slc c 1 (c.length:Int)).bind λJ5=>
 (slc b y.2.2.2.1 y.2.2.2.2.2).bind λJ6=>
 some (J6,b,J5,e,P,y):Y53)).bind λ(G7,i,n,g,Q,T5,T6,T0,B8,T7,T8)=>
 bif (g !=0) then(
 some (i,n,g,Q,[],0))
 else
 (lL N G7).bind λ(y0,y3)=>
 bif (g==0) then(
 bif (y3.1 !=0) then(
 some (i,n,y3.1,fS (aw .i64 B8 y3.2) (i.length:Int),y0))
 else
 some (i,n,g,Q,y0))
 else
 some (i,n,g,Q,y0):Option (Bs×Y22×Int×Int×Y6))).bind λ(o,j,R,y8,n9,S)=>
 (bq (q,m) (y7,y5)).bind λu=>
 ((
 ((
 bif decide ((j.length:Int)>0) then(
 (ix j 0).bind λB2=>
 bif (R==0) then(
 some (u,o,j,2,fS B2.2.2.2.1 (o.length:Int),A0,A3,y7,y5,A4,A1,A2,z,A,B,C,D,E,F,G,H,I,m7,w9,m8,m9,J,s,n6,K,t,n7,L,n8,q,m,n9,S))
 else
 some (u,o,j,R,y8,A0,A3,y7,y5,A4,A1,A2,z,A,B,C,D,E,F,G,H,I,m7,w9,m8,m9,J,s,n6,K,t,n7,L,n8,q,m,n9,S))
 else
 some (u,o,j,R,y8,A0,A3,y7,y5,A4,A1,A2,z,A,B,C,D,E,F,G,H,I,m7,w9,m8,m9,J,s,n6,K,t,n7,L,n8,q,m,n9,S):Option (Bool×Y66))).bind λ(A6,p,o7,T,y9,U,o8,x5,o9,p7,V,W,X,Y,Z,j3,j4,j5,j6,j7,j8,j9,p8,x6,p9,r9,k8,v,t7,k9,w,t8,l0,u0,x7,u7,w8,m5)=>
 ((
 bif (!A6) then(
 bif (T==0) then(
 some (p,o7,6,fS 0 (p.length:Int),U,o8,x5,o9,p7,V,W,X,Y,Z,j3,j4,j5,j6,j7,j8,j9,p8,x6,p9,r9,k8,v,t7,k9,w,t8,l0,u0,x7,u7,w8,m5))
 else
 some (p,o7,T,y9,U,o8,x5,o9,p7,V,W,X,Y,Z,j3,j4,j5,j6,j7,j8,j9,p8,x6,p9,r9,k8,v,t7,k9,w,t8,l0,u0,x7,u7,w8,m5))
 else
 some (p,o7,T,y9,U,o8,x5,o9,p7,V,W,X,Y,Z,j3,j4,j5,j6,j7,j8,j9,p8,x6,p9,r9,k8,v,t7,k9,w,t8,l0,u0,x7,u7,w8,m5):Option Y66)).bind λ(T9,U0,B9,C0,C1,G8,J7,G9,H0,C2,C3,C4,C5,C6,C7,C8,C9,D0,D1,D2,D3,H2,J8,H3,H4,D4,A7,H5,D5,A8,H6,D6,H7,J9,H8,H9,D7)=>
 some (C1,G8,J7,G9,H0,C2,C3,C4,C5,C6,C7,C8,C9,D0,D1,D2,D3,H2,J8,H3,H4,D4,A7,H5,D5,A8,H6,D6,H7,J9,H8,H9,D7,B9,C0):Option (Int×Bs×Bs×Bs×Y2×Int×Int×Int×Int×Int×Int×Int×Int×Int×Int×Int×Int×Y2×Bs×Bs×Bs×Int×Bool×Bs×Int×Bool×Bs×Int×Y8×Bs×Bs×Bs×Int×Y3))).bind λ(D8,I0,K0,I1,I2,D9,E0,E1,E2,E3,E4,E5,E6,E7,E8,E9,F0,I3,K1,I4,I5,F1,A9,I6,F2,B1,I7,F3,I8,K3,I9,J0,F4,z6,F5)=>
 bif (z6 !=0) then(
 some (((0,[],([],[]),[],(0,0,0,0,0,0),(0,0,0,0,0,0),[],(([],[]),[],0),false,([],0),false,([],0),[]),([],[]),[],0),z6,F5))
 else
 some (((D8,I0,(K0,I1),I2,(D9,E0,E1,E2,E3,E4),(E5,E6,E7,E8,E9,F0),I3,((K1,I4),I5,F1),A9,(I6,F2),B1,(I7,F3),I8),(K3,I9),J0,F4),0,0)
def Gq:Tr cI:=(.node (.node (.node (.node .nil 1946158098 [(.normal,⟨[(0,.ptr 3 0),(1,ay),(4,.ptr 17 0)],[xD,oo5,.junk,gE,.junk,.junk,.junk,.junk,.junk,.junk,.junk,.junk,.junk,.junk,.junk,.junk,YS,oo5]⟩)] .nil) 1946160146 [(.normal,⟨[(0,.ptr 3 0),(4,.ptr 17 0)],[xD,oo5,.junk,gE,.junk,.junk,.junk,.junk,.junk,.junk,.junk,.junk,.junk,.junk,.junk,.junk,YS,oo5]⟩)] (.node .nil 3489660938 [(.normal,⟨[],[xD,oo5,.junk,gE,ie,.junk,.junk,.junk,D7,.junk]⟩)] .nil)) 3489660942 [(.normal,⟨[],[xD,oo5,.junk,gE,.junk,.junk,.junk,.junk,MS,.junk,.junk,.junk,GD,.junk]⟩)] (.node (.node .nil 2199023345666 [(.ret,⟨[(2,.ptr 3 0)],[xD,oo5,.junk,gE]⟩)] .nil) 2199023349764 [(.ret,⟨[(4,.ptr 4 0)],[xD,oo5,.junk,gE,D7,.junk,.junk,.junk]⟩)] .nil)) 2199023357960 [(.ret,⟨[(4,.ptr 8 0)],[xD,oo5,.junk,gE,.junk,.junk,.junk,.junk,GD,.junk,.junk,.junk]⟩)] (.node (.node (.node .nil 2199023366156 [(.ret,⟨[(4,.ptr 12 0)],[xD,oo5,.junk,gE,.junk,.junk,.junk,.junk,.junk,.junk,.junk,.junk,oo7,.junk,.junk,.junk]⟩)] .nil) 2199023374353 [(.ret,⟨[(4,.ptr 17 0)],[xD,oo5,.junk,.junk,.junk,.junk,.junk,.junk,.junk,.junk,.junk,.junk,.junk,.junk,.junk,.junk,YS,oo0]⟩)] .nil) 2199023464454 [(.ret,⟨[(2,.ptr 6 0),(3,hc0)],[xD,oo5,.junk,gE,ie,ie,gr]⟩)] (.node (.node .nil 2199023464458 [(.ret,⟨[(2,.ptr 10 0),(3,hc0)],[xD,oo5,.junk,gE,.junk,.junk,.junk,.junk,MS,MS,gr]⟩)] .nil) 2199023464462 [(.ret,⟨[(2,.ptr 14 0),(3,hc0)],[xD,oo5,.junk,gE,.junk,.junk,.junk,.junk,.junk,.junk,.junk,.junk,GE,GE,gr]⟩)] .nil)))
def vz:KC B0:=gC 8 ⟨[bc,Cc,rq,Ha,wF],[],[],[],Gq⟩ [hc0] (.tup [MP,hc5]) (eF NN) (by kernel_rfl)
attribute [local irreducible] eF
def F5:AD B0:=⟨11,(c1 []),[hc0,hc0],ay⟩
@[local irreducible] noncomputable def rS(a:Bs)(a2:Bs):Option Bool:=syv NN (F5.go (a,a2))
def O6:KC B0:=gA F5 (u2 rS) (by kernel_rfl)
def oG(N:Nat):Option Bool:=
 (cy).bind λh=>
 (dU N h).bind λ(a,e)=>
 (eF N a).bind λ(i,b)=>
 bif (e !=0) then(
 some false)
 else
 bif (!((b.1==0)&&(b.2==0))) then(
 some false)
 else
 bif ((a.length:Int) !=96) then(
 some false)
 else
 bif ((i.1.2.1.length:Int) !=1) then(
 some false)
 else
 (slc a 0 13).bind λf=>
 (rS f ([48,94,48,83,2,1,1,48,4,6,2,42,3]:Bs)).bind λc=>
 bif c then(
 (slc a 87 (a.length:Int)).bind λg=>
 (rS g ([48,4,6,2,42,3,3,1,0]:Bs)).bind λd=>
 some d)
 else
 some false
def M5:KC B0:=gC 5 (c1 [K9,sZ,vz,O6]) [] ay (λ_=>oG NN) (by kernel_rfl)
attribute [local irreducible] oG
def Hb:AD B0:=⟨14,(c1 []),[hc1],ay⟩
@[local irreducible] noncomputable def Af(a:Y0):Option Bool:=syv NN (Hb.go (a))
def Ag:KC B0:=gA Hb Af (by kernel_rfl)
def Hc:AD B0:=⟨107,(c1 []),[hc1],ay⟩
@[local irreducible] noncomputable def Ah(a:Y0):Option Bool:=syv NN (Hc.go (a))
def Qs:KC B0:=gA Hc Ah (by kernel_rfl)
def ui(L:List (KL B0)):Ctx B0:=⟨[Qs],[],[],L,.nil⟩
def xc:LD:=⟨75,3,0,⟨[(0,hc2),(3,hc4),(4,hc4)],[]⟩,[(.ret,⟨[(2,vF)],[]⟩),(.exit 0,⟨[(0,hc2),(3,hc4)],[]⟩)]⟩
@[local irreducible] noncomputable def xd(N n:Nat):(Y1×Y3)->Option ((Unit)⊕(Y1×Int)):=Nat.rec (λ_=>none) (λ_ L x=>syv N (xc.round (ui []).cxs L x)) n
def Hd:KL B0:=gL (ui []) xc (xd NN) (by kernel_rfl)
def Br:AD B0:=⟨75,(ui [Hd]),[hc2],ay⟩
@[local irreducible] noncomputable def uj(N:Nat)(a:Y1):Option Bool:=syv N (Br.go (a))
def Lq:KC B0:=gA Br (uj NN) (by kernel_rfl)
def qo(L:List (KL B0)):Ctx B0:=⟨[Lq],[],[],L,.nil⟩
def Bt:LD:=⟨34,8,0,⟨[(0,lj),(3,hc4),(4,hc4),(5,hc4)],[]⟩,[(.exit 2,⟨[(0,lj),(3,hc4),(4,hc4)],[]⟩)]⟩
@[local irreducible] noncomputable def Bu(N n:Nat):(Y2×Int×Y3)->Option (Y2×Y3):=Nat.rec (λ_=>none) (λ_ L x=>syv N (Bt.round (qo []).cxs L x)) n
def uk:KL B0:=gL (qo []) Bt (Bu NN) (by kernel_rfl)
def Bv:LD:=⟨34,3,0,⟨[(0,lj),(3,hc4),(4,hc4)],[]⟩,[(.ret,⟨[(2,vF)],[]⟩),(.exit 0,⟨[(0,lj),(3,hc4)],[]⟩)]⟩
@[local irreducible] noncomputable def Bw(N n:Nat):(Y2×Y3)->Option ((Unit)⊕(Y2×Int)):=Nat.rec (λ_=>none) (λ_ L x=>syv N (Bv.round (qo [uk]).cxs L x)) n
def Lr:KL B0:=gL (qo [uk]) Bv (Bw NN) (by kernel_rfl)
def He:AD B0:=⟨34,(qo [uk,Lr]),[lj],ay⟩
@[local irreducible] noncomputable def Ai(N:Nat)(a:Y2):Option Bool:=syv N (He.go (a))
def Qt:KC B0:=gA He (Ai NN) (by kernel_rfl)
def Bx:AD B0:=⟨35,(c1 [Ag]),[Uu],ay⟩
@[local irreducible] noncomputable def ul(a:(Y0×Y6)):Option Bool:=syv NN (Bx.go (a))
def Ls:KC B0:=gA Bx ul (by kernel_rfl)
def si(L:List (KL B0)):Ctx B0:=⟨[],[],[],L,.nil⟩
def vA:LD:=⟨36,3,0,⟨[(0,sf),(3,hc4),(4,hc4)],[]⟩,[(.exit 0,⟨[(0,sf),(3,hc4)],[]⟩)]⟩
@[local irreducible] noncomputable def vB(N n:Nat):(Y8×Y3)->Option (Y8×Int):=Nat.rec (λ_=>none) (λ_ L x=>syv N (vA.round (si []).cxs L x)) n
def Gr:KL B0:=gL (si []) vA (vB NN) (by kernel_rfl)
def Aj:AD B0:=⟨36,(si [Gr]),[sf],ay⟩
@[local irreducible] noncomputable def sj(N:Nat)(a:Y8):Option Bool:=syv N (Aj.go (a))
def J1:KC B0:=gA Aj (sj NN) (by kernel_rfl)
def By:AD B0:=⟨13,(c1 [Ag,Qt,Ls,J1]),[Uw],ay⟩
@[local irreducible] noncomputable def um(N:Nat)(a:Y9):Option Bool:=syv N (By.go (a))
def Lt:KC B0:=gA By (um NN) (by kernel_rfl)
def Hf:AD B0:=⟨6,(c1 [Lt,Ag]),[MP],ay⟩
@[local irreducible] noncomputable def Ak(N:Nat)(a:Y10):Option Bool:=syv N (Hf.go (a))
def Qu:KC B0:=gA Hf (Ak NN) (by kernel_rfl)
def qp:AD B0:=⟨3,(c1 [M5,Qu,sZ,vz]),[MP,.hole (.int .u16),hc0],ay⟩
@[local irreducible] noncomputable def kN(N:Nat)(a:Y10)(a2:Int)(a3:Bs):Option Bool:=syv N (qp.go (a,a2,a3))
def Al:KC B0:=gA qp (u3 (kN NN)) (by kernel_rfl)
end
end Go.Fw

def aj6:=@BitVec.toNat_ofInt
def akh:=@Nat.shiftLeft_add_eq_or_of_lt
def ak7:=@Nat.shiftLeft_eq
def alB:=@BitVec.toNat_or
namespace Go.Fw
open Go
def Tg{a b:Int}(f: -36028797018963968<=a)(g:a<36028797018963968)(h:0<=b)(i:b<256):bits .or .i64 (Nq .i64 a 8) b=256*a+b:=by
 have c:Nq .i64 a 8=256*a:=by
  show IntKind.i64.wrap (a*2 ^ (8:Nat))=_;rw[Go.IntWalk.i64_in _ (by omega)];omega
 rw[c];show IntKind.i64.wrap (((BitVec.ofInt 64 (256*a))|||(BitVec.ofInt 64 b)).toNat:Int)=_;rw[alB,aj6,aj6];have e:((256*a) % ((2 ^ 64:Nat):Int)).toNat=(a % 72057594037927936).toNat*2 ^ 8:=by omega
 have d:(b % ((2 ^ 64:Nat):Int)).toNat=b.toNat:=by omega
 rw[e,d,<-ak7,<-akh (by omega:b.toNat<2 ^ 8),ak7,IntKind.wrap_i64];omega
end Go.Fw
def ajW:=@List.dropLast_concat_getLast
namespace Go.Fw
open Go
def dD{i:Nat}(h:i<4611686018427387904):aw .i64 (i:Int) 1=((i+1:Nat):Int):=by
 show IntKind.i64.wrap ((i:Int)+1)=_;rw[aij _ (by omega)];omega
def US{i:Nat}(a:0<i)(h:i<4611686018427387904):aU .i64 (i:Int) 1=((i-1:Nat):Int):=by
 show IntKind.i64.wrap ((i:Int)-1)=_;rw[aij _ (by omega)];omega
def de{α:Type}{l:List α}{i:Nat}{x:α}(h:l[i]?=some x):ix l (i:Int)=some x:=by
 unfold ix;rw[ah2 (by omega),aiP,h]
def Th(x:UInt8):toB (x.toNat:Int)=some x:=by
 unfold toB;have:=x.toNat_lt;rw[ah2 ⟨by omega,by omega⟩];simp
def Ti{i n:Nat}(h:i<n):inb (i:Int) n=true:=by
 unfold inb;simp only[ahJ,aiu];omega
def Zg(p m q:List UInt8)(x y:UInt8):(((p++(x::m++[y])++q).set p.length y).set (p.length+m.length+1) x)=(p++[y])++m++(x::q):=by
 have a:p++(x::m++[y])++q=p++(x::(m++(y::q))):=by simp
 rw[a,akt _ _ (ahS _),akk,ajM,akt _ _ (by omega)];rw[show p.length+m.length+1-p.length=m.length+1 from by omega,akj,akt _ _ (ahS _),akk,ajM];simp
def QM(N n:Nat)(b c:Int)(a:Bs):aN N (n+1) (b,c,a)=bif decide (b<c) then(bif inb c a.length then((ix a c).bind λe=>bif inb b a.length then((ix a b).bind λf=>bif inb b a.length then(bif inb b a.length then((toB (e.toNat:Int)).bind λd=>
 bif inb c (a.set (Int.toNat b) d).length then(bif inb c (a.set (Int.toNat b) d).length then((toB (f.toNat:Int)).bind λg=>aN N n (aw .i64 b 1,aU .i64 c 1,(a.set (Int.toNat b) d).set (Int.toNat c) g)) else none) else none) else none) else none) else none) else none) else some a:=rfl
def Tj(N:Nat):∀(k:Nat)(a p q:List UInt8)(n:Nat),a.length<=k->a.length<2*n->(p++a++q).length<4611686018427387904->
 aN N n ((p.length:Int),(((p.length+a.length:Nat):Int)-1),p++a++q)=some (p++a.reverse++q):=by
 intro k;induction k with
 |zero=>
  intro a p q n c g d;obtain⟨n,rfl⟩:∃m,n=m+1:=⟨n-1,by omega⟩;have:a=[]:=ait (by omega);subst this;show(bif decide ((p.length:Int)<((p.length+([]:List UInt8).length:Nat):Int)-1) then _ else _)=_;rw[ahL (by simp;omega)];simp
 |succ k t=>
  intro a p q n c g d;obtain⟨n,rfl⟩:∃m,n=m+1:=⟨n-1,by omega⟩
  match a,c,g,d with
  |[],_,_,_=>
   show(bif decide ((p.length:Int)<((p.length+([]:List UInt8).length:Nat):Int)-1) then _ else _)=_;rw[ahL (by simp;omega)];simp
  |[x],_,_,_=>
   show(bif decide ((p.length:Int)<((p.length+[x].length:Nat):Int)-1) then _ else _)=_;rw[ahL (by simp)];simp
  |x::z::r,c,g,d=>
   obtain⟨m,y,s⟩:∃m y,z::r=m++[y]:=⟨(z::r).dropLast,(z::r).getLast (by simp),(ajW (by simp)).symm⟩;rw[s]at c g d⊢;have e:(x::(m++[y])).length=m.length+2:=by simp
   have j:(p++(x::(m++[y]))++q)[p.length+m.length+1]?=some y:=by
    rw[aia,ahZ (by omega),show p.length+m.length+1-p.length=m.length+1 from by omega,aiB,ai1,aia,ahZ (ahS _),akk];rfl
   have l:(p++(x::(m++[y]))++q)[p.length]?=some x:=by
    rw[aia,ahZ (ahS _),akk];rfl
   have f:(p++(x::(m++[y]))++q).length=p.length+m.length+2+q.length:=by simp;omega
   have i:((p.length+(x::(m++[y])).length:Nat):Int)-1=((p.length+m.length+1:Nat):Int):=by rw[e];omega
   rw[i];have b:aN N (n+1) ((p.length:Int),((p.length+m.length+1:Nat):Int),p++(x::(m++[y]))++q)=aN N n (((p.length+1:Nat):Int),((p.length+m.length:Nat):Int),(p++[y])++m++(x::q)):=by
    rw[QM,ahO (by omega:(p.length:Int)<((p.length+m.length+1:Nat):Int))];simp only[ahY,de j,de l,ahI,Th,aiP,ajH,f];rw[Ti (by omega:p.length+m.length+1<p.length+m.length+2+q.length),Ti (by omega:p.length<p.length+m.length+2+q.length)];simp only[ahY];rw[dD (by omega),US (by omega) (by omega),show p.length+m.length+1-1=p.length+m.length from by omega];rw[show p++(x::(m++[y]))++q=p++(x::m++[y])++q from rfl,Zg]
   rw[b];have o:((p++[y])++m++(x::q)).length=p.length+m.length+2+q.length:=by simp;omega
   rw[f]at d;have h:=t m (p++[y]) (x::q) n (by simp at c;omega) (by simp at g;omega) (by rw[o];omega);rw[show((p++[y]).length:Int)=((p.length+1:Nat):Int) from by simp,show(((p++[y]).length+m.length:Nat):Int)-1=((p.length+m.length:Nat):Int) from by simp;omega]at h;rw[h];simp
end Go.Fw
def akl:=@Nat.pow_succ
def akx:=@Int.fdiv_eq_ediv_of_nonneg
def akX:=@List.reverse_cons
namespace Go.Fw
open Go
def leB:Nat->Nat->List UInt8
 |0,_=>[]
 |f+1,n=>if n=0 then [] else UInt8.ofNat (n % 256)::leB f (n / 256)
def Nb:∀(f n:Nat),(leB f n).length<=f
 |0,_=>ahS _
 |f+1,n=>by
  unfold leB;split
  ·simp
  ·simp only[ahP];have:=Nb f (n / 256);omega
def nR(n:Nat):toB (IntKind.wrap .u8 (n:Int))=some (UInt8.ofNat (n % 256)):=by
 unfold toB;rw[IntKind.wrap_u8,ah2 ⟨by omega,by omega⟩];congr 1
def aa3(n:Nat):wj .u64 (n:Int) 8=((n / 256:Nat):Int):=by
 show(n:Int).fdiv (2 ^ (8:Nat))=_;rw[akx _ (by decide)];omega
def N3(N n:Nat)(i2:Int)(a:Bs):bx N (n+1) (i2,a)=bif decide (i2>0) then((toB (IntKind.wrap .u8 i2)).bind λb=>(app 1 a [b]).bind λc=>bx N n (wj .u64 i2 8,c)) else some a:=rfl
def aea(N:Nat):∀(f a n:Nat)(l:List UInt8),a<256 ^ f->f<n->l.length+f<1000->bx N n ((a:Int),l)=some (l++leB f a):=by
 intro f;induction f with
 |zero=>
  intro a n l c e _;obtain⟨n,rfl⟩:∃m,n=m+1:=⟨n-1,by omega⟩;have:a=0:=by simpa using c
  subst this;rw[N3,ahL (by simp)];simp[leB]
 |succ f g=>
  intro a n l c e h;obtain⟨n,rfl⟩:∃m,n=m+1:=⟨n-1,by omega⟩;rw[N3];by_cases d:a=0
  ·subst d;rw[ahL (by simp)];simp[leB]
  ·rw[ahO (by omega:(a:Int)>0),ahY,nR,aa3];simp only[ahI];have b:app 1 l [UInt8.ofNat (a % 256)]=some (l++[UInt8.ofNat (a % 256)]):=by
    unfold app cH;rw[ah2 ⟨by simp only[ahP,ah9];omega,by simp only[ahP,ah9];omega⟩]
   rw[b];simp only[ahI];rw[g (a / 256) n _ (by rw[akl]at c;omega) (by omega) (by simp;omega)];simp[leB,d]
def gx(n:Nat):List UInt8:=(leB 8 (n / 256)).reverse++[UInt8.ofNat (n % 256)]
def SJ(N:Nat)(b:20<=N)(n:Nat)(c:n<18446744073709551616):cQ N (n:Int)=some (gx n):=by
 unfold cQ syv;rw[nR,aa3];simp only[ahI];rw[aea N 8 (n / 256) N _ (by omega) (by omega) (by simp)];simp only[ahI];have a:=Nb 8 (n / 256);have h:=Tj N 9 ([UInt8.ofNat (n % 256)]++leB 8 (n / 256)) [] [] N (by simp;omega) (by simp;omega) (by simp;omega);simp only[aiw,ah6,ah9,aiA]at h;have e:aU .i64 ((([UInt8.ofNat (n % 256)]++leB 8 (n / 256)).length:Nat):Int) 1=((([UInt8.ofNat (n % 256)]++leB 8 (n / 256)).length:Nat):Int)-1:=by
  show IntKind.i64.wrap _=_;rw[aij _ (by simp;omega)]
 rw[e];rw[show(0:Int)=((0:Nat):Int) from rfl,h];simp[gx]
def beN(l:List UInt8):Nat:=l.foldl (λn x=>256*n+x.toNat) 0
def yF(a:List UInt8)(x:UInt8):beN (a++[x])=256*beN a+x.toNat:=by
 unfold beN;rw[List.foldl_append];rfl
def Ww:∀(f n:Nat),n<256 ^ f->beN (leB f n).reverse=n
 |0,n,h=>by
  have:n=0:=by simpa using h
  subst this;rfl
 |f+1,n,h=>by
  unfold leB;split
  ·rename_i a;subst a;rfl
  ·rw[akX,yF,Ww f (n / 256) (by rw[akl]at h;omega)];have:(UInt8.ofNat (n % 256)).toNat=n % 256:=by simp
   rw[this];omega
def abR(n:Nat)(h:n<18446744073709551616):beN (gx n)=n:=by
 unfold gx;rw[yF,Ww 8 (n / 256) (by omega)];have:(UInt8.ofNat (n % 256)).toNat=n % 256:=by simp
 rw[this];omega
def Il(n:Nat):1<=(gx n).length/\(gx n).length<=9:=by
 unfold gx;have:=Nb 8 (n / 256);simp;omega
end Go.Fw
namespace Go.Fw
open Go
def N4:∀(f k n:Nat),n<256 ^ k->(leB f n).length<=k
 |0,_,_,_=>aiJ _
 |f+1,k,n,h=>by
  unfold leB;split
  ·exact aiJ _
  ·rename_i a;cases k with
   |zero=>simp at h;omega
   |succ k=>
    have:=N4 f k (n / 256) (by rw[akl]at h;omega);simp only[ahP];omega
def QO:∀(f n:Nat),0<n->n<256 ^ f->∃x r,(leB f n).reverse=x::r/\x.toNat≠0
 |0,n,a,h=>by simp at h;omega
 |f+1,n,a,h=>by
  unfold leB;rw[air (by omega),akX];by_cases b:n / 256=0
  ·refine⟨UInt8.ofNat (n % 256),[],?_,?_⟩
   ·rw[b];cases f<;>simp[leB]
   ·have:(UInt8.ofNat (n % 256)).toNat=n % 256:=by simp
    rw[this];omega
  ·obtain⟨x,r,e,c⟩:=QO f (n / 256) (by omega) (by rw[akl]at h;omega);exact⟨x,r++[UInt8.ofNat (n % 256)],by rw[e];rfl,c⟩
def Zi(n:Nat)(c:0<n)(h:n<18446744073709551616):∃x r,gx n=x::r/\x.toNat≠0:=by
 unfold gx;by_cases a:n / 256=0
 ·refine⟨UInt8.ofNat (n % 256),[],?_,?_⟩
  ·rw[a];simp[leB]
  ·have:(UInt8.ofNat (n % 256)).toNat=n % 256:=by simp
   rw[this];omega
 ·obtain⟨x,r,e,b⟩:=QO 8 (n / 256) (by omega) (by omega);exact⟨x,r++[UInt8.ofNat (n % 256)],by rw[e];rfl,b⟩
def N5(n:Nat)(h:n<256):gx n=[UInt8.ofNat n]:=by
 unfold gx;rw[show n / 256=0 from by omega,show n % 256=n from by omega];simp[leB]
def Ka(n:Nat)(h:n<4294967296):(gx n).length<=4:=by
 unfold gx;have:=N4 8 3 (n / 256) (by omega);simp;omega
def aV(n:Nat):List UInt8:=if n<128 then gx n else UInt8.ofNat (128+(gx n).length)::gx n
def pg(n:Nat)(h:n<4294967296):1<=(aV n).length/\(aV n).length<=5:=by
 have a:=Il n;have b:=Ka n h;unfold aV;split
 ·omega
 ·simp only[ahP];omega
def UT(N:Nat)(b:20<=N)(n:Nat)(d:n<=2147483647):fI N (n:Int)=some (aV n,0):=by
 unfold fI syv;rw[ahL (by omega:¬(n:Int)<0),ahL (by omega:¬(n:Int)>2147483647),Go.IntWalk.u64_in _ (by omega),SJ N b n (by omega)];simp only[ahQ,ahI];by_cases h:n<128
 ·rw[ahO (by omega:(n:Int)<128)];simp[aV,h]
 ·rw[ahL (by omega:¬(n:Int)<128)];have c:=Ka n (by omega);have e:aw .i64 128 (((gx n).length:Nat):Int)=((128+(gx n).length:Nat):Int):=by
   show IntKind.i64.wrap _=_;rw[aij _ (by omega)];omega
  rw[e,nR,show(128+(gx n).length) % 256=128+(gx n).length from by omega];simp only[ahQ,ahI];have a:app 1 [UInt8.ofNat (128+(gx n).length)] (gx n)=some ([UInt8.ofNat (128+(gx n).length)]++gx n):=by
   unfold app cH;rw[ah2 ⟨by simp only[ahP,ah9];omega,by simp only[ahP,ah9];omega⟩]
  rw[a];simp[aV,h]
def N6(N n:Nat)(l:Bs)(a c b:Int):aW N (n+1) (l,a,c,b,0,0)=bif decide (b>a) then some (l,a,c,0,0) else((ix l b).bind λd=>aW N n (l,a,bits .or .i64 (Nq .i64 c 8) (IntKind.wrap .i64 (d.toNat:Int)),aw .i64 b 1,0,0)):=rfl
def Au(b:UInt8):IntKind.wrap .i64 (b.toNat:Int)=(b.toNat:Int):=by
 have:=b.toNat_lt;rw[aij _ (by omega)]
def Ho(N:Nat)(b:UInt8)(m a:List UInt8)(p:m.length<=4):∀(k n i L:Nat),m.length-i=k->i<=m.length->k<n->L<256 ^ i->
 aW N n (b::(m++a),(m.length:Int),(L:Int),((i+1:Nat):Int),0,0)=some (b::(m++a),(m.length:Int),(((m.drop i).foldl (λn x=>256*n+x.toNat) L:Nat):Int),0,0):=by
 intro k;induction k with
 |zero=>
  intro n i L f e g _;obtain⟨n,rfl⟩:∃m,n=m+1:=⟨n-1,by omega⟩;rw[N6,ahO (by omega:((i+1:Nat):Int)>(m.length:Int)),aj2 (by omega)];rfl
 |succ k h=>
  intro n i L f e g l;obtain⟨n,rfl⟩:∃m,n=m+1:=⟨n-1,by omega⟩;have c:i<m.length:=by omega
  have d:(b::(m++a))[i+1]?=some m[i]:=by
   rw[ai1,ahT c,ahK c]
  rw[N6,ahL (by omega:¬((i+1:Nat):Int)>(m.length:Int)),ahQ,de d];simp only[ahI];have q:(256:Nat) ^ i<=256 ^ 4:=akw (by decide) (by omega);have j:(256:Nat) ^ 4=4294967296:=by decide
  have o:=(m[i]).toNat_lt;rw[Au,Tg (by omega) (by omega) (by omega) (by omega),dD (by omega),aii c,alA];rw[show(256*(L:Int)+((m[i]).toNat:Int))=((256*L+(m[i]).toNat:Nat):Int) from by omega];exact h n (i+1) _ (by omega) (by omega) (by omega) (by rw[akl];omega)
def Zj(N:Nat)(t:20<=N)(n:Nat)(u:n<=2147483647)(a:List UInt8):bu N (aV n++a)=some ((n:Int),((aV n).length:Int),0,0):=by
 unfold bu syv;by_cases h:n<128
 ·have e:aV n=[UInt8.ofNat n]:=by simp[aV,h,N5 n (by omega)]
  rw[e];have g:(((([UInt8.ofNat n]++a).length:Nat):Int)==0)=false:=by simp;omega
  have c:ix ([UInt8.ofNat n]++a) 0=some (UInt8.ofNat n):=rfl;have k:(UInt8.ofNat n).toNat=n:=by simp;omega
  rw[g];simp only[ahQ,c,ahI,k];rw[ahO (by omega:(n:Int)<128),ahY,aij _ (by omega)];rfl
 ·have j:=Ka n (by omega);have p:=(Il n).1;have e:aV n=UInt8.ofNat (128+(gx n).length)::gx n:=by simp[aV,h]
  obtain⟨x,r,q,s⟩:=Zi n (by omega) (by omega);rw[e,aiB];generalize o:UInt8.ofNat (128+(gx n).length)=b;have i:b.toNat=128+(gx n).length:=by rw[<-o];simp;omega
  have g:((((b::(gx n++a)).length:Nat):Int)==0)=false:=by simp;omega
  have c:ix (b::(gx n++a)) 0=some b:=rfl;have d:ix (b::(gx n++a)) 1=some x:=by rw[q];rfl
  have f:aU .i64 (b.toNat:Int) 128=((gx n).length:Int):=by
   show IntKind.i64.wrap _=_;rw[i,aij _ (by omega)];omega
  rw[g];simp only[ahQ,c,ahI,Au];rw[ahL (by omega:¬(b.toNat:Int)<128),f];rw[show((((gx n).length:Nat):Int)==0)=false from aid.2 (by omega),ahL (by omega:¬(((gx n).length:Nat):Int)>4),ahL (by simp;omega:¬(((b::(gx n++a)).length:Nat):Int)<=(((gx n).length:Nat):Int))];simp only[ahQ];have l:=Ho N b (gx n) a j (gx n).length N 0 0 (by omega) (by omega) (by omega) (by simp);rw[aiz,show(gx n).foldl (λn x=>256*n+x.toNat) 0=n from abR n (by omega)]at l;rw[show aW N N (b::(gx n++a),(((gx n).length:Nat):Int),0,1,0,0)=_ from l];simp only[ahI,d];rw[show((x.toNat:Int)==0)=false from aid.2 (by omega),ahL (by omega:¬(n:Int)<128),ahL (by omega:¬(n:Int)>2147483647)];have m:aw .i64 1 (((gx n).length:Nat):Int)=(((b::gx n).length:Nat):Int):=by
   show IntKind.i64.wrap _=_;rw[aij _ (by omega)];simp;omega
  rw[m];rfl
end Go.Fw
namespace Go.Fw
open Go
def abS:∀(l:List UInt8)(x:UInt8)(r:List UInt8),l=x::r->x.toNat≠0->0<beN l:=by
 intro l x r h d;subst h;have b:∀(r:List UInt8)(a:Nat),0<a->0<r.foldl (λn x=>256*n+x.toNat) a:=by
  intro r;induction r with
  |nil=>intro a h;exact h
  |cons y r c=>intro a h;exact c _ (by show 0<256*a+y.toNat;omega)
 exact b r _ (by show 0<256*0+x.toNat;omega)
def aeb:∀(f:Nat)(l:List UInt8),l.length<=f->(∀x r,l=x::r->x.toNat≠0)->(leB f (beN l)).reverse=l:=by
 intro f;induction f with
 |zero=>
  intro l h _;have:l=[]:=ait (by omega);subst this;rfl
 |succ f n=>
  intro l h j;cases a:l with
  |nil=>simp[beN,leB]
  |cons x r=>
   have b:=j x r a;have e:=abS l x r a b;rw[<-a];obtain⟨m,d,c⟩:∃m d,l=m++[d]:=⟨l.dropLast,l.getLast (by rw[a];simp),(ajW (by rw[a];simp)).symm⟩;have p:=d.toNat_lt;have o:beN l=256*beN m+d.toNat:=by rw[c,yF]
   have g:beN l / 256=beN m:=by omega
   have i:beN l % 256=d.toNat:=by omega
   unfold leB;rw[air (by omega),g,i,akX,n m (by rw[c]at h;simp at h;omega) (λy s k=>by
    rw[c,k]at a;simp only[aiB,ajG]at a;rw[a.1];exact b)]
   rw[c];simp
def aec(l:List UInt8)(e:l.length<=9)(x:UInt8)(r:List UInt8)(a:l=x::r)(b:x.toNat≠0∨r=[]):gx (beN l)=l:=by
 obtain⟨m,d,c⟩:∃m d,l=m++[d]:=⟨l.dropLast,l.getLast (by rw[a];simp),(ajW (by rw[a];simp)).symm⟩;have h:=d.toNat_lt;have g:beN l=256*beN m+d.toNat:=by rw[c,yF]
 unfold gx;rw[show beN l / 256=beN m from by omega,show beN l % 256=d.toNat from by omega,aeb 8 m (by rw[c]at e;simp at e;omega) (λy s f=>by
  rw[c,f]at a;simp only[aiB,ajG]at a;rcases b with b|b
  ·rw[a.1];exact b
  ·rw[b]at a;simp at a),c]
 simp
def Zk(N:Nat)(H:20<=N)(a:List UInt8)(I:a.length<4611686018427387904)(L k o:Int)(h:bu N a=some (L,k,0,o)):∃(n:Nat)(i:List UInt8),n<=2147483647/\a=aV n++i/\L=(n:Int)/\k=((aV n).length:Int):=by
 unfold bu syv at h;cases a with
 |nil=>cases h
 |cons b r=>
  have C:((((b::r).length:Nat):Int)==0)=false:=aid.2 (by simp only[ahP];omega);have p:ix (b::r) 0=some b:=rfl;have J:=b.toNat_lt;rw[C]at h;simp only[ahQ,p,ahI,Au]at h;by_cases v:(b.toNat:Int)<128
  ·rw[ahO v]at h;simp only[ahY,ahM,ah7]at h;obtain⟨rfl,rfl,_,_⟩:=h;have e:aV b.toNat=[b]:=by
    unfold aV;rw[ah2 (by omega),N5 _ (by omega)];simp
   exact⟨b.toNat,r,by omega,by rw[e];rfl,rfl,by rw[e];rfl⟩
  ·rw[ahL v]at h;obtain⟨c,E⟩:∃c:Nat,b.toNat=128+c:=⟨b.toNat-128,by omega⟩;have g:aU .i64 (b.toNat:Int) 128=(c:Int):=by
    show IntKind.i64.wrap _=_;rw[E,aij _ (by omega)];omega
   rw[g]at h;simp only[ahQ,bK,ahI]at h;by_cases D:c=0
   ·subst D;cases h
   ·rw[show((c:Int)==0)=false from aid.2 (by omega)]at h;simp only[ahQ]at h;by_cases w:(c:Int)>4
    ·rw[ahO w]at h;cases h
    ·rw[ahL w]at h;simp only[ahQ]at h;by_cases j:(((b::r).length:Nat):Int)<=(c:Int)
     ·rw[ahO j]at h;cases h
     ·rw[ahL j]at h;simp only[ahQ]at h;simp only[ahP]at j;have t:r=r.take c++r.drop c:=(aiV c r).symm;have f:(r.take c).length=c:=by rw[aig];omega
      have A:=Ho N b (r.take c) (r.drop c) (by omega) (r.take c).length N 0 0 (by omega) (by omega) (by omega) (by simp);rw[aiz,<-t,f]at A;rw[show aW N N (b::r,(c:Int),0,1,0,0)=_ from A]at h;obtain⟨x,s,B⟩:∃x s,r.take c=x::s:=by
       cases G:r.take c with
       |nil=>rw[G]at f;simp at f;omega
       |cons x s=>exact⟨x,s,rfl⟩
      have d:ix (b::r) 1=some x:=by rw[t,B];rfl
      simp only[ahI,d]at h;by_cases l:((x.toNat:Int)==0)=true
      ·rw[l]at h;cases h
      ·rw[show((x.toNat:Int)==0)=false from by simpa using l]at h;have u:x.toNat≠0:=by
        intro F;apply l;rw[F];rfl
       simp only[ahQ]at h;have m:(r.take c).foldl (λn x=>256*n+x.toNat) 0=beN (r.take c):=rfl;rw[m]at h;by_cases y:((beN (r.take c):Nat):Int)<128
       ·rw[ahO y]at h;cases h
       ·rw[ahL y]at h;simp only[ahQ]at h;by_cases z:((beN (r.take c):Nat):Int)>2147483647
        ·rw[ahO z]at h;cases h
        ·rw[ahL z]at h;simp only[ahQ,ahM,ah7]at h;obtain⟨rfl,rfl,_⟩:=h;have q:=aec (r.take c) (by omega) x s B (.inl u);have e:aV (beN (r.take c))=b::r.take c:=by
          unfold aV;rw[air (by omega),q,f];congr 1;apply UInt8.toNat_inj.1;simp;omega
         refine⟨beN (r.take c),r.drop c,by omega,by rw[e,aiB,<-t],rfl,?_⟩;rw[e];show IntKind.i64.wrap _=_;rw[aij _ (by omega)];simp only[ahP,f];omega
end Go.Fw
namespace Go.Fw
open Go
def idB(c:Nat)(k:Bool)(num:Nat):UInt8:=UInt8.ofNat (64*c+(if k then 32 else 0)+num)
def N7:∀(c:Fin 4)(k:Bool)(num:Fin 31),bP (c.val:Int) k (num.val:Int)=some (((idB c.val k num.val).toNat:Int),0)/\aQ ((idB c.val k num.val).toNat:Int)=some ((c.val:Int),k,(num.val:Int),0):=ail (by kernel_rfl)
def N8{c num:Nat}(k:Bool)(a:c<4)(b:num<31):bP (c:Int) k (num:Int)=some (((idB c k num).toNat:Int),0):=(N7 ⟨c,a⟩ k ⟨num,b⟩).1
def UU{c num:Nat}(k:Bool)(a:c<4)(b:num<31):aQ ((idB c k num).toNat:Int)=some ((c:Int),k,(num:Int),0):=(N7 ⟨c,a⟩ k ⟨num,b⟩).2
def SL:∀n:Fin 256,(match aQ ((UInt8.ofNat n.val).toNat:Int) with
 |some (c,k,num,e)=>decide (e=0->0<=c/\c<4/\0<=num/\num<31/\UInt8.ofNat n.val=idB c.toNat k num.toNat)
 |none=>false)=true:=ail (by kernel_rfl)
def LG(b:UInt8):∃c k a e,aQ (b.toNat:Int)=some (c,k,a,e)/\(e=0->∃f d:Nat,f<4/\d<31/\c=(f:Int)/\a=(d:Int)/\b=idB f k d):=by
 have h:=SL ⟨b.toNat,b.toNat_lt⟩;rw[show UInt8.ofNat (⟨b.toNat,b.toNat_lt⟩:Fin 256).val=b from by simp]at h;cases g:aQ (b.toNat:Int) with
 |none=>rw[g]at h;cases h
 |some x=>
  obtain⟨c,k,a,e⟩:=x;rw[g]at h;refine⟨c,k,a,e,rfl,λj=> ?_⟩;obtain⟨l,m,n,o,i⟩:=ail h j;exact⟨c.toNat,a.toNat,by omega,by omega,by omega,by omega,i⟩
def qL(b:UInt8)(r:List UInt8):slc (b::r) 1 ((b::r).length:Int)=some r:=by
 unfold slc;rw[ah2 ⟨by decide,by simp only[ahP];omega,by omega⟩,aiP,ajb];rfl
def fX{a b:Int}(h: -4611686018427387904<=a+b/\a+b<=4611686018427387904):aw .i64 a b=a+b:=by
 show IntKind.i64.wrap _=_;rw[aij _ (by omega)]
def qr{a b:Int}(h: -4611686018427387904<=a-b/\a-b<=4611686018427387904):aU .i64 a b=a-b:=by
 show IntKind.i64.wrap _=_;rw[aij _ (by omega)]
def UV(N:Nat)(f:20<=N){c num n:Nat}(k:Bool)(g:c<4)(i:num<31)(h:n<=2147483647)(a:List UInt8):
 aX N (idB c k num::(aV n++a))=some (((c:Int),(num:Int),k,(n:Int),((1+(aV n).length:Nat):Int)),0,0):=by
 have j:=pg n (by omega);unfold aX syv;have e:((((idB c k num::(aV n++a)).length:Nat):Int)==0)=false:=aid.2 (by simp only[ahP];omega);have b:ix (idB c k num::(aV n++a)) 0=some (idB c k num):=rfl;rw[e,qL];simp only[ahQ,b,ahI,UU k g i,Zj N f n h a];have d:aw .i64 1 (((aV n).length:Nat):Int)=((1+(aV n).length:Nat):Int):=by
  rw[fX (by omega)];omega
 rw[d];rfl
def EI(N:Nat)(u:20<=N)(a:List UInt8)(v:a.length<4611686018427387904)(c num L sz o:Int)(k:Bool)(h:aX N a=some ((c,num,k,L,sz),0,o)):
 ∃(f d n:Nat)(e:List UInt8),f<4/\d<31/\n<=2147483647/\a=idB f k d::(aV n++e)/\c=(f:Int)/\num=(d:Int)/\L=(n:Int)/\sz=((1+(aV n).length:Nat):Int):=by
 unfold aX syv at h;cases a with
 |nil=>cases h
 |cons b r=>
  have t:((((b::r).length:Nat):Int)==0)=false:=aid.2 (by simp only[ahP];omega);have l:ix (b::r) 0=some b:=rfl;obtain⟨c1,C,s,p,hid,i⟩:=LG b;rw[t,qL]at h;simp only[ahQ,l,ahI,hid]at h;by_cases j:p=0
  ·obtain⟨f,d,w,z,rfl,rfl,rfl⟩:=i j;subst j;rw[show((0:Int) !=0)=false from rfl]at h;simp only[ahQ]at h;cases m:bu N r with
   |none=>rw[m]at h;cases h
   |some x=>
    obtain⟨A,D,q,E⟩:=x;rw[m]at h;simp only[ahI]at h;by_cases g:q=0
    ·subst g;rw[show((0:Int) !=0)=false from rfl]at h;simp only[ahQ,ahM,ah7]at h;obtain⟨⟨rfl,rfl,rfl,rfl,rfl⟩,_⟩:=h;obtain⟨n,e,y,rfl,rfl,rfl⟩:=Zk N u r (by simp at v;omega) _ _ _ m;have B:=pg n (by omega);refine⟨f,d,n,e,w,z,y,rfl,rfl,rfl,rfl,?_⟩;rw[fX (by omega)];omega
    ·rw[show(q !=0)=true from by simpa using g]at h;simp only[ahY,ahM,ah7]at h;omega
  ·rw[show(p !=0)=true from by simpa using j]at h;simp only[ahY,ahM,ah7]at h;omega
end Go.Fw
def aif:=@List.flatten_cons
namespace Go.Fw
open Go
def QP(N n:Nat)(c d:List Bs)(i2 i4 i5:Int):aB N (n+1) (c,i2,d,i4,i5)=bif decide (i5<i4) then((ix d i5).bind λe=>((bif decide (aw .i64 i2 (e.length:Int)<0) then none else some (c,aw .i64 i2 (e.length:Int),d,i4,i5):Option (List Bs×Int×List Bs×Int×Int))).bind λ(g,f,h,a,b)=>
 aB N n (g,f,h,a,aw .i64 b 1)) else some (c,i2):=rfl
def QQ(N n:Nat)(c:List Bs)(b a:Int)(d:Bs):aC N (n+1) (c,b,a,d)=bif decide (a<b) then((ix c a).bind λe=>(app 1 d e).bind λf=>aC N n (c,b,aw .i64 a 1,f)) else some d:=rfl
def afA(N:Nat)(xs:List Bs)(g:xs.length<4611686018427387904):∀(k n i s:Nat),xs.length-i=k->i<=xs.length->k<n->s+(xs.drop i).flatten.length<=1099511627776->
 aB N n (xs,(s:Int),xs,(xs.length:Int),(i:Int))=some (xs,((s+(xs.drop i).flatten.length:Nat):Int)):=by
 intro k;induction k with
 |zero=>
  intro n i s c b d _;obtain⟨n,rfl⟩:∃m,n=m+1:=⟨n-1,by omega⟩;rw[QP,ahL (by omega:¬(i:Int)<(xs.length:Int)),aj2 (by omega)];rfl
 |succ k f=>
  intro n i s c b d e;obtain⟨n,rfl⟩:∃m,n=m+1:=⟨n-1,by omega⟩;have a:i<xs.length:=by omega
  rw[aii a,aif,ahN]at e;rw[QP,ahO (by omega:(i:Int)<(xs.length:Int)),ahY,de (ahK a)];simp only[ahI];rw[fX (by omega),show(s:Int)+((xs[i].length:Nat):Int)=((s+xs[i].length:Nat):Int) from by omega,ahL (by omega:¬((s+xs[i].length:Nat):Int)<0)];simp only[ahQ,ahI];rw[dD (by omega),f n (i+1) _ (by omega) (by omega) (by omega) (by omega),aii a,aif,ahN,ajR]
def afB(N:Nat)(xs:List Bs)(h:xs.length<4611686018427387904):∀(k n i:Nat)(l:Bs),xs.length-i=k->i<=xs.length->k<n->l.length+(xs.drop i).flatten.length<=1099511627776->
 aC N n (xs,(xs.length:Int),(i:Int),l)=some (l++(xs.drop i).flatten):=by
 intro k;induction k with
 |zero=>
  intro n i l d c e _;obtain⟨n,rfl⟩:∃m,n=m+1:=⟨n-1,by omega⟩;rw[QQ,ahL (by omega:¬(i:Int)<(xs.length:Int)),aj2 (by omega)];simp
 |succ k g=>
  intro n i l d c e f;obtain⟨n,rfl⟩:∃m,n=m+1:=⟨n-1,by omega⟩;have a:i<xs.length:=by omega
  rw[aii a,aif,ahN]at f;rw[QQ,ahO (by omega:(i:Int)<(xs.length:Int)),ahY,de (ahK a)];simp only[ahI];have b:app 1 l xs[i]=some (l++xs[i]):=by
   unfold app cH;rw[ah2 ⟨by omega,by omega⟩]
  rw[b];simp only[ahI];rw[dD (by omega),g n (i+1) _ (by omega) (by omega) (by omega) (by rw[ahN];omega),aii a,aif,aia]
def uz(N:Nat)(xs:List Bs)(c:xs.length<N)(e:N<4611686018427387904)(d:xs.flatten.length<=1099511627776):aO N xs=some xs.flatten:=by
 unfold aO syv;have a:=afA N xs (by omega) xs.length N 0 0 rfl (by omega) c (by simpa using d);rw[aiz,aiA]at a;rw[show aB N N (xs,0,xs,(xs.length:Int),0)=_ from a];simp only[ahI];have f:jP ((xs.flatten.length:Nat):Int)=some []:=by
  unfold jP cH;rw[ahO (by omega:(0:Int)<=((xs.flatten.length:Nat):Int)),ahO (by omega:((xs.flatten.length:Nat):Int)<=((1099511627776:Nat):Int))];rfl
 rw[f];simp only[ahI];have b:=afB N xs (by omega) xs.length N 0 [] rfl (by omega) c (by simpa using d);rw[aiz,aiw]at b;rw[show aC N N (xs,(xs.length:Int),0,[])=_ from b];rfl
def tlv(c:Nat)(k:Bool)(num:Nat)(body:List UInt8):List UInt8:=idB c k num::(aV body.length++body)
def nn(c:Nat)(k:Bool)(num:Nat)(body:List UInt8):(tlv c k num body).length=1+(aV body.length).length+body.length:=by
 unfold tlv;simp;omega
def UW(N:Nat)(b:20<=N)(a:N<4611686018427387904){c num:Nat}(k:Bool)(e:c<4)(f:num<31)(body:List UInt8)(d:body.length<=2147483647):eW N (c:Int) k (num:Int) body=some (tlv c k num body,0):=by
 have g:=pg body.length (by omega);unfold eW syv;rw[N8 k e f];simp only[ahI];rw[show((0:Int) !=0)=false from rfl,UT N b body.length d];simp only[ahQ,ahI];rw[show((0:Int) !=0)=false from rfl,Th];simp only[ahQ,ahI];rw[uz N _ (by simp;omega) a (by simp;omega)];simp[tlv]
def QR(N:Nat)(b:20<=N)(a:N<4611686018427387904){c num:Nat}(k:Bool)(e:c<4)(f:num<31)(xs:List Bs)(g:xs.length<N)(d:xs.flatten.length<=2147483647):aD N (c:Int) k (num:Int) xs=some (tlv c k num xs.flatten,0):=by
 unfold aD syv;rw[uz N xs g a (by omega)];simp only[ahI];rw[UW N b a k e f _ d];rfl
def QS(N:Nat)(b:20<=N)(a:N<4611686018427387904)(xs:List Bs)(e:xs.length<N)(d:xs.flatten.length<=2147483647):aH N xs=some (tlv 0 true 16 xs.flatten,0):=by
 unfold aH syv;rw[show aD N 0 true 16 xs=_ from QR N b a (c:=0) (num:=16) true (by omega) (by omega) xs e d];rfl
end Go.Fw
def aip:=@List.drop_of_length_le
def alw:=@List.take_append
namespace Go.Fw
open Go
def Nc{α:Type}(p s q:List α):slc (p++s++q) (p.length:Int) ((p.length+s.length:Nat):Int)=some s:=by
 unfold slc;rw[ah2 ⟨by omega,by omega,by simp only[ahN];omega⟩,aiP,aiP,aia,alw,aih (by omega),ajp,aip (ahS _)];simp
abbrev cM:=Int×Int×Bool×Int×Int×Int
def lq(c:Nat)(k:Bool)(num:Nat)(body:List UInt8)(off:Nat):cM:=((c:Int),(num:Int),k,(off:Int),((off+1+(aV body.length).length:Nat):Int),((off+(tlv c k num body).length:Nat):Int))
def EJ(N:Nat)(g:20<=N){c num:Nat}(k:Bool)(i:c<4)(n:num<31)(p body s q:List UInt8)(j:(p++(tlv c k num body++s)++q).length<4611686018427387904)(h:body.length<=2147483647):
 bR N (p++(tlv c k num body++s)++q) (p.length:Int) ((p.length+(tlv c k num body++s).length:Nat):Int)=some (lq c k num body p.length,0,0):=by
 have l:=pg body.length (by omega);have m:=nn c k num body;simp only[ahN]at j;unfold bR syv;rw[ahO (by omega:((p.length+(tlv c k num body++s).length:Nat):Int)<=((p.length+(tlv c k num body++s).length:Nat):Int)),ahO (by simp only[ahN];omega:((p.length+(tlv c k num body++s).length:Nat):Int)<=(((p++(tlv c k num body++s)++q).length:Nat):Int))];simp only[ajn,ahY,Nc,ahI];have b:=UV N g k i n h (body++s);rw[show idB c k num::(aV body.length++(body++s))=tlv c k num body++s from by simp[tlv]]at b;rw[b];simp only[ahI];rw[show((0:Int) !=0)=false from rfl];simp only[ahQ];have d:aU .i64 (aU .i64 ((p.length+(tlv c k num body++s).length:Nat):Int) (p.length:Int)) ((1+(aV body.length).length:Nat):Int)=((body.length+s.length:Nat):Int):=by
  rw[qr (a:=((p.length+(tlv c k num body++s).length:Nat):Int)) (by simp only[ahN];omega),qr (by simp only[ahN];omega)];simp only[ahN];omega
 rw[d,ahL (by omega:¬((body.length+s.length:Nat):Int)<(body.length:Int))];have e:aw .i64 (p.length:Int) ((1+(aV body.length).length:Nat):Int)=((p.length+1+(aV body.length).length:Nat):Int):=by
  rw[fX (by omega)];omega
 have f:aw .i64 ((p.length+1+(aV body.length).length:Nat):Int) (body.length:Int)=((p.length+(tlv c k num body).length:Nat):Int):=by
  rw[fX (by omega)];omega
 rw[e,f];rfl
def QT(N:Nat)(a:20<=N){c num:Nat}(k:Bool)(d:c<4)(g:num<31)(body:List UInt8)(b:body.length<=2147483647):bF N (tlv c k num body)=some (lq c k num body 0,0,0):=by
 have e:=pg body.length (by omega);have f:=nn c k num body;have h:=EJ N a k d g [] body [] [] (by simp only[ahN,ah9];omega) b;simp only[aiw,ah6,ah9,aiA]at h;unfold bF syv;rw[show bR N (tlv c k num body) 0 (((tlv c k num body).length:Nat):Int)=_ from h];simp only[ahI];rw[show((0:Int)==0)=true from rfl,ahL (by show ¬((0+(tlv c k num body).length:Nat):Int)<_;omega)];rfl
def EM(N:Nat)(B:20<=N)(a:List UInt8)(i j:Nat)(D:i<=j)(I:j<=a.length)(H:a.length<4611686018427387904)(v:cM)(o:Int)(h:bR N a (i:Int) (j:Int)=some (v,0,o)):
 ∃(c num:Nat)(k:Bool)(body q:List UInt8),c<4/\num<31/\body.length<=2147483647/\a.drop i=tlv c k num body++q/\v=lq c k num body i/\i+(tlv c k num body).length<=j:=by
 unfold bR syv at h;rw[ahO (by omega:(j:Int)<=(j:Int)),ahO (by omega:(j:Int)<=((a.length:Nat):Int))]at h;have F:slc a (i:Int) (j:Int)=some ((a.take j).drop i):=by
  unfold slc;rw[ah2 ⟨by omega,by omega,by omega⟩];simp
 simp only[ajn,ahY,F,ahI]at h;cases l:aX N ((a.take j).drop i) with
 |none=>rw[l]at h;cases h
 |some x=>
  obtain⟨⟨c1,u,t,L,M⟩,e,K⟩:=x;rw[l]at h;simp only[ahI]at h;by_cases p:e=0
  ·subst p;obtain⟨c,num,n,b,C,G,J,m,rfl,rfl,rfl,rfl⟩:=EI N B _ (by simp only[aiF,aig];omega) _ _ _ _ _ _ l;rw[show((0:Int) !=0)=false from rfl]at h;simp only[ahQ]at h;have E:=pg n (by omega);have r:j-i=1+(aV n).length+b.length:=by
    have:=ain List.length m;simp only[aiF,aig,ahP,ahN]at this;omega
   have w:aU .i64 (aU .i64 (j:Int) (i:Int)) ((1+(aV n).length:Nat):Int)=(b.length:Int):=by
    rw[qr (a:=(j:Int)) (by omega),qr (by omega)];omega
   rw[w]at h;by_cases s:((b.length:Nat):Int)<(n:Int)
   ·rw[ahO s]at h;simp only[ahY,ahM,ah7]at h;omega
   ·rw[ahL s]at h;have y:aw .i64 (i:Int) ((1+(aV n).length:Nat):Int)=((i+1+(aV n).length:Nat):Int):=by
     rw[fX (by omega)];omega
    have z:aw .i64 ((i+1+(aV n).length:Nat):Int) (n:Int)=((i+1+(aV n).length+n:Nat):Int):=by
     rw[fX (by omega)];omega
    rw[y,z]at h;simp only[ahQ,ahM,ah7]at h;have d:(b.take n).length=n:=by rw[aig];omega
    have f:b=b.take n++b.drop n:=(aiV n b).symm;have g:=nn c t num (b.take n);rw[d]at g;refine⟨c,num,t,b.take n,b.drop n++a.drop j,C,G,by omega,?_,?_,by omega⟩
    ·have:a.drop i=(a.take j).drop i++a.drop j:=by
      have A:a=a.take j++a.drop j:=(aiV j a).symm
      conv=>lhs;rw[A]
      rw[ajp,aig];congr 1;rw[show i-min j a.length=0 from by omega,aiz]
     rw[this,m];unfold tlv;rw[d];simp only[aiB,aia];rw[<-aia (b.take n),<-f]
    ·unfold lq;rw[d];refine h.1.symm.trans ?_;congr 5;rw[g];omega
  ·rw[show(e !=0)=true from by simpa using p]at h;simp only[ahY,ahM,ah7]at h;omega
end Go.Fw
namespace Go.Fw
open Go
abbrev TLV:=Nat×Bool×Nat×List UInt8
def ai(t:TLV):List UInt8:=tlv t.1 t.2.1 t.2.2.1 t.2.2.2
def okT(t:TLV):Prop:=t.1<4/\t.2.2.1<31/\t.2.2.2.length<=2147483647
def jq:Nat->List TLV->List cM
 |_,[]=>[]
 |off,t::r=>lq t.1 t.2.1 t.2.2.1 t.2.2.2 off::jq (off+(ai t).length) r
def au(a:List TLV):List UInt8:=(a.map ai).flatten
def iH(t:TLV)(r:List TLV):au (t::r)=ai t++au r:=by simp[au]
def EN(t:TLV):2<=(ai t).length:=by
 unfold ai;rw[nn];have:1<=(aV t.2.2.2.length).length:=by
  unfold aV;have:=Il t.2.2.2.length;split
  ·omega
  ·simp only[ahP];omega
 omega
def jb:∀(a:List TLV),2*a.length<=(au a).length
 |[]=>by simp[au]
 |t::r=>by
  have b:=EN t;have c:=jb r;rw[iH,ahN,ahP];omega
def Dk(N n:Nat)(a:Bs)(i2 i3:Int)(b:List cM):bX N (n+1) (a,i2,i3,0,0,b)=bif decide (i3<i2) then((bR N a i3 i2).bind λ(c,d)=>bif (d.1 !=0) then some (Sum.inl d) else((app 48 b [c]).bind λe=>bX N n (a,i2,c.2.2.2.2.2,0,0,e))) else some (Sum.inr (0,0,b)):=rfl
def Tl(l:List cM)(v:cM)(h:l.length<10000000):app 48 l [v]=some (l++[v]):=by
 unfold app cH;rw[ah2 ⟨by simp only[ahP,ah9];omega,by simp only[ahP,ah9];omega⟩]
def Tm(N:Nat)(e:20<=N):∀(a:List TLV)(p q:List UInt8)(n:Nat)(acc:List cM),(∀t∈a,okT t)->a.length<n->(p++au a++q).length<4611686018427387904->acc.length+a.length<10000000->
 bX N n (p++au a++q,((p.length+(au a).length:Nat):Int),(p.length:Int),0,0,acc)=some (.inr (0,0,acc++jq p.length a))
 |[],p,q,n,acc,_,c,_,_=>by
  obtain⟨n,rfl⟩:∃m,n=m+1:=⟨n-1,by simp at c;omega⟩;rw[Dk,ahL (by simp[au])];simp[jq]
 |t::r,p,q,n,acc,g,c,d,f=>by
  obtain⟨n,rfl⟩:∃m,n=m+1:=⟨n-1,by simp at c;omega⟩;obtain⟨i,j,k⟩:=g t (aio ..);have o:=EN t;rw[Dk,ahO (by rw[iH,ahN];omega:((p.length:Nat):Int)<((p.length+(au (t::r)).length:Nat):Int)),ahY];have b:=EJ N e t.2.1 i j p t.2.2.2 (au r) q (by rw[show tlv t.1 t.2.1 t.2.2.1 t.2.2.2++au r=au (t::r) from(iH t r).symm];exact d) k;rw[show tlv t.1 t.2.1 t.2.2.1 t.2.2.2++au r=au (t::r) from(iH t r).symm]at b;rw[b];simp only[ahI];rw[show((0:Int) !=0)=false from rfl,ahQ,Tl _ _ (by simp at f;omega)];simp only[ahI];have h:=Tm N e r (p++ai t) q n (acc++[lq t.1 t.2.1 t.2.2.1 t.2.2.2 p.length]) (λx l=>g x (ah4 _ l)) (by simp at c;omega) (by rw[iH]at d;simp at d⊢;omega) (by simp at f⊢;omega);rw[show p++ai t++au r++q=p++au (t::r)++q from by rw[iH];simp,show(((p++ai t).length+(au r).length:Nat):Int)=((p.length+(au (t::r)).length:Nat):Int) from by rw[iH];simp;omega,ahN]at h;rw[show(lq t.1 t.2.1 t.2.2.1 t.2.2.2 p.length).2.2.2.2.2=((p.length+(ai t).length:Nat):Int) from rfl,h,jq];simp
def Zl(N:Nat)(b:20<=N)(a:List TLV)(p q:List UInt8)(f:∀t∈a,okT t)(e:a.length<N)(c:(p++au a++q).length<4611686018427387904)(d:a.length<10000000):
 br N (p++au a++q) (p.length:Int) ((p.length+(au a).length:Nat):Int)=some (jq p.length a,0,0):=by
 unfold br syv;rw[ahL (by omega:¬((p.length:Nat):Int)<0),ahL (by omega:¬((p.length:Nat):Int)>((p.length+(au a).length:Nat):Int)),ahL (by simp only[ahN];omega:¬((p.length+(au a).length:Nat):Int)>(((p++au a++q).length:Nat):Int))];simp only[ahQ];rw[Tm N b a p q N [] f e c (by simpa using d)];simp
def aed(N:Nat)(C:20<=N)(a:List UInt8)(j:Nat)(J:j<=a.length)(D:a.length<4611686018427387904):∀(n i:Nat)(acc:List cM)(y:(Int×Int)⊕(Int×Int×List cM)),i<=j->bX N n (a,(j:Int),(i:Int),0,0,acc)=some y->
 (∃e o,y=.inl (e,o)/\e≠0)∨∃l,(∀t∈l,okT t)/\(a.take j).drop i=au l/\y=.inr (0,0,acc++jq i l):=by
 intro n;induction n with
 |zero=>intro i acc y _ h;cases h
 |succ n L=>
  intro i acc y H h;rw[Dk]at h;by_cases I:i<j
  ·rw[ahO (by omega:(i:Int)<(j:Int)),ahY]at h;cases A:bR N a (i:Int) (j:Int) with
   |none=>rw[A]at h;cases h
   |some x=>
    obtain⟨v,e,o⟩:=x;rw[A]at h;simp only[ahI]at h;by_cases s:e=0
    ·subst s;obtain⟨c,d,k,b,q,F,K,E,B,rfl,w⟩:=EM N C a i j H J D v o A;rw[show((0:Int) !=0)=false from rfl,ahQ]at h;cases f:app 48 acc [lq c k d b i] with
     |none=>rw[f]at h;cases h
     |some M=>
      rw[f]at h;simp only[ahI]at h;have u:M=acc++[lq c k d b i]:=by
       unfold app at f;split at f
       ·cases f;rfl
       ·cases f
      subst u;have g:(a.take j).drop i=tlv c k d b++(a.take j).drop (i+(tlv c k d b).length):=by
       have m:(a.take j).drop i=(a.drop i).take (j-i):=by rw[akW]
       have p:(a.take j).drop (i+(tlv c k d b).length)=(a.drop (i+(tlv c k d b).length)).take (j-(i+(tlv c k d b).length)):=by rw[akW]
       have r:a.drop (i+(tlv c k d b).length)=q:=by
        rw[<-ajj,B,ajp,aip (ahS _)];simp
       rw[m,p,r,B,alw,aih (by omega)];congr 2;omega
      rcases L (i+(tlv c k d b).length) _ y w h with G|⟨l,m,p,r⟩
      ·exact .inl G
      ·refine .inr ⟨(c,k,d,b)::l,?_,?_,?_⟩
       ·intro t z;rcases aib.1 z with rfl|z
        ·exact⟨F,K,E⟩
        ·exact m t z
       ·rw[g,p,iH];rfl
       ·rw[r,jq];simp[ai]
    ·rw[show(e !=0)=true from by simpa using s,cond_true]at h;cases h;exact .inl ⟨e,o,rfl,s⟩
  ·rw[ahL (by omega:¬(i:Int)<(j:Int))]at h;cases h;refine .inr ⟨[],by simp,?_,by simp[jq]⟩;have:i=j:=by omega
   subst this;rw[aip (by rw[aig];omega)];rfl
def Kb(N:Nat)(k:20<=N)(a:List UInt8)(i j:Nat)(c:i<=j)(n:j<=a.length)(m:a.length<4611686018427387904)(l:List cM)(o:Int)(h:br N a (i:Int) (j:Int)=some (l,0,o)):
 ∃b,(∀t∈b,okT t)/\(a.take j).drop i=au b/\l=jq i b:=by
 unfold br syv at h;rw[ahL (by omega:¬((i:Nat):Int)<0),ahL (by omega:¬((i:Nat):Int)>(j:Int)),ahL (by omega:¬((j:Nat):Int)>((a.length:Nat):Int))]at h;simp only[ahQ]at h;cases d:bX N N (a,(j:Int),(i:Int),0,0,[]) with
 |none=>rw[d]at h;cases h
 |some y=>
  rw[d]at h;rcases aed N k a j n m N i [] y c d with⟨e,q,rfl,p⟩|⟨b,f,g,rfl⟩
  ·simp only[ahI,ahM,ah7]at h;omega
  ·simp only[ahI,ahM,ah7]at h;exact⟨b,f,g,by rw[<-h.1];simp⟩
end Go.Fw
def aky:=@Bool.not_false
namespace Go.Fw
open Go
def Wx(v:cM)(c num:Int)(k:Bool):bz v c k num=some (bif (v.1==c) then(bif (v.2.2.1==k) then(v.2.1==num) else false) else false):=by
 obtain⟨a,b,d,e,f,g⟩:=v;unfold bz syv;simp only;cases (a==c)<;>cases (d==k)<;>rfl
def LH(c num b a:Nat)(k d:Bool)(body:List UInt8)(off:Nat):bz (lq c k num body off) (b:Int) d (a:Int)=some (decide (c=b/\k=d/\num=a)):=by
 rw[Wx];unfold lq;simp only;congr 1;by_cases f:c=b
 ·subst f;rw[alv,ahY];by_cases e:k=d
  ·subst e;rw[alv,ahY];by_cases g:num=a
   ·subst g;simp
   ·rw[show((num:Int)==(a:Int))=false from aid.2 (by omega)];simp[g]
  ·rw[show(k==d)=false from aid.2 e];simp[e]
 ·rw[show((c:Int)==(b:Int))=false from aid.2 (by omega)];simp[f]
def Nd(N:Nat)(j:20<=N)(a:List UInt8)(l:a.length<4611686018427387904)(v:cM)(o:Int)(h:bF N a=some (v,0,o)):
 ∃(c num:Nat)(k:Bool)(body:List UInt8),c<4/\num<31/\body.length<=2147483647/\a=tlv c k num body/\v=lq c k num body 0:=by
 unfold bF syv at h;cases f:bR N a 0 ((a.length:Nat):Int) with
 |none=>rw[f]at h;cases h
 |some x=>
  obtain⟨u,e,t⟩:=x;rw[f]at h;simp only[ahI]at h;by_cases g:e=0
  ·subst g;obtain⟨c,num,k,body,q,n,s,m,b,rfl,p⟩:=EM N j a 0 a.length (aiJ _) (ahS _) l u t f;rw[show((0:Int)==0)=true from rfl,ahY]at h;rw[aiz]at b;have i:a.length=(tlv c k num body).length+q.length:=by rw[b,ahN]
   by_cases d:(lq c k num body 0).2.2.2.2.2<((a.length:Nat):Int)
   ·rw[ahO d]at h;simp only[ahY,ahM,ah7]at h;omega
   ·rw[ahL d]at h;have r:¬(((0+(tlv c k num body).length:Nat):Int)<((a.length:Nat):Int)):=d;have:q=[]:=ait (by omega);subst this;simp only[ahQ,ahM,ah7]at h;exact⟨c,num,k,body,n,s,m,by rw[b,ah6],h.1.symm⟩
  ·rw[show(e==0)=false from by simpa using g]at h;simp only[ahQ,ahM,ah7]at h;omega
def Wy(N:Nat)(b:20<=N){c num:Nat}(h:c<4)(m:num<31)(a:List TLV)(l:∀t∈a,okT t)(k:a.length<N)(j:a.length<10000000)(g:(au a).length<=2147483647):
 aF N (tlv c true num (au a)) (c:Int) (num:Int)=some (jq (1+(aV (au a).length).length) a,0,0):=by
 have i:=pg (au a).length (by omega);unfold aF syv;rw[QT N b true h m (au a) g];simp only[ahI];rw[show((0:Int) !=0)=false from rfl,LH];simp only[ahQ,ahI,and_self,decide_true,ai2];have d:=Zl N b a (idB c true num::aV (au a).length) [] l k (by simp;omega) j;rw[ah6,show(idB c true num::aV (au a).length)++au a=tlv c true num (au a) from by simp[tlv],show((idB c true num::aV (au a).length).length)=1+(aV (au a).length).length from by simp;omega]at d;have e:(lq c true num (au a) 0).2.2.2.2.1=((1+(aV (au a).length).length:Nat):Int):=by
  show((0+1+(aV (au a).length).length:Nat):Int)=_;omega
 have f:(lq c true num (au a) 0).2.2.2.2.2=((1+(aV (au a).length).length+(au a).length:Nat):Int):=by
  show((0+(tlv c true num (au a)).length:Nat):Int)=_;rw[nn];omega
 rw[e,f,d];rfl
def Wz(N:Nat)(p:20<=N){c num:Nat}(a:List UInt8)(q:a.length<4611686018427387904)(l:List cM)(o:Int)(h:aF N a (c:Int) (num:Int)=some (l,0,o)):
 ∃f,(∀t∈f,okT t)/\(au f).length<=2147483647/\c<4/\num<31/\a=tlv c true num (au f)/\l=jq (1+(aV (au f).length).length) f:=by
 unfold aF syv at h;cases m:bF N a with
 |none=>rw[m]at h;cases h
 |some x=>
  obtain⟨J,e,H⟩:=x;rw[m]at h;simp only[ahI]at h;by_cases r:e=0
  ·subst r;obtain⟨c1,d,k,b,D,F,C,i,rfl⟩:=Nd N p a q J H m;have E:=pg b.length (by omega);rw[show((0:Int) !=0)=false from rfl,ahQ,LH]at h;simp only[ahI]at h;by_cases s:c1=c/\k=true/\d=num
   ·obtain⟨rfl,rfl,rfl⟩:=s;simp only[and_self,decide_true,ai2,ahQ]at h;have j:=nn c1 true d b;have B:a.length=1+(aV b.length).length+b.length:=by rw[i,j]
    have u:(lq c1 true d b 0).2.2.2.2.1=((1+(aV b.length).length:Nat):Int):=by
     show((0+1+(aV b.length).length:Nat):Int)=_;omega
    have v:(lq c1 true d b 0).2.2.2.2.2=((a.length:Nat):Int):=by
     show((0+(tlv c1 true d b).length:Nat):Int)=_;rw[<-i];omega
    rw[u,v]at h;cases n:br N a ((1+(aV b.length).length:Nat):Int) ((a.length:Nat):Int) with
    |none=>rw[n]at h;cases h
    |some y=>
     obtain⟨G,K,I⟩:=y;rw[n]at h;simp only[ahI,ahM,ah7]at h;obtain⟨rfl,rfl,rfl⟩:=h;obtain⟨f,w,z,A⟩:=Kb N p a _ a.length (by omega) (ahS _) q G I n;have g:b=au f:=by
      rw[<-z,ajb,i];show b=(idB c1 true d::(aV b.length++b)).drop (1+(aV b.length).length);rw[akV,akc,ajp,aip (ahS _)];simp
     subst g;exact⟨f,w,C,D,F,i,A⟩
   ·rw[ahL s]at h;simp only[aky,ahY,ahM,ah7]at h;omega
  ·rw[show(e !=0)=true from by simpa using r]at h;simp only[ahY,ahM,ah7]at h;omega
end Go.Fw
namespace Go.Fw
open Go
def xe{x:List UInt8}(h:x.length<=1099511627776):fM x=some x:=by
 unfold fM app cH;simp only[ah9,aiA,alF,aiw];rw[ah2 ⟨by omega,by omega⟩]
abbrev lu:=Bs×Int
def wa(x:lu)(e:x.1.length<4611686018427387904):∃c,aZ x=some c/\(c=true->0<=x.2/\x.2<=7):=by
 unfold aZ syv;by_cases d:x.1.length=0
 ·rw[show(((x.1.length:Nat):Int)==0)=true from by rw[d];rfl];exact⟨_,rfl,λh=>by have:=ail (by simpa using h:decide (x.2=0)=true);omega⟩
 ·rw[show(((x.1.length:Nat):Int)==0)=false from aid.2 (by omega)];simp only[ahQ];by_cases a:x.2>=0
  ·by_cases b:x.2<=7
   ·rw[ahO a,ahO b,US (by omega) (by omega),de (ahK (by omega:x.1.length-1<x.1.length))];exact⟨_,rfl,λ_=>⟨by omega,b⟩⟩
   ·rw[ahO a,ahL b];exact⟨false,rfl,λh=>by cases h⟩
  ·rw[ahL a];exact⟨false,rfl,λh=>by cases h⟩
def iC(x:lu):List UInt8:=UInt8.ofNat x.2.toNat::x.1
def Zm(N:Nat)(i:20<=N)(a:N<4611686018427387904)(x:lu)(j:x.1.length<=1000000000)(e:aZ x=some true):gB N x=some (iC x,0):=by
 obtain⟨c,b,f⟩:=wa x (by omega);rw[e]at b;cases b;obtain⟨g,h⟩:=f rfl;unfold gB syv;rw[e];obtain⟨n,d⟩:∃n:Nat,x.2=(n:Int):=⟨x.2.toNat,by omega⟩;simp only[ahI,ai2,ahQ];rw[d,nR];simp only[ahI];rw[uz N _ (by simp;omega) a (by simp;omega)];unfold iC;rw[d,aiP,show n % 256=n from by omega];simp
def EO(x:lu)(h:x.1.length<=1000000000)(d:aZ x=some true):bt (iC x)=some (x,0):=by
 obtain⟨c,a,i⟩:=wa x (by omega);rw[d]at a;cases a;obtain⟨f,g⟩:=i rfl;obtain⟨b,n⟩:=x;simp only at f g h;unfold bt iC syv;rw[show(((((UInt8.ofNat n.toNat::b).length):Nat):Int)==0)=false from aid.2 (by simp only[ahP];omega),qL];simp only[ahQ,ahI];rw[xe (by omega),show ix (UInt8.ofNat n.toNat::b) 0=some (UInt8.ofNat n.toNat) from rfl];simp only[ahI];have e:IntKind.wrap .i64 ((UInt8.ofNat n.toNat).toNat:Int)=n:=by
  rw[Au];simp;omega
 rw[e,d];rfl
def Zn(c:List UInt8)(d:c.length<=1000000000):∃x e,bt c=some (x,e)/\(e=0->c=iC x/\aZ x=some true):=by
 unfold bt syv;cases c with
 |nil=>exact⟨([],0),6,rfl,λh=>by cases h⟩
 |cons b r=>
  rw[show((((b::r).length:Nat):Int)==0)=false from aid.2 (by simp only[ahP];omega),qL];simp only[ahP]at d;simp only[ahQ,ahI];rw[xe (by omega),show ix (b::r) 0=some b from rfl];simp only[ahI,Au];obtain⟨v,a,f⟩:=wa (r,(b.toNat:Int)) (by simp only;omega);rw[a];cases v with
  |false=>exact⟨([],0),6,rfl,λh=>by cases h⟩
  |true=>
   refine⟨(r,(b.toNat:Int)),0,rfl,λ_=>⟨?_,a⟩⟩;unfold iC;simp
end Go.Fw
def alx:=@decide_eq_decide
namespace Go.Fw
open Go
set_option maxRecDepth 100000 in
def Tn:∀b:UInt8,(bits .and .u8 (b.toNat:Int) 128==0)=decide (b.toNat<128):=by
 intro b;have h:∀n:Fin 256,(bits .and .u8 (n.val:Int) 128==0)=decide (n.val<128):=by decide
 exact h ⟨b.toNat,b.toNat_lt⟩
def od:List UInt8->Bool
 |[]=>false
 |[_]=>true
 |a::b::_=> !(a.toNat==0&&decide (b.toNat<128))&& !(a.toNat==255&& !decide (b.toNat<128))
def EP(n k:Nat):((n:Int)==(k:Int))=(n==k):=by
 show decide ((n:Int)=(k:Int))=decide (n=k);exact alx.2 (by omega)
def jV(v:List UInt8):bS v=some (od v):=by
 unfold bS syv
 match v with
 |[]=>rfl
 |[a]=>rfl
 |a::b::r=>
  have f:decide ((((a::b::r).length:Nat):Int)<2)=false:=by
   simp only[ahP,akU];omega
  rw[f];have i:ix (a::b::r) 1=some b:=rfl;have h:ix (a::b::r) 0=some a:=rfl;have e:((a.toNat:Int)==0)=(a.toNat==0):=EP _ 0;have c:((a.toNat:Int)==255)=(a.toNat==255):=EP _ 255;have d:=Tn b;have g:(bits .and .u8 (b.toNat:Int) 128 !=0)= !decide (b.toNat<128):=by rw[<-d];rfl
  simp only[i,h,ahI,ahQ,e,c,d,g,od];cases j:(a.toNat==0)<;>cases k:(a.toNat==255)<;>cases l:decide (b.toNat<128)<;>rfl
end Go.Fw
def ajN:=@Go.IntKind.wrap_u64
namespace Go.Fw
open Go
def Zq{α:Type}(k:Nat)(a:k<=16)(l r:List α)(h:l.length+r.length<=60000000000):app k l r=some (l++r):=by
 unfold app cH;have:(l.length+r.length)*k<=(l.length+r.length)*16:=Nat.mul_le_mul_left _ a;rw[ah2 ⟨by omega,by omega⟩]
def WA(l:List Int):∃c,dO l=some c:=by
 unfold dO syv
 match l with
 |[]=>exact⟨_,rfl⟩
 |[_]=>exact⟨_,rfl⟩
 |a::b::r=>
  rw[ahL (by simp only[ahP];omega),show ix (a::b::r) 0=some a from rfl,show ix (a::b::r) 1=some b from rfl];simp only[ahQ,ahI];cases decide (a>2)<;>cases decide (a<2)<;>exact⟨_,rfl⟩
def Hp(n:Nat)(h:n<18446744073709551616):(Lib.decDigits n).length<=20:=by
 rw[ald];rcases akO n with rfl|a
 ·unfold Lib.nDigits;simp
 ·have:=Lib.numDigits_eq n a h;split at this<;>omega
def QU(n:Nat)(h:n<18446744073709551616):aM (n:Int)=some (Lib.decDigits n):=by
 have a:Nat.blt n 18446744073709551616=true:=aiH h;have b:jO (Int.ofNat n)=some (Lib.decDigits n):=by
  show(bif Nat.blt n 18446744073709551616 then some (Lib.decDigits n) else none)=_;rw[a];rfl
 show(jO (Int.ofNat n)).bind _=_;rw[b];rfl
def WB(N n:Nat)(s:List Int)(i:Nat)(acc:List Bs):eO N (n+1) (s,(s.length:Int),(i:Int),acc)=bif decide ((i:Int)<(s.length:Int)) then(ix s (i:Int)).bind λe=>(aM (IntKind.wrap .u64 e)).bind λt=>(app 16 acc [t]).bind λl=>eO N n (s,(s.length:Int),aw .i64 (i:Int) 1,l) else some acc:=rfl
def oL(x:Int):List UInt8:=Lib.decDigits (IntKind.wrap .u64 x).toNat
def UX(N:Nat)(s:List Int)(h:s.length<=2000000000):∀(k n i:Nat),s.length-i=k->k<n->i<=s.length->
 eO N n (s,(s.length:Int),(i:Int),(s.take i).map oL)=some (s.map oL):=by
 intro k;induction k with
 |zero=>
  intro n i d e c;obtain⟨n,rfl⟩:∃m,n=m+1:=⟨n-1,by omega⟩;rw[WB,ahL (by omega),show i=s.length from by omega,ajb];rfl
 |succ k g=>
  intro n i d e c;obtain⟨n,rfl⟩:∃m,n=m+1:=⟨n-1,by omega⟩;have a:i<s.length:=by omega
  have f:0<=IntKind.wrap .u64 s[i]/\IntKind.wrap .u64 s[i]<18446744073709551616:=by
   rw[ajN];omega
  have b:aM (IntKind.wrap .u64 s[i])=some (oL s[i]):=by
   have:=QU (IntKind.wrap .u64 s[i]).toNat (by omega);rw[ajr f.1]at this;exact this
  rw[WB,ahO (by omega),ahY,de (ahK a),ahI,b,ahI,Zq 16 (by omega) _ _ (by simp;omega),ahI,dD (by omega)];have:=g n (i+1) (by omega) (by omega) (by omega);rw[aiQ,ahK a,aiR]at this;exact this
def WC(x:Int):(oL x).length<=20:=by
 unfold oL;refine Hp _ ?_;rw[ajN];omega
def abT(s:List Int):(Lib.joinTail [46] (s.map oL)).length<=21*s.length:=by
 induction s with
 |nil=>simp[Lib.joinTail]
 |cons x r a=>
  have h:=WC x;unfold Lib.joinTail at a⊢;simp only[ahX,aif,ahN,ahP,ah9]at a⊢;omega
def Zr(N:Nat)(s:List Int)(g:s.length<=2000000000)(d:s.length<N):∃t e,ii N s=some (t,e)/\(dO s=some true->t=Lib.join (s.map oL) [46]/\e=0)/\(dO s=some false->e=8):=by
 unfold ii syv;obtain⟨c,f⟩:=WA s;rw[f,ahI];cases c with
 |false=>exact⟨_,_,rfl,(λh=>by cases h),λ_=>rfl⟩
 |true=>
  have a:=UX N s g s.length N 0 (by omega) d (by omega);rw[alk,ai0]at a;have k:(Lib.join (s.map oL) [46]).length<=21*s.length:=by
   cases s with
   |nil=>simp[Lib.join_nil]
   |cons x r=>
    have i:=WC x;have j:=abT r;rw[ahX,Lib.join_cons,ahN,ahP];omega
  have b:jN (s.map oL) [46]=some (Lib.join (s.map oL) [46]):=by
   unfold jN Dc;rw[show Nat.ble (s.map oL).length 140737488355328=true from aiH (by rw[aiy];omega),show Nat.ble (Lib.join (s.map oL) [46]).length 140737488355328=true from aiH (by omega)];rfl
  refine⟨Lib.join (s.map oL) [46],0,?_,λ_=>⟨rfl,rfl⟩,λh=>by cases h⟩;simp only[ai2,ahQ];rw[show eO N N (s,(s.length:Int),0,[])=_ from a,ahI,b];rfl
end Go.Fw
namespace Go.Fw
open Go
def Zh(N:Nat)(A:20<=N)(a:List UInt8)(B:a.length<4611686018427387904):∃L k e o:Int,bu N a=some (L,k,e,o)/\0<=o/\o<=(a.length:Int):=by
 unfold bu syv;cases a with
 |nil=>exact⟨0,0,1,0,rfl,by omega,by simp⟩
 |cons b r=>
  have t:((((b::r).length:Nat):Int)==0)=false:=aid.2 (by simp only[ahP];omega);have i:ix (b::r) 0=some b:=rfl;have C:=b.toNat_lt;have d:(0:Int)<=((b::r).length:Int):=by omega
  rw[t];simp only[ahQ,i,ahI,Au,bK,syv];by_cases l:(b.toNat:Int)<128
  ·rw[ahO l];exact⟨_,_,_,_,rfl,by omega,d⟩
  ·rw[ahL l];obtain⟨c,w⟩:∃c:Nat,b.toNat=128+c:=⟨b.toNat-128,by omega⟩;have g:aU .i64 (b.toNat:Int) 128=(c:Int):=by
    show IntKind.i64.wrap _=_;rw[w,aij _ (by omega)];omega
   rw[g];simp only[ahQ];by_cases u:c=0
   ·subst u;exact⟨0,0,4,0,rfl,by omega,d⟩
   ·rw[show((c:Int)==0)=false from aid.2 (by omega)];simp only[ahQ];by_cases m:(c:Int)>4
    ·rw[ahO m];exact⟨0,0,4,0,rfl,by omega,d⟩
    ·rw[ahL m];simp only[ahQ];by_cases h:(((b::r).length:Nat):Int)<=(c:Int)
     ·rw[ahO h];exact⟨0,0,1,_,rfl,d,Int.le_refl _⟩
     ·rw[ahL h];simp only[ahQ];simp only[ahP]at h;have q:r=r.take c++r.drop c:=(aiV c r).symm;have j:(r.take c).length=c:=by rw[aig];omega
      have p:=Ho N b (r.take c) (r.drop c) (by omega) (r.take c).length N 0 0 (by omega) (by omega) (by omega) (by simp);rw[aiz,<-q,j]at p;rw[show aW N N (b::r,(c:Int),0,1,0,0)=_ from p];obtain⟨x,s,z⟩:∃x s,r.take c=x::s:=by
       cases y:r.take c with
       |nil=>rw[y]at j;simp at j;omega
       |cons x s=>exact⟨x,s,rfl⟩
      have f:ix (b::r) 1=some x:=by rw[q,z];rfl
      simp only[ahI,f];generalize (r.take c).foldl (λn x=>256*n+x.toNat) 0=v;cases ((x.toNat:Int)==0)
      ·simp only[ahQ];cases decide ((v:Int)<128)
       ·simp only[ahQ];cases decide ((v:Int)>2147483647)
        ·exact⟨_,_,_,_,rfl,by omega,d⟩
        ·exact⟨0,0,4,0,rfl,by omega,d⟩
       ·exact⟨0,0,4,0,rfl,by omega,d⟩
      ·exact⟨0,0,4,0,rfl,by omega,d⟩
def LF(N:Nat)(l:20<=N)(a:List UInt8)(c:a.length<4611686018427387904):∃h e o,aX N a=some (h,e,o)/\(0:Int)<=o/\o<=(a.length:Int):=by
 unfold aX syv;cases a with
 |nil=>exact⟨_,_,_,rfl,by omega,by simp⟩
 |cons b r=>
  have j:((((b::r).length:Nat):Int)==0)=false:=aid.2 (by simp only[ahP];omega);have d:ix (b::r) 0=some b:=rfl;have f:(0:Int)<=((b::r).length:Int):=by omega
  obtain⟨c1,q,g,i,hid,_⟩:=LG b;obtain⟨L,k,e,o,m,n,p⟩:=Zh N l r (by simp at c;omega);rw[j,qL];simp only[ahQ,d,ahI,hid,m];cases (i !=0)
  ·simp only[ahQ];cases (e !=0)
   ·exact⟨_,_,_,rfl,by omega,f⟩
   ·refine⟨_,_,_,rfl,?_,?_⟩
    ·simp only[ahP]at c;rw[fX (by omega)];omega
    ·simp only[ahP]at c⊢;rw[fX (by omega)];omega
  ·exact⟨_,_,_,rfl,by omega,f⟩
def QN(N:Nat)(d:20<=N)(a:List UInt8)(i j:Nat)(g:i<=j)(n:j<=a.length)(m:a.length<2305843009213693952):∃v e o,bR N a (i:Int) (j:Int)=some (v,e,o)/\(0:Int)<=o/\o<=(j:Int):=by
 unfold bR syv;rw[ahO (by omega:(j:Int)<=(j:Int)),ahO (by omega:(j:Int)<=((a.length:Nat):Int))];have k:slc a (i:Int) (j:Int)=some ((a.take j).drop i):=by
  unfold slc;rw[ah2 ⟨by omega,by omega,by omega⟩];simp
 have b:((a.take j).drop i).length=j-i:=by simp only[aiF,aig];omega
 simp only[ajn,ahY,k,ahI];obtain⟨h,e,o,f,l,c⟩:=LF N d ((a.take j).drop i) (by omega);rw[f];simp only[ahI];rw[b]at c;cases (e !=0)
 ·simp only[ahQ];cases decide (aU .i64 (aU .i64 (j:Int) (i:Int)) h.2.2.2.2<h.2.2.2.1)
  ·exact⟨_,_,_,rfl,by omega,by omega⟩
  ·exact⟨_,_,_,rfl,by omega,by omega⟩
 ·refine⟨_,_,_,rfl,?_,?_⟩
  ·rw[fX (by omega)];omega
  ·rw[fX (by omega)];omega
def ad9(N:Nat)(p:20<=N)(a:List UInt8)(j:Nat)(t:j<=a.length)(G:a.length<10000000):∀(k n i:Nat)(acc:List cM),j-i<=k->k<n->i<=j->2*acc.length<=i->
 ∃y,bX N n (a,(j:Int),(i:Int),0,0,acc)=some y/\∀e o,y=.inl (e,o)->(0:Int)<=o/\o<=(a.length:Int):=by
 intro k;induction k with
 |zero=>
  intro n i acc z A f _;obtain⟨n,rfl⟩:∃m,n=m+1:=⟨n-1,by omega⟩;rw[Dk,ahL (by omega:¬(i:Int)<(j:Int))];exact⟨_,rfl,λe o h=>by cases h⟩
 |succ k D=>
  intro n i acc z A f r;obtain⟨n,rfl⟩:∃m,n=m+1:=⟨n-1,by omega⟩;rw[Dk];by_cases x:i<j
  ·rw[ahO (by omega:(i:Int)<(j:Int)),ahY];obtain⟨v,e,o,u,w,F⟩:=QN N p a i j f t (by omega);rw[u];simp only[ahI];by_cases s:e=0
   ·subst s;obtain⟨c,d,l,b,q,I,K,H,J,rfl,g⟩:=EM N p a i j f t (by omega) v o u;have B:=EN (c,l,d,b);have C:2<=(tlv c l d b).length:=B;rw[show((0:Int) !=0)=false from rfl,ahQ,Tl _ _ (by omega)];simp only[ahI];exact D n (i+(tlv c l d b).length) _ (by omega) (by omega) g (by simp;omega)
   ·rw[show(e !=0)=true from by simpa using s,cond_true];exact⟨_,rfl,λE L h=>by cases h;exact⟨w,by omega⟩⟩
  ·rw[ahL (by omega:¬(i:Int)<(j:Int))];exact⟨_,rfl,λe o h=>by cases h⟩
def J9(N:Nat)(a:List UInt8)(g:a.length+20<=N)(i j:Nat)(b:i<=j)(d:j<=a.length)(c:a.length<10000000):∃l e o,br N a (i:Int) (j:Int)=some (l,e,o)/\(0:Int)<=o/\o<=(a.length:Int):=by
 unfold br syv;rw[ahL (by omega:¬((i:Nat):Int)<0),ahL (by omega:¬((i:Nat):Int)>(j:Int)),ahL (by omega:¬((j:Nat):Int)>((a.length:Nat):Int))];simp only[ahQ];obtain⟨y,f,h⟩:=ad9 N (by omega) a j d c j N i [] (by omega) (by omega) b (by simp);rw[f];cases y with
 |inl p=>
  obtain⟨e,o⟩:=p;exact⟨[],e,o,rfl,h e o rfl⟩
 |inr p=>
  obtain⟨_,_,l⟩:=p;exact⟨l,0,0,rfl,by omega,by omega⟩
def Tk(N:Nat)(f:20<=N)(a:List UInt8)(m:a.length<2305843009213693952):∃v e o,bF N a=some (v,e,o)/\(e=0∨(0:Int)<=o/\o<=(a.length:Int)):=by
 unfold bF syv;obtain⟨v,e,o,i,j,l⟩:=QN N f a 0 a.length (aiJ _) (ahS _) m;rw[show bR N a 0 ((a.length:Nat):Int)=_ from i];simp only[ahI];by_cases g:e=0
 ·subst g;obtain⟨c,d,k,b,q,r,t,p,s,rfl,n⟩:=EM N f a 0 a.length (aiJ _) (ahS _) (by omega) v o i;rw[show((0:Int)==0)=true from rfl,ahY];by_cases h:(lq c k d b 0).2.2.2.2.2<((a.length:Nat):Int)
  ·rw[ahO h];refine⟨_,_,_,rfl,.inr ⟨?_,by omega⟩⟩;show(0:Int)<=((0+(tlv c k d b).length:Nat):Int);omega
  ·rw[ahL h];exact⟨_,_,_,rfl,.inl rfl⟩
 ·rw[show(e==0)=false from by simpa using g];exact⟨_,_,_,rfl,.inr ⟨j,l⟩⟩
end Go.Fw
namespace Go.Fw
open Go
def Jr(N:Nat)(a:Bs)(T:a.length<10000000)(R:Bs->Int->Int->Int->Option (Fw.Spot×(Int×Int)))(d:Nat)(hd:d<=100)
 (J:∀i j:Nat,i<=j->j<=a.length->∃v e o,R a (i:Int) (j:Int) (d:Int)=some (v,e,o)/\(0:Int)<=o/\o<=(a.length:Int)/\(e=0->∃s:Nat,v.stop=(s:Int)/\i<s/\s<=j))
 (b:Nat)(M:b<=a.length)(r t u:Int)(w:Bool):∀(k n c:Nat)(f:List Fw.Spot)(g:List Fw.Node),b-c=k->k<n->c<=b->f.length<=c->g.length<=c->
 ∃y,bO N R n (a,((d+1:Nat):Int),(c:Int),0,0,0,0,false,[],0,0,g,f,r,(b:Int),t,u,w)=some y/\
  ((∃e o:Int,y=.inl (0,0,0,0,false,e,o)/\e≠0/\0<=o/\o<=(a.length:Int))∨∃l S,y=.inr (0,0,0,0,false,[],0,0,l,S,r,(b:Int),t,u,w)):=by
 intro k;induction k using Nat.strongRecOn with
 |_ k Q=>
  intro n c f g U V W F G;obtain⟨n,rfl⟩:∃m,n=m+1:=⟨n-1,by omega⟩;rcases ah0 c b with L|K
  ·have h:decide ((c:Int)<(b:Int))=true:=ahO (by omega);have p:aU .i64 ((d+1:Nat):Int) 1=(d:Int):=by
    show IntKind.i64.wrap _=_;rw[aij _ (by omega)];omega
   obtain⟨v,e,o,D,E,H,I⟩:=J c b (by omega) M;have q:=Q;unfold bO at q⊢;simp only[h,ahY,p,D,ahI];by_cases x:e=0
   ·obtain⟨s,A,O,P⟩:=I x;rw[show(e !=0)=false from by rw[x];rfl];simp only[ahQ];have B:∀z:Fw.Spot,app 112 f [z]=some (f++[z]):=λz=>by
     unfold app cH;rw[ah2 ⟨by simp only[ahP,ah9];omega,by simp only[ahP,ah9];omega⟩]
    have C:∀z:Fw.Node,app 72 g [z]=some (g++[z]):=λz=>by
     unfold app cH;rw[ah2 ⟨by simp only[ahP,ah9];omega,by simp only[ahP,ah9];omega⟩]
    rw[B,ahI,C,ahI,A];exact q (b-s) (by omega) n s _ _ rfl (by omega) (by omega) (by simp;omega) (by simp;omega)
   ·rw[show(e !=0)=true from by simpa using x];exact⟨_,rfl,.inl ⟨e,o,rfl,x,E,H⟩⟩
  ·have h:decide ((c:Int)<(b:Int))=false:=ahL (by omega);refine⟨_,?_,.inr ⟨g,f,rfl⟩⟩;unfold bO;simp only[h,ahQ]
def N9(N n:Nat)(e:Bs)(a2 a3 a4:Int):cb N (n+1) e a2 a3 a4=(
 bif (a4==0) then(
 (cG 5 a2).bind λ(b,H)=>
 some (Fw.Spot.mk b.at' b.stop (Fw.Node.mk b.nd.cls b.nd.num b.nd.cons b.nd.body b.nd.kids) b.kids,H))
 else
 bif (decide (a3<=a3)&&decide (a3<=e.length)) then(
 (slc e a2 a3).bind λG=>
 (aX N G).bind λ(a,w)=>
 bif (w.1 !=0) then(
 (cG w.1 (aw .i64 a2 w.2)).bind λ(c,I)=>
 some (Fw.Spot.mk c.at' c.stop (Fw.Node.mk c.nd.cls c.nd.num c.nd.cons c.nd.body c.nd.kids) c.kids,I))
 else
 bif decide (aU .i64 a3 (aw .i64 a2 a.2.2.2.2)<a.2.2.2.1) then(
 (cG 1 a3).bind λ(d,J)=>
 some (Fw.Spot.mk d.at' d.stop (Fw.Node.mk d.nd.cls d.nd.num d.nd.cons d.nd.body d.nd.kids) d.kids,J))
 else
 bif (!a.2.2.1) then(
 (slc e (aw .i64 a2 a.2.2.2.2) (aw .i64 (aw .i64 a2 a.2.2.2.2) a.2.2.2.1)).bind λv=>
 (fM v).bind λs=>
 some (Fw.Spot.mk a2 (aw .i64 (aw .i64 a2 a.2.2.2.2) a.2.2.2.1) (Fw.Node.mk a.1 a.2.1 a.2.2.1 s []) [],0,0))
 else
 (bO N (cb N n) N (e,a4,aw .i64 a2 a.2.2.2.2,0,0,0,0,false,[],0,0,[],[],a2,aw .i64 (aw .i64 a2 a.2.2.2.2) a.2.2.2.1,a.1,a.2.1,a.2.2.1)).bind λx=>(match x with
 |Sum.inl (h,i,j,k,f,l,m)=>some (Fw.Spot.mk h i (Fw.Node.mk j k f [] []) [],l,m)
 |Sum.inr ((z,A,B,C,y,F,D,E,t,u,o,p,q,r,g))=>some (Fw.Spot.mk o p (Fw.Node.mk q r g [] t) u,0,0)))
 else
 none):=rfl
def Kc(N:Nat)(a:Bs)(hN:a.length+20<=N)(K:a.length<10000000):∀(d n:Nat),d<n->d<=100->∀i j:Nat,i<=j->j<=a.length->
 ∃v e o,cb N n a (i:Int) (j:Int) (d:Int)=some (v,e,o)/\(0:Int)<=o/\o<=(a.length:Int)/\(e=0->∃s:Nat,v.stop=(s:Int)/\i<s/\s<=j):=by
 intro d;induction d with
 |zero=>
  intro n P _ i j g C;obtain⟨n,rfl⟩:∃m,n=m+1:=⟨n-1,by omega⟩;exact⟨_,5,(i:Int),rfl,by omega,by omega,λh=>by cases h⟩
 |succ d S=>
  intro n P hd i j g C;obtain⟨n,rfl⟩:∃m,n=m+1:=⟨n-1,by omega⟩;have J:=S n (by omega) (by omega);have u:=Jr N a K (cb N n) d (by omega) J;have I:((((d+1:Nat)):Int)==0)=false:=aid.2 (by omega);have O:(decide ((j:Int)<=(j:Int))&&decide ((j:Int)<=(a.length:Int)))=true:=by simp;omega
  have r:∀p q:Nat,p<=q->q<=a.length->slc a (p:Int) (q:Int)=some ((a.take q).drop p):=λp q Y Z=>by
   unfold slc;rw[ah2 ⟨by omega,by omega,by omega⟩];simp
  have b:((a.take j).drop i).length=j-i:=by rw[aiF,aig];omega
  obtain⟨h,e,o,B,Q,w⟩:=LF N (by omega) ((a.take j).drop i) (by omega);rw[b]at w;rw[N9,I,ahQ,O,ahY,r i j g C,ahI,B,ahI];by_cases t:e=0
  ·subst t;obtain⟨c,z,k,L,U⟩:=h;obtain⟨A,f,m,E,q1,q2,q3,T,rfl,rfl,rfl,rfl⟩:=EI N (by omega) _ (by omega) c z L U o k B;have D:=ain List.length T;rw[b]at D;simp only[ahP,ahN]at D;have V:aw .i64 (i:Int) ((1+(aV m).length:Nat):Int)=((i+(1+(aV m).length):Nat):Int):=by rw[fX (by omega)];omega
   have W:aU .i64 (j:Int) ((i+(1+(aV m).length):Nat):Int)=((j-(i+(1+(aV m).length)):Nat):Int):=by
    show IntKind.i64.wrap _=_;rw[aij _ (by omega)];omega
   simp only[als,ahQ,V,W];by_cases hm:j-(i+(1+(aV m).length))<m
   ·rw[ahO (by omega)];exact⟨_,1,(j:Int),rfl,by omega,by omega,λh=>by cases h⟩
   ·rw[ahL (by omega)];have X:aw .i64 ((i+(1+(aV m).length):Nat):Int) (m:Int)=((i+(1+(aV m).length)+m:Nat):Int):=by rw[fX (by omega)];omega
    simp only[ahQ,X];cases k
    ·simp only[aky,ahY];rw[r _ _ (by omega) (by omega),ahI,xe (by rw[aiF,aig];omega),ahI];exact⟨_,0,0,rfl,by omega,by omega,λ_=>⟨i+(1+(aV m).length)+m,rfl,by omega,by omega⟩⟩
    ·simp only[ai2,ahQ];obtain⟨y,R,M⟩:=u (i+(1+(aV m).length)+m) (by omega) (i:Int) (A:Int) (f:Int) true _ N (i+(1+(aV m).length)) [] [] rfl (by omega) (by omega) (by simp) (by simp);have x:bO N (cb N n) N (a,((d+1:Nat):Int),((i+(1+(aV m).length):Nat):Int),0,0,0,0,false,[],0,0,[],[],(i:Int),((i+(1+(aV m).length)+m:Nat):Int),(A:Int),(f:Int),true)=some y:=R;rw[x,ahI];rcases M with⟨e,o,rfl,F,G,H⟩|⟨l,l',rfl⟩
     ·exact⟨_,e,o,rfl,G,H,λh=>absurd h F⟩
     ·exact⟨_,0,0,rfl,by omega,by omega,λ_=>⟨i+(1+(aV m).length)+m,rfl,by omega,by omega⟩⟩
  ·dsimp only;rw[show(e !=0)=true from by simpa using t];refine⟨_,e,aw .i64 (i:Int) o,rfl,?_,?_,λh=>absurd h t⟩
   ·rw[fX (by omega)];omega
   ·rw[fX (by omega)];omega
def UY(N:Nat)(a:Bs)(h:a.length+20<=N)(i:a.length<10000000):∃v e o,cz N a=some (v,e,o)/\(0:Int)<=o/\o<=(a.length:Int):=by
 unfold cz eV syv;obtain⟨v,e,o,f,c,d,g⟩:=Kc N a h i 16 N (by omega) (by omega) 0 a.length (by omega) (ahS _);rw[show cb N N a 0 (a.length:Int) 16=_ from f,ahI];dsimp only;by_cases b:e=0
 ·obtain⟨s,k,_,l⟩:=g b;rw[show(e==0)=true from by simpa using b,k];simp only[ahY];by_cases j:s<a.length
  ·rw[ahO (by omega:(s:Int)<(a.length:Int))];exact⟨_,_,_,rfl,by show(0:Int)<=(s:Int);omega,by show(s:Int)<=_;omega⟩
  ·rw[ahL (by omega:¬(s:Int)<(a.length:Int))];exact⟨_,_,_,rfl,c,d⟩
 ·rw[show(e==0)=false from by simpa using b];exact⟨_,_,_,rfl,c,d⟩
end Go.Fw


namespace Go.Fw
open Go
def Zs(a:Bs):∃c e,cP a=some (c,e):=by
 unfold cP syv
 match a with
 |[]=>exact⟨_,_,rfl⟩
 |x::y::r=>
  rw[show((((x::y::r).length:Nat):Int) !=1)=true from by simp only[bne_iff_ne,ne_eq,ahP];omega];exact⟨_,_,rfl⟩
 |[x]=>
  rw[show((((([x]:Bs)).length:Nat):Int) !=1)=false from rfl];simp only[ahQ,show ix [x] 0=some x from rfl,ahI];cases ((x.toNat:Int) !=0)<;>cases ((x.toNat:Int) !=255)<;>exact⟨_,_,rfl⟩
end Go.Fw

namespace Go.Fw
open Go
def Hq(a:List UInt8):∀(k:Nat)(s:List UInt8),(Lib.splitK a 0 k s).length<=k+1/\∀x∈Lib.splitK a 0 k s,x.length<=s.length
 |0,s=>by
  unfold Lib.splitK;exact⟨by simp,λx b=>by simp at b;subst b;exact ahS _⟩
 |k+1,s=>by
  unfold Lib.splitK;split
  ·exact⟨by simp,λx b=>by simp at b;subst b;exact ahS _⟩
  ·obtain⟨d,c⟩:=Hq a k (s.drop ((Lib.index s a).toNat+a.length));refine⟨by simp only[ahP];omega,λx b=> ?_⟩;rcases aib.1 b with rfl|b
   ·rw[aig];omega
   ·have:=c x b;rw[aiF]at this;omega
def Oa(s:List UInt8)(c:s.length<=1000000000):∃l,gW s [46]=some l/\l.length<=s.length+2/\∀x∈l,x.length<=s.length:=by
 refine⟨Lib.split s [46],?_,?_,(Hq [46] _ s).2⟩
 ·unfold gW;rw[show Nat.blt s.length 4294967281=true from aiH (by omega)];rfl
 ·have a:=(Hq [46] (Lib.count s [46]) s).1;have b:=Lib.count_le s [46];show(Lib.splitK [46] 0 (Lib.count s [46]) s).length<=_;omega
def aee(s:List UInt8)(b:s.length<=1000000000):(∃n:Nat,mz s=some (.inl (n:Int))/\n<=4294967295/\Lib.parseUintB 32 s=.ok n)∨∃z,mz s=some (.inr z):=by
 have a:Nat.ble s.length yz=true:=aiH (by unfold yz;omega);unfold mz;rw[a,ahY];cases h:Lib.parseUintB 32 s with
 |ok u=>
  have:=Lib.parseUintB_le h;exact .inl ⟨u,rfl,by simpa using this,rfl⟩
 |range=>exact .inr ⟨_,rfl⟩
 |_=>exact .inr ⟨_,rfl⟩
end Go.Fw
namespace Go.Fw
open Go
def OW{α:Type}(x:Option α)(Q:α->Prop):Prop:=∃a,x=some a/\Q a
def aa{α:Type}{Q:α->Prop}{a:α}(h:Q a):OW (some a) Q:=⟨a,rfl,h⟩
def aj{α b:Type}{Q:b->Prop}{R:α->Prop}{x:Option α}{f:α->Option b}(h:OW x R)(k:∀a,R a->OW (f a) Q):OW (x.bind f) Q:=by
 obtain⟨a,rfl,c⟩:=h;exact k a c
def az{α:Type}{Q:α->Prop}{c:Bool}{x y:Option α}(a:c=true->OW x Q)(b:c=false->OW y Q):OW (bif c then x else y) Q:=by
 cases c
 ·exact b rfl
 ·exact a rfl
def IE{α:Type}{Q R:α->Prop}{x:Option α}(h:OW x Q)(k:∀a,Q a->R a):OW x R:=by
 obtain⟨a,rfl,b⟩:=h;exact⟨a,rfl,k a b⟩
def IF{α:Type}{Q:α->Prop}{x:Option α}{a:α}(h:x=some a)(k:Q a):OW x Q:=⟨a,h,k⟩
def OP{α:Type}(x:Option α)(Q:α->Prop):Prop:=∀a,x=some a->Q a
def lf{α:Type}{Q:α->Prop}{a:α}(h:Q a):OP (some a) Q:=λ_ e=>by cases e;exact h
def zd{α c:Type}{Q:c->Prop}{R:α->Prop}{x:Option α}{f:α->Option c}(h:OP x R)(k:∀a,R a->OP (f a) Q):OP (x.bind f) Q:=by
 intro b e;cases x with
 |none=>cases e
 |some a=>exact k a (h a rfl) b e
def HV{α:Type}(x:Option α):OP x λ_=>True:=λ_ _=>trivial
def gJ{α:Type}{Q:α->Prop}{c:Bool}{x y:Option α}(a:c=true->OP x Q)(b:c=false->OP y Q):OP (bif c then x else y) Q:=by
 cases c
 ·exact b rfl
 ·exact a rfl
def VL{α:Type}{Q R:α->Prop}{x:Option α}(h:OW x Q)(k:OP x R):OW x λa=>Q a/\R a:=by
 obtain⟨a,b,c⟩:=h;exact⟨a,b,c,k a b⟩
def TV{σ b:Type}(F:Nat->σ->Option b)(I:σ->Prop)(m:σ->Nat)(Q:b->Prop)
 (step:∀n s,I s->(∀a,I a->m a<m s->OW (F n a) Q)->OW (F (n+1) s) Q):∀n s,I s->m s<n->OW (F n s) Q:=by
 intro n;induction n with
 |zero=>intro s _ h;omega
 |succ n e=>exact λs d g=>step n s d λa c f=>e a c (by omega)
inductive eT{α β:Type}(R:α->β->Prop):List α->List β->Prop where
 |nil:eT R [] []
 |cons {a b xs ys}:R a b->eT R xs ys->eT R (a::xs) (b::ys)
def eT.length{α b:Type}{R:α->b->Prop}{xs:List α}{a:List b}(h:eT R xs a):xs.length=a.length:=by
 induction h with
 |nil=>rfl
 |cons _ _ c=>simp[c]
def eT.get{α c:Type}{R:α->c->Prop}{xs:List α}{d:List c}(h:eT R xs d):∀{i:Nat}{b:c},d[i]?=some b->∃a,xs[i]?=some a/\R a b:=by
 induction h with
 |nil=>intro i b h;simp at h
 |cons e _ f=>
  intro i b h;cases i with
  |zero=>simp at h;subst h;exact⟨_,rfl,e⟩
  |succ i=>simp at h⊢;exact f h
def EL(a:Bs)(t:TLV)(e:cM):Prop:=∃p q:Bs,a=p++ai t++q/\e=lq t.1 t.2.1 t.2.2.1 t.2.2.2 p.length
def wm(t:TLV):(ai t).length=1+(aV t.2.2.2.length).length+t.2.2.2.length:=nn _ _ _ _
def EL.bd{a:Bs}{t:TLV}{e:cM}(h:EL a t e):∃p q r:Nat,e.2.2.2.1=(p:Int)/\e.2.2.2.2.1=(q:Int)/\e.2.2.2.2.2=(r:Int)/\p<=q/\q<=r/\r<=a.length/\p+(ai t).length=r:=by
 obtain⟨p,q,rfl,rfl⟩:=h;refine⟨p.length,p.length+1+(aV t.2.2.2.length).length,p.length+(ai t).length,rfl,rfl,rfl,by omega,?_,?_,rfl⟩
 ·have:=wm t;omega
 ·simp only[ahN];omega
def EL.whole{a:Bs}{t:TLV}{e:cM}(h:EL a t e):slc a e.2.2.2.1 e.2.2.2.2.2=some (ai t):=by
 obtain⟨p,q,rfl,rfl⟩:=h;exact Nc p (ai t) q
def EL.body{a:Bs}{t:TLV}{e:cM}(h:EL a t e):slc a e.2.2.2.2.1 e.2.2.2.2.2=some t.2.2.2:=by
 obtain⟨p,q,rfl,rfl⟩:=h;have h:=Nc (p++(idB t.1 t.2.1 t.2.2.1::aV t.2.2.2.length)) t.2.2.2 q;have c:p++(idB t.1 t.2.1 t.2.2.1::aV t.2.2.2.length)++t.2.2.2++q=p++ai t++q:=by simp[ai,tlv]
 have b:(p++(idB t.1 t.2.1 t.2.2.1::aV t.2.2.2.length)).length=p.length+1+(aV t.2.2.2.length).length:=by simp;omega
 have d:(p++(idB t.1 t.2.1 t.2.2.1::aV t.2.2.2.length)).length+t.2.2.2.length=p.length+(ai t).length:=by rw[b,wm];omega
 rw[c,d,b]at h;exact h
def EL.is{a:Bs}{t:TLV}{e:cM}(h:EL a t e)(c num:Nat)(k:Bool):bz e (c:Int) k (num:Int)=some (decide (t.1=c/\t.2.1=k/\t.2.2.1=num)):=by
 obtain⟨p,q,rfl,rfl⟩:=h;exact LH _ _ _ _ _ _ _ _
def IG:∀(a:List TLV)(p q:Bs),eT (EL (p++au a++q)) a (jq p.length a)
 |[],_,_=>.nil
 |t::r,p,q=>by
  refine .cons ⟨p,au r++q,by rw[iH];simp,rfl⟩ ?_;have h:=IG r (p++ai t) q;rw[show p++ai t++au r++q=p++au (t::r)++q from by rw[iH];simp,ahN]at h;exact h
def FN(N:Nat):Prop:=1000000000<=N/\N<4611686018427387904
def aah{a:List TLV}(h:(au a).length<10000000):a.length<10000000:=by
 have:=jb a;omega
def TW{N:Nat}(b:FN N){c num:Nat}(e:c<4)(i:num<31)(a:List TLV)(g:∀t∈a,okT t)(d:(au a).length<10000000):
 ∃l,aF N (tlv c true num (au a)) (c:Int) (num:Int)=some (l,0,0)/\eT (EL (tlv c true num (au a))) a l:=by
 have f:=aah d;refine⟨_,Wy N (by unfold FN at b;omega) e i a g (by unfold FN at b;omega) f (by omega),?_⟩;have h:=IG a (idB c true num::aV (au a).length) [];rw[ah6,show(idB c true num::aV (au a).length)++au a=tlv c true num (au a) from by simp[tlv],show((idB c true num::aV (au a).length).length)=1+(aV (au a).length).length from by simp;omega]at h;exact h
def tk{N:Nat}(B:FN N)(a:Bs)(x:a.length<10000000)(c num:Nat):OW (aF N a (c:Int) (num:Int)) λr=>
 (r.2=(0,0)/\∃g,(∀t∈g,okT t)/\c<4/\num<31/\a=tlv c true num (au g)/\eT (EL a) g r.1)∨r.2.1≠0/\0<=r.2.2/\r.2.2<=(a.length:Int):=by
 unfold FN at B;have q:∃l e o,aF N a (c:Int) (num:Int)=some (l,e,o)/\(e=0/\o=0∨(0:Int)<=o/\o<=(a.length:Int)):=by
  unfold aF syv;obtain⟨v,e,o,i,s⟩:=Tk N (by omega) a (by omega);rw[i,ahI];dsimp only;by_cases f:e=0
  ·subst f;obtain⟨c1,d,k,b,q1,G,q3,y,rfl⟩:=Nd N (by omega) a (by omega) v o i;rw[show((0:Int) !=0)=false from rfl,ahQ,LH,ahI];cases (!decide (c1=c/\k=true/\d=num))
   ·have p:=nn c1 k d b;have C:a.length=1+(aV b.length).length+b.length:=by rw[y,p]
    have z:(lq c1 k d b 0).2.2.2.2.1=((1+(aV b.length).length:Nat):Int):=by
     show((0+1+(aV b.length).length:Nat):Int)=_;omega
    have A:(lq c1 k d b 0).2.2.2.2.2=((a.length:Nat):Int):=by
     show((0+(tlv c1 k d b).length:Nat):Int)=_;rw[<-y];omega
    rw[ahQ,z,A];obtain⟨l,e,o,j,m⟩:=J9 N a (by omega) (1+(aV b.length).length) a.length (by omega) (ahS _) x;rw[j];exact⟨_,_,_,rfl,.inr m⟩
   ·exact⟨_,_,_,rfl,.inr ⟨by omega,by omega⟩⟩
  ·rw[show(e !=0)=true from by simpa using f];exact⟨_,_,_,rfl,.inr (s.resolve_left f)⟩
 obtain⟨l,e,o,h,E⟩:=q;refine⟨_,h,?_⟩;by_cases f:e=0
 ·subst f;obtain⟨g,i,s,j,m,n,rfl⟩:=Wz N (by omega) a (by omega) l o h;have D:(au g).length<10000000:=by
   rw[n,nn]at x;omega
  obtain⟨F,u,w⟩:=TW (N:=N) ⟨by omega,by omega⟩ j m g i D;rw[<-n]at u w;rw[u]at h;simp only[ahM,ah7,true_and]at h;obtain⟨rfl,rfl⟩:=h;exact .inl ⟨rfl,g,i,j,m,n,w⟩
 ·refine .inr ⟨f,?_⟩;rcases E with h|h
  ·exact absurd h.1 f
  ·exact h
def Px{N:Nat}(b:FN N)(t:TLV)(a:okT t):∃e,bF N (ai t)=some (e,0,0)/\EL (ai t) t e:=by
 unfold FN at b;refine⟨_,QT N (by omega) t.2.1 a.1 a.2.1 t.2.2.2 a.2.2,[],[],by simp,rfl⟩
def IH{N:Nat}(m:FN N)(a:Bs)(q:a.length<10000000):OW (bF N a) λr=>
 (r.2=(0,0)/\∃t,okT t/\a=ai t/\EL a t r.1)∨r.2.1≠0/\0<=r.2.2/\r.2.2<=(a.length:Int):=by
 unfold FN at m;obtain⟨v,e,o,d,l⟩:=Tk N (by omega) a (by omega);refine⟨_,d,?_⟩;by_cases g:e=0
 ·subst g;obtain⟨c1,c,k,b,q1,i,q3,n,rfl⟩:=Nd N (by omega) a (by omega) v o d;obtain⟨p,h,f⟩:=Px (N:=N) ⟨by omega,by omega⟩ (c1,k,c,b) ⟨q1,i,q3⟩;have j:a=ai (c1,k,c,b):=n;rw[<-j]at h f;rw[h]at d;simp only[ahM,ah7,true_and]at d;obtain⟨d,rfl⟩:=d;rw[d]at f;exact .inl ⟨rfl,_,⟨q1,i,q3⟩,j,f⟩
 ·exact .inr ⟨g,l.resolve_left g⟩
def xL{α:Type}{l:List α}{i:Int}(b:0<=i)(h:i<(l.length:Int)):OW (ix l i) λx=>l[i.toNat]?=some x/\x∈l:=by
 have a:i.toNat<l.length:=by omega
 refine⟨l[i.toNat],?_,ahK a,aiL a⟩;have:=de (ahK a);rwa[show((i.toNat:Nat):Int)=i from by omega]at this
def BO{α:Type}{l:List α}{i j:Int}(a:0<=i)(h:i<=j)(b:j<=(l.length:Int)):OW (slc l i j) λx=>x=(l.take j.toNat).drop i.toNat:=by
 refine⟨_,?_,rfl⟩;unfold slc;rw[ah2 ⟨by omega,by omega,by omega⟩]
def af4{α:Type}{k:Nat}(a:k<=200){l r:List α}(h:l.length+r.length<=1000000000):OW (app k l r) λx=>x=l++r:=by
 refine⟨_,?_,rfl⟩;unfold app cH;have:(l.length+r.length)*k<=(l.length+r.length)*200:=Nat.mul_le_mul_left _ a;rw[ah2 ⟨by omega,by omega⟩]
def gK{α:Type}{k:Nat}(b:k<=200){l r:List α}(h:l.length+r.length<=1000000000):app k l r=some (l++r):=by
 obtain⟨x,a,rfl⟩:=af4 b h;exact a
end Go.Fw
def aly:=@Go.Lib.join_one
namespace Go.Fw
open Go
def RU(c:UInt8):∀(x:List UInt8),c ∉ x->Lib.index x [c]= -1
 |[],_=>rfl
 |b::l,h=>by
  have a:(c==b)=false:=aid.2 λe=>h (by simp[e]);unfold Lib.index;rw[RU c l λe=>h (ah4 _ e)];simp[List.isPrefixOf,a]
def KF(c:UInt8)(t:List UInt8):∀(x:List UInt8),c ∉ x->Lib.index (x++c::t) [c]=(x.length:Int)
 |[],_=>by simp[Lib.index,List.isPrefixOf]
 |b::l,h=>by
  have a:(c==b)=false:=aid.2 λe=>h (by simp[e]);have d:=KF c t l λe=>h (ah4 _ e);rw[aiB];unfold Lib.index;rw[d];have:((l.length:Int)== -1)=false:=aid.2 (by omega);simp[List.isPrefixOf,a,this]
def Jy(c:UInt8):∀(s:List UInt8),Lib.index s [c]≠-1->s=s.take (Lib.index s [c]).toNat++c::s.drop ((Lib.index s [c]).toNat+1)
 |[],h=>by exact absurd rfl h
 |b::l,h=>by
  unfold Lib.index at h⊢;by_cases e:c=b
  ·subst e;simp[List.isPrefixOf]
  ·have d:(c==b)=false:=aid.2 e;simp only[List.isPrefixOf,d,Bool.false_and,aiC,aiE]at h⊢;by_cases a:Lib.index l [c]= -1
   ·rw[a]at h;exact absurd rfl h
   ·have f:(Lib.index l [c]== -1)=false:=aid.2 a;have g:=Lib.index_ge l [c];simp only[f,aiC,aiE];rw[show(Lib.index l [c]+1).toNat=(Lib.index l [c]).toNat+1 from by omega];simp only[ajE,akc,aiB];rw[<-Jy c l a]
def qR(x y:List UInt8)(r:List (List UInt8)):Lib.join (x::y::r) [46]=x++46::Lib.join (y::r) [46]:=by
 rw[Lib.join_cons,Lib.join_cons];simp[Lib.joinTail]
def XP(k:Nat)(s:List UInt8):∃y r,Lib.splitK [46] 0 k s=y::r:=by
 cases k with
 |zero=>exact⟨_,_,rfl⟩
 |succ k=>
  unfold Lib.splitK;split
  ·exact⟨_,_,rfl⟩
  ·exact⟨_,_,rfl⟩
def Jz:∀(k:Nat)(s:List UInt8),Lib.join (Lib.splitK [46] 0 k s) [46]=s
 |0,s=>aly s _
 |k+1,s=>by
  unfold Lib.splitK;split
  ·exact aly s _
  ·rename_i h;have b:Lib.index s [46]≠-1:=λe=>h (by rw[e];rfl);obtain⟨y,r,c⟩:=XP k (s.drop ((Lib.index s [46]).toNat+[(46:UInt8)].length));have a:=Jz k (s.drop ((Lib.index s [46]).toNat+[(46:UInt8)].length));rw[c]at a⊢;rw[qR,a];exact(Jy 46 s b).symm
def VQ(s:List UInt8):Lib.join (Lib.split s [46]) [46]=s:=Jz _ s
def Ml:∀(r:List (List UInt8))(x:List UInt8),(∀y∈x::r,(46:UInt8) ∉ y)->Lib.count (Lib.join (x::r) [46]) [46]=r.length
 |[],x,h=>by
  rw[aly];exact Lib.count_miss (RU 46 x (h x (by simp)))
 |y::r,x,h=>by
  have a:=KF 46 (Lib.join (y::r) [46]) x (h x (by simp));rw[qR,Lib.count_hit (by simp) a,show x.length+[(46:UInt8)].length=x.length+1 from rfl,<-ajj,ajp,aip (ahS _)];simp only[akk,aiz,aiw,akc,ahP];rw[Ml r y λz b=>h z (ah4 _ b)];omega
def JA:∀(r:List (List UInt8))(x:List UInt8),(∀y∈x::r,(46:UInt8) ∉ y)->Lib.splitK [46] 0 r.length (Lib.join (x::r) [46])=x::r
 |[],x,h=>by rw[aly];rfl
 |y::r,x,h=>by
  have a:=KF 46 (Lib.join (y::r) [46]) x (h x (by simp));rw[ahP,qR];unfold Lib.splitK;rw[a,air (by simp only[akb];omega)];simp only[aj8,aiP,ahP,ah9,aiA];rw[alw,aih (ahS _),<-ajj,ajp,aip (ahS _)];simp only[akk,alk,ah6,aiz,aiw,akc];rw[JA r y λz b=>h z (ah4 _ b)]
def VS(xs:List (List UInt8))(a:xs≠[])(h:∀y∈xs,(46:UInt8) ∉ y):Lib.split (Lib.join xs [46]) [46]=xs:=by
 cases xs with
 |nil=>exact absurd rfl a
 |cons x r=>
  unfold Lib.split;rw[Ml r x h];exact JA r x h
def XQ(n:Nat):∀b∈Lib.decDigits n,48<=b.toNat/\b.toNat<=57:=by
 induction n using Nat.strongRecOn with
 |ind n c=>
  intro b a;rw[Lib.decDigits]at a;split at a
  ·simp only[aiN]at a;subst a;rw[ajl];omega
  ·simp only[aiv,aiN]at a;rcases a with a|rfl
   ·exact c (n / 10) (by omega) b a
   ·rw[ajl];omega
def XR(n:Nat):(46:UInt8) ∉ Lib.decDigits n:=λh=>by
 have:=(XQ n _ h).1;simp at this
def XT(n:Nat):Lib.decDigits n≠[]:=by
 rw[Lib.decDigits];split<;>simp
def T0(M:Nat)(d:UInt8):∀(l:List UInt8)(acc v:Nat),Lib.parseUintM M acc l=.ok v->Lib.parseUintM M acc (l++[d])=Lib.parseUintM M v [d]
 |[],acc,v,h=>by cases h;rfl
 |c::r,acc,v,h=>by
  rw[aiB];unfold Lib.parseUintM at h⊢;split at h<;>try (cases h;done)
  rename_i a;rw[ah2 a];split at h<;>try (cases h;done)
  rename_i b;rw[air b];split at h<;>try (cases h;done)
  rename_i e;rw[air e];exact T0 M d r _ v h
def acN(M:Nat)(b:M<=4294967295)(n:Nat):n<=M->Lib.parseUintM M 0 (Lib.decDigits n)=.ok n:=by
 induction n using Nat.strongRecOn with
 |ind n a=>
  intro c;rw[Lib.decDigits];split
  ·rename_i h;have e:(UInt8.ofNat (48+n)).toNat=48+n:=by rw[ajl];omega
   unfold Lib.parseUintM;rw[ah2 (by rw[e];omega),air (by omega),air (by rw[e];omega)];unfold Lib.parseUintM;rw[e];congr 1;omega
  ·rename_i h;have e:(UInt8.ofNat (48+n % 10)).toNat=48+n % 10:=by rw[ajl];omega
   rw[T0 M _ _ 0 _ (a (n / 10) (by omega) (by omega))];unfold Lib.parseUintM;rw[ah2 (by rw[e];omega),air (by omega),air (by rw[e];omega)];unfold Lib.parseUintM;rw[e];congr 1;omega
def Mm(n:Nat)(a:n<=4294967295):mz (Lib.decDigits n)=some (.inl (n:Int)):=by
 have b:=Hp n (by omega);unfold mz;rw[show Nat.ble (Lib.decDigits n).length yz=true from aiH (by unfold yz;omega),ahY];unfold Lib.parseUintB;rw[air (XT n),acN _ (by decide) n (by simpa using a)];rfl
end Go.Fw
def ajQ:=@Go.IntKind.wrap_u32
namespace Go.Fw
open Go
def uR:List Nat->Bool
 |[]=>false
 |a::t=>match t with
  |[]=>false
  |b::_=>decide (a<=2/\(a<2->b<40)/\(¬a<2->b<=4294967215))
def ma(s:Bs)(L:List Nat):Prop:=uR L=true/\(∀x∈L,x<=4294967295)/\s=Lib.join (L.map Lib.decDigits) [46]
def cj(L:List Nat):List Int:=L.map λ(n:Nat)=>(n:Int)
def acZ{a b:Nat}(d:a<=4294967295)(e:b<=4294967295)(h:Lib.decDigits a=Lib.decDigits b):a=b:=by
 have c:=Mm a d;rw[h,Mm b e]at c;simp only[ahM,Sum.inl.injEq]at c;omega
def KJ:∀{L M:List Nat},(∀x∈L,x<=4294967295)->(∀x∈M,x<=4294967295)->L.map Lib.decDigits=M.map Lib.decDigits->L=M
 |[],[],_,_,_=>rfl
 |[],_::_,_,_,h=>by simp at h
 |_::_,[],_,_,h=>by simp at h
 |a::L,b::M,d,e,h=>by
  simp only[ahX,ajG]at h;rw[acZ (d a (by simp)) (e b (by simp)) h.1,KJ (λx c=>d x (by simp[c])) (λx c=>e x (by simp[c])) h.2]
def V0(L:List Nat):∀y∈L.map Lib.decDigits,(46:UInt8) ∉ y:=by
 intro y a;obtain⟨n,_,rfl⟩:=aiG.1 a;exact XR n
def X6{L:List Nat}(h:uR L=true):L.map Lib.decDigits≠[]:=by
 cases L with
 |nil=>cases h
 |cons a r=>simp
def ma.split{s:Bs}{L:List Nat}(h:ma s L):Lib.split s [46]=L.map Lib.decDigits:=by
 rw[h.2.2];exact VS _ (X6 h.1) (V0 L)
def ma.uniq{s:Bs}{L M:List Nat}(h:ma s L)(k:ma s M):L=M:=KJ h.2.1 k.2.1 (h.split.symm.trans k.split)
def OG(L:List Nat):dO (cj L)=some (uR L):=by
 unfold dO syv
 match L with
 |[]=>rfl
 |[_]=>rfl
 |a::b::r=>
  have c:ix (cj (a::b::r)) 0=some (a:Int):=rfl;have d:ix (cj (a::b::r)) 1=some (b:Int):=rfl;have e:decide (((cj (a::b::r)).length:Int)<2)=false:=ahL (by simp only[cj,aiy,ahP];omega);rw[c,d,e];simp only[ahQ,ahI];show _=some (decide (a<=2/\(a<2->b<40)/\(¬a<2->b<=4294967215)));by_cases h:a<=2
  ·rw[ahL (by omega:¬(a:Int)>2),ahQ];by_cases f:a<2
   ·rw[ahO (by omega:(a:Int)<2),ahY];exact ain some (alx.2 (by omega))
   ·rw[ahL (by omega:¬(a:Int)<2),ahQ];exact ain some (alx.2 (by omega))
  ·rw[ahO (by omega:(a:Int)>2),ahY,ahL (by omega)]
def ae0(N:Nat)(l:List Bs)(A:l.length<=100000000)(p:∀x∈l,x.length<=100000000):∀(n:Nat)(s:List Bs×Int×Int×List Int),(∃L:List Nat,(∀x∈L,x<=4294967295)/\L.length<=l.length/\l.take L.length=L.map Lib.decDigits/\s=(l,(l.length:Int),(L.length:Int),cj L))->
 l.length-s.2.2.1.toNat<n->OW (eB N n s) λy=>(∃L:List Nat,(∀x∈L,x<=4294967295)/\l=L.map Lib.decDigits/\y=.inr (cj L))∨(y=.inl 11/\¬∃L:List Nat,(∀x∈L,x<=4294967295)/\l=L.map Lib.decDigits):=by
 refine TV _ _ (λ(s:List Bs×Int×Int×List Int)=>l.length-s.2.2.1.toNat) _ ?_;rintro n _ ⟨L,q,w,r,rfl⟩ v;show OW (bif decide ((L.length:Int)<(l.length:Int)) then _ else _) _;by_cases a:L.length<l.length
 ·rw[ahO (by omega:(L.length:Int)<(l.length:Int)),ahY,de (ahK a),ahI];have g:=aiL a;have o:l.take (L.length+1)=L.map Lib.decDigits++[l[L.length]]:=by
   rw[aiQ,ahK a,r];rfl
  have d:(∀m≤4294967295,l[L.length]≠Lib.decDigits m)->OW (some (Sum.inl 11):Option (Int⊕List Int)) λy=>(∃L:List Nat,(∀x∈L,x<=4294967295)/\l=L.map Lib.decDigits/\y=.inr (cj L))∨(y=.inl 11/\¬∃L:List Nat,(∀x∈L,x<=4294967295)/\l=L.map Lib.decDigits):=by
   refine λu=>aa (.inr ⟨rfl,?_⟩);rintro⟨M,t,f⟩;have k:L.length<M.length:=by rw[f,aiy]at a;exact a
   refine u M[L.length] (t _ (aiL k)) ?_;simp only[f,List.getElem_map]
  rcases aee l[L.length] (by have:=p _ g;omega) with⟨m,c,B,_⟩|⟨z,c⟩
  ·rw[c,ahI];dsimp only;rw[QU m (by omega),ahI];by_cases i:Lib.decDigits m=l[L.length]
   ·rw[show(!(Lib.decDigits m==l[L.length]))=false from by rw[i];simp,ahQ,show IntKind.wrap .u32 (m:Int)=(m:Int) from by rw[ajQ];omega,gK (by omega) (by simp only[cj,aiy,ahP,ah9];omega),ahI,dD (by omega)];refine v _ ⟨L++[m],?_,by simp;omega,?_,?_⟩ ?_
    ·intro x p;rcases aiv.1 p with h|h
     ·exact q x h
     ·simp at h;omega
    ·rw[ahN,ajg,o,<-i];simp
    ·simp[cj]
    ·show l.length-(((L.length+1:Nat):Int)).toNat<l.length-((L.length:Int)).toNat;omega
   ·rw[show(!(Lib.decDigits m==l[L.length]))=true from by simpa using i,cond_true];refine d λj b e=>i ?_;rw[e,Mm j b]at c;simp only[ahM,Sum.inl.injEq]at c;rw[e,show m=j from by omega]
  ·rw[c,ahI];refine d λj b e=> ?_;rw[e,Mm j b]at c;simp at c
 ·rw[ahL (by omega:¬(L.length:Int)<(l.length:Int)),ahQ];refine aa (.inl ⟨L,q,?_,rfl⟩);rw[<-r,aih (by omega)]
def X7{N:Nat}(j:FN N)(s:Bs)(f:s.length<10000000):OW (gp N s) λr=>(∃L,ma s L/\r=(cj L,0))∨(r=([],11)/\¬∃L,ma s L):=by
 unfold FN at j;unfold gp syv;obtain⟨l,b,n,i⟩:=Oa s (by omega);have c:l=Lib.split s [46]:=by
  unfold gW at b;rw[show Nat.blt s.length 4294967281=true from aiH (by omega)]at b;exact(aiM b).symm
 rw[b,ahI];refine aj (ae0 N l (by omega) (λx m=>by have:=i x m;omega) N (l,(l.length:Int),0,[]) ⟨[],by simp,by simp,by simp,rfl⟩ (by show l.length-0<N;omega)) ?_;rintro y (⟨L,g,h,rfl⟩|⟨rfl,k⟩)
 ·dsimp only;rw[OG,ahI];have f:s=Lib.join (L.map Lib.decDigits) [46]:=by rw[<-h,c,VQ]
  cases d:uR L
  ·refine aa (.inr ⟨rfl,?_⟩);rintro⟨M,a⟩;have e:L=M:=KJ g a.2.1 (by rw[<-a.split,<-h,c]);rw[e,a.1]at d;cases d
  ·exact aa (.inl ⟨L,⟨d,g,f⟩,rfl⟩)
 ·refine aa (.inr ⟨rfl,?_⟩);rintro⟨M,a⟩;exact k ⟨M,a.2.1,by rw[c,a.split]⟩
noncomputable def ofP(p:Prop):Bool:= @decide p (Classical.propDecidable p)
def tp{p:Prop}:ofP p=true↔p:= @decide_eq_true_iff p (Classical.propDecidable p)
noncomputable def jY(s:Bs):Bool:=ofP (∃L,ma s L)
def mF{s:Bs}:jY s=true↔∃L,ma s L:=tp
def BR{N:Nat}(c:FN N)(s:Bs)(d:s.length<10000000):eP N s=some (jY s):=by
 unfold eP syv;obtain⟨r,h,a⟩:=X7 c s d;rw[h,ahI];rcases a with⟨L,b,rfl⟩|⟨rfl,a⟩
 ·rw[mF.2 ⟨L,b⟩];rfl
 ·have:jY s=false:=by
   cases h:jY s with
   |false=>rfl
   |true=>exact absurd (mF.1 h) a
  rw[this];rfl
end Go.Fw
namespace Go.Fw
open Go
def b7:Nat->Nat->List UInt8
 |0,_=>[]
 |f+1,n=>if n=0 then [] else UInt8.ofNat (n % 128+128)::b7 f (n / 128)
def Mt:∀(f n:Nat),(b7 f n).length<=f
 |0,_=>ahS _
 |f+1,n=>by
  unfold b7;split
  ·simp
  ·simp only[ahP];have:=Mt f (n / 128);omega
def T9:∀(f n:Nat),n<128 ^ f->b7 (f+1) n=b7 f n
 |0,n,h=>by
  have:n=0:=by simpa using h
  subst this;rfl
 |f+1,n,h=>by
  unfold b7;split
  ·rfl
  ·rw[T9 f (n / 128) (by rw[akl]at h;omega)]
def hi7(n:Nat):List UInt8:=(b7 5 n).reverse
def ga(n:Nat):List UInt8:=hi7 (n / 128)++[UInt8.ofNat (n % 128)]
def KK(n d:Nat)(hd:d<128)(b:n<268435456)(a:n*128+d≠0):hi7 (n*128+d)=hi7 n++[UInt8.ofNat (d+128)]:=by
 unfold hi7;rw[show b7 5 (n*128+d)=UInt8.ofNat ((n*128+d) % 128+128)::b7 4 ((n*128+d) / 128) from by rw[b7,air a],akX,show(n*128+d) / 128=n from by omega,show(n*128+d) % 128=d from by omega,T9 4 n (by omega)]
def AQ:hi7 0=[]:=rfl
def Fv(n:Nat):bits .and .u32 (n:Int) 127=((n % 128:Nat):Int):=by
 show IntKind.u32.wrap (((BitVec.ofInt 32 (n:Int))&&& (BitVec.ofInt 32 127)).toNat:Int)=_;rw[BitVec.toNat_and,aj6,show(BitVec.ofInt 32 127).toNat=2 ^ 7-1 from rfl,Nat.and_two_pow_sub_one_eq_mod,ajQ];omega
def Yb(n:Nat)(h:n<128):bits .or .u32 (n:Int) 128=((n+128:Nat):Int):=by
 show IntKind.u32.wrap (((BitVec.ofInt 32 (n:Int))|||(BitVec.ofInt 32 128)).toNat:Int)=_;rw[alB,aj6,show(BitVec.ofInt 32 128).toNat=1<<<7 from rfl,show((n:Int) % ((2 ^ 32:Nat):Int)).toNat=n from by omega,Nat.or_comm,<-akh (by omega:n<2 ^ 7),ajQ];omega
def V2(n:Nat):wj .u32 (n:Int) 7=((n / 128:Nat):Int):=by
 show(n:Int).fdiv (2 ^ (7:Nat))=_;rw[akx _ (by decide)];omega
def Yc(N:Nat)(l:Bs):∀(f a n:Nat)(acc:List UInt8),a<128 ^ f->f<n->acc.length+f<1000->cA N n ((a:Int),l,acc)=some (l,acc++b7 f a):=by
 intro f;induction f with
 |zero=>
  intro a n acc b d _;obtain⟨n,rfl⟩:∃m,n=m+1:=⟨n-1,by omega⟩;have:a=0:=by simpa using b
  subst this;show some (l,acc)=_;simp[b7]
 |succ f e=>
  intro a n acc b d g;obtain⟨n,rfl⟩:∃m,n=m+1:=⟨n-1,by omega⟩;show(bif decide ((a:Int)>0) then _ else _)=_;by_cases c:a=0
  ·subst c;simp[b7]
  ·rw[ahO (by omega:(a:Int)>0),ahY,Fv,Yb _ (by omega),nR,ahI,gK (by omega) (by simp;omega),ahI,V2];refine(e (a / 128) n _ (by rw[akl]at b;omega) (by omega) (by simp;omega)).trans ?_;simp[b7,c,show(a % 128+128) % 256=a % 128+128 from by omega]
def ae7(N:Nat)(l:Bs):∀(f a n:Nat)(acc:List UInt8),a<128 ^ f->f<n->acc.length+f<1000->cC N n ((a:Int),l,acc)=some (l,acc++b7 f a):=by
 have e:cC N=cA N:=by unfold cC cA syv;rfl
 rw[e];exact Yc N l
def aaK(i:Int)(n:Nat):(decide (i>=0)&&decide ((n:Int)>i))=inb i n:=rfl
def Yd(N:Nat)(l:Bs):∀(n:Nat)(i j:Int)(m:Bs),cB N n (i,j,l,m)=(aN N n (i,j,m)).map λr=>(l,r):=by
 intro n;induction n with
 |zero=>intro i j m;rfl
 |succ n d=>
  intro i j m;rw[QM];show(bif decide (i<j) then _ else _)=_;dsimp only;simp only[aaK];cases decide (i<j)
  ·rfl
  ·rw[ahY,ahY];cases inb j m.length
   ·rfl
   ·rw[ahY,ahY];cases ix m j with
    |none=>rfl
    |some b=>
    rw[ahI,ahI];cases inb i m.length
    ·rfl
    ·rw[ahY,ahY];cases ix m i with
     |none=>rfl
     |some a=>
     rw[ahI,ahI];simp only[ahY];cases toB (b.toNat:Int) with
     |none=>rfl
     |some c=>
     rw[ahI,ahI];cases inb j (m.set (Int.toNat i) c).length
     ·rfl
     ·simp only[ahY];cases toB (a.toNat:Int) with
      |none=>rfl
      |some e=>
      rw[ahI,ahI];exact d _ _ _
def Ua(N:Nat)(a:FN N)(m:Bs)(b:m.length<=100):aN N N (0,aU .i64 (m.length:Int) 1,m)=some m.reverse:=by
 unfold FN at a;have h:=Tj N 101 m [] [] N (by omega) (by omega) (by simp;omega);simp only[aiw,ah6,ah9,aiA]at h;rw[qr (by omega),show(0:Int)=((0:Nat):Int) from rfl];exact h
def ae8(N:Nat)(l:Bs):∀(n:Nat)(i j:Int)(m:Bs),cD N n (i,j,l,m)=(aN N n (i,j,m)).map λr=>(l,r):=by
 have e:cD N=cB N:=by unfold cD cB syv;rfl
 rw[e];exact Yd N l
def KM(n:Nat):(ga n).length<=6:=by
 unfold ga hi7;have:=Mt 5 (n / 128);simp;omega
def ac1(N:Nat)(h:FN N)(acc:Bs)(n:Nat)(l:n<=4294967295)(k:Bs->Option Bs)(j:acc.length<=900000000):
 ((toB (IntKind.wrap .u8 (bits .and .u32 (n:Int) 127))).bind λb=>(cC N N (wj .u32 (n:Int) 7,acc,[b])).bind λ(d,a)=>(cD N N (0,aU .i64 (a.length:Int) 1,d,a)).bind λ(e,f)=>(app 1 e f).bind λg=>k g)=k (acc++ga n):=by
 have c:=h;unfold FN at c;have i:=Mt 5 (n / 128);rw[Fv,nR,ahI,V2,ae7 N acc 5 (n / 128) N _ (by omega) (by omega) (by simp),ahI];dsimp only;rw[ae8,Ua N h _ (by simp;omega),ai7,ahI];dsimp only;rw[gK (by omega) (by simp;omega),ahI];congr 2;simp[ga,hi7,show n % 128 % 256=n % 128 from by omega]
def Ye(N:Nat)(h:FN N){α:Type}(n:Nat)(j:n<=4294967295)(k:Bs->Option α):
 ((toB (IntKind.wrap .u8 (bits .and .u32 (n:Int) 127))).bind λb=>(cA N N (wj .u32 (n:Int) 7,[],[b])).bind λ(d,a)=>(cB N N (0,aU .i64 (a.length:Int) 1,d,a)).bind λ(e,f)=>(app 1 e f).bind λg=>k g)=k (ga n):=by
 have c:=h;unfold FN at c;have i:=Mt 5 (n / 128);rw[Fv,nR,ahI,V2,Yc N [] 5 (n / 128) N _ (by omega) (by omega) (by simp),ahI];dsimp only;rw[Yd,Ua N h _ (by simp;omega),ai7,ahI];dsimp only;rw[gK (by omega) (by simp;omega),ahI];congr 1;simp[ga,hi7,show n % 128 % 256=n % 128 from by omega]
def Cq:List Nat->Bs
 |a::b::r=>ga (40*a+b)++(r.map ga).flatten
 |_=>[]
def ae9(N:Nat)(d:FN N)(s:List Nat)(r:s.length<=100000000)(l:∀x∈s,x<=4294967295):∀(k n i:Nat)(acc:Bs),s.length-i=k->k<n->i<=s.length->acc.length<=6*(i+1)->
 dE N n (cj s,((cj s).length:Int),(i:Int),acc)=some (acc++((s.drop i).map ga).flatten):=by
 have f:(cj s).length=s.length:=by simp[cj]
 intro k;induction k with
 |zero=>
  intro n i acc h j g e;obtain⟨n,rfl⟩:∃m,n=m+1:=⟨n-1,by omega⟩;show(bif decide ((i:Int)<((cj s).length:Int)) then _ else _)=_;rw[ahL (by omega),ahQ,aip (by omega)];simp
 |succ k p=>
  intro n i acc h j g e;obtain⟨n,rfl⟩:∃m,n=m+1:=⟨n-1,by omega⟩;have a:i<s.length:=by omega
  have o:ix (cj s) (i:Int)=some (s[i]:Int):=by
   refine de ?_;simp[cj,a]
  have b:=l s[i] (aiL a);show(bif decide ((i:Int)<((cj s).length:Int)) then _ else _)=_;rw[ahO (by omega),ahY,o,ahI,ac1 N d acc _ b _ (by omega),dD (by omega)];have q:=KM s[i];have c:=p n (i+1) (acc++ga s[i]) (by omega) (by omega) (by omega) (by simp;omega);refine c.trans ?_;rw[aii a,ahX,aif,<-aia]
def ac2{N:Nat}(d:FN N)(s:Bs)(C:s.length<10000000):(∀L,ma s L->dI N s=some (Cq L,0))/\(jY s=false->dI N s=some ([],8)):=by
 have k:=d;unfold FN at k;obtain⟨r,h,c⟩:=X7 d s C;refine⟨λL i=> ?_,λo=> ?_⟩
 ·rcases c with⟨M,j,rfl⟩|⟨_,c⟩
  ·have e:=i.uniq j;subst e;obtain⟨f,g,n⟩:=i
   match L,f,g,n,h with
   |a::b::t,f,g,n,h=>
   have E:a<=2/\(a<2->b<40)/\(¬a<2->b<=4294967215):=ail f;have p:t.length<=s.length:=by
    have A:(a::b::t).length<=s.length+2:=by
     obtain⟨l,q1,q,_⟩:=Oa s (by omega);have B:l=Lib.split s [46]:=by
      unfold gW at q1;rw[show Nat.blt s.length 4294967281=true from aiH (by omega)]at q1;exact(aiM q1).symm
     have w:=(show ma s (a::b::t) from⟨f,g,n⟩).split;rw[B,w,aiy]at q;exact q
    simp only[ahP]at A;omega
   unfold dI syv;rw[h,ahI];dsimp only;have u:ix (cj (a::b::t)) 0=some (a:Int):=rfl;have v:ix (cj (a::b::t)) 1=some (b:Int):=rfl;have y:aw .u32 (lm .u32 40 (a:Int)) (b:Int)=((40*a+b:Nat):Int):=by
    show IntKind.u32.wrap (IntKind.u32.wrap (40*(a:Int))+(b:Int))=_;rw[ajQ,ajQ];omega
   rw[show((0:Int) !=0)=false from rfl,ahQ,u,v,ahI,ahI,y,Ye N d _ (by omega)];have m:slc (cj (a::b::t)) 2 ((cj (a::b::t)).length:Int)=some (cj t):=by
    unfold slc;rw[ah2 ⟨by omega,by simp only[cj,aiy,ahP];omega,by omega⟩,aiP,aih (ahS _)];rfl
   rw[m,ahI];have F:=KM (40*a+b);have z:=ae9 N d t (by omega) (λx D=>g x (by simp[D])) t.length N 0 (ga (40*a+b)) (by omega) (by omega) (by omega) (by omega);rw[show dE N N (cj t,((cj t).length:Int),0,ga (40*a+b))=_ from z,ahI];rfl
  ·exact absurd ⟨L,i⟩ c
 ·rcases c with⟨M,j,rfl⟩|⟨rfl,c⟩
  ·rw[mF.2 ⟨M,j⟩]at o;cases o
  ·unfold dI syv;rw[h,ahI];rfl
end Go.Fw
