/- A framework for proofs about Go programs in this model: part W. Everything is proved; no condition is added. -/
import Derived.Test.YtlicgchfbhkelaaGreatDoorFwV
set_option linter.unusedVariables false
set_option linter.unusedSimpArgs false
set_option linter.defProp false
namespace Go.Fw
open Go Go.Proofs.Tryz
noncomputable section
set_option maxRecDepth 100000
set_option maxHeartbeats 0
attribute [local irreducible] ix app slc fM toB agree jO jP jN mz gW bE bZ cg cy dV bq aZ bS aM dO eB gp eP cG aQ bK aW bu aX bO cb eV cz dt cp cq cA cB cC cD dE dI aB aC aO bP bx aN cQ fI eW aD aH bW bM dL cR cr aq aA du bp cO ba bQ ed dw bj cf eY ig gi gj dW dM bY cE bo dA cw cn bR bF bz bX br aF eO ii bg eH cm gb fj aI aK aP gd bA cJ aR aJ aT cX cF bt fo fq bh be eg cK eD ge gg dJ gy ey fu dX dK fB cu bv dq cT gP cS eZ dP dQ em dR eI dZ bL cP gY dS gk fF gZ eQ iu iD fD fv fw eR dY iV lK jQ jf ez eK cL gu mb nO ec dT gz gQ fc fy cY jR gN gO ij fN jv ku iW iM lg lh il gv jS kh bw bJ aY kW lC gV jw jy jz jA kw gm gI gF fO fP fV pm im iF ki li iQ
def wS:AD B0:=⟨204,(c1 [C3]),[hc0],(.tup [hc4,hc5])⟩
@[local irreducible] noncomputable def iX(N:Nat)(a:Bs):Y25:=syv N (wS.go (a))
def G6:KC B0:=gA wS (iX NN) (by kernel_rfl)
def qi:AD B0:=⟨229,(c1 []),[],(.agg [.func (.func 304) [] [],.func (.func 305) [] []])⟩
@[local irreducible] noncomputable def iY:Option Unit:=syv NN (qi.go ())
def zX:KC B0:=gA qi (λ_=>iY) (by kernel_rfl)
def qY:AD B0:=⟨304,(c1 [pL]),[dr,hc0],(.tup [adK,ay])⟩
@[local irreducible] noncomputable def jp(N:Nat)(a:Bs)(a2:Bs):Option ((Bs×Y27)×Bool):=syv N (qY.go (a,a2))
def AV:KC B0:=gA qY (u2 (jp NN)) (by kernel_rfl)
def mL:AD B0:=⟨306,(c1 [bc,bV,jK,AV]),[.agg [.func (.func 304) [] [],.func (.func 305) [] []],hc0],(.tup [adK,ay])⟩
@[local irreducible] noncomputable def eL(N:Nat)(a:Bs):Option ((Bs×Y27)×Bool):=syv N (mL.go (a))
def sh:KC B0:=gA mL (eL NN) (by kernel_rfl)
def jB(L:List (KL B0)):Ctx B0:=⟨[bc,sh],[],[],L,.nil⟩
def lG:LD:=⟨231,6,0,⟨[(1,hc0),(2,.ptr 0 0),(5,.ptr 1 0),(8,.own 3),(22,ic),(23,hc4),(24,hc4)],[.cells [.func (.func 304) [] [],.func (.func 305) [] []] false,oo5,.junk,.arr MM false false]⟩,[(.ret,⟨[(4,vN),(5,.ptr 1 0)],[.junk,oo6,.junk,.junk]⟩),(.exit 0,⟨[(1,hc0),(5,.ptr 1 0),(8,.own 3)],[.junk,oo5,.junk,.arr MM false false]⟩)]⟩
@[local irreducible] noncomputable def eN(N n:Nat):(Bs×Y22×Int×Int×Y46)->Option ((Int)⊕(Bs×Y46)):=Nat.rec (λ_=>none) (λ_ L x=>syv N (lG.round (jB []).cxs L x)) n
def pT:KL B0:=gL (jB []) lG (eN NN) (by kernel_rfl)
def mn:AD B0:=⟨231,(jB [pT]),[.agg [.func (.func 304) [] [],.func (.func 305) [] []],hc0],(.tup [YH,hc5])⟩
@[local irreducible] noncomputable def fJ(N:Nat)(a:Bs):Option (Y46×Y3):=syv N (mn.go (a))
def rn:KC B0:=gA mn (fJ NN) (by kernel_rfl)
def C4:AD B0:=⟨164,(c1 [zX,rn]),[hc0],(.tup [YH,hc5])⟩
@[local irreducible] noncomputable def kx(N:Nat)(a:Bs):Option (Y46×Y3):=syv N (C4.go (a))
def M3:KC B0:=gA C4 (kx NN) (by kernel_rfl)
def wy{α:Type}(T:Int)(U:Bs)(S:Bool)(p:Option (α×Y3))(f:α->Y3->Option (Int×Bs×Bool×Bs×Int×Y11×Y30×Bool×Bs×Y30×Bs×Bool×Bool×Int×Bool×Int×Bool×Int×Y38×Y1×Y30×Y30×List Y37×Y30×Y1×Bool×Bool×Bool×Bool×Int×Y46×Y24×Int×Int×Y5)):Option (Y47×Y3):=
 agree (List.replicate 2 (p.bind λ(l,a)=>bif (a.1==0) then f l a else some (T,U,S,[],0,[],[],false,[],[],[],false,false,0,false,0,false,0,[],[],[],[],[],[],[],false,false,false,false,0,[],[],0,0,0,0,0,0,a))) λ(o,R,c,C,q,D,E,d,F,G,H,e,g,r,h,s,i,t,I,J,K,L,M,N,O,j,k,m,n,u,P,Q,v,w,x,y,z,A,b,B)=>
 bif (b !=0) then(
 some ((0,[],false,[],0,[],[],(false,[],[],[]),(false,false,0),(false,0,false,0),[],[],([],[]),[],([],[],false,false,false,false,0),[],[],0,0,0,0,0,0),b,B))
 else
 some ((o,R,c,C,q,D,E,(d,F,G,H),(e,g,r),(h,s,i,t),I,J,(K,L),M,(N,O,j,k,m,n,u),P,Q,v,w,x,y,z,A),0,0)
def jC(N:Nat)(i:Y7):Option (Y47×Y3):=
 (dA N i).bind λc1=>
 bif (!c1) then(
 some ((0,[],false,[],0,[],[],(false,[],[],[]),(false,false,0),(false,0,false,0),[],[],([],[]),[],([],[],false,false,false,false,0),[],[],0,0,0,0,0,0),8,0))
 else
 (cg i.1).bind λi2=>
 ((
 bif (i2==0) then(
 some (i.1,i.2.1,i.2.2,i2,i.1,i.2.1))
 else
 some (i.1,i.2.1,i.2.2,i2,[],i.2.1):Option (Bs×Bool×Bs×Int×Bs×Bool))).bind λ(q,p,d,a,c,b)=>
 bif (a==0) then(
 wy a c b (cw d) λl9 A9=>
 some (a,c,b,l9,0,[],[],false,[],[],[],false,false,0,false,0,false,0,[],[],[],[],[],[],[],false,false,false,false,0,[],[],0,0,0,0,0,0,A9))
 else
 bif (a==9) then(
 wy a c b (cX N d) λA7 B1=>
 some (a,c,b,[],0,[],[],false,[],[],[],false,false,0,false,0,false,0,[],[],[],[],[],[],[],false,false,false,false,0,[],A7,0,0,0,0,0,0,B1))
 else
 bif (a==14) then(
 wy a c b (cF N d) λA8 B2=>
 some (a,c,b,A8,0,[],[],false,[],[],[],false,false,0,false,0,false,0,[],[],[],[],[],[],[],false,false,false,false,0,[],[],0,0,0,0,0,0,B2))
 else
 bif (a==15) then(
 wy a c b (eg N d) λG x8=>
 some (a,c,b,[],G,[],[],false,[],[],[],false,false,0,false,0,false,0,[],[],[],[],[],[],[],false,false,false,false,0,[],[],0,0,0,0,0,0,x8))
 else
 bif (a==17) then(
 wy a c b (bL N d) λm7 x9=>
 some (a,c,b,[],0,[],m7,false,[],[],[],false,false,0,false,0,false,0,[],[],[],[],[],[],[],false,false,false,false,0,[],[],0,0,0,0,0,0,x9))
 else
 bif (a==18) then(
 wy a c b (bL N d) λm8 y0=>
 some (a,c,b,[],0,[],m8,false,[],[],[],false,false,0,false,0,false,0,[],[],[],[],[],[],[],false,false,false,false,0,[],[],0,0,0,0,0,0,y0))
 else
 bif (a==19) then(
 wy a c b (iu N d) λj y3=>
 agree (List.replicate 2 (
 some (q,p,d,a,c,b,j.1,j.2.1,j.2.2,y3):Option (Bs×Bool×Bs×Int×Bs×Y48))) λ(C5,B3,B9,H,u7,r,s,t,I,J,K)=>
 some (H,u7,r,[],0,[],[],false,[],[],[],s,t,I,false,0,false,0,[],[],[],[],[],[],[],false,false,false,false,0,[],[],0,0,0,0,0,0,J,K))
 else
 bif (a==20) then(
 wy a c b (dY N d) λm9 y4=>
 some (a,c,b,m9,0,[],[],false,[],[],[],false,false,0,false,0,false,0,[],[],[],[],[],[],[],false,false,false,false,0,[],[],0,0,0,0,0,0,y4))
 else
 bif (a==21) then(
 wy a c b (jf N d) λL y5=>
 some (a,c,b,[],L,[],[],false,[],[],[],false,false,0,false,0,false,0,[],[],[],[],[],[],[],false,false,false,false,0,[],[],0,0,0,0,0,0,y5))
 else
 bif (a==24) then(
 wy a c b (gu N d) λf y7=>
 agree (List.replicate 2 (
 some (q,p,d,a,c,b,f.1,f.2.1,f.2.2.1,f.2.2.2.1,f.2.2.2.2.1,f.2.2.2.2.2,y7):Option (Bs×Bool×Bs×Int×Bs×Bool×Int×Int×Y5))) λ(C6,B4,C0,M,w8,u,O,P,Q,R,S,T,U,V)=>
 some (M,w8,u,[],0,[],[],false,[],[],[],false,false,0,false,0,false,0,[],[],[],[],[],[],[],false,false,false,false,0,[],[],O,P,Q,R,S,T,U,V))
 else
 bif (a==27) then(
 wy a c b (dY N d) λn6 y8=>
 some (a,c,b,n6,0,[],[],false,[],[],[],false,false,0,false,0,false,0,[],[],[],[],[],[],[],false,false,false,false,0,[],[],0,0,0,0,0,0,y8))
 else
 bif (a==28) then(
 wy a c b (fN N d) λe y9=>
 agree (List.replicate 2 (
 some (q,p,d,a,c,b,e.1,e.2.1,e.2.2.1,e.2.2.2.1,e.2.2.2.2.1,e.2.2.2.2.2.1,e.2.2.2.2.2.2,y9):Option (Bs×Bool×Bs×Int×Bs×Bool×Y30×Y1×Bool×Y48))) λ(C7,B5,C1,W,w9,v,n7,n8,w,x,y,z,X,Y,Z)=>
 some (W,w9,v,[],0,[],[],false,[],[],[],false,false,0,false,0,false,0,[],[],[],[],[],n7,n8,w,x,y,z,X,[],[],0,0,0,0,0,0,Y,Z))
 else
 bif (a==29) then(
 wy a c b (bL N d) λn9 z6=>
 some (a,c,b,[],0,[],n9,false,[],[],[],false,false,0,false,0,false,0,[],[],[],[],[],[],[],false,false,false,false,0,[],[],0,0,0,0,0,0,z6))
 else
 bif (a==30) then(
 wy a c b (iM N d) λk z7=>
 agree (List.replicate 2 (
 some (q,p,d,a,c,b,k.1,k.2,z7):Option (Bs×Bool×Bs×Int×Bs×Bool×Y30×Y30×Y3))) λ(C8,B6,C2,j3,x5,A,o7,o8,j4,j5)=>
 some (j3,x5,A,[],0,[],[],false,[],[],[],false,false,0,false,0,false,0,[],[],o7,o8,[],[],[],false,false,false,false,0,[],[],0,0,0,0,0,0,j4,j5))
 else
 bif (a==31) then(
 wy a c b (gv N d) λo9 z8=>
 some (a,c,b,[],0,[],[],false,[],[],[],false,false,0,false,0,false,0,[],[],[],[],o9,[],[],false,false,false,false,0,[],[],0,0,0,0,0,0,z8))
 else
 bif (a==32) then(
 wy a c b (kw N d) λp7 A0=>
 some (a,c,b,[],0,[],[],false,[],[],[],false,false,0,false,0,false,0,p7,[],[],[],[],[],[],false,false,false,false,0,[],[],0,0,0,0,0,0,A0))
 else
 bif (a==33) then(
 wy a c b (fV N d) λp8 A1=>
 some (a,c,b,[],0,[],[],false,[],[],[],false,false,0,false,0,false,0,[],p8,[],[],[],[],[],false,false,false,false,0,[],[],0,0,0,0,0,0,A1))
 else
 bif (a==35) then(
 wy a c b (O4 N d) λg A2=>
 agree (List.replicate 2 (
 some (q,p,d,a,c,b,g.1,g.2.1,g.2.2.1,g.2.2.2,A2):Option (Bs×Bool×Bs×Int×Bs×Bool×Bool×Bs×Y30×Bs×Y3))) λ(C9,B7,C3,j6,x6,B,C,p9,r9,t7,j7,j8)=>
 some (j6,x6,B,[],0,[],[],C,p9,r9,t7,false,false,0,false,0,false,0,[],[],[],[],[],[],[],false,false,false,false,0,[],[],0,0,0,0,0,0,j7,j8))
 else
 bif (a==36) then(
 wy a c b (iF N d) λh A3=>
 agree (List.replicate 2 (
 some (q,p,d,a,c,b,h.1,h.2.1,h.2.2.1,h.2.2.2,A3):Option (Bs×Bool×Bs×Int×Bs×Bool×Bool×Int×Bool×Int×Y3))) λ(D0,B8,C4,j9,x7,D,E,k8,F,k9,l0,m5)=>
 some (j9,x7,D,[],0,[],[],false,[],[],[],false,false,0,E,k8,F,k9,[],[],[],[],[],[],[],false,false,false,false,0,[],[],0,0,0,0,0,0,l0,m5))
 else
 bif (a==37) then(
 wy a c b (li N d) λt8 A4=>
 some (a,c,b,[],0,t8,[],false,[],[],[],false,false,0,false,0,false,0,[],[],[],[],[],[],[],false,false,false,false,0,[],[],0,0,0,0,0,0,A4))
 else
 bif (a==46) then(
 wy a c b (gv N d) λu0 A5=>
 some (a,c,b,[],0,[],[],false,[],[],[],false,false,0,false,0,false,0,[],[],[],[],u0,[],[],false,false,false,false,0,[],[],0,0,0,0,0,0,A5))
 else
 bif (a==54) then(
 wy a c b (iX N d) λm6 A6=>
 some (a,c,b,[],m6,[],[],false,[],[],[],false,false,0,false,0,false,0,[],[],[],[],[],[],[],false,false,false,false,0,[],[],0,0,0,0,0,0,A6))
 else
 bif (a==101) then(
 wy a c b (kx N d) λl n=>
 some (a,c,b,[],0,[],[],false,[],[],[],false,false,0,false,0,false,0,[],[],[],[],[],[],[],false,false,false,false,0,l,[],0,0,0,0,0,0,n))
 else
 bif (a==111) then(
 wy a c b (kx N d) λm o=>
 some (a,c,b,[],0,[],[],false,[],[],[],false,false,0,false,0,false,0,[],[],[],[],[],[],[],false,false,false,false,0,m,[],0,0,0,0,0,0,o))
 else
 wy a c b (none:Option (Unit×Y3)) λ_ _=>none
def I6:Tr cI:=(.node (.node (.node (.node .nil 7381979140 [(.normal,⟨[(1,.ptr 0 0),(2,.ptr 1 0),(3,.ptr 2 0),(4,.ptr 3 0)],[tE,tF,oo5,.cells [hc4,dr,ay,vN,vZ,vN,vN,vF,vN,vN,vN,vF,vF,vZ,vF,vZ,vF,vZ,vN,vN,vN,vN,vN,vN,vN,vF,vF,vF,vF,vZ,vN,vN,vZ,vZ,vZ,vZ,vZ,vZ] false]⟩)] .nil) 1106893608967 [(.normal,⟨[(2,.ptr 1 0),(3,.ptr 2 0),(4,.ptr 3 0),(5,.ptr 4 0)],[.junk,tF,oo5,.cells [hc4,dr,ay,hc0,hc4,YE,na,ay,hc0,na,hc0,ay,ay,hc4,ay,hc4,ay,hc4,MQ,Uv,na,na,adI,na,hc2,ay,ay,ay,ay,hc4,YH,YF,hc4,hc4,hc4,hc4,hc4,hc4] false,oo0,.junk,.junk,.junk]⟩)] (.node .nil 1128368442371 [(.normal,⟨[(6,.ptr 6 0),(8,.ptr 8 0)],[tE,tF,oo5,adL,oo5,.junk,oo5,.junk,oo0]⟩)] .nil)) 1128368442883 [(.normal,⟨[(6,.ptr 6 0),(8,.ptr 8 0)],[tE,tF,oo5,adL,.dead,.junk,oo5,.junk,oo0]⟩)] (.node (.node .nil 1128569768963 [(.normal,⟨[(6,.ptr 6 0),(8,.ptr 8 0)],[tE,tF,oo5,adM,oo5,.junk,oo5,.junk,oo0]⟩)] .nil) 1128569769475 [(.normal,⟨[(6,.ptr 6 0),(8,.ptr 8 0)],[tE,tF,oo5,adM,.dead,.junk,oo5,.junk,oo0]⟩)] (.node .nil 1128771095555 [(.normal,⟨[(6,.ptr 6 0),(8,.ptr 8 0)],[tE,tF,oo5,adN,oo5,.junk,oo5,.junk,oo0]⟩)] .nil))) 1128771096067 [(.normal,⟨[(6,.ptr 6 0),(8,.ptr 8 0)],[tE,tF,oo5,adN,.dead,.junk,oo5,.junk,oo0]⟩)] (.node (.node (.node .nil 1128972422147 [(.normal,⟨[(6,.ptr 6 0),(8,.ptr 8 0)],[tE,tF,oo5,adO,oo5,.junk,oo5,.junk,oo0]⟩)] .nil) 1128972422659 [(.normal,⟨[(6,.ptr 6 0),(8,.ptr 8 0)],[tE,tF,oo5,adO,.dead,.junk,oo5,.junk,oo0]⟩)] (.node .nil 1129576401923 [(.normal,⟨[(6,.ptr 6 0),(8,.ptr 8 0)],[tE,tF,oo5,adP,oo5,.junk,oo5,.junk,oo0]⟩)] .nil)) 1129576402435 [(.normal,⟨[(6,.ptr 6 0),(8,.ptr 8 0)],[tE,tF,oo5,adP,.dead,.junk,oo5,.junk,oo0]⟩)] (.node (.node .nil 1129777728515 [(.normal,⟨[(6,.ptr 6 0),(8,.ptr 8 0)],[tE,tF,oo5,adQ,oo5,.junk,oo5,.junk,oo0]⟩)] .nil) 1129777729027 [(.normal,⟨[(6,.ptr 6 0),(8,.ptr 8 0)],[tE,tF,oo5,adQ,.dead,.junk,oo5,.junk,oo0]⟩)] .nil)))
def I7:KC B0:=gC 110 ⟨[xS,K8,UE,Gf,Gg,Ee,JT,pC,OU,Gl,OX,IY,Em,Lp,I1,M2,B7,O3,I5,O5,G6,M3],[],[],[],I6⟩ [hc3] (.tup [.hole MO,hc5]) (jC NN) (by kernel_rfl)
attribute [local irreducible] jC
def vW(L:List (KL B0)):Ctx B0:=⟨[I7],[],[],L,.nil⟩
def yk:LD:=⟨81,3,0,⟨[(4,.own 0),(9,sf),(10,hc4),(11,hc4)],[.arr MO false false]⟩,[(.ret,⟨[(2,vN),(3,hc4)],[.junk]⟩),(.exit 0,⟨[(4,.own 0)],[.arr MO false false]⟩)]⟩
@[local irreducible] noncomputable def mq(N n:Nat):(Y8×Int×Int×List Y47)->Option ((Int)⊕(List Y47)):=Nat.rec (λ_=>none) (λ_ L x=>syv N (yk.round (vW []).cxs L x)) n
def I8:KL B0:=gL (vW []) yk (mq NN) (by kernel_rfl)
def C5:AD B0:=⟨81,(vW [I8]),[sf],(.tup [.hole (.sl MO),hc4])⟩
@[local irreducible] noncomputable def mH(N:Nat)(a:Y8):Option (List Y47×Int):=syv N (C5.go (a))
def M4:KC B0:=gA C5 (mH NN) (by kernel_rfl)
def qj(L:List (KL B0)):Ctx B0:=⟨[xS],[],[],L,.nil⟩
def sU:LD:=⟨89,3,0,⟨[(0,sf),(3,.mp 0),(7,sf),(8,hc4),(9,hc4)],[.smap]⟩,[(.ret,⟨[(2,ay)],[.junk]⟩),(.exit 0,⟨[(0,sf)],[.junk]⟩)]⟩
@[local irreducible] noncomputable def iR(N n:Nat):(Y8×Y8×Y23)->Option ((Bool)⊕Y8):=Nat.rec (λ_=>none) (λ_ L x=>syv N (sU.round (qj []).cxs L x)) n
def C6:KL B0:=gL (qj []) sU (iR NN) (by kernel_rfl)
def wT:AD B0:=⟨89,(qj [C6]),[sf],ay⟩
@[local irreducible] noncomputable def ky(N:Nat)(a:Y8):Option Bool:=syv N (wT.go (a))
def qk:KC B0:=gA wT (ky NN) (by kernel_rfl)
def sV:AD B0:=⟨82,(c1 [qk]),[sf],ay⟩
@[local irreducible] noncomputable def iS(N:Nat)(a:Y8):Option Bool:=syv N (sV.go (a))
def C7:KC B0:=gA sV (iS NN) (by kernel_rfl)
def rI:AD B0:=⟨38,(c1 [lV,ra,UF,zH,tO,zJ,M4,C7]),[Uw],ay⟩
@[local irreducible] noncomputable def bT(N:Nat)(a:Y9):Option Bool:=syv N (rI.go (a))
def nQ:KC B0:=gA rI (bT NN) (by kernel_rfl)
def vu:AD B0:=⟨15,(c1 [wF,kV,nQ]),[MP],ay⟩
@[local irreducible] noncomputable def iI(N:Nat)(a:Y10):Option Bool:=syv N (vu.go (a))
def Gm:KC B0:=gA vu (iI NN) (by kernel_rfl)
end
end Go.Fw
