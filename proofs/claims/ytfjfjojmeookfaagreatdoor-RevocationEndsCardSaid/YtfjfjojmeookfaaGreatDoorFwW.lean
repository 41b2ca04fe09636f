/- A framework for proofs about Go programs in this model: part W. Everything is proved; no condition is added. -/
import Derived.Test.YtfjfjojmeookfaaGreatDoorFwV
set_option linter.unusedVariables false
set_option linter.unusedSimpArgs false
set_option linter.defProp false
namespace Go.Fw
open Go Go.Proofs.Tryz
noncomputable section
set_option maxRecDepth 100000
set_option maxHeartbeats 0
attribute [local irreducible] ix app slc fP toB agree jV jW jU ml ig bE bY cm dG bD ba aQ dT eI gt eV cJ aT bJ aU bp aW bO bZ fe cD dt cu cw cE cF cG cH dA dF aB aC aS bP bz aR cQ ff eM aI aE bV bL dN cR cy au az du bu cM bc bQ dR cN bq cb fM iw gm gn dZ dO cW cO bW bS bF bx bA bX bv aD eU iy bj eP cp gi ft aJ aN aK fI br cf aO aF aP cX cI cz fu fv bo bh ey cg dV fw fx dd ge eE fy ec dI fG cA bw dq cS iz cq eJ df dr dJ dW eQ em bK cP ii dX gp gj gJ ez gY ia eN eL fA eW ed jg lD jX iI dS eF cj fN kT mw ep dY gK gV fg fB cY jm gu gv gM eX iN jp jh iY kU kV iA gB jY j8 aZ bg aM jE kh gN iO iP iQ iR jr fh gR gP fQ fS f8 oS iB iS j9 kW jb im ib ir dP dL eG js jH mb mB jc ki jd eu iM fT f9 io eY kF iT lE gU bt ic dK jI
def wz:AD B0:=⟨41,(c1 [rP,CW,eR,I9]),[hc6],(.tup [hc0,hc3])⟩
@[local irreducible] noncomputable def ip(N:Nat)(a:Y13):Y10:=syv N (wz.go (a))
def wB:KC B0:=gA wz (ip NN) (by kernel_rfl)
def sH:AD B0:=⟨120,(c1 []),[ay],hc0⟩
@[local irreducible] noncomputable def lO(a:Bool):Option Bs:=syv NN (sH.go (a))
def CY:KC B0:=gA sH lO (by kernel_rfl)
def F8:Tr cB:=(.node .nil 5771369476 [(.normal,⟨[(1,.ptr 0 0),(5,.ptr 1 0),(6,.ptr 2 0),(7,.func (.func 119) [] [.ptr 2 0,.ptr 1 0])],[th,Qv,.cells [.own 3] false,.arr tc0 false false]⟩)] .nil)
def uQ:AD B0:=⟨86,⟨[tn,eR,CY,f7],[],[],[],F8⟩,[hc8],(.tup [hc0,hc3])⟩
@[local irreducible] noncomputable def li(N:Nat)(a:Y14):Y10:=syv N (uQ.go (a))
def F9:KC B0:=gA uQ (li NN) (by kernel_rfl)
def mX(L:List (KL B0)):Ctx B0:=⟨[pT,F9,f7],[],[],L,.nil⟩
def oT:LD:=⟨43,5,0,⟨[(4,.own 0),(12,hc9),(13,hc3),(14,hc3)],[.arr tc0 false false]⟩,[(.ret,⟨[(2,vN),(3,hc3)],[.junk]⟩),(.exit 0,⟨[(4,.own 0)],[.arr tc0 false false]⟩)]⟩
@[local irreducible] noncomputable def iL(N n:Nat):(Y44×Y18)->Option ((Int)⊕(List Bs)):=Nat.rec (λ_=>none) (λ_ L x=>syv N (oT.round (mX []).cxs L x)) n
def xn:KL B0:=gL (mX []) oT (iL NN) (by kernel_rfl)
def qF:AD B0:=⟨43,(mX [xn]),[hc9],(.tup [hc0,hc3])⟩
@[local irreducible] noncomputable def gG(N:Nat)(a:Y44):Y10:=syv N (qF.go (a))
def qG:KC B0:=gA qF (gG NN) (by kernel_rfl)
def ji(N:Nat)(b:Y45):Y10:=
 (aI N 0 false 2 [b.1]).bind λ(j,f)=>
 (app 24 [] [j]).bind λk=>
 (ip N b.2.1).bind λ(l,g)=>
 (app 24 k [l]).bind λh=>
 ((
 bif decide ((b.2.2.length:Int)>0) then(
 (gG N b.2.2).bind λ(m,i)=>
 (app 24 h [m]).bind λn=>
 some (ju (ju (ju 0 f) g) i,n))
 else
 some (ju (ju 0 f) g,h):Option (Int×Y2))).bind λ(a,d)=>
 bif (a !=0) then(
 some ([],a))
 else
 (aE N d).bind λ(e,c)=>
 some (e,c)
def GP:Tr cB:=(.node .nil 2818576387 [(.normal,⟨[(4,.ptr 1 0)],[.junk,JM,.arr tc0 false false]⟩)] .nil)
def GQ:KC B0:=gC 42 ⟨[eR,wB,qG,f7],[],[],[],GP⟩ [UC] (.tup [hc0,hc3]) (ji NN) (by kernel_rfl)
attribute [local irreducible] ji
def eg(N n:Nat):(Y46×Int×Int×Y52)->Option Y52:=Nat.rec (λ_=>none) (λ_ L (t,c,a,d,A,u,v,e,f,g,h,i,j,b,k,l,m,o,p,q,w,x,r,y,s,z)=>
 bif decide (a<c) then(
 (ix t a).bind λB=>
 (ji N B).bind λ(D,C)=>
 (app 24 z [D]).bind λE=>
 L (t,c,aq .i64 a 1,d,A,u,v,e,f,g,h,i,j,b,k,l,m,o,p,q,w,x,r,y,ju s C,E))
 else
 some (d,A,u,v,e,f,g,h,i,j,b,k,l,m,o,p,q,w,x,r,y,s,z)) n
def eA(N:Nat)(a:Y48):Y10:=
 (f9 N a).bind λc1=>
 bif (!c1) then(
 some ([],8))
 else
 ((
 bif decide (a.1>0) then(
 (iT N 1).bind λl2=>
 (aI N 0 false 2 [l2]).bind λ(l3,i4)=>
 (app 24 [] [l3]).bind λl5=>
 some (a.1,a.2.1.1,a.2.1.2,a.2.2.1,a.2.2.2.1.1,a.2.2.2.1.2.1,a.2.2.2.1.2.2.1,a.2.2.2.1.2.2.2.1,a.2.2.2.1.2.2.2.2.1,a.2.2.2.1.2.2.2.2.2,a.2.2.2.2.1,a.2.2.2.2.2.1.1,a.2.2.2.2.2.1.2.1,a.2.2.2.2.2.1.2.2.1,a.2.2.2.2.2.1.2.2.2.1,a.2.2.2.2.2.1.2.2.2.2.1,a.2.2.2.2.2.1.2.2.2.2.2,a.2.2.2.2.2.2.1,a.2.2.2.2.2.2.2,ju 0 i4,l5))
 else
 some (a.1,a.2.1.1,a.2.1.2,a.2.2.1,a.2.2.2.1.1,a.2.2.2.1.2.1,a.2.2.2.1.2.2.1,a.2.2.2.1.2.2.2.1,a.2.2.2.1.2.2.2.2.1,a.2.2.2.1.2.2.2.2.2,a.2.2.2.2.1,a.2.2.2.2.2.1.1,a.2.2.2.2.2.1.2.1,a.2.2.2.2.2.1.2.2.1,a.2.2.2.2.2.1.2.2.2.1,a.2.2.2.2.2.1.2.2.2.2.1,a.2.2.2.2.2.1.2.2.2.2.2,a.2.2.2.2.2.2.1,a.2.2.2.2.2.2.2,0,[]):Y53)).bind λ(i6,s7,l8,l9,h,i,j,k,l,m,g,n,o,p,q,r,s,m6,m7,y,q8)=>
 (gU N (s7,l8)).bind λ(q9,z)=>
 (app 24 q8 [q9]).bind λr9=>
 (fM N l9).bind λ(s6,A)=>
 (app 24 r9 [s6]).bind λs8=>
 (ip N (h,i,j,k,l,m)).bind λ(t7,B)=>
 (app 24 s8 [t7]).bind λm8=>
 ((
 bif g then(
 (ip N (n,o,p,q,r,s)).bind λ(t8,q6)=>
 (app 24 m8 [t8]).bind λu0=>
 some (i6,s7,l8,l9,h,i,j,k,l,m,g,n,o,p,q,r,s,m6,m7,ju (ju (ju (ju y z) A) B) q6,u0))
 else
 some (i6,s7,l8,l9,h,i,j,k,l,m,g,n,o,p,q,r,s,m6,m7,ju (ju (ju y z) A) B,m8):Y53)).bind λ(C,p8,m9,n6,D,E,F,G,H,I,t,J,K,L,M,O,P,b,n7,Q,n8)=>
 ((
 bif decide ((b.length:Int)>0) then(
 (eg N N (b,(b.length:Int),0,C,p8,m9,n6,D,E,F,G,H,I,t,J,K,L,M,O,P,b,n7,Q,n8,0,[])).bind λ(R,p9,n9,o7,S,T,U,V,W,X,u,Y,Z,f7,f8,j3,j4,o8,o9,j5,p7,j6,u7)=>
 bif (j6 !=0) then(
 (app 24 p7 ([[]])).bind λw8=>
 some (R,p9,n9,o7,S,T,U,V,W,X,u,Y,Z,f7,f8,j3,j4,o8,o9,ju j5 j6,w8))
 else
 (aE N u7).bind λ(w9,q7)=>
 (app 24 p7 [w9]).bind λx5=>
 some (R,p9,n9,o7,S,T,U,V,W,X,u,Y,Z,f7,f8,j3,j4,o8,o9,ju j5 q7,x5))
 else
 some (C,p8,m9,n6,D,E,F,G,H,I,t,J,K,L,M,O,P,b,n7,Q,n8):Y53)).bind λ(y4,A4,A2,A3,y5,y8,y9,z6,z7,z8,y3,A0,A1,x6,x7,x8,x9,y0,e,c,f)=>
 ((
 bif decide ((e.length:Int)>0) then(
 (gG N e).bind λ(j7,v)=>
 (aI N 2 true 0 [j7]).bind λ(j8,w)=>
 (app 24 f [j8]).bind λj9=>
 some (ju (ju c v) w,j9))
 else
 some (c,f):Option (Int×Y2))).bind λ(d,k9)=>
 bif (d !=0) then(
 some ([],d))
 else
 (aE N k9).bind λ(m5,x)=>
 some (m5,x)
def zC:Tr cB:=(.node (.node (.node .nil 1073745923 [(.normal,⟨[(1,.ptr 0 0),(4,.ptr 1 0)],[pG,JM,.arr tc0 false false]⟩)] .nil) 1073751043 [(.normal,⟨[(1,.ptr 0 0),(4,.ptr 1 0)],[pG,JM,.arr tc0 false false]⟩)] .nil) 1073753091 [(.normal,⟨[(1,.ptr 0 0),(4,.ptr 1 0)],[pG,JM,.arr tc0 false false]⟩)] (.node .nil 1073761283 [(.normal,⟨[(4,.ptr 1 0)],[.junk,JM,.arr tc0 false false]⟩)] .nil))
def pU(L:List (KL B0)):Ctx B0:=⟨[nB,I7,eR,uP,zi,wB,GQ,f7,qG],[],[],L,zC⟩
def wC:LD:=⟨16,14,0,⟨[(1,.ptr 0 0),(4,.ptr 1 0),(5,.ptr 3 0),(53,DU),(54,hc3),(55,hc3)],[pG,JM,.arr tc0 false false,.cells [.own 4,hc3] false,.arr tc0 false false]⟩,[(.exit 0,⟨[(1,.ptr 0 0),(4,.ptr 1 0),(5,.ptr 3 0)],[pG,JM,.arr tc0 false false,.cells [.own 4,hc3] false,.arr tc0 false false]⟩)]⟩
def wD:KL B0:=gL (pU []) wC (eg NN) (by kernel_rfl)
def zD:KC B0:=gC 16 (pU [wD]) [UD] (.tup [hc0,hc3]) (eA NN) (by kernel_rfl)
attribute [local irreducible] eg eA
def wF:AD B0:=⟨18,(c1 [nL,kz]),[MX],(.tup [hc0,hc3])⟩
@[local irreducible] noncomputable def kj(N:Nat)(a:Y1):Y10:=syv N (wF.go (a))
def GR:KC B0:=gA wF (kj NN) (by kernel_rfl)
def eB(N:Nat)(b:Y49):Y10:=
 (io N b).bind λc1=>
 bif (!c1) then(
 some ([],8))
 else
 (eA N b.1).bind λ(j,g)=>
 (app 24 [] [j]).bind λk=>
 (gU N b.2.1).bind λ(l,h)=>
 (app 24 k [l]).bind λm=>
 (kj N b.2.2).bind λ(n,i)=>
 (aI N 0 false 3 [n]).bind λ(d,a)=>
 (app 24 m [d]).bind λe=>
 bif (ju (ju (ju (ju 0 g) h) i) a !=0) then(
 some ([],ju (ju (ju (ju 0 g) h) i) a))
 else
 (aE N e).bind λ(f,c)=>
 some (f,c)
def tM:KC B0:=gC 7 (c1 [ww,zD,uP,GR,eR,f7]) [Ld] (.tup [hc0,hc3]) (eB NN) (by kernel_rfl)
attribute [local irreducible] eB
def n7:AD B0:=⟨53,(c1 []),[hc3,.func (.func 54) [] []],(.func (.func 96) [] [.rc [hc3] 0,.rc [.func (.func 54) [] []] 0])⟩
@[local irreducible] noncomputable def ie(a:Int):Option Int:=syv NN (n7.go (a))
def vz:KC B0:=gA n7 ie (by kernel_rfl)
def zE:AD B0:=⟨54,(c1 [xk]),[hc0],(.tup [hc3,hc3])⟩
@[local irreducible] noncomputable def oG(N:Nat)(a:Bs):Option Y4:=syv N (zE.go (a))
def J2:KC B0:=gA zE (oG NN) (by kernel_rfl)
def nc:AD B0:=⟨96,(c1 [dH,bR,J2]),[hc0,.rc [hc3] 0,.rc [.func (.func 54) [] []] 0],(.tup [hc3,hc4])⟩
@[local irreducible] noncomputable def fD(N:Nat)(a:Bs)(a2:Int):Y20:=syv N (nc.go (a,a2))
def tO:KC B0:=gA nc (u2 (fD NN)) (by kernel_rfl)
def wG:AD B0:=⟨63,(c1 []),[hc3,hc3],hc4⟩
@[local irreducible] noncomputable def pV(a:Int)(a2:Int):Option Y4:=syv NN (wG.go (a,a2))
def GS:KC B0:=gA wG (u2 pV) (by kernel_rfl)
end
end Go.Fw
namespace Go.Fw
open Go Go.Proofs.Tryz
noncomputable section
set_option maxRecDepth 100000
set_option maxHeartbeats 0
attribute [local irreducible] ix app slc fP toB agree jV jW jU ml ig bE bY cm dG bD ba aQ dT eI gt eV cJ aT bJ aU bp aW bO bZ fe cD dt cu cw cE cF cG cH dA dF aB aC aS bP bz aR cQ ff eM aI aE bV bL dN cR cy au az du bu cM bc bQ dR cN bq cb fM iw gm gn dZ dO cW cO bW bS bF bx bA bX bv aD eU iy bj eP cp gi ft aJ aN aK fI br cf aO aF aP cX cI cz fu fv bo bh ey cg dV fw fx dd ge eE fy ec dI fG cA bw dq cS iz cq eJ df dr dJ dW eQ em bK cP ii dX gp gj gJ ez gY ia eN eL fA eW ed jg lD jX iI dS eF cj fN kT mw ep dY gK gV fg fB cY jm gu gv gM eX iN jp jh iY kU kV iA gB jY j8 aZ bg aM jE kh gN iO iP iQ iR jr fh gR gP fQ fS f8 oS iB iS j9 kW jb im ib ir dP dL eG js jH mb mB jc ki jd eu iM fT f9 io eY kF iT lE gU bt ic dK jI ip lO li iL gG ji eg eA kj eB ie oG fD pV
def Ja:Tr cB:=(.node .nil 1677735940 [(.normal,⟨[(2,.ptr 0 0),(3,.ptr 1 0),(8,.ptr 3 0)],[.cells [dU,vN] false,oo0,.junk,JL]⟩),(.ret,⟨[(2,.ptr 0 0),(3,.ptr 1 0)],[.cells [dU,vN] false,oo0,.junk,.junk,.junk,.junk,.junk]⟩)] .nil)
def xW:AD B0:=⟨25,⟨[be,GS,bR,jR,lN,mE],[],[],[],Ja⟩,[hc0],(.tup [hc1,hc4])⟩
@[local irreducible] noncomputable def kQ(N:Nat)(a:Bs):Y24:=syv N (xW.go (a))
def xX:KC B0:=gA xW (kQ NN) (by kernel_rfl)
def xY:AD B0:=⟨99,(c1 [CG]),[hc0],(.tup [hc6,hc3])⟩
@[local irreducible] noncomputable def nN(N:Nat)(a:Bs):Option (Y13×Int):=syv N (xY.go (a))
def Jb:KC B0:=gA xY (nN NN) (by kernel_rfl)
def J3:Tr cB:=(.node (.node (.node .nil 3892320259 [(.normal,⟨[(2,.ptr 0 0),(3,.ptr 1 0),(4,.ptr 2 0),(5,hc3)],[mD,oo0,kC]⟩)] .nil) 3892322307 [(.normal,⟨[(2,.ptr 0 0),(3,.ptr 1 0),(4,.ptr 2 0),(5,hc3)],[mD,oo0,kC]⟩)] .nil) 3892324355 [(.normal,⟨[(2,.ptr 0 0),(3,.ptr 1 0),(4,.ptr 2 0),(5,hc3)],[mD,oo0,kC]⟩)] (.node .nil 3892326403 [(.normal,⟨[(2,.ptr 0 0),(3,.ptr 1 0)],[mD,oo0,.junk]⟩)] .nil))
def zF:AD B0:=⟨58,⟨[dH,bR,Jb,sw],[],[],[],J3⟩,[hc0],(.tup [hc6,hc4])⟩
@[local irreducible] noncomputable def ka(N:Nat)(a:Bs):Option (Y13×Y4):=syv N (zF.go (a))
def zH:KC B0:=gA zF (ka NN) (by kernel_rfl)
def nI:AD B0:=⟨129,(c1 []),[hc3,.func (.func 130) [] []],(.func (.func 146) [] [.rc [hc3] 0,.rc [.func (.func 130) [] []] 0])⟩
@[local irreducible] noncomputable def je(a:Int):Option Int:=syv NN (nI.go (a))
def ux:KC B0:=gA nI je (by kernel_rfl)
def uR:AD B0:=⟨130,(c1 [kE,lN]),[hc0],(.tup [hc0,hc3])⟩
@[local irreducible] noncomputable def pi(a:Bs):Y10:=syv NN (uR.go (a))
def Ga:KC B0:=gA uR pi (by kernel_rfl)
def mT:AD B0:=⟨146,(c1 [dH,bR,Ga]),[hc0,.rc [hc3] 0,.rc [.func (.func 130) [] []] 0],(.tup [hc0,hc4])⟩
@[local irreducible] noncomputable def gD(N:Nat)(a:Bs)(a2:Int):Y15:=syv N (mT.go (a,a2))
def s8:KC B0:=gA mT (u2 (gD NN)) (by kernel_rfl)
def Jc:Tr cB:=(.node .nil 8791271428 [(.normal,⟨[(0,hc0),(2,.ptr 0 0),(3,.ptr 1 0),(4,iu),(8,.ptr 3 0)],[YT,oo0,.junk,YT]⟩),(.ret,⟨[(2,.ptr 0 0),(3,.ptr 1 0)],[YT,oo0,.junk,.junk]⟩)] .nil)
def xZ:AD B0:=⟨131,⟨[be,bR,jR,qL,lN],[],[],[],Jc⟩,[hc0],(.tup [hc8,hc4])⟩
@[local irreducible] noncomputable def kR(N:Nat)(a:Bs):Option (Y14×Y4):=syv N (xZ.go (a))
def Jd:KC B0:=gA xZ (kR NN) (by kernel_rfl)
def n8(L:List (KL B0)):Ctx B0:=⟨[be,Jd,pT],[],[],L,.nil⟩
def pW:LD:=⟨103,6,0,⟨[(0,hc0),(3,.ptr 0 0),(6,.own 2),(20,iu),(21,hc3),(22,hc3)],[oo0,.junk,.arr tc8 false false]⟩,[(.ret,⟨[(2,vN),(3,.ptr 0 0)],[oo0,.junk,.junk]⟩),(.exit 0,⟨[(3,.ptr 0 0),(6,.own 2)],[oo0,.junk,.arr tc8 false false]⟩)]⟩
@[local irreducible] noncomputable def fj(N n:Nat):(Bs×Y17×Int×Int×Int×Int×Y44)->Option (Y4⊕(Int×Int×Y44)):=Nat.rec (λ_=>none) (λ_ L x=>syv N (pW.round (n8 []).cxs L x)) n
def zJ:KL B0:=gL (n8 []) pW (fj NN) (by kernel_rfl)
def sI:AD B0:=⟨103,(n8 [zJ]),[hc0],(.tup [hc9,hc4])⟩
@[local irreducible] noncomputable def kl(N:Nat)(a:Bs):Option (Y44×Y4):=syv N (sI.go (a))
def sJ:KC B0:=gA sI (kl NN) (by kernel_rfl)
def gH(N:Nat)(a1:Bs):Option (Y45×Y4):=
 (aD N a1 0 16).bind λ(l1,v2)=>
 (je 2).bind λi3=>
 ((
 ((
 bif ((l1.length:Int)==0) then(
 bif (v2.1==0) then(
 some (i3,a1,l1,1,iG (a1.length:Int) (a1.length:Int)))
 else
 some (i3,a1,l1,v2))
 else
 some (i3,a1,l1,v2):Y55)).bind λ(i4,l5,l6,i7,i8)=>
 bif (i7 !=0) then(
 some ([],l5,l6,i7,i8))
 else
 (ix l6 0).bind λe9=>
 (slc l6 1 (l6.length:Int)).bind λU=>
 (slc l5 e9.2.2.2.1 e9.2.2.2.2.2).bind λB9=>
 (gD N B9 i4).bind λ(S,X)=>
 bif (i7==0) then(
 bif (X.1 !=0) then(
 some (S,l5,U,X.1,iG (aq .i64 e9.2.2.2.1 X.2) (l5.length:Int)))
 else
 some (S,l5,U,i7,i8))
 else
 some (S,l5,U,i7,i8):Option (Bs×Y54))).bind λ(T,p,D,O,n8)=>
 ((
 ((
 bif ((D.length:Int)==0) then(
 bif (O==0) then(
 some (p,D,1,iG (p.length:Int) (p.length:Int),T))
 else
 some (p,D,O,n8,T))
 else
 some (p,D,O,n8,T):Option (Bs×Y17×Y9))).bind λ(a,E,l,P,F)=>
 bif (l !=0) then(
 some (a,E,l,P,F,0,0,0,0,0,0))
 else
 (ix E 0).bind λL=>
 (slc E 1 (E.length:Int)).bind λV=>
 (slc a L.2.2.2.1 L.2.2.2.2.2).bind λC0=>
 (ka N C0).bind λ(Y,Z)=>
 bif (l==0) then(
 ((
 bif (Z.1 !=0) then(
 some (a,V,Z.1,iG (aq .i64 L.2.2.2.1 Z.2) (a.length:Int),F,Y))
 else
 some (a,V,l,P,F,Y):Y57)).bind λ(A6,A7,q7,q8,A8,q9,r9,s6,s8,t7,t8)=>
 some (A6,A7,q7,q8,A8,q9,r9,s6,s8,t7,t8))
 else
 ((
 some (a,V,l,P,F,Y):Y57)).bind λ(A9,B1,u0,u7,B2,w8,w9,x5,x6,x7,x8)=>
 some (A9,B1,u0,u7,B2,w8,w9,x5,x6,x7,x8):Y57)).bind λ(b,c,q,Q,G,r,s,t,u,v,w)=>
 ((
 bif decide ((c.length:Int)>0) then(
 ((
 ((
 bif ((c.length:Int)==0) then(
 bif (q==0) then(
 some (b,c,1,iG (b.length:Int) (b.length:Int),G,r,s,t,u,v,w))
 else
 some (b,c,q,Q,G,r,s,t,u,v,w))
 else
 some (b,c,q,Q,G,r,s,t,u,v,w):Y57)).bind λ(d,H,m,R,I,x,y,z,A,B,C)=>
 bif (m !=0) then(
 some ([],d,H,m,R,I,x,y,z,A,B,C))
 else
 (ix H 0).bind λM=>
 (slc H 1 (H.length:Int)).bind λW=>
 (slc d M.2.2.2.1 M.2.2.2.2.2).bind λC1=>
 (kl N C1).bind λ(q6,f7)=>
 bif (m==0) then(
 ((
 bif (f7.1 !=0) then(
 some (d,W,f7.1,iG (aq .i64 M.2.2.2.1 f7.2) (d.length:Int),I,x,y,z,A,B,C))
 else
 some (d,W,m,R,I,x,y,z,A,B,C):Y57)).bind λ(B3,B4,x9,y0,B5,y3,y4,y5,y8,y9,z6)=>
 some (q6,B3,B4,x9,y0,B5,y3,y4,y5,y8,y9,z6))
 else
 ((
 some (d,W,m,R,I,x,y,z,A,B,C):Y57)).bind λ(B6,B7,z7,z8,B8,A0,A1,A2,A3,A4,A5)=>
 some (q6,B6,B7,z7,z8,B8,A0,A1,A2,A3,A4,A5):Option (Y44×Y56))).bind λ(n9,o7,o8,f9,j3,o9,j4,j5,j6,j7,j8,j9)=>
 some (o7,o8,f9,j3,o9,j4,j5,j6,j7,j8,j9,n9))
 else
 some (b,c,q,Q,G,r,s,t,u,v,w,[]):Option (Bs×Y17×Int×Int×Y58))).bind λ(p7,K,e,J,n,f,g,h,i,j,k,o)=>
 agree (List.replicate 2 (
 bif decide ((K.length:Int)>0) then(
 (ix K 0).bind λf8=>
 bif (e==0) then(
 some (n,f,g,h,i,j,k,o,2,iG f8.2.2.2.1 (p7.length:Int)))
 else
 some (n,f,g,h,i,j,k,o,e,J))
 else
 some (n,f,g,h,i,j,k,o,e,J):Option (Bs×Int×Int×Int×Int×Int×Int×Y44×Y4))) λ(p8,k9,m5,m6,m7,m8,m9,p9,n6,n7)=>
 some ((p8,(k9,m5,m6,m7,m8,m9),p9),n6,n7)
def AB:Tr cB:=(.node (.node (.node (.node .nil 3355443209 [(.normal,⟨[],[tj,oo5,.junk,dM,YU,.junk,.junk,.junk,.junk]⟩)] .nil) 3355443210 [(.normal,⟨[],[tj,oo5,.junk,dM,YV,DX,.junk,.junk,mD,.junk]⟩)] .nil) 3825207303 [(.normal,⟨[(0,.ptr 3 0),(1,.func (.func 58) [] []),(4,.ptr 5 0),(5,.ptr 6 0)],[tj,oo5,.junk,dM,YV,DX,DX]⟩)] (.node (.node .nil 4093642759 [(.normal,⟨[(0,.ptr 3 0),(1,.func (.func 103) [] []),(5,vN)],[tj,oo5,.junk,dM,YU,.junk,.junk]⟩)] .nil) 6845109255 [(.normal,⟨[(2,.ptr 0 0),(3,.ptr 1 0),(4,.ptr 3 0),(5,.ptr 4 0)],[tj,oo5,.junk,dM,UG,.junk,.junk]⟩)] .nil)) 8589936645 [(.normal,⟨[(0,.ptr 3 0),(1,.func (.func 146) [] [.rc [hc3] 0,.rc [.func (.func 130) [] []] 0]),(5,vN)],[tj,oo5,.junk,dM,tj]⟩)] (.node (.node (.node .nil 1106356739074 [(.normal,⟨[(2,.ptr 0 0),(3,.ptr 1 0)],[UG,oo0,.junk,.junk,.junk,.junk,.junk,.junk]⟩)] .nil) 2199023489029 [(.ret,⟨[(4,.ptr 5 0)],[tj,oo5,.junk,dM,YV,mD,.junk]⟩)] .nil) 2199023505415 [(.ret,⟨[(4,hc9)],[tj,oo5,.junk,dM,YU,.junk,.junk]⟩)] (.node .nil 2199023779845 [(.ret,⟨[(4,hc0)],[tj,oo5,.junk,dM,tj]⟩)] .nil)))
def AC:KC B0:=gC 102 ⟨[be,ux,s8,zH,sJ],[],[],[],AB⟩ [hc0] (.tup [UC,hc4]) (gH NN) (by kernel_rfl)
attribute [local irreducible] gH
def jz(N n:Nat):Y59->Option Y59:=Nat.rec (λ_=>none) (λ_ L (f,g,j,m,l)=>
 bif (j==0) then(
 bif decide ((g.length:Int)>0) then(
 ((
 ((
 bif ((g.length:Int)==0) then(
 bif (j==0) then(
 some (f,g,1,iG (f.length:Int) (f.length:Int),l))
 else
 some (f,g,j,m,l))
 else
 some (f,g,j,m,l):Option Y59)).bind λ(k,o,b,e,c)=>
 bif (b !=0) then(
 some (k,o,b,e,c,[],0,0,0,0,0,0,[]))
 else
 (ix o 0).bind λd=>
 (slc o 1 (o.length:Int)).bind λh=>
 (slc k d.2.2.2.1 d.2.2.2.2.2).bind λj5=>
 (gH N j5).bind λ(a,i)=>
 bif (b==0) then(
 ((
 bif (i.1 !=0) then(
 some (k,h,i.1,iG (aq .i64 d.2.2.2.1 i.2) (k.length:Int),c,a.1,a.2.1.1,a.2.1.2.1,a.2.1.2.2.1,a.2.1.2.2.2.1,a.2.1.2.2.2.2.1,a.2.1.2.2.2.2.2,a.2.2))
 else
 some (k,h,b,e,c,a.1,a.2.1.1,a.2.1.2.1,a.2.1.2.2.1,a.2.1.2.2.2.1,a.2.1.2.2.2.2.1,a.2.1.2.2.2.2.2,a.2.2):Y60)).bind λ(P,Q,p,q,R,S,r,s,t,u,v,w,T)=>
 some (P,Q,p,q,R,S,r,s,t,u,v,w,T))
 else
 ((
 some (k,h,b,e,c,a.1,a.2.1.1,a.2.1.2.1,a.2.1.2.2.1,a.2.1.2.2.2.1,a.2.1.2.2.2.2.1,a.2.1.2.2.2.2.2,a.2.2):Y60)).bind λ(U,V,x,y,W,X,z,A,B,C,D,E,Y)=>
 some (U,V,x,y,W,X,z,A,B,C,D,E,Y):Y60)).bind λ(Z,f7,F,G,f8,f9,H,I,J,K,M,O,j3)=>
 (app 96 f8 [(f9,(H,I,J,K,M,O),j3)]).bind λj4=>
 L (Z,f7,F,G,j4))
 else
 some (f,g,j,m,l))
 else
 some (f,g,j,m,l)) n
def iC(N:Nat)(p:Bs):Option (Y46×Y4):=
 (aD N p 0 16).bind λ(r,q)=>
 (jz N N (p,r,q.1,q.2,[])).bind λ(c,b,e,i,a)=>
 ((
 bif decide ((b.length:Int)>0) then(
 (ix b 0).bind λl=>
 bif (e==0) then(
 some (decide ((a.length:Int)>0),c,b,2,iG l.2.2.2.1 (c.length:Int),a))
 else
 some (decide ((a.length:Int)>0),c,b,e,i,a))
 else
 some (decide ((a.length:Int)>0),c,b,e,i,a):Option (Bool×Y59))).bind λ(k,d,g,f,j,h)=>
 ((
 bif (!k) then(
 bif (f==0) then(
 some (d,g,6,iG 0 (d.length:Int),h))
 else
 some (d,g,f,j,h))
 else
 some (d,g,f,j,h):Option Y59)).bind λ(s,t,m,n,o)=>
 some (o,m,n)
def Eh:Tr cB:=(.node (.node (.node .nil 1946158085 [(.normal,⟨[(0,.ptr 2 0),(1,ay),(4,.ptr 4 0)],[oo5,.junk,dM,.arr y0 false true,oo5]⟩)] .nil) 1946160133 [(.normal,⟨[(0,.ptr 2 0),(4,.ptr 4 0)],[oo5,.junk,dM,.arr y0 false true,oo5]⟩)] .nil) 3355443209 [(.normal,⟨[],[oo5,.junk,dM,.arr y0 false true,tj,.junk,.junk,UG,.junk]⟩)] (.node (.node .nil 6777997318 [(.normal,⟨[(0,.ptr 2 0),(1,.func (.func 102) [] []),(4,.ptr 4 0),(5,.ptr 5 0)],[oo5,.junk,dM,.arr y0 false true,tj,tj]⟩)] .nil) 2199023669252 [(.ret,⟨[(4,.ptr 4 0)],[oo5,.junk,dM,.arr y0 false true,UG,.junk]⟩)] .nil))
def tP(L:List (KL B0)):Ctx B0:=⟨[be,AC],[],[],L,Eh⟩
def AE:LD:=⟨60,3,0,⟨[(3,.ptr 0 0),(4,.ptr 2 0),(5,.own 3)],[oo5,.junk,dM,.arr y0 false false]⟩,[(.exit 0,⟨[(3,.ptr 0 0),(4,.ptr 2 0),(5,.own 3)],[oo5,.junk,dM,.arr y0 false false]⟩)]⟩
def AF:KL B0:=gL (tP []) AE (jz NN) (by kernel_rfl)
def Ei:KC B0:=gC 60 (tP [AF]) [hc0] (.tup [DU,hc4]) (iC NN) (by kernel_rfl)
attribute [local irreducible] jz iC
def CZ:Tr cB:=(.node .nil 4160754691 [(.normal,⟨[(3,.ptr 0 0),(5,.ptr 2 0),(6,hc9)],[oo5,.junk,oo0]⟩)] .nil)
def sK:AD B0:=⟨62,⟨[dH,bR,sJ],[],[],[],CZ⟩,[hc0],(.tup [hc9,hc4])⟩
@[local irreducible] noncomputable def kn(N:Nat)(a:Bs):Option (Y44×Y4):=syv N (sK.go (a))
def C0:KC B0:=gA sK (kn NN) (by kernel_rfl)
def fU(N n:Nat):(Y3×Int×Int×Y54)->Option ((Int×Y54)⊕Y54):=Nat.rec (λ_=>none) (λ_ L (j,i,e,d,a,b,c)=>
 bif decide (e<i) then(
 (ix j e).bind λg=>
 (ix a 0).bind λh=>
 (bA h 0 false g).bind λf=>
 bif f then(
 some (Sum.inl (e,d,a,b,c)))
 else
 L (j,i,aq .i64 e 1,d,a,b,c))
 else
 some (Sum.inr (d,a,b,c))) n
def fV(N n:Nat):(Y3×Int×Int×Y61)->Option ((Int×Y61)⊕Y61):=Nat.rec (λ_=>none) (λ_ L (r,q,a,l,b,c,d,e,p,m,o,f,g,h,i,j,k)=>
 bif decide (a<q) then(
 (ix r a).bind λt=>
 (ix b 0).bind λu=>
 (bA u 0 false t).bind λs=>
 bif s then(
 some (Sum.inl (a,l,b,c,d,e,p,m,o,f,g,h,i,j,k)))
 else
 L (r,q,aq .i64 a 1,l,b,c,d,e,p,m,o,f,g,h,i,j,k))
 else
 some (Sum.inr (l,b,c,d,e,p,m,o,f,g,h,i,j,k))) n
def fW(N n:Nat):(Y3×Int×Int×Y62)->Option ((Int×Y62)⊕Y62):=Nat.rec (λ_=>none) (λ_ L (y,x,a,t,b,d,e,f,w,u,v,g,h,i,j,k,l,c,m,o,p,q,r,s)=>
 bif decide (a<x) then(
 (ix y a).bind λA=>
 (ix b 0).bind λB=>
 (bA B 0 true A).bind λz=>
 bif z then(
 some (Sum.inl (a,t,b,d,e,f,w,u,v,g,h,i,j,k,l,c,m,o,p,q,r,s)))
 else
 L (y,x,aq .i64 a 1,t,b,d,e,f,w,u,v,g,h,i,j,k,l,c,m,o,p,q,r,s))
 else
 some (Sum.inr (t,b,d,e,f,w,u,v,g,h,i,j,k,l,c,m,o,p,q,r,s))) n
def gQ(N:Nat)(a1:Bs):Option (Y48×Y4):=
 ((
 (aD N a1 0 16).bind λ(l1,v2)=>
 some (a1,l1,v2):Option Y54)).bind λ(l3,l4,i5,i6)=>
 ((
 bif (i5==0) then(
 bif decide ((l4.length:Int)>0) then(
 (fU N N ([2],([2].length:Int),0,l3,l4,i5,i6)).bind λy7=>(match y7 with
 |Sum.inl (i8,l9,l10,i11,i12)=>some (decide (i8>=0),l9,l10,i11,i12)
 |Sum.inr ((l13,l14,i15,i16))=>some (false,l13,l14,i15,i16)))
 else
 some (false,l3,l4,i5,i6))
 else
 some (false,l3,l4,i5,i6):Option (Bool×Y54))).bind λ(c17,D4,K1,N4,P4)=>
 ((
 bif c17 then(
 (ie 2).bind λP5=>
 ((
 ((
 bif ((K1.length:Int)==0) then(
 bif (N4==0) then(
 some (P5,D4,K1,1,iG (D4.length:Int) (D4.length:Int)))
 else
 some (P5,D4,K1,N4,P4))
 else
 some (P5,D4,K1,N4,P4):Y55)).bind λ(i23,D5,N8,F6,P6)=>
 bif (F6 !=0) then(
 some (0,D5,N8,F6,P6))
 else
 (ix N8 0).bind λP1=>
 (slc N8 1 (N8.length:Int)).bind λR3=>
 (slc D5 P1.2.2.2.1 P1.2.2.2.2.2).bind λs30=>
 (fD N s30 i23).bind λ(P7,R8)=>
 bif (F6==0) then(
 bif (R8.1 !=0) then(
 some (P7,D5,R3,R8.1,iG (aq .i64 P1.2.2.2.1 R8.2) (D5.length:Int)))
 else
 some (P7,D5,R3,F6,P6))
 else
 some (P7,D5,R3,F6,P6):Y55)).bind λ(i33,l34,l35,i36,i37)=>
 some (l34,l35,i36,i37,i33))
 else
 some (D4,K1,N4,P4,0):Option (Bs×Y17×Int×Y4))).bind λ(K6,N9,P8,i41,P9)=>
 ((
 ((
 bif ((N9.length:Int)==0) then(
 bif (P8==0) then(
 some (K6,N9,1,iG (K6.length:Int) (K6.length:Int),P9))
 else
 some (K6,N9,P8,i41,P9))
 else
 some (K6,N9,P8,i41,P9):Option (Bs×Y17×Int×Y4))).bind λ(D6,O0,I0,Q0,N5)=>
 bif (I0 !=0) then(
 some (D6,O0,I0,Q0,N5,[],[]))
 else
 (ix O0 0).bind λP2=>
 (slc O0 1 (O0.length:Int)).bind λR4=>
 (slc D6 P2.2.2.2.1 P2.2.2.2.2.2).bind λs50=>
 (kQ N s50).bind λ(R9,T0)=>
 bif (I0==0) then(
 ((
 bif (T0.1 !=0) then(
 some (D6,R4,T0.1,iG (aq .i64 P2.2.2.2.1 T0.2) (D6.length:Int),N5,R9))
 else
 some (D6,R4,I0,Q0,N5,R9):Option Y63)).bind λ(l53,l54,i55,i56,i57,s58,l59)=>
 some (l53,l54,i55,i56,i57,s58,l59))
 else
 ((
 some (D6,R4,I0,Q0,N5,R9):Option Y63)).bind λ(l60,l61,i62,i63,i64,s65,l66)=>
 some (l60,l61,i62,i63,i64,s65,l66):Option Y63)).bind λ(L8,O1,Q1,i70,Q2,R5,Q7)=>
 ((
 ((
 bif ((O1.length:Int)==0) then(
 bif (Q1==0) then(
 some (L8,O1,1,iG (L8.length:Int) (L8.length:Int),Q2,R5,Q7))
 else
 some (L8,O1,Q1,i70,Q2,R5,Q7))
 else
 some (L8,O1,Q1,i70,Q2,R5,Q7):Option Y63)).bind λ(D7,O2,J6,Q3,N6,O6,O3)=>
 bif (J6 !=0) then(
 some ([],D7,O2,J6,Q3,N6,O6,O3))
 else
 (ix O2 0).bind λP3=>
 (slc O2 1 (O2.length:Int)).bind λR6=>
 (slc D7 P3.2.2.2.1 P3.2.2.2.2.2).bind λs83=>
 (iz N s83).bind λ(Q8,T1)=>
 bif (J6==0) then(
 bif (T1.1 !=0) then(
 some (Q8,D7,R6,T1.1,iG (aq .i64 P3.2.2.2.1 T1.2) (D7.length:Int),N6,O6,O3))
 else
 some (Q8,D7,R6,J6,Q3,N6,O6,O3))
 else
 some (Q8,D7,R6,J6,Q3,N6,O6,O3):Option (Y12×Y63))).bind λ(Q9,L9,O4,Q4,i90,Q5,R7,R0)=>
 ((
 ((
 bif ((O4.length:Int)==0) then(
 bif (Q4==0) then(
 some (L9,O4,1,iG (L9.length:Int) (L9.length:Int),Q5,R7,R0,Q9))
 else
 some (L9,O4,Q4,i90,Q5,R7,R0,Q9))
 else
 some (L9,O4,Q4,i90,Q5,R7,R0,Q9):Option (Bs×Y17×Int×Int×Int×Bs×Bs×Y12))).bind λ(D8,O5,J7,Q6,N7,O7,z8,A0)=>
 bif (J7 !=0) then(
 some (D8,O5,J7,Q6,N7,O7,z8,A0,0,0,0,0,0,0))
 else
 (ix O5 0).bind λE2=>
 (slc O5 1 (O5.length:Int)).bind λM0=>
 (slc D8 E2.2.2.2.1 E2.2.2.2.2.2).bind λs104=>
 (ka N s104).bind λ(M8,M9)=>
 bif (J7==0) then(
 ((
 bif (M9.1 !=0) then(
 some (D8,M0,M9.1,iG (aq .i64 E2.2.2.2.1 M9.2) (D8.length:Int),N7,O7,z8,A0,M8))
 else
 some (D8,M0,J7,Q6,N7,O7,z8,A0,M8):Option Y61)).bind λ(l107,l108,U2,U3,U4,s112,l113,l114,U5,U6,U7,U8,U9,V0)=>
 some (l107,l108,U2,U3,U4,s112,l113,l114,U5,U6,U7,U8,U9,V0))
 else
 ((
 some (D8,M0,J7,Q6,N7,O7,z8,A0,M8):Option Y61)).bind λ(l121,l122,V1,V2,V3,s126,l127,l128,V4,V5,V6,V7,V8,V9)=>
 some (l121,l122,V1,V2,V3,s126,l127,l128,V4,V5,V6,V7,V8,V9):Option Y61)).bind λ(J8,A1,s,E6,E7,M2,J9,K0,E8,E9,F0,F1,F2,F3)=>
 ((
 bif (s==0) then(
 bif decide ((A1.length:Int)>0) then(
 (fV N N ([23,24],([23,24].length:Int),0,J8,A1,s,E6,E7,M2,J9,K0,E8,E9,F0,F1,F2,F3)).bind λy149=>(match y149 with
 |Sum.inl (X0,l151,l152,X1,X2,X3,s156,l157,l158,X4,X5,X6,X7,X8,X9)=>some (decide (X0>=0),l151,l152,X1,X2,X3,s156,l157,l158,X4,X5,X6,X7,X8,X9)
 |Sum.inr ((l165,l166,Z0,Z1,Z2,s170,l171,l172,Z3,Z4,Z5,Z6,Z7,Z8))=>some (false,l165,l166,Z0,Z1,Z2,s170,l171,l172,Z3,Z4,Z5,Z6,Z7,Z8)))
 else
 some (false,J8,A1,s,E6,E7,M2,J9,K0,E8,E9,F0,F1,F2,F3))
 else
 some (false,J8,A1,s,E6,E7,M2,J9,K0,E8,E9,F0,F1,F2,F3):Option (Bool×Y61))).bind λ(T2,a,k,t,F4,u,C7,A2,A3,v,w,x,y,z,A)=>
 ((
 bif T2 then(
 ((
 ((
 bif ((k.length:Int)==0) then(
 bif (t==0) then(
 some (a,k,1,iG (a.length:Int) (a.length:Int),u,C7,A2,A3,v,w,x,y,z,A))
 else
 some (a,k,t,F4,u,C7,A2,A3,v,w,x,y,z,A))
 else
 some (a,k,t,F4,u,C7,A2,A3,v,w,x,y,z,A):Option Y61)).bind λ(b,A4,h,F5,B,C8,A5,A6,C,D,E,F,G,H)=>
 bif (h !=0) then(
 some (b,A4,h,F5,B,C8,A5,A6,C,D,E,F,G,H,0,0,0,0,0,0))
 else
 (ix A4 0).bind λE3=>
 (slc A4 1 (A4.length:Int)).bind λM3=>
 (slc b E3.2.2.2.1 E3.2.2.2.2.2).bind λs210=>
 (ka N s210).bind λ(N0,N1)=>
 bif (h==0) then(
 ((
 bif (N1.1 !=0) then(
 some (b,M3,N1.1,iG (aq .i64 E3.2.2.2.1 N1.2) (b.length:Int),B,C8,A5,A6,C,D,E,F,G,H,N0))
 else
 some (b,M3,h,F5,B,C8,A5,A6,C,D,E,F,G,H,N0):Y64)).bind λ(l213,l214,Z9,i216,i217,s218,l219,l220,i221,i222,i223,i224,i225,i226,i227,i228,i229,i230,i231,i232)=>
 some (l213,l214,Z9,i216,i217,s218,l219,l220,i221,i222,i223,i224,i225,i226,i227,i228,i229,i230,i231,i232))
 else
 ((
 some (b,M3,h,F5,B,C8,A5,A6,C,D,E,F,G,H,N0):Y64)).bind λ(l233,l234,i235,i236,i237,s238,l239,l240,i241,i242,i243,i244,i245,i246,i247,i248,i249,i250,i251,i252)=>
 some (l233,l234,i235,i236,i237,s238,l239,l240,i241,i242,i243,i244,i245,i246,i247,i248,i249,i250,i251,i252):Y64)).bind λ(l253,l254,i255,i256,i257,s258,l259,l260,i261,i262,i263,i264,i265,i266,i267,i268,i269,i270,i271,i272)=>
 some (l253,l254,i255,i256,i257,s258,l259,l260,i261,i262,i263,i264,i265,i266,true,i267,i268,i269,i270,i271,i272))
 else
 some (a,k,t,F4,u,C7,A2,A3,v,w,x,y,z,A,false,0,0,0,0,0,0):Option Y62)).bind λ(K3,A7,I,F7,F8,M4,K4,K5,F9,G4,G5,G6,G7,G8,D9,G9,H0,H2,H3,H4,H5)=>
 ((
 bif (I==0) then(
 bif decide ((A7.length:Int)>0) then(
 (fW N N ([16],([16].length:Int),0,K3,A7,I,F7,F8,M4,K4,K5,F9,G4,G5,G6,G7,G8,D9,G9,H0,H2,H3,H4,H5)).bind λy294=>(match y294 with
 |Sum.inl (i295,l296,l297,i298,i299,i300,s301,l302,l303,i304,i305,i306,i307,i308,i309,T3,i311,i312,i313,i314,i315,i316)=>some (decide (i295>=0),l296,l297,i298,i299,i300,s301,l302,l303,i304,i305,i306,i307,i308,i309,T3,i311,i312,i313,i314,i315,i316)
 |Sum.inr ((l317,l318,i319,i320,i321,s322,l323,l324,i325,i326,i327,i328,i329,i330,T4,i332,i333,i334,i335,i336,i337))=>some (false,l317,l318,i319,i320,i321,s322,l323,l324,i325,i326,i327,i328,i329,i330,T4,i332,i333,i334,i335,i336,i337)))
 else
 some (false,K3,A7,I,F7,F8,M4,K4,K5,F9,G4,G5,G6,G7,G8,D9,G9,H0,H2,H3,H4,H5))
 else
 some (false,K3,A7,I,F7,F8,M4,K4,K5,F9,G4,G5,G6,G7,G8,D9,G9,H0,H2,H3,H4,H5):Option (Bool×Y62))).bind λ(T5,c,l,J,H6,K,C9,A8,A9,L,M,O,P,Q,R,n,S,T,U,V,W,X)=>
 ((
 bif T5 then(
 ((
 ((
 bif ((l.length:Int)==0) then(
 bif (J==0) then(
 some (c,l,1,iG (c.length:Int) (c.length:Int),K,C9,A8,A9,L,M,O,P,Q,R,n,S,T,U,V,W,X))
 else
 some (c,l,J,H6,K,C9,A8,A9,L,M,O,P,Q,R,n,S,T,U,V,W,X))
 else
 some (c,l,J,H6,K,C9,A8,A9,L,M,O,P,Q,R,n,S,T,U,V,W,X):Option Y62)).bind λ(d,B1,i,H7,Y,D0,B2,B3,Z,f7,f8,j3,j4,j5,o,j6,j7,j8,j9,k9,m5)=>
 bif (i !=0) then(
 some ([],d,B1,i,H7,Y,D0,B2,B3,Z,f7,f8,j3,j4,j5,o,j6,j7,j8,j9,k9,m5))
 else
 (ix B1 0).bind λE4=>
 (slc B1 1 (B1.length:Int)).bind λM5=>
 (slc d E4.2.2.2.1 E4.2.2.2.2.2).bind λs383=>
 (iC N s383).bind λ(K7,N2)=>
 bif (i==0) then(
 bif (N2.1 !=0) then(
 some (K7,d,M5,N2.1,iG (aq .i64 E4.2.2.2.1 N2.2) (d.length:Int),Y,D0,B2,B3,Z,f7,f8,j3,j4,j5,o,j6,j7,j8,j9,k9,m5))
 else
 some (K7,d,M5,i,H7,Y,D0,B2,B3,Z,f7,f8,j3,j4,j5,o,j6,j7,j8,j9,k9,m5))
 else
 some (K7,d,M5,i,H7,Y,D0,B2,B3,Z,f7,f8,j3,j4,j5,o,j6,j7,j8,j9,k9,m5):Option (Y46×Y62))).bind λ(l386,l387,l388,i389,i390,i391,s392,l393,l394,i395,i396,i397,i398,i399,i400,T6,i402,i403,i404,i405,i406,i407)=>
 some (l387,l388,i389,i390,i391,s392,l393,l394,i395,i396,i397,i398,i399,i400,T6,i402,i403,i404,i405,i406,i407,l386))
 else
 some (c,l,J,H6,K,C9,A8,A9,L,M,O,P,Q,R,n,S,T,U,V,W,X,[]):Option Y65)).bind λ(e,f,m6,H8,m7,D1,B4,B5,m8,m9,n6,n7,n8,n9,p,o7,o8,o9,p7,p8,p9,B6)=>
 ((
 bif decide ((f.length:Int)>0) then(
 ((
 ((
 bif ((f.length:Int)==0) then(
 bif (m6==0) then(
 some (e,f,1,iG (e.length:Int) (e.length:Int),m7,D1,B4,B5,m8,m9,n6,n7,n8,n9,p,o7,o8,o9,p7,p8,p9,B6))
 else
 some (e,f,m6,H8,m7,D1,B4,B5,m8,m9,n6,n7,n8,n9,p,o7,o8,o9,p7,p8,p9,B6))
 else
 some (e,f,m6,H8,m7,D1,B4,B5,m8,m9,n6,n7,n8,n9,p,o7,o8,o9,p7,p8,p9,B6):Option Y65)).bind λ(g,B7,j,H9,q6,D2,B8,B9,q7,q8,q9,r9,s6,s8,q,t7,t8,u0,u7,w8,w9,C0)=>
 bif (j !=0) then(
 some ([],g,B7,j,H9,q6,D2,B8,B9,q7,q8,q9,r9,s6,s8,q,t7,t8,u0,u7,w8,w9,C0))
 else
 (ix B7 0).bind λE5=>
 (slc B7 1 (B7.length:Int)).bind λM6=>
 (slc g E5.2.2.2.1 E5.2.2.2.2.2).bind λs454=>
 (kn N s454).bind λ(K8,N3)=>
 bif (j==0) then(
 bif (N3.1 !=0) then(
 some (K8,g,M6,N3.1,iG (aq .i64 E5.2.2.2.1 N3.2) (g.length:Int),q6,D2,B8,B9,q7,q8,q9,r9,s6,s8,q,t7,t8,u0,u7,w8,w9,C0))
 else
 some (K8,g,M6,j,H9,q6,D2,B8,B9,q7,q8,q9,r9,s6,s8,q,t7,t8,u0,u7,w8,w9,C0))
 else
 some (K8,g,M6,j,H9,q6,D2,B8,B9,q7,q8,q9,r9,s6,s8,q,t7,t8,u0,u7,w8,w9,C0):Option (Y44×Y65))).bind λ(l457,l458,l459,i460,i461,i462,s463,l464,l465,i466,i467,i468,i469,i470,i471,T7,i473,i474,i475,i476,i477,i478,l479)=>
 some (l458,l459,i460,i461,i462,s463,l464,l465,i466,i467,i468,i469,i470,i471,T7,i473,i474,i475,i476,i477,i478,l479,l457))
 else
 some (e,f,m6,H8,m7,D1,B4,B5,m8,m9,n6,n7,n8,n9,p,o7,o8,o9,p7,p8,p9,B6,[]):Y67)).bind λ(C1,m,I1,O8,x5,D3,C2,C3,x6,x7,x8,x9,y0,y3,r,y4,y5,y8,y9,z6,z7,C4,C5)=>
 (f9 N (x5,(D3,C2),C3,(x6,x7,x8,x9,y0,y3),r,(y4,y5,y8,y9,z6,z7),C4,C5)).bind λE0=>
 ((
 ((
 bif decide ((m.length:Int)>0) then(
 (ix m 0).bind λU1=>
 bif (I1==0) then(
 some (E0,C1,m,2,iG U1.2.2.2.1 (C1.length:Int),x5,D3,C2,C3,x6,x7,x8,x9,y0,y3,r,y4,y5,y8,y9,z6,z7,C4,C5))
 else
 some (E0,C1,m,I1,O8,x5,D3,C2,C3,x6,x7,x8,x9,y0,y3,r,y4,y5,y8,y9,z6,z7,C4,C5))
 else
 some (E0,C1,m,I1,O8,x5,D3,C2,C3,x6,x7,x8,x9,y0,y3,r,y4,y5,y8,y9,z6,z7,C4,C5):Option (Bool×Bs×Y17×Y66))).bind λ(T8,C6,K9,I2,O9,I3,M7,L0,L5,I4,I5,I6,I7,I8,I9,E1,J0,J1,J2,J3,J4,J5,L6,L7)=>
 ((
 bif (!T8) then(
 bif (I2==0) then(
 some (C6,K9,6,iG 0 (C6.length:Int),I3,M7,L0,L5,I4,I5,I6,I7,I8,I9,E1,J0,J1,J2,J3,J4,J5,L6,L7))
 else
 some (C6,K9,I2,O9,I3,M7,L0,L5,I4,I5,I6,I7,I8,I9,E1,J0,J1,J2,J3,J4,J5,L6,L7))
 else
 some (C6,K9,I2,O9,I3,M7,L0,L5,I4,I5,I6,I7,I8,I9,E1,J0,J1,J2,J3,J4,J5,L6,L7):Y67)).bind λ(l529,l530,i531,i532,i533,s534,l535,l536,i537,i538,i539,i540,i541,i542,T9,i544,i545,i546,i547,i548,i549,l550,l551)=>
 some (i533,s534,l535,l536,i537,i538,i539,i540,i541,i542,T9,i544,i545,i546,i547,i548,i549,l550,l551,i531,i532):Option (Int×Bs×Bs×Y12×Int×Int×Int×Int×Int×Int×Bool×Int×Int×Int×Int×Int×Int×Y46×Y44×Y4))).bind λ(i552,s553,l554,l555,i556,i557,i558,i559,i560,i561,U0,i563,i564,i565,i566,i567,i568,l569,l570,P0,i572)=>
 bif (P0 !=0) then(
 some ((0,([],[]),[],(0,0,0,0,0,0),false,(0,0,0,0,0,0),[],[]),P0,i572))
 else
 some ((i552,(s553,l554),l555,(i556,i557,i558,i559,i560,i561),U0,(i563,i564,i565,i566,i567,i568),l569,l570),0,0)
def BS:Tr cB:=(.node (.node (.node (.node (.node .nil 1543506951 [(.normal,⟨[(2,.ptr 0 0),(3,.ptr 1 0),(4,.ptr 3 0),(5,.ptr 4 0)],[gx,oo5,.junk,dM,UH,.junk,.junk]⟩)] .nil) 1543512077 [(.normal,⟨[(2,.ptr 0 0),(3,.ptr 1 0),(4,.ptr 3 0),(5,.ptr 4 0)],[gx,oo5,.junk,dM,JN,.junk,.junk,.junk,.junk,.junk,.junk,.junk,.junk]⟩)] (.node .nil 1543514127 [(.normal,⟨[(2,.ptr 0 0),(3,.ptr 1 0),(4,.ptr 3 0),(5,.ptr 4 0)],[gx,oo5,.junk,dM,YW,.junk,.junk,.junk,.junk,.junk,.junk,.junk,.junk,.junk,.junk]⟩)] .nil)) 1543516175 [(.normal,⟨[(2,.ptr 0 0),(3,.ptr 1 0),(4,.ptr 3 0),(5,.ptr 4 0)],[gx,oo5,.junk,dM,pG,.junk,.junk,.junk,.junk,.junk,.junk,.junk,.junk,.junk,.junk]⟩)] (.node (.node .nil 1610614793 [(.normal,⟨[(0,.ptr 3 0),(1,.func (.func 25) [] []),(4,.ptr 7 0),(5,.ptr 8 0)],[gx,oo5,.junk,dM,UH,.junk,.junk,Qx,Qx]⟩)] .nil) 1946158096 [(.normal,⟨[(0,.ptr 3 0),(1,ay),(4,.ptr 15 0)],[gx,oo5,.junk,dM,pG,.junk,.junk,.junk,.junk,.junk,.junk,.junk,.junk,.junk,.junk,oo5]⟩)] (.node .nil 1946160144 [(.normal,⟨[(0,.ptr 3 0),(4,.ptr 15 0)],[gx,oo5,.junk,dM,pG,.junk,.junk,.junk,.junk,.junk,.junk,.junk,.junk,.junk,.junk,oo5]⟩)] .nil))) 3355443212 [(.normal,⟨[],[gx,oo5,.junk,dM,UH,.junk,.junk,Qx,.junk,.junk,JL,.junk]⟩)] (.node (.node (.node .nil 3355443214 [(.normal,⟨[],[gx,oo5,.junk,dM,YX,.junk,.junk,.junk,.junk,DX,.junk,.junk,mD,.junk]⟩)] .nil) 3355443218 [(.normal,⟨[],[gx,oo5,.junk,dM,JO,.junk,.junk,.junk,.junk,.junk,.junk,.junk,.junk,DX,.junk,.junk,mD,.junk]⟩)] (.node .nil 3489662983 [(.normal,⟨[(0,.ptr 3 0),(1,.func (.func 96) [] [.rc [hc3] 0,.rc [.func (.func 54) [] []] 0]),(5,vZ)],[gx,oo5,.junk,dM,gx,.junk,.junk]⟩)] .nil)) 3690989577 [(.normal,⟨[(0,.ptr 3 0),(1,.func (.func 56) [] []),(5,vN)],[gx,oo5,.junk,dM,ad5,.junk,.junk,.junk,.junk]⟩)] (.node (.node .nil 3825207307 [(.normal,⟨[(0,.ptr 3 0),(1,.func (.func 58) [] []),(4,.ptr 9 0),(5,.ptr 10 0)],[gx,oo5,.junk,dM,YX,.junk,.junk,.junk,.junk,DX,DX]⟩)] .nil) 3825207311 [(.normal,⟨[(0,.ptr 3 0),(1,.func (.func 58) [] []),(4,.ptr 13 0),(5,.ptr 14 0)],[gx,oo5,.junk,dM,JO,.junk,.junk,.junk,.junk,.junk,.junk,.junk,.junk,DX,DX]⟩)] .nil))) 3959425039 [(.normal,⟨[(0,.ptr 3 0),(1,.func (.func 60) [] []),(5,vN)],[gx,oo5,.junk,dM,JN,.junk,.junk,.junk,.junk,.junk,.junk,.junk,.junk,.junk,.junk]⟩)] (.node (.node (.node (.node .nil 4093642767 [(.normal,⟨[(0,.ptr 3 0),(1,.func (.func 62) [] []),(5,vN)],[gx,oo5,.junk,dM,YW,.junk,.junk,.junk,.junk,.junk,.junk,.junk,.junk,.junk,.junk]⟩)] .nil) 2199023341570 [(.ret,⟨[(2,.ptr 3 0)],[gx,oo5,.junk,dM]⟩)] (.node .nil 2199023353863 [(.ret,⟨[(4,.ptr 7 0)],[gx,oo5,.junk,dM,UH,.junk,.junk,JL,.junk]⟩)] .nil)) 2199023374351 [(.ret,⟨[(4,.ptr 15 0)],[gx,oo5,.junk,.junk,pG,.junk,.junk,.junk,.junk,.junk,.junk,.junk,.junk,.junk,.junk,oo0]⟩)] (.node (.node .nil 2199023464453 [(.ret,⟨[(6,ay)],[gx,oo5,.junk,dM,gx,.junk,.junk]⟩)] .nil) 2199023464459 [(.ret,⟨[(6,ay)],[gx,oo5,.junk,dM,JO,.junk,.junk,.junk,.junk,.junk,.junk,.junk,.junk]⟩)] .nil)) 2199023464461 [(.ret,⟨[(6,ay)],[gx,oo5,.junk,dM,JN,.junk,.junk,.junk,.junk,.junk,.junk,.junk,.junk,.junk,.junk]⟩)] (.node (.node (.node .nil 2199023468551 [(.ret,⟨[(4,hc3)],[gx,oo5,.junk,dM,gx,.junk,.junk]⟩)] .nil) 2199023480841 [(.ret,⟨[(4,ny)],[gx,oo5,.junk,dM,ad5,.junk,.junk,.junk,.junk]⟩)] (.node .nil 2199023489033 [(.ret,⟨[(4,.ptr 9 0)],[gx,oo5,.junk,dM,YX,.junk,.junk,.junk,.junk,mD,.junk]⟩)] .nil)) 2199023489037 [(.ret,⟨[(4,.ptr 13 0)],[gx,oo5,.junk,dM,JO,.junk,.junk,.junk,.junk,.junk,.junk,.junk,.junk,mD,.junk]⟩)] (.node (.node .nil 2199023497231 [(.ret,⟨[(4,DU)],[gx,oo5,.junk,dM,JN,.junk,.junk,.junk,.junk,.junk,.junk,.junk,.junk,.junk,.junk]⟩)] .nil) 2199023505423 [(.ret,⟨[(4,hc9)],[gx,oo5,.junk,dM,YW,.junk,.junk,.junk,.junk,.junk,.junk,.junk,.junk,.junk,.junk]⟩)] .nil))))
def ly(L:List (KL B0)):Ctx B0:=⟨[be,bR,vz,tO,xX,Lp,zH,Ei,C0,nB],[],[],L,BS⟩
def yg:LD:=⟨125,2,7,⟨[(0,Lf),(1,.func (.func 95) [] [.rc [.ptr 3 0] 0,.rc [vF] 0]),(7,hc3),(8,hc3)],[gx,oo5,.junk,dM,gx,.junk,.junk]⟩,[(.ret,⟨[(4,hc3)],[gx,oo5,.junk,dM,gx,.junk,.junk]⟩),(.exit 0,⟨[],[gx,oo5,.junk,dM,gx,.junk,.junk]⟩)]⟩
def mj:KL B0:=gL (ly []) yg (fU NN) (by kernel_rfl)
def yh:LD:=⟨125,2,13,⟨[(0,Lf),(1,.func (.func 95) [] [.rc [.ptr 3 0] 0,.rc [vF] 0]),(7,hc3),(8,hc3)],[gx,oo5,.junk,dM,JO,.junk,.junk,.junk,.junk,.junk,.junk,.junk,.junk]⟩,[(.ret,⟨[(4,hc3)],[gx,oo5,.junk,dM,JO,.junk,.junk,.junk,.junk,.junk,.junk,.junk,.junk]⟩),(.exit 0,⟨[],[gx,oo5,.junk,dM,JO,.junk,.junk,.junk,.junk,.junk,.junk,.junk,.junk]⟩)]⟩
def py:KL B0:=gL (ly [mj]) yh (fV NN) (by kernel_rfl)
def yi:LD:=⟨125,2,15,⟨[(0,Lf),(1,.func (.func 95) [] [.rc [.ptr 3 0] 0,.rc [vT] 0]),(7,hc3),(8,hc3)],[gx,oo5,.junk,dM,JN,.junk,.junk,.junk,.junk,.junk,.junk,.junk,.junk,.junk,.junk]⟩,[(.ret,⟨[(4,hc3)],[gx,oo5,.junk,dM,JN,.junk,.junk,.junk,.junk,.junk,.junk,.junk,.junk,.junk,.junk]⟩),(.exit 0,⟨[],[gx,oo5,.junk,dM,JN,.junk,.junk,.junk,.junk,.junk,.junk,.junk,.junk,.junk,.junk]⟩)]⟩
def yj:KL B0:=gL (ly [mj,py]) yi (fW NN) (by kernel_rfl)
def BT:KC B0:=gC 23 (ly [mj,py,yj]) [hc0] (.tup [UD,hc4]) (gQ NN) (by kernel_rfl)
attribute [local irreducible] fU fV fW gQ
def my:AD B0:=⟨27,(c1 []),[hc3,.func (.func 28) [] []],(.func (.func 68) [] [.rc [hc3] 0,.rc [.func (.func 28) [] []] 0])⟩
@[local irreducible] noncomputable def ga(a:Int):Option Int:=syv NN (my.go (a))
def rh:KC B0:=gA my ga (by kernel_rfl)
end
end Go.Fw
