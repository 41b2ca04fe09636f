/- A framework for proofs about Go programs in this model: part V. Everything is proved; no condition is added. -/
import Derived.Test.YtfjfjojmeookfaaGreatDoorFwU
set_option linter.unusedVariables false
set_option linter.unusedSimpArgs false
set_option linter.defProp false
namespace Go.Fw
open Go Go.Proofs.Tryz
noncomputable section
set_option maxRecDepth 100000
set_option maxHeartbeats 0
attribute [local irreducible] ix app slc fP toB agree jV jW jU ml ig bE bY cm dG bD ba aQ dT eI gt eV cJ aT bJ aU bp aW bO bZ fe cD dt cu cw cE cF cG cH dA dF aB aC aS bP bz aR cQ ff eM aI aE bV bL dN cR cy au az du bu cM bc bQ dR cN bq cb fM iw gm gn dZ dO cW cO bW bS bF bx bA bX bv aD eU iy bj eP cp gi ft aJ aN aK fI br cf aO aF aP cX cI cz fu fv bo bh ey cg dV fw fx dd ge eE fy ec dI fG cA bw dq cS iz cq eJ df dr dJ dW eQ em bK cP ii dX gp gj gJ ez gY ia eN eL fA eW ed jg lD jX iI dS eF cj fN kT mw ep dY gK gV fg fB cY jm gu gv gM eX iN jp jh iY kU kV iA gB jY j8 aZ bg aM jE kh gN iO iP iQ iR jr fh gR gP fQ fS f8 oS iB iS j9 kW jb im ib ir dP dL eG js
def wy{α:Type}(T:Int)(U:Bs)(S:Bool)(p:Option (α×Y4))(f:α->Y4->Option (Int×Bs×Bool×Bs×Int×Y2×Y25×Bool×Bs×Y25×Bs×Bool×Bool×Int×Bool×Int×Bool×Int×Y33×Y11×Y25×Y25×List Y32×Y25×Y11×Bool×Bool×Bool×Bool×Int×Y41×Y19×Int×Int×Y13)):Option (Y42×Y4):=
 agree (List.replicate 2 (p.bind λ(l,a)=>bif (a.1==0) then f l a else some (T,U,S,[],0,[],[],false,[],[],[],false,false,0,false,0,false,0,[],[],[],[],[],[],[],false,false,false,false,0,[],[],0,0,0,0,0,0,a))) λ(o,R,c,C,q,D,E,d,F,G,H,e,g,r,h,s,i,t,I,J,K,L,M,N,O,j,k,m,n,u,P,Q,v,w,x,y,z,A,b,B)=>
 bif (b !=0) then(
 some ((0,[],false,[],0,[],[],(false,[],[],[]),(false,false,0),(false,0,false,0),[],[],([],[]),[],([],[],false,false,false,false,0),[],[],0,0,0,0,0,0),b,B))
 else
 some ((o,R,c,C,q,D,E,(d,F,G,H),(e,g,r),(h,s,i,t),I,J,(K,L),M,(N,O,j,k,m,n,u),P,Q,v,w,x,y,z,A),0,0)
def jH(N:Nat)(i:Y14):Option (Y42×Y4):=
 (cO N i).bind λc1=>
 bif (!c1) then(
 some ((0,[],false,[],0,[],[],(false,[],[],[]),(false,false,0),(false,0,false,0),[],[],([],[]),[],([],[],false,false,false,false,0),[],[],0,0,0,0,0,0),8,0))
 else
 (cm i.1).bind λi2=>
 ((
 bif (i2==0) then(
 some (i.1,i.2.1,i.2.2,i2,i.1,i.2.1))
 else
 some (i.1,i.2.1,i.2.2,i2,[],i.2.1):Option (Bs×Bool×Bs×Int×Bs×Bool))).bind λ(q,p,d,a,c,b)=>
 bif (a==0) then(
 wy a c b (bW d) λl9 A4=>
 some (a,c,b,l9,0,[],[],false,[],[],[],false,false,0,false,0,false,0,[],[],[],[],[],[],[],false,false,false,false,0,[],[],0,0,0,0,0,0,A4))
 else
 bif (a==9) then(
 wy a c b (cX N d) λA2 A5=>
 some (a,c,b,[],0,[],[],false,[],[],[],false,false,0,false,0,false,0,[],[],[],[],[],[],[],false,false,false,false,0,[],A2,0,0,0,0,0,0,A5))
 else
 bif (a==14) then(
 wy a c b (cI N d) λA3 A6=>
 some (a,c,b,A3,0,[],[],false,[],[],[],false,false,0,false,0,false,0,[],[],[],[],[],[],[],false,false,false,false,0,[],[],0,0,0,0,0,0,A6))
 else
 bif (a==15) then(
 wy a c b (ey N d) λG u7=>
 some (a,c,b,[],G,[],[],false,[],[],[],false,false,0,false,0,false,0,[],[],[],[],[],[],[],false,false,false,false,0,[],[],0,0,0,0,0,0,u7))
 else
 bif (a==17) then(
 wy a c b (bK N d) λm7 w8=>
 some (a,c,b,[],0,[],m7,false,[],[],[],false,false,0,false,0,false,0,[],[],[],[],[],[],[],false,false,false,false,0,[],[],0,0,0,0,0,0,w8))
 else
 bif (a==18) then(
 wy a c b (bK N d) λm8 w9=>
 some (a,c,b,[],0,[],m8,false,[],[],[],false,false,0,false,0,false,0,[],[],[],[],[],[],[],false,false,false,false,0,[],[],0,0,0,0,0,0,w9))
 else
 bif (a==19) then(
 wy a c b (gY N d) λj x5=>
 agree (List.replicate 2 (
 some (q,p,d,a,c,b,j.1,j.2.1,j.2.2,x5):Option (Bs×Bool×Bs×Int×Bs×Y43))) λ(C0,A7,B4,H,r9,r,s,t,I,J,K)=>
 some (H,r9,r,[],0,[],[],false,[],[],[],s,t,I,false,0,false,0,[],[],[],[],[],[],[],false,false,false,false,0,[],[],0,0,0,0,0,0,J,K))
 else
 bif (a==20) then(
 wy a c b (ed N d) λm9 x6=>
 some (a,c,b,m9,0,[],[],false,[],[],[],false,false,0,false,0,false,0,[],[],[],[],[],[],[],false,false,false,false,0,[],[],0,0,0,0,0,0,x6))
 else
 bif (a==21) then(
 wy a c b (iI N d) λL x7=>
 some (a,c,b,[],L,[],[],false,[],[],[],false,false,0,false,0,false,0,[],[],[],[],[],[],[],false,false,false,false,0,[],[],0,0,0,0,0,0,x7))
 else
 bif (a==24) then(
 wy a c b (fN N d) λf x8=>
 agree (List.replicate 2 (
 some (q,p,d,a,c,b,f.1,f.2.1,f.2.2.1,f.2.2.2.1,f.2.2.2.2.1,f.2.2.2.2.2,x8):Option (Bs×Bool×Bs×Int×Bs×Bool×Int×Int×Y13))) λ(C1,A8,B5,M,s6,u,O,P,Q,R,S,T,U,V)=>
 some (M,s6,u,[],0,[],[],false,[],[],[],false,false,0,false,0,false,0,[],[],[],[],[],[],[],false,false,false,false,0,[],[],O,P,Q,R,S,T,U,V))
 else
 bif (a==27) then(
 wy a c b (ed N d) λn6 x9=>
 some (a,c,b,n6,0,[],[],false,[],[],[],false,false,0,false,0,false,0,[],[],[],[],[],[],[],false,false,false,false,0,[],[],0,0,0,0,0,0,x9))
 else
 bif (a==28) then(
 wy a c b (eX N d) λe y0=>
 agree (List.replicate 2 (
 some (q,p,d,a,c,b,e.1,e.2.1,e.2.2.1,e.2.2.2.1,e.2.2.2.2.1,e.2.2.2.2.2.1,e.2.2.2.2.2.2,y0):Option (Bs×Bool×Bs×Int×Bs×Bool×Y25×Y11×Bool×Y43))) λ(C2,A9,B6,W,s8,v,n7,n8,w,x,y,z,X,Y,Z)=>
 some (W,s8,v,[],0,[],[],false,[],[],[],false,false,0,false,0,false,0,[],[],[],[],[],n7,n8,w,x,y,z,X,[],[],0,0,0,0,0,0,Y,Z))
 else
 bif (a==29) then(
 wy a c b (bK N d) λn9 y3=>
 some (a,c,b,[],0,[],n9,false,[],[],[],false,false,0,false,0,false,0,[],[],[],[],[],[],[],false,false,false,false,0,[],[],0,0,0,0,0,0,y3))
 else
 bif (a==30) then(
 wy a c b (iY N d) λk y4=>
 agree (List.replicate 2 (
 some (q,p,d,a,c,b,k.1,k.2,y4):Option (Bs×Bool×Bs×Int×Bs×Bool×Y25×Y25×Y4))) λ(C3,B1,B7,f7,t7,A,o7,o8,f9,j3)=>
 some (f7,t7,A,[],0,[],[],false,[],[],[],false,false,0,false,0,false,0,[],[],o7,o8,[],[],[],false,false,false,false,0,[],[],0,0,0,0,0,0,f9,j3))
 else
 bif (a==31) then(
 wy a c b (gB N d) λo9 y5=>
 some (a,c,b,[],0,[],[],false,[],[],[],false,false,0,false,0,false,0,[],[],[],[],o9,[],[],false,false,false,false,0,[],[],0,0,0,0,0,0,y5))
 else
 bif (a==32) then(
 wy a c b (jr N d) λp7 y8=>
 some (a,c,b,[],0,[],[],false,[],[],[],false,false,0,false,0,false,0,p7,[],[],[],[],[],[],false,false,false,false,0,[],[],0,0,0,0,0,0,y8))
 else
 bif (a==33) then(
 wy a c b (f8 N d) λp8 y9=>
 some (a,c,b,[],0,[],[],false,[],[],[],false,false,0,false,0,false,0,[],p8,[],[],[],[],[],false,false,false,false,0,[],[],0,0,0,0,0,0,y9))
 else
 bif (a==35) then(
 wy a c b (Pi N d) λg z6=>
 agree (List.replicate 2 (
 some (q,p,d,a,c,b,g.1,g.2.1,g.2.2.1,g.2.2.2,z6):Option (Bs×Bool×Bs×Int×Bs×Bool×Bool×Bs×Y25×Bs×Y4))) λ(C4,B2,B8,j4,t8,B,C,p9,q6,q7,j5,j6)=>
 some (j4,t8,B,[],0,[],[],C,p9,q6,q7,false,false,0,false,0,false,0,[],[],[],[],[],[],[],false,false,false,false,0,[],[],0,0,0,0,0,0,j5,j6))
 else
 bif (a==36) then(
 wy a c b (iS N d) λh z7=>
 agree (List.replicate 2 (
 some (q,p,d,a,c,b,h.1,h.2.1,h.2.2.1,h.2.2.2,z7):Option (Bs×Bool×Bs×Int×Bs×Bool×Bool×Int×Bool×Int×Y4))) λ(C5,B3,B9,j7,u0,D,E,j8,F,j9,k9,m5)=>
 some (j7,u0,D,[],0,[],[],false,[],[],[],false,false,0,E,j8,F,j9,[],[],[],[],[],[],[],false,false,false,false,0,[],[],0,0,0,0,0,0,k9,m5))
 else
 bif (a==37) then(
 wy a c b (kW N d) λq8 z8=>
 some (a,c,b,[],0,q8,[],false,[],[],[],false,false,0,false,0,false,0,[],[],[],[],[],[],[],false,false,false,false,0,[],[],0,0,0,0,0,0,z8))
 else
 bif (a==46) then(
 wy a c b (gB N d) λq9 A0=>
 some (a,c,b,[],0,[],[],false,[],[],[],false,false,0,false,0,false,0,[],[],[],[],q9,[],[],false,false,false,false,0,[],[],0,0,0,0,0,0,A0))
 else
 bif (a==54) then(
 wy a c b (im N d) λm6 A1=>
 some (a,c,b,[],m6,[],[],false,[],[],[],false,false,0,false,0,false,0,[],[],[],[],[],[],[],false,false,false,false,0,[],[],0,0,0,0,0,0,A1))
 else
 bif (a==101) then(
 wy a c b (js N d) λl n=>
 some (a,c,b,[],0,[],[],false,[],[],[],false,false,0,false,0,false,0,[],[],[],[],[],[],[],false,false,false,false,0,l,[],0,0,0,0,0,0,n))
 else
 bif (a==111) then(
 wy a c b (js N d) λm o=>
 some (a,c,b,[],0,[],[],false,[],[],[],false,false,0,false,0,false,0,[],[],[],[],[],[],[],false,false,false,false,0,m,[],0,0,0,0,0,0,o))
 else
 wy a c b (none:Option (Unit×Y4)) λ_ _=>none
def I4:Tr cB:=(.node (.node (.node (.node .nil 9328136196 [(.normal,⟨[(1,.ptr 0 0),(2,.ptr 1 0),(3,.ptr 2 0),(4,.ptr 3 0)],[th,ti,oo5,.cells [hc3,dU,ay,vN,vZ,vN,vN,vF,vN,vN,vN,vF,vF,vZ,vF,vZ,vF,vZ,vN,vN,vN,vN,vN,vN,vN,vF,vF,vF,vF,vZ,vN,vN,vZ,vZ,vZ,vZ,vZ,vZ] false]⟩)] .nil) 1108839766023 [(.normal,⟨[(2,.ptr 1 0),(3,.ptr 2 0),(4,.ptr 3 0),(5,.ptr 4 0)],[.junk,ti,oo5,.cells [hc3,dU,ay,hc0,hc3,YK,mU,ay,hc0,mU,hc0,ay,ay,hc3,ay,hc3,ay,hc3,MY,UB,mU,mU,adV,mU,hc2,ay,ay,ay,ay,hc3,YN,YL,hc3,hc3,hc3,hc3,hc3,hc3] false,oo0,.junk,.junk,.junk]⟩)] (.node .nil 1128703986691 [(.normal,⟨[(6,.ptr 6 0),(8,.ptr 8 0)],[th,ti,oo5,adZ,oo5,.junk,oo5,.junk,oo0]⟩)] .nil)) 1128703987203 [(.normal,⟨[(6,.ptr 6 0),(8,.ptr 8 0)],[th,ti,oo5,adZ,.dead,.junk,oo5,.junk,oo0]⟩)] (.node (.node .nil 1128905313283 [(.normal,⟨[(6,.ptr 6 0),(8,.ptr 8 0)],[th,ti,oo5,ad0,oo5,.junk,oo5,.junk,oo0]⟩)] .nil) 1128905313795 [(.normal,⟨[(6,.ptr 6 0),(8,.ptr 8 0)],[th,ti,oo5,ad0,.dead,.junk,oo5,.junk,oo0]⟩)] (.node .nil 1129106639875 [(.normal,⟨[(6,.ptr 6 0),(8,.ptr 8 0)],[th,ti,oo5,ad1,oo5,.junk,oo5,.junk,oo0]⟩)] .nil))) 1129106640387 [(.normal,⟨[(6,.ptr 6 0),(8,.ptr 8 0)],[th,ti,oo5,ad1,.dead,.junk,oo5,.junk,oo0]⟩)] (.node (.node (.node .nil 1129307966467 [(.normal,⟨[(6,.ptr 6 0),(8,.ptr 8 0)],[th,ti,oo5,ad2,oo5,.junk,oo5,.junk,oo0]⟩)] .nil) 1129307966979 [(.normal,⟨[(6,.ptr 6 0),(8,.ptr 8 0)],[th,ti,oo5,ad2,.dead,.junk,oo5,.junk,oo0]⟩)] (.node .nil 1129911946243 [(.normal,⟨[(6,.ptr 6 0),(8,.ptr 8 0)],[th,ti,oo5,ad3,oo5,.junk,oo5,.junk,oo0]⟩)] .nil)) 1129911946755 [(.normal,⟨[(6,.ptr 6 0),(8,.ptr 8 0)],[th,ti,oo5,ad3,.dead,.junk,oo5,.junk,oo0]⟩)] (.node (.node .nil 1130113272835 [(.normal,⟨[(6,.ptr 6 0),(8,.ptr 8 0)],[th,ti,oo5,ad4,oo5,.junk,oo5,.junk,oo0]⟩)] .nil) 1130113273347 [(.normal,⟨[(6,.ptr 6 0),(8,.ptr 8 0)],[th,ti,oo5,ad4,.dead,.junk,oo5,.junk,oo0]⟩)] .nil)))
def I5:KC B0:=gC 139 ⟨[xD,Lg,UJ,F2,F3,D3,JW,pg,O9,F7,Pb,IW,Eb,Lv,IZ,M9,BQ,Ph,I3,Pj,GM,Na],[],[],[],I4⟩ [hc8] (.tup [.hole MW,hc4]) (jH NN) (by kernel_rfl)
attribute [local irreducible] jH
def vy(L:List (KL B0)):Ctx B0:=⟨[I5],[],[],L,.nil⟩
def xT:LD:=⟨110,3,0,⟨[(4,.own 0),(9,hc9),(10,hc3),(11,hc3)],[.arr MW false false]⟩,[(.ret,⟨[(2,vN),(3,hc3)],[.junk]⟩),(.exit 0,⟨[(4,.own 0)],[.arr MW false false]⟩)]⟩
@[local irreducible] noncomputable def mb(N n:Nat):(Y44×Int×Int×List Y42)->Option ((Int)⊕(List Y42)):=Nat.rec (λ_=>none) (λ_ L x=>syv N (xT.round (vy []).cxs L x)) n
def I6:KL B0:=gL (vy []) xT (mb NN) (by kernel_rfl)
def CS:AD B0:=⟨110,(vy [I6]),[hc9],(.tup [.hole (.sl MW),hc3])⟩
@[local irreducible] noncomputable def mB(N:Nat)(a:Y44):Option (List Y42×Int):=syv N (CS.go (a))
def Nb:KC B0:=gA CS (mB NN) (by kernel_rfl)
def pS(L:List (KL B0)):Ctx B0:=⟨[xD],[],[],L,.nil⟩
def sE:LD:=⟨85,3,0,⟨[(0,hc9),(3,.mp 0),(7,hc9),(8,hc3),(9,hc3)],[.smap]⟩,[(.ret,⟨[(2,ay)],[.junk]⟩),(.exit 0,⟨[(0,hc9)],[.junk]⟩)]⟩
@[local irreducible] noncomputable def jc(N n:Nat):(Y44×Y44×Y18)->Option ((Bool)⊕Y44):=Nat.rec (λ_=>none) (λ_ L x=>syv N (sE.round (pS []).cxs L x)) n
def CT:KL B0:=gL (pS []) sE (jc NN) (by kernel_rfl)
def wu:AD B0:=⟨85,(pS [CT]),[hc9],ay⟩
@[local irreducible] noncomputable def ki(N:Nat)(a:Y44):Option Bool:=syv N (wu.go (a))
def pT:KC B0:=gA wu (ki NN) (by kernel_rfl)
def sF:AD B0:=⟨111,(c1 [pT]),[hc9],ay⟩
@[local irreducible] noncomputable def jd(N:Nat)(a:Y44):Option Bool:=syv N (sF.go (a))
def CU:KC B0:=gA sF (jd NN) (by kernel_rfl)
def q9:AD B0:=⟨77,(c1 [Nb,CU]),[hc9],ay⟩
@[local irreducible] noncomputable def eu(N:Nat)(a:Y44):Option Bool:=syv N (q9.go (a))
def ra:KC B0:=gA q9 (eu NN) (by kernel_rfl)
def re:AD B0:=⟨76,(c1 [kE,rP,ra]),[UC,hc3],ay⟩
@[local irreducible] noncomputable def iM(N:Nat)(a:Y45)(a2:Int):Option Bool:=syv N (re.go (a,a2))
def BR:KC B0:=gA re (u2 (iM NN)) (by kernel_rfl)
def nA(L:List (KL B0)):Ctx B0:=⟨[xy,UK,rP,BR,ra],[],[],L,.nil⟩
def px:LD:=⟨35,7,0,⟨[(1,.ptr 0 0),(3,.mp 1),(59,DU),(60,hc3),(61,hc3)],[pG,.smap]⟩,[(.ret,⟨[(2,vF)],[.junk,.junk]⟩),(.exit 0,⟨[(1,.ptr 0 0)],[pG,.junk]⟩)]⟩
@[local irreducible] noncomputable def fT(N n:Nat):(Y46×Int×Int×Int×Bs×Bs×Y12×Int×Int×Int×Int×Int×Int×Bool×Int×Int×Int×Int×Int×Int×Y46×Y44×Y2)->Option ((Unit)⊕Y47):=Nat.rec (λ_=>none) (λ_ L x=>syv N (px.round (nA []).cxs L x)) n
def yf:KL B0:=gL (nA []) px (fT NN) (by kernel_rfl)
def rf:AD B0:=⟨35,(nA [yf]),[UD],ay⟩
@[local irreducible] noncomputable def f9(N:Nat)(a:Y48):Option Bool:=syv N (rf.go (a))
def nB:KC B0:=gA rf (f9 NN) (by kernel_rfl)
def wv:AD B0:=⟨12,(c1 [xu,nL,nB]),[Ld],ay⟩
@[local irreducible] noncomputable def io(N:Nat)(a:Y49):Option Bool:=syv N (wv.go (a))
def ww:KC B0:=gA wv (io NN) (by kernel_rfl)
def md(L:List (KL B0)):Ctx B0:=⟨[kE],[],[],L,.nil⟩
def tJ:LD:=⟨39,3,0,⟨[(0,hc3),(3,.own 0),(4,hc3)],[.arr .byte false false]⟩,[(.exit 0,⟨[(3,.own 0)],[.arr .byte false false]⟩)]⟩
@[local irreducible] noncomputable def eY(N n:Nat):Y9->Option Bs:=Nat.rec (λ_=>none) (λ_ L x=>syv N (tJ.round (md []).cxs L x)) n
def oF:KL B0:=gL (md []) tJ (eY NN) (by kernel_rfl)
def tK:LD:=⟨39,6,0,⟨[(3,hc0)],[.junk]⟩,[(.exit 2,⟨[(3,hc0)],[.junk]⟩)]⟩
@[local irreducible] noncomputable def kF(N n:Nat):Bs->Option Bs:=Nat.rec (λ_=>none) (λ_ L x=>syv N (tK.round (md [oF]).cxs L x)) n
def Ee:KL B0:=gL (md [oF]) tK (kF NN) (by kernel_rfl)
def xU:AD B0:=⟨39,(md [oF,Ee]),[hc3],hc0⟩
@[local irreducible] noncomputable def iT(N:Nat)(a:Int):Option Bs:=syv N (xU.go (a))
def I7:KC B0:=gA xU (iT NN) (by kernel_rfl)
def GN:Tr cB:=(.node .nil 3019900928 [(.normal,⟨[(2,hc0),(3,hc3)],[]⟩)] .nil)
def wx:AD B0:=⟨45,⟨[tn,eR],[],[],[],GN⟩,[dU],(.tup [hc0,hc3])⟩
@[local irreducible] noncomputable def lE(N:Nat)(a:Bs):Y10:=syv N (wx.go (a))
def GO:KC B0:=gA wx (lE NN) (by kernel_rfl)
def uO:AD B0:=⟨17,(c1 [xy,GO,f7]),[hc1],(.tup [hc0,hc3])⟩
@[local irreducible] noncomputable def gU(N:Nat)(a:Y0):Y10:=syv N (uO.go (a))
def uP:KC B0:=gA uO (gU NN) (by kernel_rfl)
def bt(N n:Nat):Y50->Y51:=Nat.rec (λ_=>none) (λ_ L (o,m,a,c,d,e,f,g,h,i)=>
 bif decide (a<m) then(
 (ix o a).bind λb=>
 (toB (IntKind.wrap .u8 (aq .i64 48 (gy .i64 b 10)))).bind λj=>
 (toB (IntKind.wrap .u8 (aq .i64 48 (Int.tmod b 10)))).bind λk=>
 (app 1 i [j,k]).bind λl=>
 L (o,m,aq .i64 a 1,c,d,e,f,g,h,l))
 else
 some (c,d,e,f,g,h,i)) n
def ic(N:Nat)(a:Y13):Y10:=
 (dZ a).bind λc1=>
 bif (!c1) then(
 some ([],8))
 else
 agree [(
 (toB (IntKind.wrap .u8 (aq .i64 48 (gy .i64 (gy .i64 a.1 100) 10)))).bind λd=>
 (toB (IntKind.wrap .u8 (aq .i64 48 (Int.tmod (gy .i64 a.1 100) 10)))).bind λe=>
 (app 1 ([]:List UInt8) [d,e]).bind λl=>
 agree (List.replicate 1 ((toB (IntKind.wrap .u8 (aq .i64 48 (gy .i64 (Int.tmod a.1 100) 10)))).bind λf=>
 (toB (IntKind.wrap .u8 (aq .i64 48 (Int.tmod (Int.tmod a.1 100) 10)))).bind λg=>
 (app 1 l [f,g]).bind λm=>
 agree (List.replicate 1 ((bt N N ([a.2.1,a.2.2.1,a.2.2.2.1,a.2.2.2.2.1,a.2.2.2.2.2],([a.2.1,a.2.2.1,a.2.2.2.1,a.2.2.2.2.1,a.2.2.2.2.2].length:Int),0,a.1,a.2.1,a.2.2.1,a.2.2.2.1,a.2.2.2.2.1,a.2.2.2.2.2,m)).bind λ(n,o,h,i,j,k,b)=>
 (app 1 b ([90]:Bs)).bind λc=>
 some (c,0):Y10)) some:Y10)) some:Y10),(
 (toB (IntKind.wrap .u8 (aq .i64 48 (gy .i64 (gy .i64 a.1 100) 10)))).bind λd=>
 (toB (IntKind.wrap .u8 (aq .i64 48 (Int.tmod (gy .i64 a.1 100) 10)))).bind λe=>
 (app 1 ([]:List UInt8) [d,e]).bind λl=>
 agree (List.replicate 1 ((toB (IntKind.wrap .u8 (aq .i64 48 (gy .i64 (Int.tmod a.1 100) 10)))).bind λf=>
 (toB (IntKind.wrap .u8 (aq .i64 48 (Int.tmod (Int.tmod a.1 100) 10)))).bind λg=>
 (app 1 l [f,g]).bind λm=>
 agree (List.replicate 1 ((bt N N ([a.2.1,a.2.2.1,a.2.2.2.1,a.2.2.2.2.1,a.2.2.2.2.2],([a.2.1,a.2.2.1,a.2.2.2.1,a.2.2.2.2.1,a.2.2.2.2.2].length:Int),0,a.1,a.2.1,a.2.2.1,a.2.2.2.1,a.2.2.2.2.1,a.2.2.2.2.2,m)).bind λ(n,o,h,i,j,k,b)=>
 (app 1 b ([90]:Bs)).bind λc=>
 some (c,0):Y10)) some:Y10)) some:Y10),(
 (toB (IntKind.wrap .u8 (aq .i64 48 (gy .i64 (gy .i64 a.1 100) 10)))).bind λd=>
 (toB (IntKind.wrap .u8 (aq .i64 48 (Int.tmod (gy .i64 a.1 100) 10)))).bind λe=>
 (app 1 ([]:List UInt8) [d,e]).bind λl=>
 agree (List.replicate 1 ((toB (IntKind.wrap .u8 (aq .i64 48 (gy .i64 (Int.tmod a.1 100) 10)))).bind λf=>
 (toB (IntKind.wrap .u8 (aq .i64 48 (Int.tmod (Int.tmod a.1 100) 10)))).bind λg=>
 (app 1 l [f,g]).bind λm=>
 agree (List.replicate 1 ((bt N N ([a.2.1,a.2.2.1,a.2.2.2.1,a.2.2.2.2.1,a.2.2.2.2.2],([a.2.1,a.2.2.1,a.2.2.2.1,a.2.2.2.2.1,a.2.2.2.2.2].length:Int),0,a.1,a.2.1,a.2.2.1,a.2.2.2.1,a.2.2.2.2.1,a.2.2.2.2.2,m)).bind λ(n,o,h,i,j,k,b)=>
 (app 1 b ([90]:Bs)).bind λc=>
 some (c,0):Y10)) some:Y10)) some:Y10),(
 (toB (IntKind.wrap .u8 (aq .i64 48 (gy .i64 (gy .i64 a.1 100) 10)))).bind λd=>
 (toB (IntKind.wrap .u8 (aq .i64 48 (Int.tmod (gy .i64 a.1 100) 10)))).bind λe=>
 (app 1 ([]:List UInt8) [d,e]).bind λl=>
 agree (List.replicate 1 ((toB (IntKind.wrap .u8 (aq .i64 48 (gy .i64 (Int.tmod a.1 100) 10)))).bind λf=>
 (toB (IntKind.wrap .u8 (aq .i64 48 (Int.tmod (Int.tmod a.1 100) 10)))).bind λg=>
 (app 1 l [f,g]).bind λm=>
 agree (List.replicate 1 ((bt N N ([a.2.1,a.2.2.1,a.2.2.2.1,a.2.2.2.2.1,a.2.2.2.2.2],([a.2.1,a.2.2.1,a.2.2.2.1,a.2.2.2.2.1,a.2.2.2.2.2].length:Int),0,a.1,a.2.1,a.2.2.1,a.2.2.2.1,a.2.2.2.2.1,a.2.2.2.2.2,m)).bind λ(n,o,h,i,j,k,b)=>
 (app 1 b ([90]:Bs)).bind λc=>
 some (c,0):Y10)) some:Y10)) some:Y10),(
 (toB (IntKind.wrap .u8 (aq .i64 48 (gy .i64 (gy .i64 a.1 100) 10)))).bind λd=>
 (toB (IntKind.wrap .u8 (aq .i64 48 (Int.tmod (gy .i64 a.1 100) 10)))).bind λe=>
 (app 1 ([]:List UInt8) [d,e]).bind λl=>
 agree (List.replicate 2 ((toB (IntKind.wrap .u8 (aq .i64 48 (gy .i64 (Int.tmod a.1 100) 10)))).bind λf=>
 (toB (IntKind.wrap .u8 (aq .i64 48 (Int.tmod (Int.tmod a.1 100) 10)))).bind λg=>
 (app 1 l [f,g]).bind λm=>
 agree (List.replicate 1 ((bt N N ([a.2.1,a.2.2.1,a.2.2.2.1,a.2.2.2.2.1,a.2.2.2.2.2],([a.2.1,a.2.2.1,a.2.2.2.1,a.2.2.2.2.1,a.2.2.2.2.2].length:Int),0,a.1,a.2.1,a.2.2.1,a.2.2.2.1,a.2.2.2.2.1,a.2.2.2.2.2,m)).bind λ(n,o,h,i,j,k,b)=>
 (app 1 b ([90]:Bs)).bind λc=>
 some (c,0):Y10)) some:Y10)) some:Y10),(
 (toB (IntKind.wrap .u8 (aq .i64 48 (gy .i64 (gy .i64 a.1 100) 10)))).bind λd=>
 (toB (IntKind.wrap .u8 (aq .i64 48 (Int.tmod (gy .i64 a.1 100) 10)))).bind λe=>
 (app 1 ([]:List UInt8) [d,e]).bind λl=>
 agree (List.replicate 2 ((toB (IntKind.wrap .u8 (aq .i64 48 (gy .i64 (Int.tmod a.1 100) 10)))).bind λf=>
 (toB (IntKind.wrap .u8 (aq .i64 48 (Int.tmod (Int.tmod a.1 100) 10)))).bind λg=>
 (app 1 l [f,g]).bind λm=>
 agree (List.replicate 1 ((bt N N ([a.2.1,a.2.2.1,a.2.2.2.1,a.2.2.2.2.1,a.2.2.2.2.2],([a.2.1,a.2.2.1,a.2.2.2.1,a.2.2.2.2.1,a.2.2.2.2.2].length:Int),0,a.1,a.2.1,a.2.2.1,a.2.2.2.1,a.2.2.2.2.1,a.2.2.2.2.2,m)).bind λ(n,o,h,i,j,k,b)=>
 (app 1 b ([90]:Bs)).bind λc=>
 some (c,0):Y10)) some:Y10)) some:Y10),(
 (toB (IntKind.wrap .u8 (aq .i64 48 (gy .i64 (gy .i64 a.1 100) 10)))).bind λd=>
 (toB (IntKind.wrap .u8 (aq .i64 48 (Int.tmod (gy .i64 a.1 100) 10)))).bind λe=>
 (app 1 ([]:List UInt8) [d,e]).bind λl=>
 agree (List.replicate 2 ((toB (IntKind.wrap .u8 (aq .i64 48 (gy .i64 (Int.tmod a.1 100) 10)))).bind λf=>
 (toB (IntKind.wrap .u8 (aq .i64 48 (Int.tmod (Int.tmod a.1 100) 10)))).bind λg=>
 (app 1 l [f,g]).bind λm=>
 agree (List.replicate 1 ((bt N N ([a.2.1,a.2.2.1,a.2.2.2.1,a.2.2.2.2.1,a.2.2.2.2.2],([a.2.1,a.2.2.1,a.2.2.2.1,a.2.2.2.2.1,a.2.2.2.2.2].length:Int),0,a.1,a.2.1,a.2.2.1,a.2.2.2.1,a.2.2.2.2.1,a.2.2.2.2.2,m)).bind λ(n,o,h,i,j,k,b)=>
 (app 1 b ([90]:Bs)).bind λc=>
 some (c,0):Y10)) some:Y10)) some:Y10),(
 (toB (IntKind.wrap .u8 (aq .i64 48 (gy .i64 (gy .i64 a.1 100) 10)))).bind λd=>
 (toB (IntKind.wrap .u8 (aq .i64 48 (Int.tmod (gy .i64 a.1 100) 10)))).bind λe=>
 (app 1 ([]:List UInt8) [d,e]).bind λl=>
 agree (List.replicate 2 ((toB (IntKind.wrap .u8 (aq .i64 48 (gy .i64 (Int.tmod a.1 100) 10)))).bind λf=>
 (toB (IntKind.wrap .u8 (aq .i64 48 (Int.tmod (Int.tmod a.1 100) 10)))).bind λg=>
 (app 1 l [f,g]).bind λm=>
 agree (List.replicate 1 ((bt N N ([a.2.1,a.2.2.1,a.2.2.2.1,a.2.2.2.2.1,a.2.2.2.2.2],([a.2.1,a.2.2.1,a.2.2.2.1,a.2.2.2.2.1,a.2.2.2.2.2].length:Int),0,a.1,a.2.1,a.2.2.1,a.2.2.2.1,a.2.2.2.2.1,a.2.2.2.2.2,m)).bind λ(n,o,h,i,j,k,b)=>
 (app 1 b ([90]:Bs)).bind λc=>
 some (c,0):Y10)) some:Y10)) some:Y10)] λ(q,p)=>
 some (q,p)
def CV:Tr cB:=(.node .nil 1105148775427 [(.normal,⟨[(2,hc0),(3,hc3)],[.junk,.junk,.junk]⟩)] .nil)
def sG(L:List (KL B0)):Ctx B0:=⟨[rA],[],[],L,CV⟩
def zy:LD:=⟨116,2,2,⟨[(0,.own 1),(17,Lf),(18,hc3),(19,hc3)],[mD,.arr .byte false false,.junk]⟩,[(.exit 0,⟨[(0,.own 1)],[mD,.arr .byte false false,.junk]⟩)]⟩
def zA:KL B0:=gL (sG []) zy (bt NN) (by kernel_rfl)
def CW:KC B0:=gC 84 (sG [zA]) [hc6] (.tup [hc0,hc3]) (ic NN) (by kernel_rfl)
attribute [local irreducible] bt ic
def dK(N n:Nat):Y50->Y51:=Nat.rec (λ_=>none) (λ_ L (o,k,i,l,m,b,c,d,e,f)=>
 bif decide (i<k) then(
 (ix o i).bind λa=>
 (toB (IntKind.wrap .u8 (aq .i64 48 (gy .i64 a 10)))).bind λg=>
 (toB (IntKind.wrap .u8 (aq .i64 48 (Int.tmod a 10)))).bind λh=>
 (app 1 f [g,h]).bind λj=>
 L (o,k,aq .i64 i 1,l,m,b,c,d,e,j))
 else
 some (l,m,b,c,d,e,f)) n
def jI(N:Nat)(a:Y13):Y10:=
 (dZ a).bind λc1=>
 bif (!c1) then(
 some ([],8))
 else
 bif decide (a.1<1950) then(
 some ([],9))
 else
 bif decide (a.1>2049) then(
 some ([],9))
 else
 agree (List.replicate 2 (
 (toB (IntKind.wrap .u8 (aq .i64 48 (gy .i64 (Int.tmod a.1 100) 10)))).bind λf=>
 (toB (IntKind.wrap .u8 (aq .i64 48 (Int.tmod (Int.tmod a.1 100) 10)))).bind λg=>
 (app 1 ([]:List UInt8) [f,g]).bind λi=>
 agree (List.replicate 1 ((dK N N ([a.2.1,a.2.2.1,a.2.2.2.1,a.2.2.2.2.1,a.2.2.2.2.2],([a.2.1,a.2.2.1,a.2.2.2.1,a.2.2.2.2.1,a.2.2.2.2.2].length:Int),0,a.1,a.2.1,a.2.2.1,a.2.2.2.1,a.2.2.2.2.1,a.2.2.2.2.2,i)).bind λ(j,k,l,m,n,h,c)=>
 (app 1 c ([90]:Bs)).bind λd=>
 some (d,0):Y10)) some:Y10)) λ(e,b)=>
 some (e,b)
def I8:Tr cB:=(.node .nil 1105081668611 [(.normal,⟨[(2,hc0),(3,hc3)],[.junk,.junk,.junk]⟩)] .nil)
def xV(L:List (KL B0)):Ctx B0:=⟨[rA],[],[],L,I8⟩
def Ef:LD:=⟨116,2,2,⟨[(0,.own 1),(17,Lf),(18,hc3),(19,hc3)],[mD,.arr .byte false false,.junk]⟩,[(.exit 0,⟨[(0,.own 1)],[mD,.arr .byte false false,.junk]⟩)]⟩
def Eg:KL B0:=gL (xV []) Ef (dK NN) (by kernel_rfl)
def I9:KC B0:=gC 83 (xV [Eg]) [hc6] (.tup [hc0,hc3]) (jI NN) (by kernel_rfl)
attribute [local irreducible] dK jI
end
end Go.Fw
