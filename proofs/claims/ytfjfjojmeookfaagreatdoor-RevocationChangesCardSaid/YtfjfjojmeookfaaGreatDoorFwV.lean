/- A framework for proofs about Go programs in this model: part V. Everything is proved; no condition is added. -/
import Derived.Test.YtfjfjojmeookfaaGreatDoorFwU
set_option linter.unusedVariables false
set_option linter.unusedSimpArgs false
set_option linter.defProp false
namespace Go.Fw
open Go Go.Proofs.Tryz
noncomputable section
set_option maxRecDepth 100000
set_option maxHeartbeats 0
attribute [local irreducible] ix app slc cC toB agree fU fW fT jB dR aK aV aX
def pM:AD B0:=⟨251,(c1 []),[],(.agg [.func (.func 318) [] [],.func (.func 319) [] []])⟩
@[local irreducible] def pN:Option Unit:=syv NN (pM.go ())
def BW:=gA pM (λ_=>pN)
def qR:AD B0:=⟨318,(c1 [oY]),[bO,hc0],(.tup [ahP,au])⟩
@[local irreducible] def qS(N:Nat)(a:Bs)(a2:Bs):Option ((Bs×Y22)×Bool):=syv N (qR.go (a,a2))
def CV:=gA qR (u2 (qS NN))
def kz:AD B0:=⟨320,(c1 [aH,aU,gr,CV]),[.agg [.func (.func 318) [] [],.func (.func 319) [] []],hc0],(.tup [ahP,au])⟩
@[local irreducible] def gM(N:Nat)(a:Bs):Option ((Bs×Y22)×Bool):=syv N (kz.go (a))
def sX:=gA kz (gM NN)
def gb(L:List (KL B0)):Ctx B0:=⟨[aH,sX],[],[],L,.nil⟩
def iW:LD:=⟨253,6,0,⟨[(1,hc0),(2,.ptr 0 0),(5,.ptr 1 0),(8,.own 3),(22,eL),(23,hc3),(24,hc3)],[.cells [.func (.func 318) [] [],.func (.func 319) [] []] false,oo5,.junk,.arr PN false false]⟩,[(.ret,⟨[(4,vN),(5,.ptr 1 0)],[.junk,oo6,.junk,.junk]⟩),(.exit 0,⟨[(1,hc0),(5,.ptr 1 0),(8,.own 3)],[.junk,oo5,.junk,.arr PN false false]⟩)]⟩
@[local irreducible] def iX(N n:Nat):(Bs×Y17×Int×Int×Y40)->Option ((Int)⊕(Bs×Y40)):=Nat.rec (λ_=>none) (λ_ L x=>syv N (iW.round (gb []).cxs L x)) n
def po:=gL (gb []) iW (iX NN)
def jK:AD B0:=⟨253,(gb [po]),[.agg [.func (.func 318) [] [],.func (.func 319) [] []],hc0],(.tup [aci,hc4])⟩
@[local irreducible] def jL(N:Nat)(a:Bs):Option (Y40×Y4):=syv N (jK.go (a))
def rx:=gA jK (jL NN)
def E9:AD B0:=⟨183,(c1 [BW,rx]),[hc0],(.tup [aci,hc4])⟩
@[irreducible] def nk(N:Nat)(a:Bs):Option (Y40×Y4):=syv N (E9.go (a))
def P5:=gA E9 (nk NN)
def wy{α:Type}(T:Int)(U:Bs)(S:Bool)(p:Option (α×Y4))(f:α->Y4->Option (Int×Bs×Bool×Bs×Int×Y2×Y25×Bool×Bs×Y25×Bs×Bool×Bool×Int×Bool×Int×Bool×Int×Y32×Y11×Y25×Y25×List Y31×Y25×Y11×Bool×Bool×Bool×Bool×Int×Y40×Y19×Int×Int×Y13)):Option (Y41×Y4):=
 agree (List.replicate 2 (p.bind λ(l,a)=>bif (a.1==0) then f l a else some (T,U,S,[],0,[],[],false,[],[],[],false,false,0,false,0,false,0,[],[],[],[],[],[],[],false,false,false,false,0,[],[],0,0,0,0,0,0,a))) λ(o,R,c,C,q,D,E,d,F,G,H,e,g,r,h,s,i,t,I,J,K,L,M,N,O,j,k,m,n,u,P,Q,v,w,x,y,z,A,b,B)=>
 bif (b !=0) then(
 some ((0,[],false,[],0,[],[],(false,[],[],[]),(false,false,0),(false,0,false,0),[],[],([],[]),[],([],[],false,false,false,false,0),[],[],0,0,0,0,0,0),b,B))
 else
 some ((o,R,c,C,q,D,E,(d,F,G,H),(e,g,r),(h,s,i,t),I,J,(K,L),M,(N,O,j,k,m,n,u),P,Q,v,w,x,y,z,A),0,0)
def mF(N:Nat)(i:Y14):Option (Y41×Y4):=
 (mB N i).bind λc1=>
 bif (!c1) then(
 some ((0,[],false,[],0,[],[],(false,[],[],[]),(false,false,0),(false,0,false,0),[],[],([],[]),[],([],[],false,false,false,false,0),[],[],0,0,0,0,0,0),8,0))
 else
 (aX i.1).bind λi2=>
 ((
 bif (i2==0) then(
 some (i.1,i.2.1,i.2.2,i2,i.1,i.2.1))
 else
 some (i.1,i.2.1,i.2.2,i2,[],i.2.1):Option (Bs×Bool×Bs×Int×Bs×Bool))).bind λ(q,p,d,a,c,b)=>
 bif (a==0) then(
 wy a c b (kL d) λl9 B7=>
 some (a,c,b,l9,0,[],[],false,[],[],[],false,false,0,false,0,false,0,[],[],[],[],[],[],[],false,false,false,false,0,[],[],0,0,0,0,0,0,B7))
 else
 bif (a==9) then(
 wy a c b (kM N d) λB5 B8=>
 some (a,c,b,[],0,[],[],false,[],[],[],false,false,0,false,0,false,0,[],[],[],[],[],[],[],false,false,false,false,0,[],B5,0,0,0,0,0,0,B8))
 else
 bif (a==14) then(
 wy a c b (jR N d) λB6 B9=>
 some (a,c,b,B6,0,[],[],false,[],[],[],false,false,0,false,0,false,0,[],[],[],[],[],[],[],false,false,false,false,0,[],[],0,0,0,0,0,0,B9))
 else
 bif (a==15) then(
 wy a c b (nM N d) λG w9=>
 some (a,c,b,[],G,[],[],false,[],[],[],false,false,0,false,0,false,0,[],[],[],[],[],[],[],false,false,false,false,0,[],[],0,0,0,0,0,0,w9))
 else
 bif (a==17) then(
 wy a c b (fg N d) λm9 y0=>
 some (a,c,b,[],0,[],m9,false,[],[],[],false,false,0,false,0,false,0,[],[],[],[],[],[],[],false,false,false,false,0,[],[],0,0,0,0,0,0,y0))
 else
 bif (a==18) then(
 wy a c b (fg N d) λn5 z6=>
 some (a,c,b,[],0,[],n5,false,[],[],[],false,false,0,false,0,false,0,[],[],[],[],[],[],[],false,false,false,false,0,[],[],0,0,0,0,0,0,z6))
 else
 bif (a==19) then(
 wy a c b (sq N d) λj z7=>
 agree (List.replicate 2 (
 some (q,p,d,a,c,b,j.1,j.2.1,j.2.2,z7):Option (Bs×Bool×Bs×Int×Bs×Y42))) λ(D2,C0,C6,H,s6,r,s,t,I,J,K)=>
 some (H,s6,r,[],0,[],[],false,[],[],[],s,t,I,false,0,false,0,[],[],[],[],[],[],[],false,false,false,false,0,[],[],0,0,0,0,0,0,J,K))
 else
 bif (a==20) then(
 wy a c b (iO N d) λn6 z8=>
 some (a,c,b,n6,0,[],[],false,[],[],[],false,false,0,false,0,false,0,[],[],[],[],[],[],[],false,false,false,false,0,[],[],0,0,0,0,0,0,z8))
 else
 bif (a==21) then(
 wy a c b (sr N d) λL A0=>
 some (a,c,b,[],L,[],[],false,[],[],[],false,false,0,false,0,false,0,[],[],[],[],[],[],[],false,false,false,false,0,[],[],0,0,0,0,0,0,A0))
 else
 bif (a==24) then(
 wy a c b (mD N d) λf A1=>
 agree (List.replicate 2 (
 some (q,p,d,a,c,b,f.1,f.2.1,f.2.2.1,f.2.2.2.1,f.2.2.2.2.1,f.2.2.2.2.2,A1):Option (Bs×Bool×Bs×Int×Bs×Bool×Int×Int×Y13))) λ(D3,C1,C7,M,s8,u,O,P,Q,R,S,T,U,V)=>
 some (M,s8,u,[],0,[],[],false,[],[],[],false,false,0,false,0,false,0,[],[],[],[],[],[],[],false,false,false,false,0,[],[],O,P,Q,R,S,T,U,V))
 else
 bif (a==27) then(
 wy a c b (iO N d) λn7 A2=>
 some (a,c,b,n7,0,[],[],false,[],[],[],false,false,0,false,0,false,0,[],[],[],[],[],[],[],false,false,false,false,0,[],[],0,0,0,0,0,0,A2))
 else
 bif (a==28) then(
 wy a c b (jT N d) λe A3=>
 agree (List.replicate 2 (
 some (q,p,d,a,c,b,e.1,e.2.1,e.2.2.1,e.2.2.2.1,e.2.2.2.2.1,e.2.2.2.2.2.1,e.2.2.2.2.2.2,A3):Option (Bs×Bool×Bs×Int×Bs×Bool×Y25×Y11×Bool×Y42))) λ(D4,C2,C8,W,t7,v,n8,n9,w,x,y,z,X,Y,Z)=>
 some (W,t7,v,[],0,[],[],false,[],[],[],false,false,0,false,0,false,0,[],[],[],[],[],n8,n9,w,x,y,z,X,[],[],0,0,0,0,0,0,Y,Z))
 else
 bif (a==29) then(
 wy a c b (fg N d) λo7 A4=>
 some (a,c,b,[],0,[],o7,false,[],[],[],false,false,0,false,0,false,0,[],[],[],[],[],[],[],false,false,false,false,0,[],[],0,0,0,0,0,0,A4))
 else
 bif (a==30) then(
 wy a c b (oZ N d) λk A5=>
 agree (List.replicate 2 (
 some (q,p,d,a,c,b,k.1,k.2,A5):Option (Bs×Bool×Bs×Int×Bs×Bool×Y25×Y25×Y4))) λ(D5,C3,C9,j3,t8,A,o8,o9,j4,j5)=>
 some (j3,t8,A,[],0,[],[],false,[],[],[],false,false,0,false,0,false,0,[],[],o8,o9,[],[],[],false,false,false,false,0,[],[],0,0,0,0,0,0,j4,j5))
 else
 bif (a==31) then(
 wy a c b (jI N d) λp7 A6=>
 some (a,c,b,[],0,[],[],false,[],[],[],false,false,0,false,0,false,0,[],[],[],[],p7,[],[],false,false,false,false,0,[],[],0,0,0,0,0,0,A6))
 else
 bif (a==32) then(
 wy a c b (qw N d) λp8 A7=>
 some (a,c,b,[],0,[],[],false,[],[],[],false,false,0,false,0,false,0,p8,[],[],[],[],[],[],false,false,false,false,0,[],[],0,0,0,0,0,0,A7))
 else
 bif (a==33) then(
 wy a c b (iZ N d) λp9 A8=>
 some (a,c,b,[],0,[],[],false,[],[],[],false,false,0,false,0,false,0,[],p9,[],[],[],[],[],false,false,false,false,0,[],[],0,0,0,0,0,0,A8))
 else
 bif (a==35) then(
 wy a c b (Si N d) λg A9=>
 agree (List.replicate 2 (
 some (q,p,d,a,c,b,g.1,g.2.1,g.2.2.1,g.2.2.2,A9):Option (Bs×Bool×Bs×Int×Bs×Bool×Bool×Bs×Y25×Bs×Y4))) λ(D6,C4,D0,j6,u0,B,C,q6,q7,q8,j7,j8)=>
 some (j6,u0,B,[],0,[],[],C,q6,q7,q8,false,false,0,false,0,false,0,[],[],[],[],[],[],[],false,false,false,false,0,[],[],0,0,0,0,0,0,j7,j8))
 else
 bif (a==36) then(
 wy a c b (mE N d) λh B1=>
 agree (List.replicate 2 (
 some (q,p,d,a,c,b,h.1,h.2.1,h.2.2.1,h.2.2.2,B1):Option (Bs×Bool×Bs×Int×Bs×Bool×Bool×Int×Bool×Int×Y4))) λ(D7,C5,D1,j9,u7,D,E,k9,F,m5,m6,m7)=>
 some (j9,u7,D,[],0,[],[],false,[],[],[],false,false,0,E,k9,F,m5,[],[],[],[],[],[],[],false,false,false,false,0,[],[],0,0,0,0,0,0,m6,m7))
 else
 bif (a==37) then(
 wy a c b (sA N d) λq9 B2=>
 some (a,c,b,[],0,q9,[],false,[],[],[],false,false,0,false,0,false,0,[],[],[],[],[],[],[],false,false,false,false,0,[],[],0,0,0,0,0,0,B2))
 else
 bif (a==46) then(
 wy a c b (jI N d) λr9 B3=>
 some (a,c,b,[],0,[],[],false,[],[],[],false,false,0,false,0,false,0,[],[],[],[],r9,[],[],false,false,false,false,0,[],[],0,0,0,0,0,0,B3))
 else
 bif (a==54) then(
 wy a c b (lG N d) λm8 B4=>
 some (a,c,b,[],m8,[],[],false,[],[],[],false,false,0,false,0,false,0,[],[],[],[],[],[],[],false,false,false,false,0,[],[],0,0,0,0,0,0,B4))
 else
 bif (a==101) then(
 wy a c b (nk N d) λl n=>
 some (a,c,b,[],0,[],[],false,[],[],[],false,false,0,false,0,false,0,[],[],[],[],[],[],[],false,false,false,false,0,l,[],0,0,0,0,0,0,n))
 else
 bif (a==111) then(
 wy a c b (nk N d) λm o=>
 some (a,c,b,[],0,[],[],false,[],[],[],false,false,0,false,0,false,0,[],[],[],[],[],[],[],false,false,false,false,0,m,[],0,0,0,0,0,0,o))
 else
 wy a c b (none:Option (Unit×Y4)) λ_ _=>none
def LR:Tr bh:=(.node (.node (.node (.node .nil 9328136196 [(.normal,⟨[(1,.ptr 0 0),(2,.ptr 1 0),(3,.ptr 2 0),(4,.ptr 3 0)],[uy,uz,oo5,.cells [hc3,bO,au,vN,vZ,vN,vN,vF,vN,vN,vN,vF,vF,vZ,vF,vZ,vF,vZ,vN,vN,vN,vN,vN,vN,vN,vF,vF,vF,vF,vZ,vN,vN,vZ,vZ,vZ,vZ,vZ,vZ] false]⟩)] .nil) 1108839766023 [(.normal,⟨[(2,.ptr 1 0),(3,.ptr 2 0),(4,.ptr 3 0),(5,.ptr 4 0)],[.junk,uz,oo5,.cells [hc3,bO,au,hc0,hc3,acf,kW,au,hc0,kW,hc0,au,au,hc3,au,hc3,au,hc3,PR,XU,kW,kW,ahN,kW,hc2,au,au,au,au,hc3,aci,acg,hc3,hc3,hc3,hc3,hc3,hc3] false,oo0,.junk,.junk,.junk]⟩)] (.node .nil 1128703986691 [(.normal,⟨[(6,.ptr 6 0),(8,.ptr 8 0)],[uy,uz,oo5,ahR,oo5,.junk,oo5,.junk,oo0]⟩)] .nil)) 1128703987203 [(.normal,⟨[(6,.ptr 6 0),(8,.ptr 8 0)],[uy,uz,oo5,ahR,.dead,.junk,oo5,.junk,oo0]⟩)] (.node (.node .nil 1128905313283 [(.normal,⟨[(6,.ptr 6 0),(8,.ptr 8 0)],[uy,uz,oo5,ahS,oo5,.junk,oo5,.junk,oo0]⟩)] .nil) 1128905313795 [(.normal,⟨[(6,.ptr 6 0),(8,.ptr 8 0)],[uy,uz,oo5,ahS,.dead,.junk,oo5,.junk,oo0]⟩)] (.node .nil 1129106639875 [(.normal,⟨[(6,.ptr 6 0),(8,.ptr 8 0)],[uy,uz,oo5,ahT,oo5,.junk,oo5,.junk,oo0]⟩)] .nil))) 1129106640387 [(.normal,⟨[(6,.ptr 6 0),(8,.ptr 8 0)],[uy,uz,oo5,ahT,.dead,.junk,oo5,.junk,oo0]⟩)] (.node (.node (.node .nil 1129307966467 [(.normal,⟨[(6,.ptr 6 0),(8,.ptr 8 0)],[uy,uz,oo5,ahU,oo5,.junk,oo5,.junk,oo0]⟩)] .nil) 1129307966979 [(.normal,⟨[(6,.ptr 6 0),(8,.ptr 8 0)],[uy,uz,oo5,ahU,.dead,.junk,oo5,.junk,oo0]⟩)] (.node .nil 1129911946243 [(.normal,⟨[(6,.ptr 6 0),(8,.ptr 8 0)],[uy,uz,oo5,ahV,oo5,.junk,oo5,.junk,oo0]⟩)] .nil)) 1129911946755 [(.normal,⟨[(6,.ptr 6 0),(8,.ptr 8 0)],[uy,uz,oo5,ahV,.dead,.junk,oo5,.junk,oo0]⟩)] (.node (.node .nil 1130113272835 [(.normal,⟨[(6,.ptr 6 0),(8,.ptr 8 0)],[uy,uz,oo5,ahW,oo5,.junk,oo5,.junk,oo0]⟩)] .nil) 1130113273347 [(.normal,⟨[(6,.ptr 6 0),(8,.ptr 8 0)],[uy,uz,oo5,ahW,.dead,.junk,oo5,.junk,oo0]⟩)] .nil)))
def LS:KC B0:=gC 139 ⟨[zO,N6,X1,II,IJ,Gz,MS,oI,R8,IQ,Sa,LH,GI,Ol,LM,P4,Eb,Sh,LQ,Sj,Ju,P5],[],[],[],LR⟩ [hc8] (.tup [.hole PQ,hc4]) (mF NN) krq
attribute [irreducible] mF
def xA(L:List (KL B0)):Ctx B0:=⟨[LS],[],[],L,.nil⟩
def Ah:LD:=⟨110,3,0,⟨[(4,.own 0),(9,hc9),(10,hc3),(11,hc3)],[.arr PQ false false]⟩,[(.ret,⟨[(2,vN),(3,hc3)],[.junk]⟩),(.exit 0,⟨[(4,.own 0)],[.arr PQ false false]⟩)]⟩
@[local irreducible] def Ai(N n:Nat):(Y43×Int×Int×List Y41)->Option ((Int)⊕(List Y41)):=Nat.rec (λ_=>none) (λ_ L x=>syv N (Ah.round (xA []).cxs L x)) n
def LT:=gL (xA []) Ah (Ai NN)
def Fa:AD B0:=⟨110,(xA [LT]),[hc9],(.tup [.hole (.sl PQ),hc3])⟩
@[irreducible] def xB(N:Nat)(a:Y43):Option (List Y41×Int):=syv N (Fa.go (a))
def P6:=gA Fa (xB NN)
def pO(L:List (KL B0)):Ctx B0:=⟨[zO],[],[],L,.nil⟩
def tV:LD:=⟨85,3,0,⟨[(0,hc9),(3,.mp 0),(7,hc9),(8,hc3),(9,hc3)],[.smap]⟩,[(.ret,⟨[(2,au)],[.junk]⟩),(.exit 0,⟨[(0,hc9)],[.junk]⟩)]⟩
@[local irreducible] def nl(N n:Nat):(Y43×Y43×Y18)->Option ((Bool)⊕Y43):=Nat.rec (λ_=>none) (λ_ L x=>syv N (tV.round (pO []).cxs L x)) n
def Fb:=gL (pO []) tV (nl NN)
def yB:AD B0:=⟨85,(pO [Fb]),[hc9],au⟩
@[irreducible] def pP(N:Nat)(a:Y43):Option Bool:=syv N (yB.go (a))
def pQ:=gA yB (pP NN)
def tW:AD B0:=⟨111,(c1 [pQ]),[hc9],au⟩
@[irreducible] def nn(N:Nat)(a:Y43):Option Bool:=syv N (tW.go (a))
def Fc:=gA tW (nn NN)
def rT:AD B0:=⟨77,(c1 [P6,Fc]),[hc9],au⟩
@[irreducible] def dL(N:Nat)(a:Y43):Option Bool:=syv N (rT.go (a))
def rU:=gA rT (dL NN)
def rV:AD B0:=⟨76,(c1 [iq,sS,rU]),[XV,hc3],au⟩
@[irreducible] def mb(N:Nat)(a:Y44)(a2:Int):Option Bool:=syv N (rV.go (a,a2))
def Ec:=gA rV (u2 (mb NN))
def md(L:List (KL B0)):Ctx B0:=⟨[zH,X2,sS,Ec,rU],[],[],L,.nil⟩
def ph:LD:=⟨35,7,0,⟨[(1,.ptr 0 0),(3,.mp 1),(59,sL),(60,hc3),(61,hc3)],[pt,.smap]⟩,[(.ret,⟨[(2,vF)],[.junk,.junk]⟩),(.exit 0,⟨[(1,.ptr 0 0)],[pt,.junk]⟩)]⟩
@[local irreducible] def hZ(N n:Nat):(Y45×Int×Int×Int×Bs×Bs×Y12×Int×Int×Int×Int×Int×Int×Bool×Int×Int×Int×Int×Int×Int×Y45×Y43×Y2)->Option ((Unit)⊕Y46):=Nat.rec (λ_=>none) (λ_ L x=>syv N (ph.round (md []).cxs L x)) n
def AF:=gL (md []) ph (hZ NN)
def rW:AD B0:=⟨35,(md [AF]),[PT],au⟩
@[irreducible] def me(N:Nat)(a:Y47):Option Bool:=syv N (rW.go (a))
def mf:=gA rW (me NN)
def yC:AD B0:=⟨12,(c1 [zD,mz,mf]),[Gp],au⟩
@[irreducible] def gS(N:Nat)(a:Y48):Option Bool:=syv N (yC.go (a))
def pR:=gA yC (gS NN)
end
end Go.Fw
