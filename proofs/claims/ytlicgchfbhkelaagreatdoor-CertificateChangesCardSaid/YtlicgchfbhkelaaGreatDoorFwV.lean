/- A framework for proofs about Go programs in this model: part V. Everything is proved; no condition is added. -/
import Derived.Test.YtlicgchfbhkelaaGreatDoorFwU
set_option linter.unusedVariables false
set_option linter.unusedSimpArgs false
set_option linter.defProp false
namespace Go.Fw
open Go Go.Proofs.Tryz
noncomputable section
set_option maxRecDepth 100000
set_option maxHeartbeats 0
attribute [local irreducible] ix app slc cw toB agree fF fH fE ju dD aI aP aQ jK
def Hu:AD B0:=⟨269,(c1 [oq,ji]),[agE],au⟩
@[irreducible] def Hv(N:Nat)(a:Y43):Option Bool:=syv N (Hu.go (a))
def Q3:=gA Hu (Hv NN)
def yB:AD B0:=⟨196,(c1 [aH,Q3,aT,jh,cj,og]),[hc0],(.tup [agE,hc5])⟩
def Q4:KC B0:=yB.k krq
abbrev Q5(N:Nat)(a:Bs):Option (Y43×Y3):=yB.run a
def KG:Tr aZ:=(.node .nil 13354677253 [(.normal,⟨[(0,hc0),(2,.ptr 0 0),(3,.ptr 1 0),(6,.ptr 3 0),(7,hc4),(22,dW),(23,hc4),(24,hc4)],[WB,oo5,.junk,abl,.junk]⟩)] .nil)
def qO(L:List (KL B0)):Ctx B0:=⟨[aH,nB],[],[],L,KG⟩
def uv:LD:=⟨199,7,0,⟨[(0,hc0),(2,.ptr 0 0),(3,.ptr 1 0),(6,.ptr 3 0),(7,hc4),(22,dW),(23,hc4),(24,hc4)],[WB,oo5,.junk,abl]⟩,[(.ret,⟨[(2,.ptr 0 0),(3,.ptr 1 0)],[WB,oo6,.junk,.junk]⟩),(.exit 0,⟨[(0,hc0),(2,.ptr 0 0),(3,.ptr 1 0),(6,.ptr 3 0),(7,hc4)],[WB,oo5,.junk,abl]⟩)]⟩
@[local irreducible] def nC(N n:Nat):(Bs×Int×Y22×Int×Int×Y44)->Option ((Int)⊕(Bs×Int×Y44)):=Nat.rec (λ_=>none) (λ_ L x=>syv N (uv.round (qO []).cxs L x)) n
def FJ:=gL (qO []) uv (nC NN)
def zb:AD B0:=⟨199,(qO [FJ]),[hc0],(.tup [.hole agp,hc5])⟩
@[irreducible] def ml(N:Nat)(a:Bs):Option (Y44×Y3):=syv N (zb.go (a))
def KH:=gA zb (ml NN)
def yC(L:List (KL B0)):Ctx B0:=⟨[aH,aT,gd],[],[],L,.nil⟩
def A0:LD:=⟨202,6,0,⟨[(0,hc0),(3,.ptr 0 0),(6,.own 2),(20,dW),(21,hc4),(22,hc4)],[oo0,.junk,.arr .str false false]⟩,[(.ret,⟨[(2,vN),(3,.ptr 0 0)],[oo0,.junk,.junk]⟩),(.exit 0,⟨[(0,hc0),(3,.ptr 0 0),(6,.own 2)],[oo0,.junk,.arr .str false false]⟩)]⟩
@[local irreducible] def rZ(N n:Nat):(Bs×Y22×Int×Int×Y23)->Option (Y3⊕(Bs×Y23)):=Nat.rec (λ_=>none) (λ_ L x=>syv N (A0.round (yC []).cxs L x)) n
def LP:=gL (yC []) A0 (rZ NN)
def Hw:AD B0:=⟨202,(yC [LP]),[hc0],(.tup [abe,hc5])⟩
@[irreducible] def rK(N:Nat)(a:Bs):Option (Y12×Y3):=syv N (Hw.go (a))
def Q6:=gA Hw (rK NN)
def sU:AD B0:=⟨275,(c1 [bN,nB]),[hc0,.func (.func 243) [] []],(.tup [hc4,hc5])⟩
@[local irreducible] def sV(N:Nat)(a:Bs):Y25:=syv N (sU.go (a))
def Eb:=gA sU (sV NN)
def xI:AD B0:=⟨204,(c1 [Eb]),[hc0],(.tup [hc4,hc5])⟩
@[irreducible] def lA(N:Nat)(a:Bs):Y25:=syv N (xI.go (a))
def IB:=gA xI (lA NN)
def po:AD B0:=⟨229,(c1 []),[],(.agg [.func (.func 304) [] [],.func (.func 305) [] []])⟩
@[local irreducible] def pp:Option Unit:=syv NN (po.go ())
def A1:=gA po (λ_=>pp)
def qv:AD B0:=⟨304,(c1 [oJ]),[bx,hc0],(.tup [agF,au])⟩
@[local irreducible] def qw(N:Nat)(a:Bs)(a2:Bs):Option ((Bs×Y27)×Bool):=syv N (qv.go (a,a2))
def BW:=gA qv (u2 (qw NN))
def kq:AD B0:=⟨306,(c1 [aH,aT,gd,BW]),[.agg [.func (.func 304) [] [],.func (.func 305) [] []],hc0],(.tup [agF,au])⟩
@[local irreducible] def gy(N:Nat)(a:Bs):Option ((Bs×Y27)×Bool):=syv N (kq.go (a))
def sc:=gA kq (gy NN)
def fN(L:List (KL B0)):Ctx B0:=⟨[aH,sc],[],[],L,.nil⟩
def iO:LD:=⟨231,6,0,⟨[(1,hc0),(2,.ptr 0 0),(5,.ptr 1 0),(8,.own 3),(22,dW),(23,hc4),(24,hc4)],[.cells [.func (.func 304) [] [],.func (.func 305) [] []] false,oo5,.junk,.arr Ov false false]⟩,[(.ret,⟨[(4,vN),(5,.ptr 1 0)],[.junk,oo6,.junk,.junk]⟩),(.exit 0,⟨[(1,hc0),(5,.ptr 1 0),(8,.own 3)],[.junk,oo5,.junk,.arr Ov false false]⟩)]⟩
@[local irreducible] def iP(N n:Nat):(Bs×Y22×Int×Int×Y45)->Option ((Int)⊕(Bs×Y45)):=Nat.rec (λ_=>none) (λ_ L x=>syv N (iO.round (fN []).cxs L x)) n
def oR:=gL (fN []) iO (iP NN)
def jD:AD B0:=⟨231,(fN [oR]),[.agg [.func (.func 304) [] [],.func (.func 305) [] []],hc0],(.tup [abh,hc5])⟩
@[local irreducible] def jE(N:Nat)(a:Bs):Option (Y45×Y3):=syv N (jD.go (a))
def qP:=gA jD (jE NN)
def Ec:AD B0:=⟨164,(c1 [A1,qP]),[hc0],(.tup [abh,hc5])⟩
@[irreducible] def mR(N:Nat)(a:Bs):Option (Y45×Y3):=syv N (Ec.go (a))
def ON:=gA Ec (mR NN)
def wy{α:Type}(T:Int)(U:Bs)(S:Bool)(p:Option (α×Y3))(f:α->Y3->Option (Int×Bs×Bool×Bs×Int×Y12×Y30×Bool×Bs×Y30×Bs×Bool×Bool×Int×Bool×Int×Bool×Int×Y37×Y1×Y30×Y30×List Y36×Y30×Y1×Bool×Bool×Bool×Bool×Int×Y45×Y24×Int×Int×Y5)):Option (Y46×Y3):=
 agree (List.replicate 2 (p.bind λ(l,a)=>bif (a.1==0) then f l a else some (T,U,S,[],0,[],[],false,[],[],[],false,false,0,false,0,false,0,[],[],[],[],[],[],[],false,false,false,false,0,[],[],0,0,0,0,0,0,a))) λ(o,R,c,C,q,D,E,d,F,G,H,e,g,r,h,s,i,t,I,J,K,L,M,N,O,j,k,m,n,u,P,Q,v,w,x,y,z,A,b,B)=>
 bif (b !=0) then(
 some ((0,[],false,[],0,[],[],(false,[],[],[]),(false,false,0),(false,0,false,0),[],[],([],[]),[],([],[],false,false,false,false,0),[],[],0,0,0,0,0,0),b,B))
 else
 some ((o,R,c,C,q,D,E,(d,F,G,H),(e,g,r),(h,s,i,t),I,J,(K,L),M,(N,O,j,k,m,n,u),P,Q,v,w,x,y,z,A),0,0)
def mn(N:Nat)(i:Y8):Option (Y46×Y3):=
 (mg N i).bind λc1=>
 bif (!c1) then(
 some ((0,[],false,[],0,[],[],(false,[],[],[]),(false,false,0),(false,0,false,0),[],[],([],[]),[],([],[],false,false,false,false,0),[],[],0,0,0,0,0,0),8,0))
 else
 (aQ i.1).bind λi2=>
 ((
 bif (i2==0) then(
 some (i.1,i.2.1,i.2.2,i2,i.1,i.2.1))
 else
 some (i.1,i.2.1,i.2.2,i2,[],i.2.1):Option (Bs×Bool×Bs×Int×Bs×Bool))).bind λ(q,p,d,a,c,b)=>
 bif (a==0) then(
 wy a c b (kE d) λl9 B7=>
 some (a,c,b,l9,0,[],[],false,[],[],[],false,false,0,false,0,false,0,[],[],[],[],[],[],[],false,false,false,false,0,[],[],0,0,0,0,0,0,B7))
 else
 bif (a==9) then(
 wy a c b (kF N d) λB5 B8=>
 some (a,c,b,[],0,[],[],false,[],[],[],false,false,0,false,0,false,0,[],[],[],[],[],[],[],false,false,false,false,0,[],B5,0,0,0,0,0,0,B8))
 else
 bif (a==14) then(
 wy a c b (jJ N d) λB6 B9=>
 some (a,c,b,B6,0,[],[],false,[],[],[],false,false,0,false,0,false,0,[],[],[],[],[],[],[],false,false,false,false,0,[],[],0,0,0,0,0,0,B9))
 else
 bif (a==15) then(
 wy a c b (nx N d) λG x9=>
 some (a,c,b,[],G,[],[],false,[],[],[],false,false,0,false,0,false,0,[],[],[],[],[],[],[],false,false,false,false,0,[],[],0,0,0,0,0,0,x9))
 else
 bif (a==17) then(
 wy a c b (eM N d) λm7 y0=>
 some (a,c,b,[],0,[],m7,false,[],[],[],false,false,0,false,0,false,0,[],[],[],[],[],[],[],false,false,false,false,0,[],[],0,0,0,0,0,0,y0))
 else
 bif (a==18) then(
 wy a c b (eM N d) λm8 z6=>
 some (a,c,b,[],0,[],m8,false,[],[],[],false,false,0,false,0,false,0,[],[],[],[],[],[],[],false,false,false,false,0,[],[],0,0,0,0,0,0,z6))
 else
 bif (a==19) then(
 wy a c b (rG N d) λj z7=>
 agree (List.replicate 2 (
 some (q,p,d,a,c,b,j.1,j.2.1,j.2.2,z7):Option (Bs×Bool×Bs×Int×Bs×Y47))) λ(D2,C0,C6,H,u0,r,s,t,I,J,K)=>
 some (H,u0,r,[],0,[],[],false,[],[],[],s,t,I,false,0,false,0,[],[],[],[],[],[],[],false,false,false,false,0,[],[],0,0,0,0,0,0,J,K))
 else
 bif (a==20) then(
 wy a c b (iG N d) λm9 z8=>
 some (a,c,b,m9,0,[],[],false,[],[],[],false,false,0,false,0,false,0,[],[],[],[],[],[],[],false,false,false,false,0,[],[],0,0,0,0,0,0,z8))
 else
 bif (a==21) then(
 wy a c b (rH N d) λL A0=>
 some (a,c,b,[],L,[],[],false,[],[],[],false,false,0,false,0,false,0,[],[],[],[],[],[],[],false,false,false,false,0,[],[],0,0,0,0,0,0,A0))
 else
 bif (a==24) then(
 wy a c b (mj N d) λf A1=>
 agree (List.replicate 2 (
 some (q,p,d,a,c,b,f.1,f.2.1,f.2.2.1,f.2.2.2.1,f.2.2.2.2.1,f.2.2.2.2.2,A1):Option (Bs×Bool×Bs×Int×Bs×Bool×Int×Int×Y5))) λ(D3,C1,C7,M,u7,u,O,P,Q,R,S,T,U,V)=>
 some (M,u7,u,[],0,[],[],false,[],[],[],false,false,0,false,0,false,0,[],[],[],[],[],[],[],false,false,false,false,0,[],[],O,P,Q,R,S,T,U,V))
 else
 bif (a==27) then(
 wy a c b (iG N d) λn5 A2=>
 some (a,c,b,n5,0,[],[],false,[],[],[],false,false,0,false,0,false,0,[],[],[],[],[],[],[],false,false,false,false,0,[],[],0,0,0,0,0,0,A2))
 else
 bif (a==28) then(
 wy a c b (jL N d) λe A3=>
 agree (List.replicate 2 (
 some (q,p,d,a,c,b,e.1,e.2.1,e.2.2.1,e.2.2.2.1,e.2.2.2.2.1,e.2.2.2.2.2.1,e.2.2.2.2.2.2,A3):Option (Bs×Bool×Bs×Int×Bs×Bool×Y30×Y1×Bool×Y47))) λ(D4,C2,C8,W,w9,v,n6,n7,w,x,y,z,X,Y,Z)=>
 some (W,w9,v,[],0,[],[],false,[],[],[],false,false,0,false,0,false,0,[],[],[],[],[],n6,n7,w,x,y,z,X,[],[],0,0,0,0,0,0,Y,Z))
 else
 bif (a==29) then(
 wy a c b (eM N d) λn8 A4=>
 some (a,c,b,[],0,[],n8,false,[],[],[],false,false,0,false,0,false,0,[],[],[],[],[],[],[],false,false,false,false,0,[],[],0,0,0,0,0,0,A4))
 else
 bif (a==30) then(
 wy a c b (oK N d) λk A5=>
 agree (List.replicate 2 (
 some (q,p,d,a,c,b,k.1,k.2,A5):Option (Bs×Bool×Bs×Int×Bs×Bool×Y30×Y30×Y3))) λ(D5,C3,C9,e9,x6,A,n9,o7,j3,j4)=>
 some (e9,x6,A,[],0,[],[],false,[],[],[],false,false,0,false,0,false,0,[],[],n9,o7,[],[],[],false,false,false,false,0,[],[],0,0,0,0,0,0,j3,j4))
 else
 bif (a==31) then(
 wy a c b (jB N d) λo8 A6=>
 some (a,c,b,[],0,[],[],false,[],[],[],false,false,0,false,0,false,0,[],[],[],[],o8,[],[],false,false,false,false,0,[],[],0,0,0,0,0,0,A6))
 else
 bif (a==32) then(
 wy a c b (qa N d) λo9 A7=>
 some (a,c,b,[],0,[],[],false,[],[],[],false,false,0,false,0,false,0,o9,[],[],[],[],[],[],false,false,false,false,0,[],[],0,0,0,0,0,0,A7))
 else
 bif (a==33) then(
 wy a c b (iS N d) λp7 A8=>
 some (a,c,b,[],0,[],[],false,[],[],[],false,false,0,false,0,false,0,[],p7,[],[],[],[],[],false,false,false,false,0,[],[],0,0,0,0,0,0,A8))
 else
 bif (a==35) then(
 wy a c b (Q5 N d) λg A9=>
 agree (List.replicate 2 (
 some (q,p,d,a,c,b,g.1,g.2.1,g.2.2.1,g.2.2.2,A9):Option (Bs×Bool×Bs×Int×Bs×Bool×Bool×Bs×Y30×Bs×Y3))) λ(D6,C4,D0,j5,x7,B,C,p8,p9,r9,j6,j7)=>
 some (j5,x7,B,[],0,[],[],C,p8,p9,r9,false,false,0,false,0,false,0,[],[],[],[],[],[],[],false,false,false,false,0,[],[],0,0,0,0,0,0,j6,j7))
 else
 bif (a==36) then(
 wy a c b (ml N d) λh B1=>
 agree (List.replicate 2 (
 some (q,p,d,a,c,b,h.1,h.2.1,h.2.2.1,h.2.2.2,B1):Option (Bs×Bool×Bs×Int×Bs×Bool×Bool×Int×Bool×Int×Y3))) λ(D7,C5,D1,j8,x8,D,E,j9,F,k8,k9,m5)=>
 some (j8,x8,D,[],0,[],[],false,[],[],[],false,false,0,E,j9,F,k8,[],[],[],[],[],[],[],false,false,false,false,0,[],[],0,0,0,0,0,0,k9,m5))
 else
 bif (a==37) then(
 wy a c b (rK N d) λt7 B2=>
 some (a,c,b,[],0,t7,[],false,[],[],[],false,false,0,false,0,false,0,[],[],[],[],[],[],[],false,false,false,false,0,[],[],0,0,0,0,0,0,B2))
 else
 bif (a==46) then(
 wy a c b (jB N d) λt8 B3=>
 some (a,c,b,[],0,[],[],false,[],[],[],false,false,0,false,0,false,0,[],[],[],[],t8,[],[],false,false,false,false,0,[],[],0,0,0,0,0,0,B3))
 else
 bif (a==54) then(
 wy a c b (lA N d) λm6 B4=>
 some (a,c,b,[],m6,[],[],false,[],[],[],false,false,0,false,0,false,0,[],[],[],[],[],[],[],false,false,false,false,0,[],[],0,0,0,0,0,0,B4))
 else
 bif (a==101) then(
 wy a c b (mR N d) λl n=>
 some (a,c,b,[],0,[],[],false,[],[],[],false,false,0,false,0,false,0,[],[],[],[],[],[],[],false,false,false,false,0,l,[],0,0,0,0,0,0,n))
 else
 bif (a==111) then(
 wy a c b (mR N d) λm o=>
 some (a,c,b,[],0,[],[],false,[],[],[],false,false,0,false,0,false,0,[],[],[],[],[],[],[],false,false,false,false,0,m,[],0,0,0,0,0,0,o))
 else
 wy a c b (none:Option (Unit×Y3)) λ_ _=>none
def KJ:Tr aZ:=(.node (.node (.node (.node .nil 7381979140 [(.normal,⟨[(1,.ptr 0 0),(2,.ptr 1 0),(3,.ptr 2 0),(4,.ptr 3 0)],[tJ,tK,oo5,.cells [hc4,bx,au,vN,vZ,vN,vN,vF,vN,vN,vN,vF,vF,vZ,vF,vZ,vF,vZ,vN,vN,vN,vN,vN,vN,vN,vF,vF,vF,vF,vZ,vN,vN,vZ,vZ,vZ,vZ,vZ,vZ] false]⟩)] .nil) 1106893608967 [(.normal,⟨[(2,.ptr 1 0),(3,.ptr 2 0),(4,.ptr 3 0),(5,.ptr 4 0)],[.junk,tK,oo5,.cells [hc4,bx,au,hc0,hc4,abe,kO,au,hc0,kO,hc0,au,au,hc4,au,hc4,au,hc4,Oz,Wz,kO,kO,agD,kO,hc2,au,au,au,au,hc4,abh,abf,hc4,hc4,hc4,hc4,hc4,hc4] false,oo0,.junk,.junk,.junk]⟩)] (.node .nil 1128368442371 [(.normal,⟨[(6,.ptr 6 0),(8,.ptr 8 0)],[tJ,tK,oo5,agG,oo5,.junk,oo5,.junk,oo0]⟩)] .nil)) 1128368442883 [(.normal,⟨[(6,.ptr 6 0),(8,.ptr 8 0)],[tJ,tK,oo5,agG,.dead,.junk,oo5,.junk,oo0]⟩)] (.node (.node .nil 1128569768963 [(.normal,⟨[(6,.ptr 6 0),(8,.ptr 8 0)],[tJ,tK,oo5,agH,oo5,.junk,oo5,.junk,oo0]⟩)] .nil) 1128569769475 [(.normal,⟨[(6,.ptr 6 0),(8,.ptr 8 0)],[tJ,tK,oo5,agH,.dead,.junk,oo5,.junk,oo0]⟩)] (.node .nil 1128771095555 [(.normal,⟨[(6,.ptr 6 0),(8,.ptr 8 0)],[tJ,tK,oo5,agI,oo5,.junk,oo5,.junk,oo0]⟩)] .nil))) 1128771096067 [(.normal,⟨[(6,.ptr 6 0),(8,.ptr 8 0)],[tJ,tK,oo5,agI,.dead,.junk,oo5,.junk,oo0]⟩)] (.node (.node (.node .nil 1128972422147 [(.normal,⟨[(6,.ptr 6 0),(8,.ptr 8 0)],[tJ,tK,oo5,agJ,oo5,.junk,oo5,.junk,oo0]⟩)] .nil) 1128972422659 [(.normal,⟨[(6,.ptr 6 0),(8,.ptr 8 0)],[tJ,tK,oo5,agJ,.dead,.junk,oo5,.junk,oo0]⟩)] (.node .nil 1129576401923 [(.normal,⟨[(6,.ptr 6 0),(8,.ptr 8 0)],[tJ,tK,oo5,agK,oo5,.junk,oo5,.junk,oo0]⟩)] .nil)) 1129576402435 [(.normal,⟨[(6,.ptr 6 0),(8,.ptr 8 0)],[tJ,tK,oo5,agK,.dead,.junk,oo5,.junk,oo0]⟩)] (.node (.node .nil 1129777728515 [(.normal,⟨[(6,.ptr 6 0),(8,.ptr 8 0)],[tJ,tK,oo5,agL,oo5,.junk,oo5,.junk,oo0]⟩)] .nil) 1129777729027 [(.normal,⟨[(6,.ptr 6 0),(8,.ptr 8 0)],[tJ,tK,oo5,agL,.dead,.junk,oo5,.junk,oo0]⟩)] .nil)))
def KK:KC B0:=gC 110 ⟨[yK,MV,WH,HI,HK,Fz,LI,og,QW,HQ,QY,Ky,FH,Nc,KD,OM,Df,Q4,KH,Q6,IB,ON],[],[],[],KJ⟩ [hc3] (.tup [.hole Ox,hc5]) (mn NN) krq
attribute [irreducible] mn
def wJ(L:List (KL B0)):Ctx B0:=⟨[KK],[],[],L,.nil⟩
def zc:LD:=⟨81,3,0,⟨[(4,.own 0),(9,lQ),(10,hc4),(11,hc4)],[.arr Ox false false]⟩,[(.ret,⟨[(2,vN),(3,hc4)],[.junk]⟩),(.exit 0,⟨[(4,.own 0)],[.arr Ox false false]⟩)]⟩
@[local irreducible] def zd(N n:Nat):(Y9×Int×Int×List Y46)->Option ((Int)⊕(List Y46)):=Nat.rec (λ_=>none) (λ_ L x=>syv N (zc.round (wJ []).cxs L x)) n
def KM:=gL (wJ []) zc (zd NN)
def Ed:AD B0:=⟨81,(wJ [KM]),[lQ],(.tup [.hole (.sl Ox),hc4])⟩
@[irreducible] def wK(N:Nat)(a:Y9):Option (List Y46×Int):=syv N (Ed.go (a))
def OO:=gA Ed (wK NN)
end
end Go.Fw
