/- A framework for proofs about Go programs in this model: part X. Everything is proved; no condition is added. -/
import Derived.Test.YtfjfjojmeookfaaGreatDoorFwW
set_option linter.unusedVariables false
set_option linter.unusedSimpArgs false
set_option linter.defProp false
namespace Go.Fw
open Go Go.Proofs.Tryz
noncomputable section
set_option maxRecDepth 100000
set_option maxHeartbeats 0
attribute [local irreducible] ix app slc cC toB agree fU fW fT jB dR aK aV aX
def nq:AD B0:=⟨53,(c1 []),[hc3,.func (.func 54) [] []],(.func (.func 96) [] [.rc [hc3] 0,.rc [.func (.func 54) [] []] 0])⟩
@[local irreducible] def ey(a:Int):Option Int:=syv NN (nq.go (a))
def xC:=gA nq ey
def B1:AD B0:=⟨54,(c1 [zq]),[hc0],(.tup [hc3,hc3])⟩
@[irreducible] def nT(N:Nat)(a:Bs):Option Y4:=syv N (B1.go (a))
def MZ:=gA B1 (nT NN)
def lH:AD B0:=⟨96,(c1 [bI,aU,MZ]),[hc0,.rc [hc3] 0,.rc [.func (.func 54) [] []] 0],(.tup [hc3,hc4])⟩
@[local irreducible] def aW(N:Nat)(a:Bs)(a2:Int):Y20:=syv N (lH.go (a,a2))
def vq:=gA lH (u2 (aW NN))
def yL:AD B0:=⟨63,(c1 []),[hc3,hc3],hc4⟩
@[irreducible] def je(a:Int)(a2:Int):Option Y4:=syv NN (yL.go (a,a2))
def JA:=gA yL (u2 je)
def LX:Tr bh:=(.node .nil 1677735940 [(.normal,⟨[(2,.ptr 0 0),(3,.ptr 1 0),(8,.ptr 3 0)],[.cells [bO,vN] false,oo0,.junk,MH]⟩),(.ret,⟨[(2,.ptr 0 0),(3,.ptr 1 0)],[.cells [bO,vN] false,oo0,.junk,.junk,.junk,.junk,.junk]⟩)] .nil)
def Al:AD B0:=⟨25,⟨[aH,JA,aU,gr,jm,kn],[],[],[],LX⟩,[hc0],(.tup [hc1,hc4])⟩
@[irreducible] def cL(N:Nat)(a:Bs):Y24:=syv N (Al.go (a))
def Am:=gA Al (cL NN)
def An:AD B0:=⟨99,(c1 [E0]),[hc0],(.tup [hc6,hc3])⟩
@[irreducible] def fc(N:Nat)(a:Bs):Option (Y13×Int):=syv N (An.go (a))
def LY:=gA An (fc NN)
def M0:Tr bh:=(.node (.node (.node .nil 3892320259 [(.normal,⟨[(2,.ptr 0 0),(3,.ptr 1 0),(4,.ptr 2 0),(5,hc3)],[kl,oo0,il]⟩)] .nil) 3892322307 [(.normal,⟨[(2,.ptr 0 0),(3,.ptr 1 0),(4,.ptr 2 0),(5,hc3)],[kl,oo0,il]⟩)] .nil) 3892324355 [(.normal,⟨[(2,.ptr 0 0),(3,.ptr 1 0),(4,.ptr 2 0),(5,hc3)],[kl,oo0,il]⟩)] (.node .nil 3892326403 [(.normal,⟨[(2,.ptr 0 0),(3,.ptr 1 0)],[kl,oo0,.junk]⟩)] .nil))
def B2:AD B0:=⟨58,⟨[bI,aU,LY,tO],[],[],[],M0⟩,[hc0],(.tup [hc6,hc4])⟩
@[irreducible] def dM(N:Nat)(a:Bs):Option (Y13×Y4):=syv N (B2.go (a))
def B3:=gA B2 (dM NN)
def mt:AD B0:=⟨129,(c1 []),[hc3,.func (.func 130) [] []],(.func (.func 146) [] [.rc [hc3] 0,.rc [.func (.func 130) [] []] 0])⟩
@[local irreducible] def dT(a:Int):Option Int:=syv NN (mt.go (a))
def wu:=gA mt dT
def wT:AD B0:=⟨130,(c1 [iq,jm]),[hc0],(.tup [hc0,hc3])⟩
@[irreducible] def kO(a:Bs):Y10:=syv NN (wT.go (a))
def IT:=gA wT kO
def kV:AD B0:=⟨146,(c1 [bI,aU,IT]),[hc0,.rc [hc3] 0,.rc [.func (.func 130) [] []] 0],(.tup [hc0,hc4])⟩
@[local irreducible] def aS(N:Nat)(a:Bs)(a2:Int):Y15:=syv N (kV.go (a,a2))
def ur:=gA kV (u2 (aS NN))
def LZ:Tr bh:=(.node .nil 8791271428 [(.normal,⟨[(0,hc0),(2,.ptr 0 0),(3,.ptr 1 0),(4,eL),(8,.ptr 3 0)],[aco,oo0,.junk,aco]⟩),(.ret,⟨[(2,.ptr 0 0),(3,.ptr 1 0)],[aco,oo0,.junk,.junk]⟩)] .nil)
def Ao:AD B0:=⟨131,⟨[aH,aU,gr,rh,jm],[],[],[],LZ⟩,[hc0],(.tup [hc8,hc4])⟩
@[irreducible] def cM(N:Nat)(a:Bs):Option (Y14×Y4):=syv N (Ao.go (a))
def L0:=gA Ao (cM NN)
def nr(L:List (KL B0)):Ctx B0:=⟨[aH,L0,pQ],[],[],L,.nil⟩
def pW:LD:=⟨103,6,0,⟨[(0,hc0),(3,.ptr 0 0),(6,.own 2),(20,eL),(21,hc3),(22,hc3)],[oo0,.junk,.arr tc8 false false]⟩,[(.ret,⟨[(2,vN),(3,.ptr 0 0)],[oo0,.junk,.junk]⟩),(.exit 0,⟨[(3,.ptr 0 0),(6,.own 2)],[oo0,.junk,.arr tc8 false false]⟩)]⟩
@[local irreducible] def aO(N n:Nat):(Bs×Y17×Int×Int×Int×Int×Y43)->Option (Y4⊕(Int×Int×Y43)):=Nat.rec (λ_=>none) (λ_ L x=>syv N (pW.round (nr []).cxs L x)) n
def B4:=gL (nr []) pW (aO NN)
def tZ:AD B0:=⟨103,(nr [B4]),[hc0],(.tup [hc9,hc4])⟩
@[irreducible] def bB(N:Nat)(a:Bs):Option (Y43×Y4):=syv N (tZ.go (a))
def ua:=gA tZ (bB NN)
def bz(N:Nat)(a1:Bs):Option (Y44×Y4):=
 (ba N a1 0 16).bind λ(l1,v2)=>
 (dT 2).bind λi3=>
 ((
 ((
 bif ((l1.length:Int)==0) then(
 bif (v2.1==0) then(
 some (i3,a1,l1,1,rD (a1.length:Int) (a1.length:Int)))
 else
 some (i3,a1,l1,v2))
 else
 some (i3,a1,l1,v2):Option Y52)).bind λ(i4,l5,l6,i7,i8)=>
 bif (i7 !=0) then(
 some ([],l5,l6,i7,i8))
 else
 (ix l6 0).bind λe9=>
 (slc l6 1 (l6.length:Int)).bind λU=>
 (slc l5 e9.2.2.2.1 e9.2.2.2.2.2).bind λD2=>
 (aS N D2 i4).bind λ(S,X)=>
 bif (i7==0) then(
 bif (X.1 !=0) then(
 some (S,l5,U,X.1,rD (az .i64 e9.2.2.2.1 X.2) (l5.length:Int)))
 else
 some (S,l5,U,i7,i8))
 else
 some (S,l5,U,i7,i8):Option (Bs×Bs×Y17×Y4))).bind λ(T,p,D,O,o7)=>
 ((
 ((
 bif ((D.length:Int)==0) then(
 bif (O==0) then(
 some (p,D,1,rD (p.length:Int) (p.length:Int),T))
 else
 some (p,D,O,o7,T))
 else
 some (p,D,O,o7,T):Option (Bs×Y17×Y9))).bind λ(a,E,l,P,F)=>
 bif (l !=0) then(
 some (a,E,l,P,F,0,0,0,0,0,0))
 else
 (ix E 0).bind λL=>
 (slc E 1 (E.length:Int)).bind λV=>
 (slc a L.2.2.2.1 L.2.2.2.2.2).bind λD3=>
 (dM N D3).bind λ(Y,Z)=>
 bif (l==0) then(
 ((
 bif (Z.1 !=0) then(
 some (a,V,Z.1,rD (az .i64 L.2.2.2.1 Z.2) (a.length:Int),F,Y))
 else
 some (a,V,l,P,F,Y):Y54)).bind λ(C0,C1,q9,r9,C2,s6,s8,t7,t8,u0,u7)=>
 some (C0,C1,q9,r9,C2,s6,s8,t7,t8,u0,u7))
 else
 ((
 some (a,V,l,P,F,Y):Y54)).bind λ(C3,C4,w9,y0,C5,z6,z7,z8,A0,A1,A2)=>
 some (C3,C4,w9,y0,C5,z6,z7,z8,A0,A1,A2):Y54)).bind λ(b,c,q,Q,G,r,s,t,u,v,w)=>
 ((
 bif decide ((c.length:Int)>0) then(
 ((
 ((
 bif ((c.length:Int)==0) then(
 bif (q==0) then(
 some (b,c,1,rD (b.length:Int) (b.length:Int),G,r,s,t,u,v,w))
 else
 some (b,c,q,Q,G,r,s,t,u,v,w))
 else
 some (b,c,q,Q,G,r,s,t,u,v,w):Y54)).bind λ(d,H,m,R,I,x,y,z,A,B,C)=>
 bif (m !=0) then(
 some ([],d,H,m,R,I,x,y,z,A,B,C))
 else
 (ix H 0).bind λM=>
 (slc H 1 (H.length:Int)).bind λW=>
 (slc d M.2.2.2.1 M.2.2.2.2.2).bind λD4=>
 (bB N D4).bind λ(q8,j3)=>
 bif (m==0) then(
 ((
 bif (j3.1 !=0) then(
 some (d,W,j3.1,rD (az .i64 M.2.2.2.1 j3.2) (d.length:Int),I,x,y,z,A,B,C))
 else
 some (d,W,m,R,I,x,y,z,A,B,C):Y54)).bind λ(C6,C7,A3,A4,C8,A5,A6,A7,A8,A9,B1)=>
 some (q8,C6,C7,A3,A4,C8,A5,A6,A7,A8,A9,B1))
 else
 ((
 some (d,W,m,R,I,x,y,z,A,B,C):Y54)).bind λ(C9,D0,B2,B3,D1,B4,B5,B6,B7,B8,B9)=>
 some (q8,C9,D0,B2,B3,D1,B4,B5,B6,B7,B8,B9):Option (Y43×Y53))).bind λ(o8,o9,p7,j5,j6,p8,j7,j8,j9,k9,m5,m6)=>
 some (o9,p7,j5,j6,p8,j7,j8,j9,k9,m5,m6,o8))
 else
 some (b,c,q,Q,G,r,s,t,u,v,w,[]):Option (Bs×Y17×Int×Int×Bs×Int×Int×Int×Int×Int×Int×Y43))).bind λ(p9,K,e,J,n,f,g,h,i,j,k,o)=>
 agree (List.replicate 2 (
 bif decide ((K.length:Int)>0) then(
 (ix K 0).bind λj4=>
 bif (e==0) then(
 some (n,f,g,h,i,j,k,o,2,rD j4.2.2.2.1 (p9.length:Int)))
 else
 some (n,f,g,h,i,j,k,o,e,J))
 else
 some (n,f,g,h,i,j,k,o,e,J):Option (Bs×Int×Int×Int×Int×Int×Int×Y43×Y4))) λ(q6,m7,m8,m9,n5,n6,n7,q7,n8,n9)=>
 some ((q6,(m7,m8,m9,n5,n6,n7),q7),n8,n9)
def CW:Tr bh:=(.node (.node (.node (.node .nil 3355443209 [(.normal,⟨[],[uA,oo5,.junk,bJ,acp,.junk,.junk,.junk,.junk]⟩)] .nil) 3355443210 [(.normal,⟨[],[uA,oo5,.junk,bJ,acq,Gr,.junk,.junk,kl,.junk]⟩)] .nil) 3825207303 [(.normal,⟨[(0,.ptr 3 0),(1,.func (.func 58) [] []),(4,.ptr 5 0),(5,.ptr 6 0)],[uA,oo5,.junk,bJ,acq,Gr,Gr]⟩)] (.node (.node .nil 4093642759 [(.normal,⟨[(0,.ptr 3 0),(1,.func (.func 103) [] []),(5,vN)],[uA,oo5,.junk,bJ,acp,.junk,.junk]⟩)] .nil) 6845109255 [(.normal,⟨[(2,.ptr 0 0),(3,.ptr 1 0),(4,.ptr 3 0),(5,.ptr 4 0)],[uA,oo5,.junk,bJ,XY,.junk,.junk]⟩)] .nil)) 8589936645 [(.normal,⟨[(0,.ptr 3 0),(1,.func (.func 146) [] [.rc [hc3] 0,.rc [.func (.func 130) [] []] 0]),(5,vN)],[uA,oo5,.junk,bJ,uA]⟩)] (.node (.node (.node .nil 1106356739074 [(.normal,⟨[(2,.ptr 0 0),(3,.ptr 1 0)],[XY,oo0,.junk,.junk,.junk,.junk,.junk,.junk]⟩)] .nil) 2199023489029 [(.ret,⟨[(4,.ptr 5 0)],[uA,oo5,.junk,bJ,acq,kl,.junk]⟩)] .nil) 2199023505415 [(.ret,⟨[(4,hc9)],[uA,oo5,.junk,bJ,acp,.junk,.junk]⟩)] (.node .nil 2199023779845 [(.ret,⟨[(4,hc0)],[uA,oo5,.junk,bJ,uA]⟩)] .nil)))
def CY:KC B0:=gC 102 ⟨[aH,wu,ur,B3,ua],[],[],[],CW⟩ [hc0] (.tup [XV,hc4]) (bz NN) krq
attribute [irreducible] bz
def GQ:Tr bh:=(.node (.node (.node .nil 1946158085 [(.normal,⟨[(0,.ptr 2 0),(1,au),(4,.ptr 4 0)],[oo5,.junk,bJ,.arr Bo false true,oo5]⟩)] .nil) 1946160133 [(.normal,⟨[(0,.ptr 2 0),(4,.ptr 4 0)],[oo5,.junk,bJ,.arr Bo false true,oo5]⟩)] .nil) 3355443209 [(.normal,⟨[],[oo5,.junk,bJ,.arr Bo false true,uA,.junk,.junk,XY,.junk]⟩)] (.node (.node .nil 6777997318 [(.normal,⟨[(0,.ptr 2 0),(1,.func (.func 102) [] []),(4,.ptr 4 0),(5,.ptr 5 0)],[oo5,.junk,bJ,.arr Bo false true,uA,uA]⟩)] .nil) 2199023669252 [(.ret,⟨[(4,.ptr 4 0)],[oo5,.junk,bJ,.arr Bo false true,XY,.junk]⟩)] .nil))
def nU(L:List (KL B0)):Ctx B0:=⟨[aH,CY],[],[],L,GQ⟩
def qV:LD:=⟨60,3,0,⟨[(3,.ptr 0 0),(4,.ptr 2 0),(5,.own 3)],[oo5,.junk,bJ,.arr Bo false false]⟩,[(.exit 0,⟨[(3,.ptr 0 0),(4,.ptr 2 0),(5,.own 3)],[oo5,.junk,bJ,.arr Bo false false]⟩)]⟩
@[local irreducible] def dF(N n:Nat):(Bs×Y17×Int×Int×Y45)->Option (Bs×Y17×Int×Int×Y45):=Nat.rec (λ_=>none) (λ_ L x=>syv N (qV.round (nU []).cxs L x)) n
def CZ:=gL (nU []) qV (dF NN)
def vr:AD B0:=⟨60,(nU [CZ]),[hc0],(.tup [sL,hc4])⟩
@[irreducible] def cn(N:Nat)(a:Bs):Option (Y45×Y4):=syv N (vr.go (a))
def GR:=gA vr (cn NN)
end
end Go.Fw
