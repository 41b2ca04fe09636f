/- A framework for proofs about Go programs in this model: part U. Everything is proved; no condition is added. -/
import Derived.Test.YtlicgchfbhkelaaGreatDoorFwT
set_option linter.unusedVariables false
set_option linter.unusedSimpArgs false
set_option linter.defProp false
namespace Go.Fw
open Go Go.Proofs.Tryz
noncomputable section
set_option maxRecDepth 100000
set_option maxHeartbeats 0
attribute [local irreducible] ix app slc cw toB agree fF fH fE ju dD aI aP aQ
def Nb:Tr aZ:=(.node .nil 12549372934 [(.normal,⟨[(0,hc0),(2,.ptr 0 0),(3,.ptr 1 0),(6,.ptr 3 0),(7,hc4),(22,dW),(23,hc4),(24,hc4)],[WA,oo5,.junk,abj,.junk,.junk]⟩)] .nil)
def ur(L:List (KL B0)):Ctx B0:=⟨[aH,aT,OK],[],[],L,Nb⟩
def xG:LD:=⟨187,7,0,⟨[(0,hc0),(2,.ptr 0 0),(3,.ptr 1 0),(6,.ptr 3 0),(7,hc4),(22,dW),(23,hc4),(24,hc4)],[WA,oo5,.junk,abj]⟩,[(.ret,⟨[(2,.ptr 0 0),(3,.ptr 1 0)],[WA,oo0,.junk,.junk]⟩),(.exit 0,⟨[(0,hc0),(2,.ptr 0 0),(3,.ptr 1 0),(6,.ptr 3 0),(7,hc4)],[WA,oo5,.junk,abj]⟩)]⟩
@[local irreducible] def xH(N n:Nat):(Bs×Int×Y22×Int×Int×Y30×Y30)->Option (Y3⊕(Bs×Int×Y30×Y30)):=Nat.rec (λ_=>none) (λ_ L x=>syv N (xG.round (ur []).cxs L x)) n
def Iy:=gL (ur []) xG (xH NN)
def Cu:AD B0:=⟨187,(ur [Iy]),[hc0],(.tup [.hole ags,hc5])⟩
@[irreducible] def oK(N:Nat)(a:Bs):Option ((Y30×Y30)×Y3):=syv N (Cu.go (a))
def Nc:=gA Cu (oK NN)
def Hq:AD B0:=⟨302,(c1 [vT,vV,oq]),[agC],au⟩
@[irreducible] def yz(N:Nat)(a:Y36):Option Bool:=syv N (Hq.go (a))
def Q1:=gA Hq (yz NN)
def Hr:AD B0:=⟨228,(c1 [sQ,Q1]),[hc0],(.tup [agC,hc5])⟩
@[irreducible] def yA(N:Nat)(a:Bs):Option (Y36×Y3):=syv N (Hr.go (a))
def Q2:=gA Hr (yA NN)
def qI(L:List (KL B0)):Ctx B0:=⟨[aH,Q2],[],[],L,.nil⟩
def ut:LD:=⟨161,6,0,⟨[(0,hc0),(3,.ptr 0 0),(6,.own 2),(20,dW),(21,hc4),(22,hc4)],[oo5,.junk,.arr Ou false false]⟩,[(.ret,⟨[(2,vN),(3,.ptr 0 0)],[oo0,.junk,.junk]⟩),(.exit 0,⟨[(0,hc0),(3,.ptr 0 0),(6,.own 2)],[oo5,.junk,.arr Ou false false]⟩)]⟩
@[local irreducible] def uu(N n:Nat):(Bs×Y22×Int×Int×List Y36)->Option (Y3⊕(Bs×List Y36)):=Nat.rec (λ_=>none) (λ_ L x=>syv N (ut.round (qI []).cxs L x)) n
def FI:=gL (qI []) ut (uu NN)
def yU:AD B0:=⟨161,(qI [FI]),[hc0],(.tup [agD,hc5])⟩
@[irreducible] def jB(N:Nat)(a:Bs):Option (List Y36×Y3):=syv N (yU.go (a))
def KD:=gA yU (jB NN)
def Hs:AD B0:=⟨325,(c1 [jZ]),[hc0],au⟩
@[irreducible] def rJ(N:Nat)(a:Bs):Option Bool:=syv N (Hs.go (a))
def Ht:=gA Hs (rJ NN)
def AX:AD B0:=⟨324,(c1 [nX,Ht]),[hc1],au⟩
@[local irreducible] def AY(N:Nat)(a:Y0):Option Bool:=syv N (AX.go (a))
def LO:=gA AX (AY NN)
def cO(L:List (KL B0)):Ctx B0:=⟨[LO],[],[],L,.nil⟩
def ey:LD:=⟨358,2,0,⟨[(0,hc2),(1,.func (.func 324) [] []),(7,hc4),(8,hc4)],[]⟩,[(.ret,⟨[(4,hc4)],[]⟩),(.exit 0,⟨[],[]⟩)]⟩
@[local irreducible] def ez(N n:Nat):(Y1×Y3)->Option ((Int)⊕(Unit)):=Nat.rec (λ_=>none) (λ_ L x=>syv N (ey.round (cO []).cxs L x)) n
def jq:=gL (cO []) ey (ez NN)
def eS:AD B0:=⟨358,(cO [jq]),[hc2,.func (.func 324) [] []],hc4⟩
@[local irreducible] def eT(N:Nat)(a:Y1):Option Int:=syv N (eS.go (a))
def jW:=gA eS (eT NN)
def eA:AD B0:=⟨323,(c1 [jW]),[hc2,.func (.func 324) [] []],au⟩
@[local irreducible] def cB(N:Nat)(a:Y1):Option Bool:=syv N (eA.go (a))
def jr:=gA eA (cB NN)
def wH(L:List (KL B0)):Ctx B0:=⟨[nX,jr],[],[],L,.nil⟩
def yV:LD:=⟨256,3,0,⟨[(0,Oz),(3,.mp 0),(7,Oz),(8,hc4),(9,hc4)],[.smap]⟩,[(.ret,⟨[(2,vF)],[.junk]⟩),(.exit 0,⟨[(0,Oz)],[.junk]⟩)]⟩
@[local irreducible] def yW(N n:Nat):(Y37×Y37×Y23)->Option ((Unit)⊕Y37):=Nat.rec (λ_=>none) (λ_ L x=>syv N (yV.round (wH []).cxs L x)) n
def KE:=gL (wH []) yV (yW NN)
def D9:AD B0:=⟨256,(wH [KE]),[Oz],au⟩
@[irreducible] def wI(N:Nat)(a:Y37):Option Bool:=syv N (D9.go (a))
def OL:=gA D9 (wI NN)
def Iz:AD B0:=⟨265,(c1 []),[hc4],hc5⟩
@[irreducible] def ib(a:Int):Option Y3:=syv NN (Iz.go (a))
def IA:=gA Iz ib
def fu(L:List (KL B0)):Ctx B0:=⟨[aH,OL,IA,bN,aT,gd,jh,Ht],[],[],L,.nil⟩
def yX:LD:=⟨259,7,16,⟨[(0,hc0),(3,.func (.func 326) [] [.rc [.ptr 14 0] 0]),(8,.ptr 16 0),(33,dW),(34,hc4),(35,hc4)],[oo5,nY,.arr rT false true,oo5,.junk,cY,Fo,.arr tc1 false true,oo5,.junk,cY,oo5,.junk,cY,Ib,.junk,oo5,.junk]⟩,[(.ret,⟨[(8,.ptr 16 0)],[oo5,nY,.arr rT false true,oo5,.junk,cY,Fo,.arr tc1 false true,oo5,.junk,cY,oo5,.junk,cY,Ib,.junk,oo0,.junk]⟩),(.exit 0,⟨[(8,.ptr 16 0)],[oo5,nY,.arr rT false true,oo5,.junk,cY,Fo,.arr tc1 false true,oo5,.junk,cY,oo5,.junk,cY,Ib,.junk,oo5,.junk]⟩)]⟩
@[local irreducible] def qJ(N n:Nat):(Bs×Y22×Int×Int×Y39)->Option ((Y37×Int×Int×Bool×Int×Int×Int×Bs×Y1×Int×Int×Bool×Int×Int×Int×Y40)⊕Y39):=Nat.rec (λ_=>none) (λ_ L x=>syv N (yX.round (fu []).cxs L x)) n
def fM:=gL (fu []) yX (qJ NN)
def yY:LD:=⟨259,7,11,⟨[(0,hc0),(3,.func (.func 263) [] [.ptr 6 0]),(8,.ptr 11 0),(33,dW),(34,hc4),(35,hc4)],[oo5,nY,.arr rT false true,oo5,.junk,cY,Fo,.arr tc1 false false,oo5,.junk,cY,oo5,.junk]⟩,[(.ret,⟨[(8,.ptr 11 0)],[oo5,nY,.arr rT false true,oo5,.junk,cY,Fo,.arr tc1 false false,oo5,.junk,cY,oo0,.junk]⟩),(.exit 0,⟨[(8,.ptr 11 0)],[oo5,nY,.arr rT false true,oo5,.junk,cY,Fo,.arr tc1 false false,oo5,.junk,cY,oo5,.junk]⟩)]⟩
@[local irreducible] def qK(N n:Nat):(Bs×Y22×Int×Int×Y41)->Option ((Y37×Int×Int×Bool×Int×Int×Int×Bs×Y1×Int×Int×Bool×Y4)⊕Y41):=Nat.rec (λ_=>none) (λ_ L x=>syv N (yY.round (fu [fM]).cxs L x)) n
def jC:=gL (fu [fM]) yY (qK NN)
def yZ:LD:=⟨259,7,8,⟨[(0,hc0),(3,.func (.func 261) [] [.ptr 6 0]),(8,.ptr 8 0),(33,dW),(34,hc4),(35,hc4)],[oo5,nY,.arr rT false true,oo5,.junk,cY,Fo,.arr tc1 false false,oo5,.junk]⟩,[(.ret,⟨[(8,.ptr 8 0)],[oo5,nY,.arr rT false true,oo5,.junk,cY,Fo,.arr tc1 false false,oo0,.junk]⟩),(.exit 0,⟨[(8,.ptr 8 0)],[oo5,nY,.arr rT false true,oo5,.junk,cY,Fo,.arr tc1 false false,oo5,.junk]⟩)]⟩
@[local irreducible] def qL(N n:Nat):(Bs×Y22×Int×Int×Y42)->Option ((Y37×Int×Int×Bool×Int×Int×Int×Bs×Y1×Y3)⊕Y42):=Nat.rec (λ_=>none) (λ_ L x=>syv N (yZ.round (fu [fM,jC]).cxs L x)) n
def qM:=gL (fu [fM,jC]) yZ (qL NN)
def za:LD:=⟨259,7,3,⟨[(0,hc0),(3,.func (.func 260) [] [.ptr 1 0]),(8,.ptr 3 0),(33,dW),(34,hc4),(35,hc4)],[oo5,nY,.arr rT false false,oo5,.junk]⟩,[(.ret,⟨[(8,.ptr 3 0)],[oo5,nY,.arr rT false false,oo0,.junk]⟩),(.exit 0,⟨[(8,.ptr 3 0)],[oo5,nY,.arr rT false false,oo5,.junk]⟩)]⟩
@[local irreducible] def qN(N n:Nat):(Bs×Y22×Int×Int×Y37)->Option ((Y37×Y3)⊕Y37):=Nat.rec (λ_=>none) (λ_ L x=>syv N (za.round (fu [fM,jC,qM]).cxs L x)) n
def KF:=gL (fu [fM,jC,qM]) za (qN NN)
def Ea:AD B0:=⟨190,(fu [fM,jC,qM,KF]),[hc0],(.tup [Oz,hc5])⟩
@[irreducible] def qa(N:Nat)(a:Bs):Option (Y37×Y3):=syv N (Ea.go (a))
def OM:=gA Ea (qa NN)
def pn:AD B0:=⟨327,(c1 [nX]),[bx],au⟩
@[local irreducible] def ko(N:Nat)(a:Bs):Option Bool:=syv N (pn.go (a))
def AZ:=gA pn (ko NN)
def lT(L:List (KL B0)):Ctx B0:=⟨[AZ],[],[],L,.nil⟩
def oL:LD:=⟨359,2,1,⟨[(0,Wz),(1,.func (.func 329) [] [.ptr 0 0]),(7,hc4),(8,hc4)],[.cells [.func (.func 327) [] []] false]⟩,[(.ret,⟨[(4,hc4)],[.junk]⟩),(.exit 0,⟨[],[.junk]⟩)]⟩
@[local irreducible] def oM(N n:Nat):(Y1×Y3)->Option ((Int)⊕(Unit)):=Nat.rec (λ_=>none) (λ_ L x=>syv N (oL.round (lT []).cxs L x)) n
def zw:=gL (lT []) oL (oM NN)
def rl:AD B0:=⟨266,(lT [zw]),[Wz],au⟩
@[irreducible] def lU(N:Nat)(a:Y1):Option Bool:=syv N (rl.go (a))
def De:=gA rl (lU NN)
def gg(L:List (KL B0)):Ctx B0:=⟨[aH,De,IA,bN,aT,gd],[],[],L,.nil⟩
def oN:LD:=⟨259,7,7,⟨[(0,hc0),(3,.func (.func 268) [] [.ptr 6 0]),(8,.ptr 7 0),(33,dW),(34,hc4),(35,hc4)],[oo5,nY,.arr Fl false true,oo5,.junk,cY,abk,oo5,.junk]⟩,[(.ret,⟨[(8,.ptr 7 0)],[oo5,nY,.arr Fl false true,oo5,.junk,cY,abk,oo0,.junk]⟩),(.exit 0,⟨[(8,.ptr 7 0)],[oo5,nY,.arr Fl false true,oo5,.junk,cY,abk,oo5,.junk]⟩)]⟩
@[local irreducible] def jM(N n:Nat):(Bs×Y22×Int×Int×Y1×Y38)->Option ((Y1×Y40)⊕(Y1×Y38)):=Nat.rec (λ_=>none) (λ_ L x=>syv N (oN.round (gg []).cxs L x)) n
def jN:=gL (gg []) oN (jM NN)
def oO:LD:=⟨259,7,3,⟨[(0,hc0),(3,.func (.func 267) [] [.ptr 1 0]),(8,.ptr 3 0),(33,dW),(34,hc4),(35,hc4)],[oo5,nY,.arr Fl false false,oo5,.junk]⟩,[(.ret,⟨[(8,.ptr 3 0)],[oo5,nY,.arr Fl false false,oo0,.junk]⟩),(.exit 0,⟨[(8,.ptr 3 0)],[oo5,nY,.arr Fl false false,oo5,.junk]⟩)]⟩
@[local irreducible] def jO(N n:Nat):(Bs×Y22×Int×Int×Y1)->Option ((Y1×Y3)⊕Y1):=Nat.rec (λ_=>none) (λ_ L x=>syv N (oO.round (gg [jN]).cxs L x)) n
def zx:=gL (gg [jN]) oO (jO NN)
def rm:AD B0:=⟨193,(gg [jN,zx]),[hc0],(.tup [Wz,hc5])⟩
@[irreducible] def iS(N:Nat)(a:Bs):Option (Y1×Y3):=syv N (rm.go (a))
def Df:=gA rm (iS NN)
end
end Go.Fw
