/- A framework for proofs about Go programs in this model: part Y. Everything is proved; no condition is added. -/
import Derived.Test.YtfjfjojmeookfaaGreatDoorFwX
set_option linter.unusedVariables false
set_option linter.unusedSimpArgs false
set_option linter.defProp false
namespace Go.Fw
open Go Go.Proofs.Tryz
noncomputable section
set_option maxRecDepth 100000
set_option maxHeartbeats 0
attribute [local irreducible] ix app slc cC toB agree fU fW fT jB dR aK aV aX ey aW
def Fg:Tr bh:=(.node .nil 4160754691 [(.normal,⟨[(3,.ptr 0 0),(5,.ptr 2 0),(6,hc9)],[oo5,.junk,oo0]⟩)] .nil)
def ub:AD B0:=⟨62,⟨[bI,aU,ua],[],[],[],Fg⟩,[hc0],(.tup [hc9,hc4])⟩
@[irreducible] def cB(N:Nat)(a:Bs):Option (Y43×Y4):=syv N (ub.go (a))
def Fh:=gA ub (cB NN)
def Ed:Tr bh:=(.node (.node (.node (.node (.node .nil 1543506951 [(.normal,⟨[(2,.ptr 0 0),(3,.ptr 1 0),(4,.ptr 3 0),(5,.ptr 4 0)],[dC,oo5,.junk,bJ,XZ,.junk,.junk]⟩)] .nil) 1543512077 [(.normal,⟨[(2,.ptr 0 0),(3,.ptr 1 0),(4,.ptr 3 0),(5,.ptr 4 0)],[dC,oo5,.junk,bJ,MK,.junk,.junk,.junk,.junk,.junk,.junk,.junk,.junk]⟩)] (.node .nil 1543514127 [(.normal,⟨[(2,.ptr 0 0),(3,.ptr 1 0),(4,.ptr 3 0),(5,.ptr 4 0)],[dC,oo5,.junk,bJ,acr,.junk,.junk,.junk,.junk,.junk,.junk,.junk,.junk,.junk,.junk]⟩)] .nil)) 1543516175 [(.normal,⟨[(2,.ptr 0 0),(3,.ptr 1 0),(4,.ptr 3 0),(5,.ptr 4 0)],[dC,oo5,.junk,bJ,pt,.junk,.junk,.junk,.junk,.junk,.junk,.junk,.junk,.junk,.junk]⟩)] (.node (.node .nil 1610614793 [(.normal,⟨[(0,.ptr 3 0),(1,.func (.func 25) [] []),(4,.ptr 7 0),(5,.ptr 8 0)],[dC,oo5,.junk,bJ,XZ,.junk,.junk,TK,TK]⟩)] .nil) 1946158096 [(.normal,⟨[(0,.ptr 3 0),(1,au),(4,.ptr 15 0)],[dC,oo5,.junk,bJ,pt,.junk,.junk,.junk,.junk,.junk,.junk,.junk,.junk,.junk,.junk,oo5]⟩)] (.node .nil 1946160144 [(.normal,⟨[(0,.ptr 3 0),(4,.ptr 15 0)],[dC,oo5,.junk,bJ,pt,.junk,.junk,.junk,.junk,.junk,.junk,.junk,.junk,.junk,.junk,oo5]⟩)] .nil))) 3355443212 [(.normal,⟨[],[dC,oo5,.junk,bJ,XZ,.junk,.junk,TK,.junk,.junk,MH,.junk]⟩)] (.node (.node (.node .nil 3355443214 [(.normal,⟨[],[dC,oo5,.junk,bJ,acs,.junk,.junk,.junk,.junk,Gr,.junk,.junk,kl,.junk]⟩)] .nil) 3355443218 [(.normal,⟨[],[dC,oo5,.junk,bJ,ML,.junk,.junk,.junk,.junk,.junk,.junk,.junk,.junk,Gr,.junk,.junk,kl,.junk]⟩)] (.node .nil 3489662983 [(.normal,⟨[(0,.ptr 3 0),(1,.func (.func 96) [] [.rc [hc3] 0,.rc [.func (.func 54) [] []] 0]),(5,vZ)],[dC,oo5,.junk,bJ,dC,.junk,.junk]⟩)] .nil)) 3690989577 [(.normal,⟨[(0,.ptr 3 0),(1,.func (.func 56) [] []),(5,vN)],[dC,oo5,.junk,bJ,ahX,.junk,.junk,.junk,.junk]⟩)] (.node (.node .nil 3825207307 [(.normal,⟨[(0,.ptr 3 0),(1,.func (.func 58) [] []),(4,.ptr 9 0),(5,.ptr 10 0)],[dC,oo5,.junk,bJ,acs,.junk,.junk,.junk,.junk,Gr,Gr]⟩)] .nil) 3825207311 [(.normal,⟨[(0,.ptr 3 0),(1,.func (.func 58) [] []),(4,.ptr 13 0),(5,.ptr 14 0)],[dC,oo5,.junk,bJ,ML,.junk,.junk,.junk,.junk,.junk,.junk,.junk,.junk,Gr,Gr]⟩)] .nil))) 3959425039 [(.normal,⟨[(0,.ptr 3 0),(1,.func (.func 60) [] []),(5,vN)],[dC,oo5,.junk,bJ,MK,.junk,.junk,.junk,.junk,.junk,.junk,.junk,.junk,.junk,.junk]⟩)] (.node (.node (.node (.node .nil 4093642767 [(.normal,⟨[(0,.ptr 3 0),(1,.func (.func 62) [] []),(5,vN)],[dC,oo5,.junk,bJ,acr,.junk,.junk,.junk,.junk,.junk,.junk,.junk,.junk,.junk,.junk]⟩)] .nil) 2199023341570 [(.ret,⟨[(2,.ptr 3 0)],[dC,oo5,.junk,bJ]⟩)] (.node .nil 2199023353863 [(.ret,⟨[(4,.ptr 7 0)],[dC,oo5,.junk,bJ,XZ,.junk,.junk,MH,.junk]⟩)] .nil)) 2199023374351 [(.ret,⟨[(4,.ptr 15 0)],[dC,oo5,.junk,.junk,pt,.junk,.junk,.junk,.junk,.junk,.junk,.junk,.junk,.junk,.junk,oo0]⟩)] (.node (.node .nil 2199023464453 [(.ret,⟨[(6,au)],[dC,oo5,.junk,bJ,dC,.junk,.junk]⟩)] .nil) 2199023464459 [(.ret,⟨[(6,au)],[dC,oo5,.junk,bJ,ML,.junk,.junk,.junk,.junk,.junk,.junk,.junk,.junk]⟩)] .nil)) 2199023464461 [(.ret,⟨[(6,au)],[dC,oo5,.junk,bJ,MK,.junk,.junk,.junk,.junk,.junk,.junk,.junk,.junk,.junk,.junk]⟩)] (.node (.node (.node .nil 2199023468551 [(.ret,⟨[(4,hc3)],[dC,oo5,.junk,bJ,dC,.junk,.junk]⟩)] .nil) 2199023480841 [(.ret,⟨[(4,iQ)],[dC,oo5,.junk,bJ,ahX,.junk,.junk,.junk,.junk]⟩)] (.node .nil 2199023489033 [(.ret,⟨[(4,.ptr 9 0)],[dC,oo5,.junk,bJ,acs,.junk,.junk,.junk,.junk,kl,.junk]⟩)] .nil)) 2199023489037 [(.ret,⟨[(4,.ptr 13 0)],[dC,oo5,.junk,bJ,ML,.junk,.junk,.junk,.junk,.junk,.junk,.junk,.junk,kl,.junk]⟩)] (.node (.node .nil 2199023497231 [(.ret,⟨[(4,sL)],[dC,oo5,.junk,bJ,MK,.junk,.junk,.junk,.junk,.junk,.junk,.junk,.junk,.junk,.junk]⟩)] .nil) 2199023505423 [(.ret,⟨[(4,hc9)],[dC,oo5,.junk,bJ,acr,.junk,.junk,.junk,.junk,.junk,.junk,.junk,.junk,.junk,.junk]⟩)] .nil))))
def dN(L:List (KL B0)):Ctx B0:=⟨[aH,aU,xC,vq,Am,Of,B3,GR,Fh,mf],[],[],L,Ed⟩
def pi:LD:=⟨125,2,7,⟨[(0,N5),(1,.func (.func 95) [] [.rc [.ptr 3 0] 0,.rc [vF] 0]),(7,hc3),(8,hc3)],[dC,oo5,.junk,bJ,dC,.junk,.junk]⟩,[(.ret,⟨[(4,hc3)],[dC,oo5,.junk,bJ,dC,.junk,.junk]⟩),(.exit 0,⟨[],[dC,oo5,.junk,bJ,dC,.junk,.junk]⟩)]⟩
@[local irreducible] def dO(N n:Nat):(Y3×Int×Y52)->Option (Y52⊕(Bs×Y17×Y4)):=Nat.rec (λ_=>none) (λ_ L x=>syv N (pi.round (dN []).cxs L x)) n
def fo:=gL (dN []) pi (dO NN)
def pj:LD:=⟨125,2,13,⟨[(0,N5),(1,.func (.func 95) [] [.rc [.ptr 3 0] 0,.rc [vF] 0]),(7,hc3),(8,hc3)],[dC,oo5,.junk,bJ,ML,.junk,.junk,.junk,.junk,.junk,.junk,.junk,.junk]⟩,[(.ret,⟨[(4,hc3)],[dC,oo5,.junk,bJ,ML,.junk,.junk,.junk,.junk,.junk,.junk,.junk,.junk]⟩),(.exit 0,⟨[],[dC,oo5,.junk,bJ,ML,.junk,.junk,.junk,.junk,.junk,.junk,.junk,.junk]⟩)]⟩
@[local irreducible] def dP(N n:Nat):(Y3×Int×Int×Y55)->Option ((Int×Y55)⊕Y55):=Nat.rec (λ_=>none) (λ_ L x=>syv N (pj.round (dN [fo]).cxs L x)) n
def jX:=gL (dN [fo]) pj (dP NN)
def pk:LD:=⟨125,2,15,⟨[(0,N5),(1,.func (.func 95) [] [.rc [.ptr 3 0] 0,.rc [vT] 0]),(7,hc3),(8,hc3)],[dC,oo5,.junk,bJ,MK,.junk,.junk,.junk,.junk,.junk,.junk,.junk,.junk,.junk,.junk]⟩,[(.ret,⟨[(4,hc3)],[dC,oo5,.junk,bJ,MK,.junk,.junk,.junk,.junk,.junk,.junk,.junk,.junk,.junk,.junk]⟩),(.exit 0,⟨[],[dC,oo5,.junk,bJ,MK,.junk,.junk,.junk,.junk,.junk,.junk,.junk,.junk,.junk,.junk]⟩)]⟩
@[local irreducible] def dQ(N n:Nat):(Y3×Int×Int×Y56)->Option ((Int×Y56)⊕Y56):=Nat.rec (λ_=>none) (λ_ L x=>syv N (pk.round (dN [fo,jX]).cxs L x)) n
def AG:=gL (dN [fo,jX]) pk (dQ NN)
def rX:AD B0:=⟨23,(dN [fo,jX,AG]),[hc0],(.tup [PT,hc4])⟩
@[irreducible] def bR(N:Nat)(a:Bs):Option (Y47×Y4):=syv N (rX.go (a))
def Ee:=gA rX (bR NN)
def ke:AD B0:=⟨27,(c1 []),[hc3,.func (.func 28) [] []],(.func (.func 68) [] [.rc [hc3] 0,.rc [.func (.func 28) [] []] 0])⟩
@[local irreducible] def eB(a:Int):Option Int:=syv NN (ke.go (a))
def rY:=gA ke eB
def jp:AD B0:=⟨68,(c1 [bI,aU,yu]),[hc0,.rc [hc3] 0,.rc [.func (.func 28) [] []] 0],(.tup [I5,hc4])⟩
@[local irreducible] def aI(N:Nat)(a:Bs)(a2:Int):Option (Y1×Y4):=syv N (jp.go (a,a2))
def qx:=gA jp (u2 (aI NN))
def JB:Tr bh:=(.node (.node (.node (.node .nil 1476397063 [(.normal,⟨[(0,.ptr 3 0),(1,.func (.func 23) [] []),(4,.ptr 5 0),(5,.ptr 6 0)],[sM,oo5,.junk,bJ,sM,dC,dC]⟩)] .nil) 1610614793 [(.normal,⟨[(0,.ptr 3 0),(1,.func (.func 25) [] []),(4,.ptr 7 0),(5,.ptr 8 0)],[sM,oo5,.junk,bJ,ahY,.junk,.junk,TK,TK]⟩)] (.node .nil 1744832523 [(.normal,⟨[(0,.ptr 3 0),(1,.func (.func 68) [] [.rc [hc3] 0,.rc [.func (.func 28) [] []] 0]),(4,.ptr 9 0),(5,.ptr 10 0)],[sM,oo5,.junk,bJ,acu,.junk,.junk,.junk,.junk,acv,acv]⟩)] .nil)) 1946158092 [(.normal,⟨[(0,.ptr 3 0),(1,au),(4,.ptr 11 0)],[sM,oo5,.junk,bJ,acw,.junk,.junk,.junk,.junk,.junk,.junk,oo5]⟩)] (.node (.node .nil 1946160140 [(.normal,⟨[(0,.ptr 3 0),(4,.ptr 11 0)],[sM,oo5,.junk,bJ,acw,.junk,.junk,.junk,.junk,.junk,.junk,oo5]⟩)] .nil) 3355443210 [(.normal,⟨[],[sM,oo5,.junk,bJ,sM,dC,.junk,.junk,pt,.junk]⟩)] .nil)) 3355443214 [(.normal,⟨[],[sM,oo5,.junk,bJ,acu,.junk,.junk,.junk,.junk,acv,.junk,.junk,oo7,.junk]⟩)] (.node (.node (.node .nil 2199023341570 [(.ret,⟨[(2,.ptr 3 0)],[sM,oo5,.junk,bJ]⟩)] .nil) 2199023345669 [(.ret,⟨[(4,.ptr 5 0)],[sM,oo5,.junk,bJ,sM,pt,.junk]⟩)] .nil) 2199023353863 [(.ret,⟨[(4,.ptr 7 0)],[sM,oo5,.junk,bJ,ahY,.junk,.junk,MH,.junk]⟩)] (.node (.node .nil 2199023362057 [(.ret,⟨[(4,.ptr 9 0)],[sM,oo5,.junk,bJ,acu,.junk,.junk,.junk,.junk,oo7,.junk]⟩)] .nil) 2199023374347 [(.ret,⟨[(4,.ptr 11 0)],[sM,oo5,.junk,.junk,acw,.junk,.junk,.junk,.junk,.junk,.junk,oo0]⟩)] .nil)))
def yM:AD B0:=⟨8,⟨[aH,Ee,Am,rY,qx,zD],[],[],[],JB⟩,[hc0],(.tup [Gp,hc4])⟩
@[irreducible] def cu(N:Nat)(a:Bs):Option (Y48×Y4):=syv N (yM.go (a))
def yN:=gA yM (cu NN)
def Iz:AD B0:=⟨11,(c1 []),[hc0,hc0],au⟩
@[irreducible] def fH(a:Bs)(a2:Bs):Option Bool:=syv NN (Iz.go (a,a2))
def jA:=gA Iz (u2 fH)
def iS(N:Nat):Option Bool:=
 (fM N ((0,(([49,46,50,46,51]:Bs),[]),[[(([50,46,53,46,52,46,51]:Bs),([12,2,65,98]:Bs))]],(2000,1,1,0,0,0),false,(0,0,0,0,0,0),[],[]),(([49,46,50,46,51]:Bs),[]),[],0)).bind λ(a,e)=>
 (cu N a).bind λ(g,b)=>
 bif (e !=0) then(
 some false)
 else
 bif (!((b.1==0)&&(b.2==0))) then(
 some false)
 else
 bif ((a.length:Int) !=49) then(
 some false)
 else
 (slc a 0 10).bind λf=>
 (fH f ([48,47,48,36,48,4,6,2,42,3]:Bs)).bind λc=>
 bif c then(
 bif (g.2.1.1==([49,46,50,46,51]:Bs)) then(
 (gS N ((0,(([49,46,50,46,51]:Bs),[]),[[(([50,46,53,46,52,46,51]:Bs),([12,2,65,98]:Bs))]],(2000,1,1,0,0,0),false,(0,0,0,0,0,0),[],[]),(([49,46,50,46,51]:Bs),[]),[],0)).bind λd=>
 some d)
 else
 some false)
 else
 some false
def P7:KC B0:=gC 5 (c1 [GP,yN,jA,pR]) [] au (λ_=>iS NN) krq
attribute [irreducible] iS
def sY(L:List (KL B0)):Ctx B0:=⟨[],[],[],L,.nil⟩
def wU:LD:=⟨38,3,0,⟨[(0,hc9),(3,hc3),(4,hc3)],[]⟩,[(.exit 0,⟨[(0,hc9),(3,hc3)],[]⟩)]⟩
@[local irreducible] def wV(N n:Nat):(Y43×Y4)->Option (Y43×Int):=Nat.rec (λ_=>none) (λ_ L x=>syv N (wU.round (sY []).cxs L x)) n
def IU:=gL (sY []) wU (wV NN)
def B5:AD B0:=⟨38,(sY [IU]),[hc9],au⟩
@[irreducible] def sZ(N:Nat)(a:Y43):Option Bool:=syv N (B5.go (a))
def B6:=gA B5 (sZ NN)
def Ap:AD B0:=⟨36,(c1 [B6]),[XV],au⟩
@[irreducible] def ry(N:Nat)(a:Y44):Option Bool:=syv N (Ap.go (a))
def L5:=gA Ap (ry NN)
def JC:AD B0:=⟨14,(c1 []),[hc1],au⟩
@[irreducible] def B7(a:Y0):Option Bool:=syv NN (JC.go (a))
def JD:=gA JC B7
def JE:AD B0:=⟨112,(c1 []),[hc1],au⟩
@[irreducible] def B8(a:Y0):Option Bool:=syv NN (JE.go (a))
def TQ:=gA JE B8
def vt(L:List (KL B0)):Ctx B0:=⟨[TQ],[],[],L,.nil⟩
def yO:LD:=⟨78,3,0,⟨[(0,hc2),(3,hc3),(4,hc3)],[]⟩,[(.ret,⟨[(2,vF)],[]⟩),(.exit 0,⟨[(0,hc2),(3,hc3)],[]⟩)]⟩
@[local irreducible] def yP(N n:Nat):(Y11×Y4)->Option ((Unit)⊕(Y11×Int)):=Nat.rec (λ_=>none) (λ_ L x=>syv N (yO.round (vt []).cxs L x)) n
def JF:=gL (vt []) yO (yP NN)
def Dv:AD B0:=⟨78,(vt [JF]),[hc2],au⟩
@[irreducible] def vu(N:Nat)(a:Y11):Option Bool:=syv N (Dv.go (a))
def Om:=gA Dv (vu NN)
def pX(L:List (KL B0)):Ctx B0:=⟨[Om],[],[],L,.nil⟩
def Dw:LD:=⟨37,8,0,⟨[(0,iQ),(3,hc3),(4,hc3),(5,hc3)],[]⟩,[(.exit 2,⟨[(0,iQ),(3,hc3),(4,hc3)],[]⟩)]⟩
@[local irreducible] def Dx(N n:Nat):(Y12×Int×Y4)->Option (Y12×Y4):=Nat.rec (λ_=>none) (λ_ L x=>syv N (Dw.round (pX []).cxs L x)) n
def vw:=gL (pX []) Dw (Dx NN)
def Dy:LD:=⟨37,3,0,⟨[(0,iQ),(3,hc3),(4,hc3)],[]⟩,[(.ret,⟨[(2,vF)],[]⟩),(.exit 0,⟨[(0,iQ),(3,hc3)],[]⟩)]⟩
@[local irreducible] def Dz(N n:Nat):(Y12×Y4)->Option ((Unit)⊕(Y12×Int)):=Nat.rec (λ_=>none) (λ_ L x=>syv N (Dy.round (pX [vw]).cxs L x)) n
def On:=gL (pX [vw]) Dy (Dz NN)
def JG:AD B0:=⟨37,(pX [vw,On]),[iQ],au⟩
@[irreducible] def B9(N:Nat)(a:Y12):Option Bool:=syv N (JG.go (a))
def TR:=gA JG (B9 NN)
end
end Go.Fw
