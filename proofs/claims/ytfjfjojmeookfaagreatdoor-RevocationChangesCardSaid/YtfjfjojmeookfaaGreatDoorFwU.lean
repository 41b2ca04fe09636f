/- A framework for proofs about Go programs in this model: part U. Everything is proved; no condition is added. -/
import Derived.Test.YtfjfjojmeookfaaGreatDoorFwT
set_option linter.unusedVariables false
set_option linter.unusedSimpArgs false
set_option linter.defProp false
namespace Go.Fw
open Go Go.Proofs.Tryz
noncomputable section
set_option maxRecDepth 100000
set_option maxHeartbeats 0
attribute [local irreducible] ix app slc cC toB agree fU fW fT jB dR aK aV aX jS sU
def cY(L:List (KL B0)):Ctx B0:=⟨[MX],[],[],L,.nil⟩
def eT:LD:=⟨369,2,0,⟨[(0,hc2),(1,.func (.func 338) [] []),(7,hc3),(8,hc3)],[]⟩,[(.ret,⟨[(4,hc3)],[]⟩),(.exit 0,⟨[],[]⟩)]⟩
@[local irreducible] def eU(N n:Nat):(Y11×Y4)->Option ((Int)⊕(Unit)):=Nat.rec (λ_=>none) (λ_ L x=>syv N (eT.round (cY []).cxs L x)) n
def jx:=gL (cY []) eT (eU NN)
def fv:AD B0:=⟨369,(cY [jx]),[hc2,.func (.func 338) [] []],hc3⟩
@[local irreducible] def fw(N:Nat)(a:Y11):Option Int:=syv N (fv.go (a))
def kh:=gA fv (fw NN)
def eV:AD B0:=⟨337,(c1 [kh]),[hc2,.func (.func 338) [] []],au⟩
@[local irreducible] def cG(N:Nat)(a:Y11):Option Bool:=syv N (eV.go (a))
def jy:=gA eV (cG NN)
def xy(L:List (KL B0)):Ctx B0:=⟨[oC,jy],[],[],L,.nil⟩
def Aa:LD:=⟨278,3,0,⟨[(0,PR),(3,.mp 0),(7,PR),(8,hc3),(9,hc3)],[.smap]⟩,[(.ret,⟨[(2,vF)],[.junk]⟩),(.exit 0,⟨[(0,PR)],[.junk]⟩)]⟩
@[local irreducible] def Ab(N n:Nat):(Y32×Y32×Y18)->Option ((Unit)⊕Y32):=Nat.rec (λ_=>none) (λ_ L x=>syv N (Aa.round (xy []).cxs L x)) n
def LN:=gL (xy []) Aa (Ab NN)
def E6:AD B0:=⟨278,(xy [LN]),[PR],au⟩
@[irreducible] def xz(N:Nat)(a:Y32):Option Bool:=syv N (E6.go (a))
def P3:=gA E6 (xz NN)
def Js:AD B0:=⟨287,(c1 []),[hc3],hc4⟩
@[irreducible] def iw(a:Int):Option Y4:=syv NN (Js.go (a))
def Jt:=gA Js iw
def fK(L:List (KL B0)):Ctx B0:=⟨[aH,P3,Jt,bI,aU,gr,jm,Iv],[],[],L,.nil⟩
def Ac:LD:=⟨281,7,16,⟨[(0,hc0),(3,.func (.func 340) [] [.rc [.ptr 14 0] 0]),(8,.ptr 16 0),(33,eL),(34,hc3),(35,hc3)],[oo5,oD,.arr sK false true,oo5,.junk,il,Gq,.arr tc1 false true,oo5,.junk,il,oo5,.junk,il,MH,.junk,oo5,.junk]⟩,[(.ret,⟨[(8,.ptr 16 0)],[oo5,oD,.arr sK false true,oo5,.junk,il,Gq,.arr tc1 false true,oo5,.junk,il,oo5,.junk,il,MH,.junk,oo0,.junk]⟩),(.exit 0,⟨[(8,.ptr 16 0)],[oo5,oD,.arr sK false true,oo5,.junk,il,Gq,.arr tc1 false true,oo5,.junk,il,oo5,.junk,il,MH,.junk,oo5,.junk]⟩)]⟩
@[local irreducible] def rl(N n:Nat):(Bs×Y17×Int×Int×Y34)->Option ((Y32×Int×Int×Bool×Int×Int×Int×Bs×Y11×Int×Int×Bool×Int×Int×Int×Y35)⊕Y34):=Nat.rec (λ_=>none) (λ_ L x=>syv N (Ac.round (fK []).cxs L x)) n
def ga:=gL (fK []) Ac (rl NN)
def Ad:LD:=⟨281,7,11,⟨[(0,hc0),(3,.func (.func 285) [] [.ptr 6 0]),(8,.ptr 11 0),(33,eL),(34,hc3),(35,hc3)],[oo5,oD,.arr sK false true,oo5,.junk,il,Gq,.arr tc1 false false,oo5,.junk,il,oo5,.junk]⟩,[(.ret,⟨[(8,.ptr 11 0)],[oo5,oD,.arr sK false true,oo5,.junk,il,Gq,.arr tc1 false false,oo5,.junk,il,oo0,.junk]⟩),(.exit 0,⟨[(8,.ptr 11 0)],[oo5,oD,.arr sK false true,oo5,.junk,il,Gq,.arr tc1 false false,oo5,.junk,il,oo5,.junk]⟩)]⟩
@[local irreducible] def rm(N n:Nat):(Bs×Y17×Int×Int×Y36)->Option ((Y32×Int×Int×Bool×Int×Int×Int×Bs×Y11×Int×Int×Bool×Y6)⊕Y36):=Nat.rec (λ_=>none) (λ_ L x=>syv N (Ad.round (fK [ga]).cxs L x)) n
def jJ:=gL (fK [ga]) Ad (rm NN)
def Ae:LD:=⟨281,7,8,⟨[(0,hc0),(3,.func (.func 283) [] [.ptr 6 0]),(8,.ptr 8 0),(33,eL),(34,hc3),(35,hc3)],[oo5,oD,.arr sK false true,oo5,.junk,il,Gq,.arr tc1 false false,oo5,.junk]⟩,[(.ret,⟨[(8,.ptr 8 0)],[oo5,oD,.arr sK false true,oo5,.junk,il,Gq,.arr tc1 false false,oo0,.junk]⟩),(.exit 0,⟨[(8,.ptr 8 0)],[oo5,oD,.arr sK false true,oo5,.junk,il,Gq,.arr tc1 false false,oo5,.junk]⟩)]⟩
@[local irreducible] def rn(N n:Nat):(Bs×Y17×Int×Int×Y37)->Option ((Y32×Int×Int×Bool×Int×Int×Int×Bs×Y11×Y4)⊕Y37):=Nat.rec (λ_=>none) (λ_ L x=>syv N (Ae.round (fK [ga,jJ]).cxs L x)) n
def rq:=gL (fK [ga,jJ]) Ae (rn NN)
def Af:LD:=⟨281,7,3,⟨[(0,hc0),(3,.func (.func 282) [] [.ptr 1 0]),(8,.ptr 3 0),(33,eL),(34,hc3),(35,hc3)],[oo5,oD,.arr sK false false,oo5,.junk]⟩,[(.ret,⟨[(8,.ptr 3 0)],[oo5,oD,.arr sK false false,oo0,.junk]⟩),(.exit 0,⟨[(8,.ptr 3 0)],[oo5,oD,.arr sK false false,oo5,.junk]⟩)]⟩
@[local irreducible] def rt(N n:Nat):(Bs×Y17×Int×Int×Y32)->Option ((Y32×Y4)⊕Y32):=Nat.rec (λ_=>none) (λ_ L x=>syv N (Af.round (fK [ga,jJ,rq]).cxs L x)) n
def LO:=gL (fK [ga,jJ,rq]) Af (rt NN)
def E7:AD B0:=⟨209,(fK [ga,jJ,rq,LO]),[hc0],(.tup [PR,hc4])⟩
@[irreducible] def qw(N:Nat)(a:Bs):Option (Y32×Y4):=syv N (E7.go (a))
def P4:=gA E7 (qw NN)
def pL:AD B0:=⟨341,(c1 [oC]),[bO],au⟩
@[local irreducible] def ky(N:Nat)(a:Bs):Option Bool:=syv N (pL.go (a))
def BU:=gA pL (ky NN)
def lZ(L:List (KL B0)):Ctx B0:=⟨[BU],[],[],L,.nil⟩
def pb:LD:=⟨370,2,1,⟨[(0,XU),(1,.func (.func 343) [] [.ptr 0 0]),(7,hc3),(8,hc3)],[.cells [.func (.func 341) [] []] false]⟩,[(.ret,⟨[(4,hc3)],[.junk]⟩),(.exit 0,⟨[],[.junk]⟩)]⟩
@[local irreducible] def pc(N n:Nat):(Y11×Y4)->Option ((Int)⊕(Unit)):=Nat.rec (λ_=>none) (λ_ L x=>syv N (pb.round (lZ []).cxs L x)) n
def AC:=gL (lZ []) pb (pc NN)
def rR:AD B0:=⟨288,(lZ [AC]),[XU],au⟩
@[irreducible] def ma(N:Nat)(a:Y11):Option Bool:=syv N (rR.go (a))
def Ea:=gA rR (ma NN)
def gu(L:List (KL B0)):Ctx B0:=⟨[aH,Ea,Jt,bI,aU,gr],[],[],L,.nil⟩
def pf:LD:=⟨281,7,7,⟨[(0,hc0),(3,.func (.func 290) [] [.ptr 6 0]),(8,.ptr 7 0),(33,eL),(34,hc3),(35,hc3)],[oo5,oD,.arr Gn false true,oo5,.junk,il,acm,oo5,.junk]⟩,[(.ret,⟨[(8,.ptr 7 0)],[oo5,oD,.arr Gn false true,oo5,.junk,il,acm,oo0,.junk]⟩),(.exit 0,⟨[(8,.ptr 7 0)],[oo5,oD,.arr Gn false true,oo5,.junk,il,acm,oo5,.junk]⟩)]⟩
@[local irreducible] def jU(N n:Nat):(Bs×Y17×Int×Int×Y11×Y33)->Option ((Y11×Y35)⊕(Y11×Y33)):=Nat.rec (λ_=>none) (λ_ L x=>syv N (pf.round (gu []).cxs L x)) n
def jV:=gL (gu []) pf (jU NN)
def pg:LD:=⟨281,7,3,⟨[(0,hc0),(3,.func (.func 289) [] [.ptr 1 0]),(8,.ptr 3 0),(33,eL),(34,hc3),(35,hc3)],[oo5,oD,.arr Gn false false,oo5,.junk]⟩,[(.ret,⟨[(8,.ptr 3 0)],[oo5,oD,.arr Gn false false,oo0,.junk]⟩),(.exit 0,⟨[(8,.ptr 3 0)],[oo5,oD,.arr Gn false false,oo5,.junk]⟩)]⟩
@[local irreducible] def jW(N n:Nat):(Bs×Y17×Int×Int×Y11)->Option ((Y11×Y4)⊕Y11):=Nat.rec (λ_=>none) (λ_ L x=>syv N (pg.round (gu [jV]).cxs L x)) n
def AE:=gL (gu [jV]) pg (jW NN)
def rS:AD B0:=⟨212,(gu [jV,AE]),[hc0],(.tup [XU,hc4])⟩
@[irreducible] def iZ(N:Nat)(a:Bs):Option (Y11×Y4):=syv N (rS.go (a))
def Eb:=gA rS (iZ NN)
def Iw:AD B0:=⟨291,(c1 [oK,iq]),[ahO],au⟩
@[irreducible] def Ix(N:Nat)(a:Y38):Option Bool:=syv N (Iw.go (a))
def Sg:=gA Iw (Ix NN)
def zw:AD B0:=⟨215,(c1 [aH,Sg,aU,jm,cS,oI]),[hc0],(.tup [ahO,hc4])⟩
def Sh:KC B0:=zw.k krq
abbrev Si(N:Nat)(a:Bs):Option (Y38×Y4):=zw.run a
def LP:Tr bh:=(.node .nil 14629745669 [(.normal,⟨[(0,hc0),(2,.ptr 0 0),(3,.ptr 1 0),(6,.ptr 3 0),(7,hc3),(22,eL),(23,hc3),(24,hc3)],[XX,oo5,.junk,acn,.junk]⟩)] .nil)
def ru(L:List (KL B0)):Ctx B0:=⟨[aH,nQ],[],[],L,LP⟩
def vg:LD:=⟨218,7,0,⟨[(0,hc0),(2,.ptr 0 0),(3,.ptr 1 0),(6,.ptr 3 0),(7,hc3),(22,eL),(23,hc3),(24,hc3)],[XX,oo5,.junk,acn]⟩,[(.ret,⟨[(2,.ptr 0 0),(3,.ptr 1 0)],[XX,oo6,.junk,.junk]⟩),(.exit 0,⟨[(0,hc0),(2,.ptr 0 0),(3,.ptr 1 0),(6,.ptr 3 0),(7,hc3)],[XX,oo5,.junk,acn]⟩)]⟩
@[local irreducible] def nR(N n:Nat):(Bs×Int×Y17×Int×Int×Y39)->Option ((Int)⊕(Bs×Int×Y39)):=Nat.rec (λ_=>none) (λ_ L x=>syv N (vg.round (ru []).cxs L x)) n
def GK:=gL (ru []) vg (nR NN)
def Ag:AD B0:=⟨218,(ru [GK]),[hc0],(.tup [.hole ahA,hc4])⟩
@[irreducible] def mE(N:Nat)(a:Bs):Option (Y39×Y4):=syv N (Ag.go (a))
def LQ:=gA Ag (mE NN)
def zx(L:List (KL B0)):Ctx B0:=⟨[aH,aU,gr],[],[],L,.nil⟩
def BV:LD:=⟨221,6,0,⟨[(0,hc0),(3,.ptr 0 0),(6,.own 2),(20,eL),(21,hc3),(22,hc3)],[oo0,.junk,.arr .str false false]⟩,[(.ret,⟨[(2,vN),(3,.ptr 0 0)],[oo0,.junk,.junk]⟩),(.exit 0,⟨[(0,hc0),(3,.ptr 0 0),(6,.own 2)],[oo0,.junk,.arr .str false false]⟩)]⟩
@[local irreducible] def sV(N n:Nat):(Bs×Y17×Int×Int×Y18)->Option (Y4⊕(Bs×Y18)):=Nat.rec (λ_=>none) (λ_ L x=>syv N (BV.round (zx []).cxs L x)) n
def MY:=gL (zx []) BV (sV NN)
def Iy:AD B0:=⟨221,(zx [MY]),[hc0],(.tup [acf,hc4])⟩
@[irreducible] def sA(N:Nat)(a:Bs):Option (Y2×Y4):=syv N (Iy.go (a))
def Sj:=gA Iy (sA NN)
def tT:AD B0:=⟨297,(c1 [bI,nQ]),[hc0,.func (.func 265) [] []],(.tup [hc3,hc4])⟩
@[local irreducible] def tU(N:Nat)(a:Bs):Y20:=syv N (tT.go (a))
def E8:=gA tT (tU NN)
def yA:AD B0:=⟨223,(c1 [E8]),[hc0],(.tup [hc3,hc4])⟩
@[irreducible] def lG(N:Nat)(a:Bs):Y20:=syv N (yA.go (a))
def Ju:=gA yA (lG NN)
end
end Go.Fw
