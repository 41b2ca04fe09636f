/- A framework for proofs about Go programs in this model: part O. Everything is proved; no condition is added. -/
import Derived.Test.YtfjfjojmeookfaaGreatDoorFwN
set_option linter.unusedVariables false
set_option linter.unusedSimpArgs false
set_option linter.defProp false
namespace Go.Fw
open Go Go.Proofs.Tryz
noncomputable section
set_option maxRecDepth 100000
set_option maxHeartbeats 0
attribute [local irreducible] ix app slc cC toB agree fU fW fT jB dR aK aV aX eJ lY
def Df:AD B0:=⟨49,(c1 [bI,aU,xq]),[hc0,hc3,hc3],(.tup [eL,hc4])⟩
@[irreducible] def ba(N:Nat)(a:Bs)(a2:Int)(a3:Int):Option (Y17×Y4):=syv N (Df.go (a,a2,a3))
def aH:=gA Df (u3 (ba NN))
def Gy(L:List (KL B0)):Ctx B0:=⟨[Mc,qM,ah0],[],[],L,.nil⟩
def If:LD:=⟨104,5,0,⟨[(4,.own 0),(10,TG),(11,hc3),(12,hc3)],[.arr .str false false]⟩,[(.exit 0,⟨[(4,.own 0)],[.arr .str false false]⟩)]⟩
@[local irreducible] def oo(N n:Nat):(Y3×Y18)->Option (List Bs):=Nat.rec (λ_=>none) (λ_ L x=>syv N (If.round (Gy []).cxs L x)) n
def R3:=gL (Gy []) If (oo NN)
def Ob:AD B0:=⟨104,(Gy [R3]),[TG],(.tup [bO,hc3])⟩
@[irreducible] def AB(N:Nat)(a:List Int):Y10:=syv N (Ob.go (a))
def X3:=gA Ob (AB NN)
def TO:Tr bh:=(.node .nil 4362089473 [(.normal,⟨[(4,.own 0),(5,au),(6,TF),(15,hc0),(16,hc3),(17,hc3)],[.arr MG false false]⟩)] .nil)
def pz(L:List (KL B0)):Ctx B0:=⟨[X3],[],[],L,TO⟩
def Dg:LD:=⟨65,5,0,⟨[(4,.own 0),(5,au),(6,TF),(15,hc0),(16,hc3),(17,hc3)],[.arr MG false false]⟩,[(.ret,⟨[(2,bO),(3,hc3)],[.junk]⟩),(.exit 0,⟨[(4,.own 0),(5,au)],[.arr MG false false]⟩)]⟩
@[local irreducible] def bM(N n:Nat):(Bool×Int×Bs×Int×Int×Y3)->Option (Y1⊕(Bool×Y3)):=Nat.rec (λ_=>none) (λ_ L x=>syv N (Dg.round (pz []).cxs L x)) n
def uK:=gL (pz []) Dg (bM NN)
def Dh:LD:=⟨65,22,0,⟨[(10,.own 1),(67,.hole (.sl MG)),(68,hc3),(69,hc3)],[.junk,.arr Gl false false]⟩,[(.exit 2,⟨[(10,.own 1)],[.junk,.arr Gl false false]⟩)]⟩
@[local irreducible] def uL(N n:Nat):(Y3×Int×Int×Y3)->Option (List Int):=Nat.rec (λ_=>none) (λ_ L x=>syv N (Dh.round (pz [uK]).cxs L x)) n
def Oc:=gL (pz [uK]) Dh (uL NN)
def Jk:AD B0:=⟨65,(pz [uK,Oc]),[hc0],(.tup [bO,hc3])⟩
@[irreducible] def dj(N:Nat)(a:Bs):Y10:=syv N (Jk.go (a))
def gr:=gA Jk (dj NN)
def Ig:AD B0:=⟨366,(c1 [kn]),[hc0],au⟩
@[irreducible] def zm(N:Nat)(a:Bs):Option Bool:=syv N (Ig.go (a))
def R4:=gA Ig (zm NN)
def Di:AD B0:=⟨365,(c1 [R4]),[hc0],au⟩
@[local irreducible] def Dj(N:Nat)(a:Bs):Option Bool:=syv N (Di.go (a))
def Od:=gA Di (Dj NN)
def ib(L:List (KL B0)):Ctx B0:=⟨[Od],[],[],L,.nil⟩
def jE:LD:=⟨381,2,0,⟨[(0,jw),(1,.func (.func 365) [] []),(7,hc3),(8,hc3)],[]⟩,[(.ret,⟨[(4,hc3)],[]⟩),(.exit 0,⟨[],[]⟩)]⟩
@[local irreducible] def jF(N n:Nat):(Y2×Y4)->Option ((Int)⊕(Unit)):=Nat.rec (λ_=>none) (λ_ L x=>syv N (jE.round (ib []).cxs L x)) n
def re:=gL (ib []) jE (jF NN)
def kT:AD B0:=⟨381,(ib [re]),[jw,.func (.func 365) [] []],hc3⟩
@[local irreducible] def ic(N:Nat)(a:List Bs):Option Int:=syv N (kT.go (a))
def uo:=gA kT (ic NN)
def jG:AD B0:=⟨364,(c1 [uo]),[jw,.func (.func 365) [] []],au⟩
@[local irreducible] def jH(N:Nat)(a:List Bs):Option Bool:=syv N (jG.go (a))
def rf:=gA jG (jH NN)
def Ih:AD B0:=⟨322,(c1 [mA,rf]),[jw],au⟩
@[irreducible] def sn(N:Nat)(a:List Bs):Option Bool:=syv N (Ih.go (a))
def R5:=gA Ih (sn NN)
def EI:Tr bh:=(.node .nil 4398067548168 [(.normal,⟨[(1,.junk),(3073,.junk)],[]⟩)] .nil)
def mW(L:List (KL B0)):Ctx B0:=⟨[aH,jm,R5],[],[],L,EI⟩
def pA:LD:=⟨321,4,0,⟨[(1,hc0),(4,.ptr 0 0),(6,.ptr 3 0),(8,.ptr 5 0),(18,eL),(19,hc3),(20,hc3)],[.cells [vE,.own 1] false,.arr tc0 false false,.arr tc0 false false,.cells [bO,.own 2] false,.junk,oo0]⟩,[(.exit 0,⟨[(4,.ptr 0 0),(6,.ptr 3 0),(8,.ptr 5 0)],[.cells [vE,.own 1] false,.arr tc0 false false,.arr tc0 false false,.cells [bO,.own 2] false,.junk,oo0]⟩)]⟩
@[local irreducible] def ir(N n:Nat):(Bs×Y17×Int×Int×Y2×Y2×Bs×Y4)->Option (Y2×Y2×Bs×Y4):=Nat.rec (λ_=>none) (λ_ L x=>syv N (pA.round (mW []).cxs L x)) n
def BL:=gL (mW []) pA (ir NN)
def tB:AD B0:=⟨321,(mW [BL]),[bO,hc0],(.tup [ahK,au])⟩
@[local irreducible] def mX(N:Nat)(a:Bs)(a2:Bs):Option ((Bs×Y2)×Bool):=syv N (tB.go (a,a2))
def EJ:=gA tB (u2 (mX NN))
def kU:AD B0:=⟨324,(c1 [aH,aU,gr,EJ]),[.agg [.func (.func 321) [] [],.func (.func 323) [] []],hc0],(.tup [ahK,au])⟩
@[local irreducible] def ie(N:Nat)(a:Bs):Option ((Bs×Y2)×Bool):=syv N (kU.go (a))
def uq:=gA kU (ie NN)
def gt(L:List (KL B0)):Ctx B0:=⟨[aH,uq],[],[],L,.nil⟩
def jc:LD:=⟨256,6,0,⟨[(1,hc0),(2,.ptr 0 0),(5,.ptr 1 0),(8,.own 3),(22,eL),(23,hc3),(24,hc3)],[.cells [.func (.func 321) [] [],.func (.func 323) [] []] false,oo5,.junk,.arr PP false false]⟩,[(.ret,⟨[(4,vN),(5,.ptr 1 0)],[.junk,oo6,.junk,.junk]⟩),(.exit 0,⟨[(1,hc0),(5,.ptr 1 0),(8,.own 3)],[.junk,oo5,.junk,.arr PP false false]⟩)]⟩
@[local irreducible] def jd(N n:Nat):(Bs×Y17×Int×Int×Y19)->Option ((Int)⊕(Bs×Y19)):=Nat.rec (λ_=>none) (λ_ L x=>syv N (jc.round (gt []).cxs L x)) n
def pC:=gL (gt []) jc (jd NN)
def ka:AD B0:=⟨256,(gt [pC]),[.agg [.func (.func 321) [] [],.func (.func 323) [] []],hc0],(.tup [acg,hc4])⟩
@[local irreducible] def kb(N:Nat)(a:Bs):Option (Y19×Y4):=syv N (ka.go (a))
def rL:=gA ka (kb NN)
def wC:AD B0:=⟨188,(c1 [D6,rL]),[hc0],(.tup [acg,hc4])⟩
@[irreducible] def kM(N:Nat)(a:Bs):Option (Y19×Y4):=syv N (wC.go (a))
def IJ:=gA wC (kM NN)
def uM:AD B0:=⟨190,(c1 [bI,aU,jm]),[hc0],(.tup [hc0,hc4])⟩
@[irreducible] def jR(N:Nat)(a:Bs):Y15:=syv N (uM.go (a))
def Gz:=gA uM (jR NN)
end
end Go.Fw
