/- A framework for proofs about Go programs in this model: part Q. Everything is proved; no condition is added. -/
import Derived.Test.YtlicgchfbhkelaaGreatDoorFwP
set_option linter.unusedVariables false
set_option linter.unusedSimpArgs false
set_option linter.defProp false
namespace Go.Fw
open Go Go.Proofs.Tryz
noncomputable section
set_option maxRecDepth 100000
set_option maxHeartbeats 0
attribute [local irreducible] ix app slc cw toB agree fF fH fE ju dD aI aP aQ
def DS:AD B0:=⟨342,(c1 [jZ]),[hc0],au⟩
@[irreducible] def wC(N:Nat)(a:Bs):Option Bool:=syv N (DS.go (a))
def OG:=gA DS (wC NN)
def yM:AD B0:=⟨343,(c1 [bV]),[hc4,hc0],(.tup [hc0,hc4])⟩
@[irreducible] def mh(N:Nat)(a:Int)(a2:Bs):Y18:=syv N (yM.go (a,a2))
def yN:=gA yM (u2 (mh NN))
def DT:AD B0:=⟨294,(c1 [OG,yN]),[Ar],au⟩
@[irreducible] def mK(N:Nat)(a:Y27):Option Bool:=syv N (DT.go (a))
def DU:=gA DT (mK NN)
def vL:AD B0:=⟨347,(c1 [As]),[JK],(.tup [Ar,au])⟩
@[irreducible] def od(N:Nat)(a:Y16):Y28:=syv N (vL.go (a))
def HM:=gA vL (od NN)
def ui:AD B0:=⟨348,(c1 [jh]),[JK],(.tup [Ar,au])⟩
@[irreducible] def nz(a:Y16):Y28:=syv NN (ui.go (a))
def FB:=gA ui nz
def vM:AD B0:=⟨142,(c1 []),[hc4,hc4],(.tup [hc1,hc5])⟩
@[local irreducible] def kH(a:Int)(a2:Int):Y29:=syv NN (vM.go (a,a2))
def HN:=gA vM (u2 kH)
def yO:AD B0:=⟨123,(c1 [aH,HN,aT,gd,jh,jZ]),[hc0],(.tup [hc1,hc5])⟩
@[irreducible] def cF(N:Nat)(a:Bs):Y29:=syv N (yO.go (a))
def Kv:=gA yO (cF NN)
def yv(L:List (KL B0)):Ctx B0:=⟨[aH,Kv,mf],[],[],L,.nil⟩
def AR:LD:=⟨99,9,0,⟨[(0,hc0),(3,.ptr 0 0),(6,.own 2),(7,.own 3),(27,dW),(28,hc4),(29,hc4)],[oo0,.junk,.arr tc1 false false,.arr tc0 true false]⟩,[(.ret,⟨[(2,vN),(3,.ptr 0 0)],[oo0,.junk,.junk,.junk]⟩),(.exit 0,⟨[(3,.ptr 0 0),(6,.own 2)],[oo0,.junk,.arr tc1 false false,.junk]⟩)]⟩
@[local irreducible] def bD(N n:Nat):(Bs×Y22×Int×Int×Int×Int×Y1×Y12)->Option (Y3⊕(Int×Int×Y1)):=Nat.rec (λ_=>none) (λ_ L x=>syv N (AR.round (yv []).cxs L x)) n
def LJ:=gL (yv []) AR (bD NN)
def Hg:AD B0:=⟨99,(yv [LJ]),[hc0],(.tup [hc2,hc5])⟩
@[irreducible] def dL(N:Nat)(a:Bs):Option (Y1×Y3):=syv N (Hg.go (a))
def Hh:=gA Hg (dL NN)
def FC(L:List (KL B0)):Ctx B0:=⟨[aH,Hh],[],[],L,.nil⟩
def Hi:LD:=⟨57,6,0,⟨[(0,hc0),(3,.ptr 0 0),(6,.own 2),(20,dW),(21,hc4),(22,hc4)],[oo0,.junk,.arr tc2 false false]⟩,[(.ret,⟨[(2,vN),(3,.ptr 0 0)],[oo0,.junk,.junk]⟩),(.exit 0,⟨[(3,.ptr 0 0),(6,.own 2)],[oo0,.junk,.arr tc2 false false]⟩)]⟩
@[local irreducible] def cQ(N n:Nat):(Bs×Y22×Int×Int×Int×Int×Y2)->Option (Y3⊕(Int×Int×Y2)):=Nat.rec (λ_=>none) (λ_ L x=>syv N (Hi.round (FC []).cxs L x)) n
def QU:=gL (FC []) Hi (cQ NN)
def M5:AD B0:=⟨57,(FC [QU]),[hc0],(.tup [fq,hc5])⟩
@[irreducible] def iQ(N:Nat)(a:Bs):Option (Y2×Y3):=syv N (M5.go (a))
def M6:=gA M5 (iQ NN)
def pg:AD B0:=⟨349,(c1 [M6]),[JK],(.tup [Ar,au])⟩
@[irreducible] def kl(N:Nat)(a:Y16):Y28:=syv N (pg.go (a))
def AS:=gA pg (kl NN)
def xE:AD B0:=⟨386,(c1 [bN,As]),[hc0],(.tup [abg,au])⟩
@[irreducible] def ph(N:Nat)(a:Bs):Option (Y16×Bool):=syv N (xE.go (a))
def It:=gA xE (ph NN)
def qt:AD B0:=⟨387,(c1 []),[hc4],au⟩
@[local irreducible] def qu(a:Int):Option Bool:=syv NN (qt.go (a))
def BV:=gA qt qu
def sG:AD B0:=⟨372,(c1 [It,BV]),[hc0],(.tup [abg,au])⟩
@[irreducible] def mL(N:Nat)(a:Bs):Option (Y16×Bool):=syv N (sG.go (a))
def DW:=gA sG (mL NN)
end
end Go.Fw
