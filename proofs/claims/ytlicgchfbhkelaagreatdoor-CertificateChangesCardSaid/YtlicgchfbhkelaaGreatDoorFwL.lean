/- A framework for proofs about Go programs in this model: part L. Everything is proved; no condition is added. -/
import Derived.Test.YtlicgchfbhkelaaGreatDoorFwK
set_option linter.unusedVariables false
set_option linter.unusedSimpArgs false
set_option linter.defProp false
namespace Go.Fw
open Go Go.Proofs.Tryz
noncomputable section
set_option maxRecDepth 100000
set_option maxHeartbeats 0
attribute [local irreducible] ix app slc cw toB agree fF fH fE ju dD aI aP aQ gj
def Av:AD B0:=⟨131,(c1 [Fs,LB]),[hc0],(.tup [.hole (.pair tc4 (.pair tc4 (.pair .bool tc5))),hc5])⟩
@[irreducible] def bU(N:Nat)(a:Bs):Option ((Int×Int×Bool×Y3)×Y3):=syv N (Av.go (a))
def Aw:=gA Av (bU NN)
def dO(N:Nat)(R:Bs->Int->Int->Int->Y14)(n:Nat):(Bs×Int×Int×Y15)->Option ((Int×Int×Int×Int×Bool×Y3)⊕Y15):=Nat.rec (λ_=>none) (λ_ L (q,e,f,g,h,i,j,c,r,k,l,s,t,m,b,o,p,d)=>
 bif decide (f<b) then(
 (R q f b (aC .i64 e 1)).bind λ(a,u)=>
 bif (u.1 !=0) then(
 some (Sum.inl (0,0,0,0,false,u)))
 else
 (app 112 t [Fw.Spot.mk a.at' a.stop (Fw.Node.mk a.nd.cls a.nd.num a.nd.cons a.nd.body a.nd.kids) a.kids]).bind λv=>
 (app 72 s [Fw.Node.mk a.nd.cls a.nd.num a.nd.cons a.nd.body a.nd.kids]).bind λw=>
 L (q,e,a.stop,g,h,i,j,c,r,k,l,w,v,m,b,o,p,d))
 else
 some (Sum.inr (g,h,i,j,c,r,k,l,s,t,m,b,o,p,d))) n
def cZ(N n:Nat):Bs->Int->Int->Int->Y14:=Nat.rec (λ_ _ _ _=>none) (λ_ R g b f A=>
 bif (A==0) then(
 (gj 5 b).bind λ(c,K)=>
 some (Fw.Spot.mk c.at' c.stop (Fw.Node.mk c.nd.cls c.nd.num c.nd.cons c.nd.body c.nd.kids) c.kids,K))
 else
 bif (decide (f<=f)&&decide (f<=g.length)) then(
 (slc g b f).bind λJ=>
 (bU N J).bind λ(a,y)=>
 bif (y.1 !=0) then(
 (gj y.1 (ay .i64 b y.2)).bind λ(d,L)=>
 some (Fw.Spot.mk d.at' d.stop (Fw.Node.mk d.nd.cls d.nd.num d.nd.cons d.nd.body d.nd.kids) d.kids,L))
 else
 bif decide (aC .i64 f (ay .i64 b a.2.2.2.2)<a.2.2.2.1) then(
 (gj 1 f).bind λ(e,M)=>
 some (Fw.Spot.mk e.at' e.stop (Fw.Node.mk e.nd.cls e.nd.num e.nd.cons e.nd.body e.nd.kids) e.kids,M))
 else
 bif (!a.2.2.1) then(
 (slc g (ay .i64 b a.2.2.2.2) (ay .i64 (ay .i64 b a.2.2.2.2) a.2.2.2.1)).bind λx=>
 (cw x).bind λu=>
 some (Fw.Spot.mk b (ay .i64 (ay .i64 b a.2.2.2.2) a.2.2.2.1) (Fw.Node.mk a.1 a.2.1 a.2.2.1 u []) [],0,0))
 else
 (dO N R N (g,A,ay .i64 b a.2.2.2.2,0,0,0,0,false,[],0,0,[],[],b,ay .i64 (ay .i64 b a.2.2.2.2) a.2.2.2.1,a.1,a.2.1,a.2.2.1)).bind λz=>(match z with
 |Sum.inl (j,k,l,m,h,o,p)=>some (Fw.Spot.mk j k (Fw.Node.mk l m h [] []) [],o,p)
 |Sum.inr ((C,D,E,F,B,I,G,H,v,w,q,r,s,t,i))=>some (Fw.Spot.mk q r (Fw.Node.mk s t i [] v) w,0,0)))
 else
 none) n
def C9(m:Nat):Ctr:=⟨[hc0,hc4,hc4,hc4],(.tup [Ri,hc5]),λ(x:Bs×Int×Y3)=>cZ NN m x.1 x.2.1 x.2.2.1 x.2.2.2⟩
def K6(m:Nat)(h:cD prog 130 (C9 m))(L:List (KL B0)):Ctx B0:=⟨[QQ,Aw,jh,⟨(130,C9 m),h⟩],[],[],L,.nil⟩
def OD:LD:=⟨130,14,0,⟨[(0,hc0),(3,hc4),(8,.ptr 0 0),(9,.ptr 2 0),(13,hc4),(14,.ptr 7 0)],[oo1,.arr .spot false false,oo0,.junk,.junk,.arr .node false false,.arr .spot false false,oo2,.junk,.junk]⟩,[(.ret,⟨[(8,.ptr 0 0),(9,.ptr 2 0)],[.cells [hc4,hc4,hc4,hc4,au,vN,vN,vN] false,.junk,oo0,.junk,.junk,.junk,.junk,.junk,.junk,.junk]⟩),(.exit 0,⟨[(8,.ptr 0 0),(9,.ptr 2 0),(14,.ptr 7 0)],[oo1,.arr .spot false false,oo0,.junk,.junk,.arr .node false false,.arr .spot false false,oo2,.junk,.junk]⟩)]⟩
def OE(m:Nat)(h:cD prog 130 (C9 m)):KL B0:=gL (K6 m h []) OD (dO NN (cZ NN m)) krq
def UP:Nat->KC B0:=fR 130 [hc0,hc4,hc4,hc4] (.tup [Ri,hc5]) (λm (x:Bs×Int×Y3)=>cZ NN m x.1 x.2.1 x.2.2.1 x.2.2.2) (λm h=>K6 m h [OE m h]) krq (λ_=>rfl) (by intro m h x;kernel_rfl)
attribute [local irreducible] dO cZ
def Ie:AD B0:=⟨103,(c1 [(UP NN)]),[hc0],(.tup [Ri,hc5])⟩
@[irreducible] def tO(N:Nat)(a:Bs):Y14:=syv N (Ie.go (a))
def Sn:=gA Ie (tO NN)
def If:AD B0:=⟨68,(c1 [Sn]),[hc0],(.tup [.hole .node,hc5])⟩
@[irreducible] def eU(N:Nat)(a:Bs):Option (Fw.Node×Y3):=syv N (If.go (a))
def jZ:=gA If (eU NN)
def Ax:AD B0:=⟨92,(c1 [jZ]),[hc0],au⟩
@[irreducible] def Ay(N:Nat)(a:Bs):Option Bool:=syv N (Ax.go (a))
def LC:=gA Ax (Ay NN)
def yF:AD B0:=⟨45,(c1 [nX,LC]),[hc1],au⟩
@[irreducible] def qy(N:Nat)(a:Y0):Option Bool:=syv N (yF.go (a))
def qz:=gA yF (qy NN)
def yG:AD B0:=⟨137,(c1 [jZ,nX]),[hc1],au⟩
@[irreducible] def qA(N:Nat)(a:Y0):Option Bool:=syv N (yG.go (a))
def Kr:=gA yG (qA NN)
def eV(L:List (KL B0)):Ctx B0:=⟨[MY],[],[],L,.nil⟩
def B7:LD:=⟨120,2,2,⟨[(0,agz),(1,.ptr 0 0),(3,.own 2)],[oo3,.arr .byte false true,.arr .byte false false]⟩,[(.exit 0,⟨[(1,.ptr 0 0),(3,.own 2)],[oo3,.arr .byte false true,.arr .byte false false]⟩)]⟩
@[local irreducible] def li(N n:Nat):(Int×Y0)->Option Y0:=Nat.rec (λ_=>none) (λ_ L x=>syv N (B7.round (eV []).cxs L x)) n
def eO:=gL (eV []) B7 (li NN)
def B8:LD:=⟨121,1,3,⟨[(0,.own 2),(2,hc4),(3,hc4)],[oo3,.arr .byte false true,.arr .byte false true]⟩,[(.exit 0,⟨[],[oo3,.arr .byte false true,.arr .byte false true]⟩)]⟩
@[local irreducible] def lj(N n:Nat):(Int×Int×Y0)->Option Y0:=Nat.rec (λ_=>none) (λ_ L x=>syv N (B8.round (eV [eO]).cxs L x)) n
def gY:=gL (eV [eO]) B8 (lj NN)
def B9:LD:=⟨120,2,3,⟨[(0,agz),(1,.ptr 0 0),(3,.own 3)],[oo3,.arr .byte false true,.junk,.arr .byte false false]⟩,[(.exit 0,⟨[(1,.ptr 0 0),(3,.own 3)],[oo3,.arr .byte false true,.junk,.arr .byte false false]⟩)]⟩
@[local irreducible] def ll(N n:Nat):(Int×Y0)->Option Y0:=Nat.rec (λ_=>none) (λ_ L x=>syv N (B9.round (eV [eO,gY]).cxs L x)) n
def lm:=gL (eV [eO,gY]) B9 (ll NN)
def Ca:LD:=⟨121,1,4,⟨[(0,.own 3),(2,hc4),(3,hc4)],[oo3,.arr .byte false true,.junk,.arr .byte false true]⟩,[(.exit 0,⟨[],[oo3,.arr .byte false true,.junk,.arr .byte false true]⟩)]⟩
@[local irreducible] def ln(N n:Nat):(Int×Int×Y0)->Option Y0:=Nat.rec (λ_=>none) (λ_ L x=>syv N (Ca.round (eV [eO,gY,lm]).cxs L x)) n
def tP:=gL (eV [eO,gY,lm]) Ca (ln NN)
def Cb:LD:=⟨93,8,0,⟨[(6,.ptr 0 0),(7,.func (.func 120) [] [.ptr 0 0]),(29,Sj),(30,hc4),(31,hc4)],[oo3,.arr .byte false false,.junk]⟩,[(.exit 0,⟨[(6,.ptr 0 0)],[oo3,.arr .byte false false,.junk]⟩)]⟩
@[local irreducible] def tQ(N n:Nat):(Y13×Y17)->Option Bs:=Nat.rec (λ_=>none) (λ_ L x=>syv N (Cb.round (eV [eO,gY,lm,tP]).cxs L x)) n
def MZ:=gL (eV [eO,gY,lm,tP]) Cb (tQ NN)
def Ig:AD B0:=⟨93,(eV [eO,gY,lm,tP,MZ]),[bx],(.tup [hc0,hc4])⟩
@[irreducible] def ke(N:Nat)(a:Bs):Y18:=syv N (Ig.go (a))
def tR:=gA Ig (ke NN)
def zt:Tr aZ:=(.node .nil 3221231616 [(.normal,⟨[(0,jp),(3,hc4),(9,jp),(10,hc4),(11,hc4)],[]⟩)] .nil)
def eP(L:List (KL B0)):Ctx B0:=⟨[],[YC],[],L,zt⟩
def mD:LD:=⟨48,3,0,⟨[(0,jp),(3,hc4),(9,jp),(10,hc4),(11,hc4)],[]⟩,[(.exit 0,⟨[(0,jp),(3,hc4)],[]⟩)]⟩
@[local irreducible] def cM(N n:Nat):(Y12×Int×Y12×Y3)->Option (Y12×Int):=Nat.rec (λ_=>none) (λ_ L x=>syv N (mD.round (eP []).cxs L x)) n
def iJ:=gL (eP []) mD (cM NN)
def mE:LD:=⟨48,11,0,⟨[(6,.own 0),(25,jp),(26,hc4),(27,hc4)],[.arr .byte false false]⟩,[(.exit 2,⟨[(6,.own 0)],[.arr .byte false false]⟩)]⟩
@[local irreducible] def cN(N n:Nat):(Y12×Y17)->Option Bs:=Nat.rec (λ_=>none) (λ_ L x=>syv N (mE.round (eP [iJ]).cxs L x)) n
def wx:=gL (eP [iJ]) mE (cN NN)
def oH:AD B0:=⟨48,(eP [iJ,wx]),[jp],hc0⟩
@[irreducible] def bI(N:Nat)(a:List Bs):Option Bs:=syv N (oH.go (a))
def eQ:=gA oH (bI NN)
def LE:Tr aZ:=(.node .nil 6375346176 [(.normal,⟨[(8,zr)],[]⟩)] .nil)
def Az:AD B0:=⟨95,⟨[],[],[],[],LE⟩,[hc4,au,hc4],(.tup [zr,hc4])⟩
@[irreducible] def dY(a:Int)(a2:Bool)(a3:Int):Option Y3:=syv NN (Az.go (a,a2,a3))
def AA:=gA Az (u3 dY)
def kg(L:List (KL B0)):Ctx B0:=⟨[],[],[],L,.nil⟩
def vG:LD:=⟨122,3,0,⟨[(0,Si),(3,.own 0)],[.arr .byte false false]⟩,[(.exit 0,⟨[(3,.own 0)],[.arr .byte false false]⟩)]⟩
@[local irreducible] def kD(N n:Nat):Y16->Option Bs:=Nat.rec (λ_=>none) (λ_ L x=>syv N (vG.round (kg []).cxs L x)) n
def nZ:=gL (kg []) vG (kD NN)
def vH:LD:=⟨121,1,1,⟨[(0,.own 0),(2,hc4),(3,hc4)],[.arr .byte false true]⟩,[(.exit 0,⟨[],[.arr .byte false true]⟩)]⟩
@[local irreducible] def cT(N n:Nat):Y17->Option Bs:=Nat.rec (λ_=>none) (λ_ L x=>syv N (vH.round (kg [nZ]).cxs L x)) n
def HF:=gL (kg [nZ]) vH (cT NN)
def AB:AD B0:=⟨122,(kg [nZ,HF]),[Si],hc0⟩
@[irreducible] def rV(N:Nat)(a:Int):Option Bs:=syv N (AB.go (a))
def LF:=gA AB (rV NN)
def Ih:AD B0:=⟨96,(c1 [LF]),[hc4],(.tup [hc0,hc4])⟩
@[irreducible] def mF(N:Nat)(a:Int):Y18:=syv N (Ih.go (a))
def Ii:=gA Ih (mF NN)
def xx:Tr aZ:=(.node .nil 3221231616 [(.normal,⟨[(0,jp),(3,hc4),(9,jp),(10,hc4),(11,hc4)],[]⟩)] .nil)
def dT(L:List (KL B0)):Ctx B0:=⟨[],[YC],[],L,xx⟩
def lq:LD:=⟨48,3,0,⟨[(0,jp),(3,hc4),(9,jp),(10,hc4),(11,hc4)],[]⟩,[(.exit 0,⟨[(0,jp),(3,hc4)],[]⟩)]⟩
@[local irreducible] def lu(N n:Nat):(Y12×Int×Y12×Y3)->Option (Y12×Int):=Nat.rec (λ_=>none) (λ_ L x=>syv N (lq.round (dT []).cxs L x)) n
def gZ:=gL (dT []) lq (lu NN)
def lw:LD:=⟨48,11,0,⟨[(6,.own 0),(25,jp),(26,hc4),(27,hc4)],[.arr .byte false false]⟩,[(.exit 2,⟨[(6,.own 0)],[.arr .byte false false]⟩)]⟩
@[local irreducible] def lx(N n:Nat):(Y12×Y17)->Option Bs:=Nat.rec (λ_=>none) (λ_ L x=>syv N (lw.round (dT [gZ]).cxs L x)) n
def tS:=gL (dT [gZ]) lw (lx NN)
def nl:ADO B0:=⟨48,(dT [gZ,tS]),[jp],.byte⟩
@[irreducible] def cW(N:Nat)(a:List Bs):Option Bs:=syv N (nl.go (a))
def nn:=gAO nl (cW NN)
end
end Go.Fw
