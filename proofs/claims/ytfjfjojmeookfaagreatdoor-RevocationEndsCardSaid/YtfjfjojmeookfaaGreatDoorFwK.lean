/- A framework for proofs about Go programs in this model: part K. Everything is proved; no condition is added. -/
import Derived.Test.YtfjfjojmeookfaaGreatDoorFwJ
set_option linter.unusedVariables false
set_option linter.unusedSimpArgs false
set_option linter.defProp false
namespace Go.Fw
open Go Go.Proofs.Tryz
noncomputable section
set_option maxRecDepth 100000
set_option maxHeartbeats 0
attribute [local irreducible] ix app slc fP toB agree jV jW jU ml ig bE bY cm dG bD ba aQ dT eI gt eV cJ aT bJ aU bp aW
def bO(N:Nat)(R:Bs->Int->Int->Int->Y5)(n:Nat):(Bs×Int×Int×Y7)->Option ((Int×Int×Int×Int×Bool×Y4)⊕Y7):=Nat.rec (λ_=>none) (λ_ L (q,e,f,g,h,i,j,c,r,k,l,s,t,m,b,o,p,d)=>
 bif decide (f<b) then(
 (R q f b (aX .i64 e 1)).bind λ(a,u)=>
 bif (u.1 !=0) then(
 some (Sum.inl (0,0,0,0,false,u)))
 else
 (app 112 t [Fw.Spot.mk a.at' a.stop (Fw.Node.mk a.nd.cls a.nd.num a.nd.cons a.nd.body a.nd.kids) a.kids]).bind λv=>
 (app 72 s [Fw.Node.mk a.nd.cls a.nd.num a.nd.cons a.nd.body a.nd.kids]).bind λw=>
 L (q,e,a.stop,g,h,i,j,c,r,k,l,w,v,m,b,o,p,d))
 else
 some (Sum.inr (g,h,i,j,c,r,k,l,s,t,m,b,o,p,d))) n
def bZ(N n:Nat):Bs->Int->Int->Int->Y5:=Nat.rec (λ_ _ _ _=>none) (λ_ R g b f A=>
 bif (A==0) then(
 (cJ 5 b).bind λ(c,K)=>
 some (Fw.Spot.mk c.at' c.stop (Fw.Node.mk c.nd.cls c.nd.num c.nd.cons c.nd.body c.nd.kids) c.kids,K))
 else
 bif (decide (f<=f)&&decide (f<=g.length)) then(
 (slc g b f).bind λJ=>
 (aW N J).bind λ(a,y)=>
 bif (y.1 !=0) then(
 (cJ y.1 (aq .i64 b y.2)).bind λ(d,L)=>
 some (Fw.Spot.mk d.at' d.stop (Fw.Node.mk d.nd.cls d.nd.num d.nd.cons d.nd.body d.nd.kids) d.kids,L))
 else
 bif decide (aX .i64 f (aq .i64 b a.2.2.2.2)<a.2.2.2.1) then(
 (cJ 1 f).bind λ(e,M)=>
 some (Fw.Spot.mk e.at' e.stop (Fw.Node.mk e.nd.cls e.nd.num e.nd.cons e.nd.body e.nd.kids) e.kids,M))
 else
 bif (!a.2.2.1) then(
 (slc g (aq .i64 b a.2.2.2.2) (aq .i64 (aq .i64 b a.2.2.2.2) a.2.2.2.1)).bind λx=>
 (fP x).bind λu=>
 some (Fw.Spot.mk b (aq .i64 (aq .i64 b a.2.2.2.2) a.2.2.2.1) (Fw.Node.mk a.1 a.2.1 a.2.2.1 u []) [],0,0))
 else
 (bO N R N (g,A,aq .i64 b a.2.2.2.2,0,0,0,0,false,[],0,0,[],[],b,aq .i64 (aq .i64 b a.2.2.2.2) a.2.2.2.1,a.1,a.2.1,a.2.2.1)).bind λz=>(match z with
 |Sum.inl (j,k,l,m,h,o,p)=>some (Fw.Spot.mk j k (Fw.Node.mk l m h [] []) [],o,p)
 |Sum.inr ((C,D,E,F,B,I,G,H,v,w,q,r,s,t,i))=>some (Fw.Spot.mk q r (Fw.Node.mk s t i [] v) w,0,0)))
 else
 none) n
noncomputable def BK(m:Nat):Ctr:=⟨[hc0,hc3,hc3,hc3],(.tup [Pv,hc4]),λ(x:Bs×Int×Y4)=>bZ NN m x.1 x.2.1 x.2.2.1 x.2.2.2⟩
def Jk(m:Nat)(h:fJ prog 135 (BK m))(L:List (KL B0)):Ctx B0:=⟨[O3,za,lN,⟨(135,BK m),h⟩],[],[],L,.nil⟩
def M0:LD:=⟨135,14,0,⟨[(0,hc0),(3,hc3),(8,.ptr 0 0),(9,.ptr 2 0),(13,hc3),(14,.ptr 7 0)],[oo1,.arr .spot false false,oo0,.junk,.junk,.arr .node false false,.arr .spot false false,oo2,.junk,.junk]⟩,[(.ret,⟨[(8,.ptr 0 0),(9,.ptr 2 0)],[.cells [hc3,hc3,hc3,hc3,ay,vN,vN,vN] false,.junk,oo0,.junk,.junk,.junk,.junk,.junk,.junk,.junk]⟩),(.exit 0,⟨[(8,.ptr 0 0),(9,.ptr 2 0),(14,.ptr 7 0)],[oo1,.arr .spot false false,oo0,.junk,.junk,.arr .node false false,.arr .spot false false,oo2,.junk,.junk]⟩)]⟩
def M2(m:Nat)(h:fJ prog 135 (BK m)):KL B0:=gL (Jk m h []) M0 (bO NN (bZ NN m)) (by kernel_rfl)
def SI:Nat->KC B0:=fR 135 [hc0,hc3,hc3,hc3] (.tup [Pv,hc4]) (λm (x:Bs×Int×Y4)=>bZ NN m x.1 x.2.1 x.2.2.1 x.2.2.2) (λm h=>Jk m h [M2 m h]) (by kernel_rfl) (λ_=>rfl) (by intro m h x;kernel_rfl)
attribute [local irreducible] bO bZ
def Gq:AD B0:=⟨105,(c1 [(SI NN)]),[hc0],(.tup [Pv,hc4])⟩
@[local irreducible] noncomputable def fe(N:Nat)(a:Bs):Y5:=syv N (Gq.go (a))
def Qy:KC B0:=gA Gq (fe NN) (by kernel_rfl)
def Gr:AD B0:=⟨67,(c1 [Qy]),[hc0],(.tup [.hole .node,hc4])⟩
@[local irreducible] noncomputable def cD(N:Nat)(a:Bs):Option (Fw.Node×Y4):=syv N (Gr.go (a))
def mE:KC B0:=gA Gr (cD NN) (by kernel_rfl)
def zb:AD B0:=⟨88,(c1 [mE]),[hc0],ay⟩
@[local irreducible] noncomputable def dt(N:Nat)(a:Bs):Option Bool:=syv N (zb.go (a))
def JQ:KC B0:=gA zb (dt NN) (by kernel_rfl)
def xx:AD B0:=⟨44,(c1 [o8,JQ]),[hc1],ay⟩
@[local irreducible] noncomputable def cu(N:Nat)(a:Y0):Option Bool:=syv N (xx.go (a))
def xy:KC B0:=gA xx (cu NN) (by kernel_rfl)
def xz:AD B0:=⟨141,(c1 [mE,o8]),[hc1],ay⟩
@[local irreducible] noncomputable def cw(N:Nat)(a:Y0):Option Bool:=syv N (xz.go (a))
def IQ:KC B0:=gA xz (cw NN) (by kernel_rfl)
def jf(L:List (KL B0)):Ctx B0:=⟨[Li],[],[],L,.nil⟩
def AP:LD:=⟨122,2,2,⟨[(0,adR),(1,.ptr 0 0),(3,.own 2)],[oo3,.arr .byte false true,.arr .byte false false]⟩,[(.exit 0,⟨[(1,.ptr 0 0),(3,.own 2)],[oo3,.arr .byte false true,.arr .byte false false]⟩)]⟩
@[local irreducible] noncomputable def cE(N n:Nat):(Int×Y0)->Option Y0:=Nat.rec (λ_=>none) (λ_ L x=>syv N (AP.round (jf []).cxs L x)) n
def iW:KL B0:=gL (jf []) AP (cE NN) (by kernel_rfl)
def AQ:LD:=⟨123,1,3,⟨[(0,.own 2),(2,hc3),(3,hc3)],[oo3,.arr .byte false true,.arr .byte false true]⟩,[(.exit 0,⟨[],[oo3,.arr .byte false true,.arr .byte false true]⟩)]⟩
@[local irreducible] noncomputable def cF(N n:Nat):(Int×Int×Y0)->Option Y0:=Nat.rec (λ_=>none) (λ_ L x=>syv N (AQ.round (jf [iW]).cxs L x)) n
def kD:KL B0:=gL (jf [iW]) AQ (cF NN) (by kernel_rfl)
def AR:LD:=⟨122,2,3,⟨[(0,adR),(1,.ptr 0 0),(3,.own 3)],[oo3,.arr .byte false true,.junk,.arr .byte false false]⟩,[(.exit 0,⟨[(1,.ptr 0 0),(3,.own 3)],[oo3,.arr .byte false true,.junk,.arr .byte false false]⟩)]⟩
@[local irreducible] noncomputable def cG(N n:Nat):(Int×Y0)->Option Y0:=Nat.rec (λ_=>none) (λ_ L x=>syv N (AR.round (jf [iW,kD]).cxs L x)) n
def na:KL B0:=gL (jf [iW,kD]) AR (cG NN) (by kernel_rfl)
def AS:LD:=⟨123,1,4,⟨[(0,.own 3),(2,hc3),(3,hc3)],[oo3,.arr .byte false true,.junk,.arr .byte false true]⟩,[(.exit 0,⟨[],[oo3,.arr .byte false true,.junk,.arr .byte false true]⟩)]⟩
@[local irreducible] noncomputable def cH(N n:Nat):(Int×Int×Y0)->Option Y0:=Nat.rec (λ_=>none) (λ_ L x=>syv N (AS.round (jf [iW,kD,na]).cxs L x)) n
def tm:KL B0:=gL (jf [iW,kD,na]) AS (cH NN) (by kernel_rfl)
def AT:LD:=⟨89,8,0,⟨[(6,.ptr 0 0),(7,.func (.func 122) [] [.ptr 0 0]),(29,Qt),(30,hc3),(31,hc3)],[oo3,.arr .byte false false,.junk]⟩,[(.exit 0,⟨[(6,.ptr 0 0)],[oo3,.arr .byte false false,.junk]⟩)]⟩
@[local irreducible] noncomputable def dA(N n:Nat):(Y3×Y9)->Option Bs:=Nat.rec (λ_=>none) (λ_ L x=>syv N (AT.round (jf [iW,kD,na,tm]).cxs L x)) n
def Lj:KL B0:=gL (jf [iW,kD,na,tm]) AT (dA NN) (by kernel_rfl)
def Gs:AD B0:=⟨89,(jf [iW,kD,na,tm,Lj]),[dU],(.tup [hc0,hc3])⟩
@[local irreducible] noncomputable def dF(N:Nat)(a:Bs):Y10:=syv N (Gs.go (a))
def tn:KC B0:=gA Gs (dF NN) (by kernel_rfl)
def yc:Tr cB:=(.node .nil 3154122752 [(.normal,⟨[(0,pF),(3,hc3),(9,pF),(10,hc3),(11,hc3)],[]⟩)] .nil)
def iX(L:List (KL B0)):Ctx B0:=⟨[],[ad8],[],L,yc⟩
def nU:LD:=⟨47,3,0,⟨[(0,pF),(3,hc3),(9,pF),(10,hc3),(11,hc3)],[]⟩,[(.exit 0,⟨[(0,pF),(3,hc3)],[]⟩)]⟩
@[local irreducible] noncomputable def aB(N n:Nat):(Y2×Int×Y2×Y4)->Option (Y2×Int):=Nat.rec (λ_=>none) (λ_ L x=>syv N (nU.round (iX []).cxs L x)) n
def lm:KL B0:=gL (iX []) nU (aB NN) (by kernel_rfl)
def nV:LD:=⟨47,11,0,⟨[(6,.own 0),(25,pF),(26,hc3),(27,hc3)],[.arr .byte false false]⟩,[(.exit 2,⟨[(6,.own 0)],[.arr .byte false false]⟩)]⟩
@[local irreducible] noncomputable def aC(N n:Nat):(Y2×Y9)->Option Bs:=Nat.rec (λ_=>none) (λ_ L x=>syv N (nV.round (iX [lm]).cxs L x)) n
def vq:KL B0:=gL (iX [lm]) nV (aC NN) (by kernel_rfl)
def pp:AD B0:=⟨47,(iX [lm,vq]),[pF],hc0⟩
@[local irreducible] noncomputable def aS(N:Nat)(a:List Bs):Option Bs:=syv N (pp.go (a))
def kz:KC B0:=gA pp (aS NN) (by kernel_rfl)
def JR:Tr cB:=(.node .nil 6106910720 [(.normal,⟨[(8,AO)],[]⟩)] .nil)
def zc:AD B0:=⟨91,⟨[],[],[],[],JR⟩,[hc3,ay,hc3],(.tup [AO,hc3])⟩
@[local irreducible] noncomputable def bP(a:Int)(a2:Bool)(a3:Int):Option Y4:=syv NN (zc.go (a,a2,a3))
def JS:KC B0:=gA zc (u3 bP) (by kernel_rfl)
def mF(L:List (KL B0)):Ctx B0:=⟨[],[],[],L,.nil⟩
def uz:LD:=⟨124,3,0,⟨[(0,Qs),(3,.own 0)],[.arr .byte false false]⟩,[(.exit 0,⟨[(3,.own 0)],[.arr .byte false false]⟩)]⟩
@[local irreducible] noncomputable def bz(N n:Nat):Y8->Option Bs:=Nat.rec (λ_=>none) (λ_ L x=>syv N (uz.round (mF []).cxs L x)) n
def pc:KL B0:=gL (mF []) uz (bz NN) (by kernel_rfl)
def uA:LD:=⟨123,1,1,⟨[(0,.own 0),(2,hc3),(3,hc3)],[.arr .byte false true]⟩,[(.exit 0,⟨[],[.arr .byte false true]⟩)]⟩
@[local irreducible] noncomputable def aR(N n:Nat):Y9->Option Bs:=Nat.rec (λ_=>none) (λ_ L x=>syv N (uA.round (mF [pc]).cxs L x)) n
def F0:KL B0:=gL (mF [pc]) uA (aR NN) (by kernel_rfl)
def zd:AD B0:=⟨124,(mF [pc,F0]),[Qs],hc0⟩
@[local irreducible] noncomputable def cQ(N:Nat)(a:Int):Option Bs:=syv N (zd.go (a))
def JT:KC B0:=gA zd (cQ NN) (by kernel_rfl)
def Gt:AD B0:=⟨92,(c1 [JT]),[hc3],(.tup [hc0,hc3])⟩
@[local irreducible] noncomputable def ff(N:Nat)(a:Int):Y10:=syv N (Gt.go (a))
def Qz:KC B0:=gA Gt (ff NN) (by kernel_rfl)
def Gu:AD B0:=⟨48,(c1 [JS,Qz,kz]),[hc3,ay,hc3,hc0],(.tup [hc0,hc3])⟩
@[local irreducible] noncomputable def eM(N:Nat)(a:Int)(a2:Bool)(a3:Int)(a4:Bs):Y10:=syv N (Gu.go (a,a2,a3,a4))
def QA:KC B0:=gA Gu (u4 (eM NN)) (by kernel_rfl)
def Ck:AD B0:=⟨19,(c1 [kz,QA]),[hc3,ay,hc3,pF],(.tup [hc0,hc3])⟩
@[local irreducible] noncomputable def aI(N:Nat)(a:Int)(a2:Bool)(a3:Int)(a4:List Bs):Y10:=syv N (Ck.go (a,a2,a3,a4))
def eR:KC B0:=gA Ck (u4 (aI NN)) (by kernel_rfl)
end
end Go.Fw
