/- A framework for proofs about Go programs in this model: part L. Everything is proved; no condition is added. -/
import Derived.Test.YtlicgchfbhkelaaGreatDoorFwK
set_option linter.unusedVariables false
set_option linter.unusedSimpArgs false
set_option linter.defProp false
namespace Go.Fw
open Go Go.Proofs.Tryz
noncomputable section
set_option maxRecDepth 100000
set_option maxHeartbeats 0
attribute [local irreducible] ix app slc fM toB agree jO jP jN mz gW bE bZ cg cy dV bq aZ bS aM dO eB gp eP cG aQ bK
def sg(L:List (KL B0)):Ctx B0:=⟨[GF],[],[],L,.nil⟩
def uV:LD:=⟨150,14,0,⟨[(0,hc0),(4,.ptr 0 0),(5,.func (.func 218) [] []),(6,hc4),(7,hc4),(8,hc4)],[oo0]⟩,[(.exit 0,⟨[(0,hc0),(4,.ptr 0 0),(5,.func (.func 218) [] []),(6,hc4),(7,hc4)],[oo0]⟩)]⟩
@[local irreducible] noncomputable def aW(N n:Nat):(Bs×Y4)->Option (Bs×Int×Int×Y3):=Nat.rec (λ_=>none) (λ_ L x=>syv N (uV.round (sg []).cxs L x)) n
def Gb:KL B0:=gL (sg []) uV (aW NN) (by kernel_rfl)
def zq:AD B0:=⟨150,(sg [Gb]),[hc0],(.tup [hc4,hc4,hc5])⟩
@[local irreducible] noncomputable def bu(N:Nat)(a:Bs):Option (Int×Int×Y3):=syv N (zq.go (a))
def JM:KC B0:=gA zq (bu NN) (by kernel_rfl)
def zr:AD B0:=⟨131,(c1 [D9,JM]),[hc0],(.tup [.hole (.pair tc4 (.pair tc4 (.pair .bool tc5))),hc5])⟩
@[local irreducible] noncomputable def aX(N:Nat)(a:Bs):Option ((Int×Int×Bool×Y3)×Y3):=syv N (zr.go (a))
def zt:KC B0:=gA zr (aX NN) (by kernel_rfl)
def bO(N:Nat)(R:Bs->Int->Int->Int->Y13)(n:Nat):(Bs×Int×Int×Y14)->Option ((Int×Int×Int×Int×Bool×Y3)⊕Y14):=Nat.rec (λ_=>none) (λ_ L (q,e,f,g,h,i,j,c,r,k,l,s,t,m,b,o,p,d)=>
 bif decide (f<b) then(
 (R q f b (aU .i64 e 1)).bind λ(a,u)=>
 bif (u.1 !=0) then(
 some (Sum.inl (0,0,0,0,false,u)))
 else
 (app 112 t [Fw.Spot.mk a.at' a.stop (Fw.Node.mk a.nd.cls a.nd.num a.nd.cons a.nd.body a.nd.kids) a.kids]).bind λv=>
 (app 72 s [Fw.Node.mk a.nd.cls a.nd.num a.nd.cons a.nd.body a.nd.kids]).bind λw=>
 L (q,e,a.stop,g,h,i,j,c,r,k,l,w,v,m,b,o,p,d))
 else
 some (Sum.inr (g,h,i,j,c,r,k,l,s,t,m,b,o,p,d))) n
def cb(N n:Nat):Bs->Int->Int->Int->Y13:=Nat.rec (λ_ _ _ _=>none) (λ_ R g b f A=>
 bif (A==0) then(
 (cG 5 b).bind λ(c,K)=>
 some (Fw.Spot.mk c.at' c.stop (Fw.Node.mk c.nd.cls c.nd.num c.nd.cons c.nd.body c.nd.kids) c.kids,K))
 else
 bif (decide (f<=f)&&decide (f<=g.length)) then(
 (slc g b f).bind λJ=>
 (aX N J).bind λ(a,y)=>
 bif (y.1 !=0) then(
 (cG y.1 (aw .i64 b y.2)).bind λ(d,L)=>
 some (Fw.Spot.mk d.at' d.stop (Fw.Node.mk d.nd.cls d.nd.num d.nd.cons d.nd.body d.nd.kids) d.kids,L))
 else
 bif decide (aU .i64 f (aw .i64 b a.2.2.2.2)<a.2.2.2.1) then(
 (cG 1 f).bind λ(e,M)=>
 some (Fw.Spot.mk e.at' e.stop (Fw.Node.mk e.nd.cls e.nd.num e.nd.cons e.nd.body e.nd.kids) e.kids,M))
 else
 bif (!a.2.2.1) then(
 (slc g (aw .i64 b a.2.2.2.2) (aw .i64 (aw .i64 b a.2.2.2.2) a.2.2.2.1)).bind λx=>
 (fM x).bind λu=>
 some (Fw.Spot.mk b (aw .i64 (aw .i64 b a.2.2.2.2) a.2.2.2.1) (Fw.Node.mk a.1 a.2.1 a.2.2.1 u []) [],0,0))
 else
 (bO N R N (g,A,aw .i64 b a.2.2.2.2,0,0,0,0,false,[],0,0,[],[],b,aw .i64 (aw .i64 b a.2.2.2.2) a.2.2.2.1,a.1,a.2.1,a.2.2.1)).bind λz=>(match z with
 |Sum.inl (j,k,l,m,h,o,p)=>some (Fw.Spot.mk j k (Fw.Node.mk l m h [] []) [],o,p)
 |Sum.inr ((C,D,E,F,B,I,G,H,v,w,q,r,s,t,i))=>some (Fw.Spot.mk q r (Fw.Node.mk s t i [] v) w,0,0)))
 else
 none) n
noncomputable def B1(m:Nat):Ctr:=⟨[hc0,hc4,hc4,hc4],(.tup [Pg,hc5]),λ(x:Bs×Int×Y3)=>cb NN m x.1 x.2.1 x.2.2.1 x.2.2.2⟩
def Jl(m:Nat)(h:fG prog 130 (B1 m))(L:List (KL B0)):Ctx B0:=⟨[ON,zt,lU,⟨(130,B1 m),h⟩],[],[],L,.nil⟩
def MT:LD:=⟨130,14,0,⟨[(0,hc0),(3,hc4),(8,.ptr 0 0),(9,.ptr 2 0),(13,hc4),(14,.ptr 7 0)],[oo1,.arr .spot false false,oo0,.junk,.junk,.arr .node false false,.arr .spot false false,oo2,.junk,.junk]⟩,[(.ret,⟨[(8,.ptr 0 0),(9,.ptr 2 0)],[.cells [hc4,hc4,hc4,hc4,ay,vN,vN,vN] false,.junk,oo0,.junk,.junk,.junk,.junk,.junk,.junk,.junk]⟩),(.exit 0,⟨[(8,.ptr 0 0),(9,.ptr 2 0),(14,.ptr 7 0)],[oo1,.arr .spot false false,oo0,.junk,.junk,.arr .node false false,.arr .spot false false,oo2,.junk,.junk]⟩)]⟩
def MU(m:Nat)(h:fG prog 130 (B1 m)):KL B0:=gL (Jl m h []) MT (bO NN (cb NN m)) (by kernel_rfl)
def Sx:Nat->KC B0:=fR 130 [hc0,hc4,hc4,hc4] (.tup [Pg,hc5]) (λm (x:Bs×Int×Y3)=>cb NN m x.1 x.2.1 x.2.2.1 x.2.2.2) (λm h=>Jl m h [MU m h]) (by kernel_rfl) (λ_=>rfl) (by intro m h x;kernel_rfl)
attribute [local irreducible] bO cb
def GG:AD B0:=⟨103,(c1 [(Sx NN)]),[hc0],(.tup [Pg,hc5])⟩
@[local irreducible] noncomputable def eV(N:Nat)(a:Bs):Y13:=syv N (GG.go (a))
def Ql:KC B0:=gA GG (eV NN) (by kernel_rfl)
def GH:AD B0:=⟨68,(c1 [Ql]),[hc0],(.tup [.hole .node,hc5])⟩
@[local irreducible] noncomputable def cz(N:Nat)(a:Bs):Option (Fw.Node×Y3):=syv N (GH.go (a))
def mJ:KC B0:=gA GH (cz NN) (by kernel_rfl)
def zu:AD B0:=⟨92,(c1 [mJ]),[hc0],ay⟩
@[local irreducible] noncomputable def dt(N:Nat)(a:Bs):Option Bool:=syv N (zu.go (a))
def JN:KC B0:=gA zu (dt NN) (by kernel_rfl)
def xN:AD B0:=⟨45,(c1 [px,JN]),[hc1],ay⟩
@[local irreducible] noncomputable def cp(N:Nat)(a:Y0):Option Bool:=syv N (xN.go (a))
def ra:KC B0:=gA xN (cp NN) (by kernel_rfl)
def xO:AD B0:=⟨137,(c1 [mJ,px]),[hc1],ay⟩
@[local irreducible] noncomputable def cq(N:Nat)(a:Y0):Option Bool:=syv N (xO.go (a))
def IS:KC B0:=gA xO (cq NN) (by kernel_rfl)
def iU(L:List (KL B0)):Ctx B0:=⟨[Lb],[],[],L,.nil⟩
def A6:LD:=⟨120,2,2,⟨[(0,adE),(1,.ptr 0 0),(3,.own 2)],[oo3,.arr .byte false true,.arr .byte false false]⟩,[(.exit 0,⟨[(1,.ptr 0 0),(3,.own 2)],[oo3,.arr .byte false true,.arr .byte false false]⟩)]⟩
@[local irreducible] noncomputable def cA(N n:Nat):(Int×Y0)->Option Y0:=Nat.rec (λ_=>none) (λ_ L x=>syv N (A6.round (iU []).cxs L x)) n
def iK:KL B0:=gL (iU []) A6 (cA NN) (by kernel_rfl)
def A7:LD:=⟨121,1,3,⟨[(0,.own 2),(2,hc4),(3,hc4)],[oo3,.arr .byte false true,.arr .byte false true]⟩,[(.exit 0,⟨[],[oo3,.arr .byte false true,.arr .byte false true]⟩)]⟩
@[local irreducible] noncomputable def cB(N n:Nat):Y15->Option Y0:=Nat.rec (λ_=>none) (λ_ L x=>syv N (A7.round (iU [iK]).cxs L x)) n
def kL:KL B0:=gL (iU [iK]) A7 (cB NN) (by kernel_rfl)
def A8:LD:=⟨120,2,3,⟨[(0,adE),(1,.ptr 0 0),(3,.own 3)],[oo3,.arr .byte false true,.junk,.arr .byte false false]⟩,[(.exit 0,⟨[(1,.ptr 0 0),(3,.own 3)],[oo3,.arr .byte false true,.junk,.arr .byte false false]⟩)]⟩
@[local irreducible] noncomputable def cC(N n:Nat):(Int×Y0)->Option Y0:=Nat.rec (λ_=>none) (λ_ L x=>syv N (A8.round (iU [iK,kL]).cxs L x)) n
def nw:KL B0:=gL (iU [iK,kL]) A8 (cC NN) (by kernel_rfl)
def A9:LD:=⟨121,1,4,⟨[(0,.own 3),(2,hc4),(3,hc4)],[oo3,.arr .byte false true,.junk,.arr .byte false true]⟩,[(.exit 0,⟨[],[oo3,.arr .byte false true,.junk,.arr .byte false true]⟩)]⟩
@[local irreducible] noncomputable def cD(N n:Nat):Y15->Option Y0:=Nat.rec (λ_=>none) (λ_ L x=>syv N (A9.round (iU [iK,kL,nw]).cxs L x)) n
def tH:KL B0:=gL (iU [iK,kL,nw]) A9 (cD NN) (by kernel_rfl)
def Ba:LD:=⟨93,8,0,⟨[(6,.ptr 0 0),(7,.func (.func 120) [] [.ptr 0 0]),(29,Qh),(30,hc4),(31,hc4)],[oo3,.arr .byte false false,.junk]⟩,[(.exit 0,⟨[(6,.ptr 0 0)],[oo3,.arr .byte false false,.junk]⟩)]⟩
@[local irreducible] noncomputable def dE(N n:Nat):(Y12×Y17)->Option Bs:=Nat.rec (λ_=>none) (λ_ L x=>syv N (Ba.round (iU [iK,kL,nw,tH]).cxs L x)) n
def Lc:KL B0:=gL (iU [iK,kL,nw,tH]) Ba (dE NN) (by kernel_rfl)
def GI:AD B0:=⟨93,(iU [iK,kL,nw,tH,Lc]),[dr],(.tup [hc0,hc4])⟩
@[local irreducible] noncomputable def dI(N:Nat)(a:Bs):Y18:=syv N (GI.go (a))
def tI:KC B0:=gA GI (dI NN) (by kernel_rfl)
def yw:Tr cI:=(.node .nil 3221231616 [(.normal,⟨[(0,pW),(3,hc4),(9,pW),(10,hc4),(11,hc4)],[]⟩)] .nil)
def iL(L:List (KL B0)):Ctx B0:=⟨[],[adV],[],L,yw⟩
def oy:LD:=⟨48,3,0,⟨[(0,pW),(3,hc4),(9,pW),(10,hc4),(11,hc4)],[]⟩,[(.exit 0,⟨[(0,pW),(3,hc4)],[]⟩)]⟩
@[local irreducible] noncomputable def aB(N n:Nat):(Y11×Int×Y11×Y3)->Option (Y11×Int):=Nat.rec (λ_=>none) (λ_ L x=>syv N (oy.round (iL []).cxs L x)) n
def lB:KL B0:=gL (iL []) oy (aB NN) (by kernel_rfl)
def oz:LD:=⟨48,11,0,⟨[(6,.own 0),(25,pW),(26,hc4),(27,hc4)],[.arr .byte false false]⟩,[(.exit 2,⟨[(6,.own 0)],[.arr .byte false false]⟩)]⟩
@[local irreducible] noncomputable def aC(N n:Nat):(Y11×Y17)->Option Bs:=Nat.rec (λ_=>none) (λ_ L x=>syv N (oz.round (iL [lB]).cxs L x)) n
def vR:KL B0:=gL (iL [lB]) oz (aC NN) (by kernel_rfl)
def pK:AD B0:=⟨48,(iL [lB,vR]),[pW],hc0⟩
@[local irreducible] noncomputable def aO(N:Nat)(a:List Bs):Option Bs:=syv N (pK.go (a))
def kI:KC B0:=gA pK (aO NN) (by kernel_rfl)
def JO:Tr cI:=(.node .nil 6375346176 [(.normal,⟨[(8,A4)],[]⟩)] .nil)
def zw:AD B0:=⟨95,⟨[],[],[],[],JO⟩,[hc4,ay,hc4],(.tup [A4,hc4])⟩
@[local irreducible] noncomputable def bP(a:Int)(a2:Bool)(a3:Int):Option Y3:=syv NN (zw.go (a,a2,a3))
def JP:KC B0:=gA zw (u3 bP) (by kernel_rfl)
def mK(L:List (KL B0)):Ctx B0:=⟨[],[],[],L,.nil⟩
def uW:LD:=⟨122,3,0,⟨[(0,Qg),(3,.own 0)],[.arr .byte false false]⟩,[(.exit 0,⟨[(3,.own 0)],[.arr .byte false false]⟩)]⟩
@[local irreducible] noncomputable def bx(N n:Nat):Y16->Option Bs:=Nat.rec (λ_=>none) (λ_ L x=>syv N (uW.round (mK []).cxs L x)) n
def pz:KL B0:=gL (mK []) uW (bx NN) (by kernel_rfl)
def uX:LD:=⟨121,1,1,⟨[(0,.own 0),(2,hc4),(3,hc4)],[.arr .byte false true]⟩,[(.exit 0,⟨[],[.arr .byte false true]⟩)]⟩
@[local irreducible] noncomputable def aN(N n:Nat):Y17->Option Bs:=Nat.rec (λ_=>none) (λ_ L x=>syv N (uX.round (mK [pz]).cxs L x)) n
def Gd:KL B0:=gL (mK [pz]) uX (aN NN) (by kernel_rfl)
def zx:AD B0:=⟨122,(mK [pz,Gd]),[Qg],hc0⟩
@[local irreducible] noncomputable def cQ(N:Nat)(a:Int):Option Bs:=syv N (zx.go (a))
def JQ:KC B0:=gA zx (cQ NN) (by kernel_rfl)
end
end Go.Fw
