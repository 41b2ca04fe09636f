/- A framework for proofs about Go programs in this model: part X. Everything is proved; no condition is added. -/
import Derived.Test.YtlicgchfbhkelaaGreatDoorFwW
set_option linter.unusedVariables false
set_option linter.unusedSimpArgs false
set_option linter.defProp false
namespace Go.Fw
open Go Go.Proofs.Tryz
noncomputable section
set_option maxRecDepth 100000
set_option maxHeartbeats 0
attribute [local irreducible] ix app slc fM toB agree jO jP jN mz gW bE bZ cg cy dV bq aZ bS aM dO eB gp eP cG aQ bK aW bu aX bO cb eV cz dt cp cq cA cB cC cD dE dI aB aC aO bP bx aN cQ fI eW aD aH bW bM dL cR cr aq aA du bp cO ba bQ ed dw bj cf eY ig gi gj dW dM bY cE bo dA cw cn bR bF bz bX br aF eO ii bg eH cm gb fj aI aK aP gd bA cJ aR aJ aT cX cF bt fo fq bh be eg cK eD ge gg dJ gy ey fu dX dK fB cu bv dq cT gP cS eZ dP dQ em dR eI dZ bL cP gY dS gk fF gZ eQ iu iD fD fv fw eR dY iV lK jQ jf ez eK cL gu mb nO ec dT gz gQ fc fy cY jR gN gO ij fN jv ku iW iM lg lh il gv jS kh bw bJ aY kW lC gV jw jy jz jA kw gm gI gF fO fP fV pm im iF ki li iQ iX iY jp eL eN fJ kx jC mq mH iR ky iS bT iI
def mr(L:List (KL B0)):Ctx B0:=⟨[lV],[],[],L,.nil⟩
def ud:LD:=⟨39,3,0,⟨[(0,hc4),(3,.own 0),(4,hc4)],[.arr .byte false false]⟩,[(.exit 0,⟨[(3,.own 0)],[.arr .byte false false]⟩)]⟩
@[local irreducible] noncomputable def fQ(N n:Nat):Y17->Option Bs:=Nat.rec (λ_=>none) (λ_ L x=>syv N (ud.round (mr []).cxs L x)) n
def oY:KL B0:=gL (mr []) ud (fQ NN) (by kernel_rfl)
def ue:LD:=⟨39,6,0,⟨[(3,hc0)],[.junk]⟩,[(.exit 2,⟨[(3,hc0)],[.junk]⟩)]⟩
@[local irreducible] noncomputable def my(N n:Nat):Bs->Option Bs:=Nat.rec (λ_=>none) (λ_ L x=>syv N (ue.round (mr [oY]).cxs L x)) n
def Ep:KL B0:=gL (mr [oY]) ue (my NN) (by kernel_rfl)
def yl:AD B0:=⟨39,(mr [oY,Ep]),[hc4],hc0⟩
@[local irreducible] noncomputable def kX(N:Nat)(a:Int):Option Bs:=syv N (yl.go (a))
def I9:KC B0:=gA yl (kX NN) (by kernel_rfl)
def G7:Tr cI:=(.node .nil 3087009792 [(.normal,⟨[(2,hc0),(3,hc4)],[]⟩)] .nil)
def wU:AD B0:=⟨46,⟨[tI,eJ],[],[],[],G7⟩,[dr],(.tup [hc0,hc4])⟩
@[local irreducible] noncomputable def ny(N:Nat)(a:Bs):Y18:=syv N (wU.go (a))
def G8:KC B0:=gA wU (ny NN) (by kernel_rfl)
def vw:AD B0:=⟨18,(c1 [ra,G8,eX]),[hc1],(.tup [hc0,hc4])⟩
@[local irreducible] noncomputable def iJ(N:Nat)(a:Y0):Y18:=syv N (vw.go (a))
def pE:KC B0:=gA vw (iJ NN) (by kernel_rfl)
def bB(N n:Nat):Y49->Y50:=Nat.rec (λ_=>none) (λ_ L (o,m,a,c,d,e,f,g,h,i)=>
 bif decide (a<m) then(
 (ix o a).bind λb=>
 (toB (IntKind.wrap .u8 (aw .i64 48 (gt .i64 b 10)))).bind λj=>
 (toB (IntKind.wrap .u8 (aw .i64 48 (Int.tmod b 10)))).bind λk=>
 (app 1 i [j,k]).bind λl=>
 L (o,m,aw .i64 a 1,c,d,e,f,g,h,l))
 else
 some (c,d,e,f,g,h,i)) n
def iT(N:Nat)(a:Y5):Y18:=
 (dW a).bind λc1=>
 bif (!c1) then(
 some ([],8))
 else
 agree [(
 (toB (IntKind.wrap .u8 (aw .i64 48 (gt .i64 (gt .i64 a.1 100) 10)))).bind λd=>
 (toB (IntKind.wrap .u8 (aw .i64 48 (Int.tmod (gt .i64 a.1 100) 10)))).bind λe=>
 (app 1 ([]:List UInt8) [d,e]).bind λl=>
 agree (List.replicate 1 ((toB (IntKind.wrap .u8 (aw .i64 48 (gt .i64 (Int.tmod a.1 100) 10)))).bind λf=>
 (toB (IntKind.wrap .u8 (aw .i64 48 (Int.tmod (Int.tmod a.1 100) 10)))).bind λg=>
 (app 1 l [f,g]).bind λm=>
 agree (List.replicate 1 ((bB N N ([a.2.1,a.2.2.1,a.2.2.2.1,a.2.2.2.2.1,a.2.2.2.2.2],([a.2.1,a.2.2.1,a.2.2.2.1,a.2.2.2.2.1,a.2.2.2.2.2].length:Int),0,a.1,a.2.1,a.2.2.1,a.2.2.2.1,a.2.2.2.2.1,a.2.2.2.2.2,m)).bind λ(n,o,h,i,j,k,b)=>
 (app 1 b ([90]:Bs)).bind λc=>
 some (c,0):Y18)) some:Y18)) some:Y18),(
 (toB (IntKind.wrap .u8 (aw .i64 48 (gt .i64 (gt .i64 a.1 100) 10)))).bind λd=>
 (toB (IntKind.wrap .u8 (aw .i64 48 (Int.tmod (gt .i64 a.1 100) 10)))).bind λe=>
 (app 1 ([]:List UInt8) [d,e]).bind λl=>
 agree (List.replicate 1 ((toB (IntKind.wrap .u8 (aw .i64 48 (gt .i64 (Int.tmod a.1 100) 10)))).bind λf=>
 (toB (IntKind.wrap .u8 (aw .i64 48 (Int.tmod (Int.tmod a.1 100) 10)))).bind λg=>
 (app 1 l [f,g]).bind λm=>
 agree (List.replicate 1 ((bB N N ([a.2.1,a.2.2.1,a.2.2.2.1,a.2.2.2.2.1,a.2.2.2.2.2],([a.2.1,a.2.2.1,a.2.2.2.1,a.2.2.2.2.1,a.2.2.2.2.2].length:Int),0,a.1,a.2.1,a.2.2.1,a.2.2.2.1,a.2.2.2.2.1,a.2.2.2.2.2,m)).bind λ(n,o,h,i,j,k,b)=>
 (app 1 b ([90]:Bs)).bind λc=>
 some (c,0):Y18)) some:Y18)) some:Y18),(
 (toB (IntKind.wrap .u8 (aw .i64 48 (gt .i64 (gt .i64 a.1 100) 10)))).bind λd=>
 (toB (IntKind.wrap .u8 (aw .i64 48 (Int.tmod (gt .i64 a.1 100) 10)))).bind λe=>
 (app 1 ([]:List UInt8) [d,e]).bind λl=>
 agree (List.replicate 1 ((toB (IntKind.wrap .u8 (aw .i64 48 (gt .i64 (Int.tmod a.1 100) 10)))).bind λf=>
 (toB (IntKind.wrap .u8 (aw .i64 48 (Int.tmod (Int.tmod a.1 100) 10)))).bind λg=>
 (app 1 l [f,g]).bind λm=>
 agree (List.replicate 1 ((bB N N ([a.2.1,a.2.2.1,a.2.2.2.1,a.2.2.2.2.1,a.2.2.2.2.2],([a.2.1,a.2.2.1,a.2.2.2.1,a.2.2.2.2.1,a.2.2.2.2.2].length:Int),0,a.1,a.2.1,a.2.2.1,a.2.2.2.1,a.2.2.2.2.1,a.2.2.2.2.2,m)).bind λ(n,o,h,i,j,k,b)=>
 (app 1 b ([90]:Bs)).bind λc=>
 some (c,0):Y18)) some:Y18)) some:Y18),(
 (toB (IntKind.wrap .u8 (aw .i64 48 (gt .i64 (gt .i64 a.1 100) 10)))).bind λd=>
 (toB (IntKind.wrap .u8 (aw .i64 48 (Int.tmod (gt .i64 a.1 100) 10)))).bind λe=>
 (app 1 ([]:List UInt8) [d,e]).bind λl=>
 agree (List.replicate 1 ((toB (IntKind.wrap .u8 (aw .i64 48 (gt .i64 (Int.tmod a.1 100) 10)))).bind λf=>
 (toB (IntKind.wrap .u8 (aw .i64 48 (Int.tmod (Int.tmod a.1 100) 10)))).bind λg=>
 (app 1 l [f,g]).bind λm=>
 agree (List.replicate 1 ((bB N N ([a.2.1,a.2.2.1,a.2.2.2.1,a.2.2.2.2.1,a.2.2.2.2.2],([a.2.1,a.2.2.1,a.2.2.2.1,a.2.2.2.2.1,a.2.2.2.2.2].length:Int),0,a.1,a.2.1,a.2.2.1,a.2.2.2.1,a.2.2.2.2.1,a.2.2.2.2.2,m)).bind λ(n,o,h,i,j,k,b)=>
 (app 1 b ([90]:Bs)).bind λc=>
 some (c,0):Y18)) some:Y18)) some:Y18),(
 (toB (IntKind.wrap .u8 (aw .i64 48 (gt .i64 (gt .i64 a.1 100) 10)))).bind λd=>
 (toB (IntKind.wrap .u8 (aw .i64 48 (Int.tmod (gt .i64 a.1 100) 10)))).bind λe=>
 (app 1 ([]:List UInt8) [d,e]).bind λl=>
 agree (List.replicate 2 ((toB (IntKind.wrap .u8 (aw .i64 48 (gt .i64 (Int.tmod a.1 100) 10)))).bind λf=>
 (toB (IntKind.wrap .u8 (aw .i64 48 (Int.tmod (Int.tmod a.1 100) 10)))).bind λg=>
 (app 1 l [f,g]).bind λm=>
 agree (List.replicate 1 ((bB N N ([a.2.1,a.2.2.1,a.2.2.2.1,a.2.2.2.2.1,a.2.2.2.2.2],([a.2.1,a.2.2.1,a.2.2.2.1,a.2.2.2.2.1,a.2.2.2.2.2].length:Int),0,a.1,a.2.1,a.2.2.1,a.2.2.2.1,a.2.2.2.2.1,a.2.2.2.2.2,m)).bind λ(n,o,h,i,j,k,b)=>
 (app 1 b ([90]:Bs)).bind λc=>
 some (c,0):Y18)) some:Y18)) some:Y18),(
 (toB (IntKind.wrap .u8 (aw .i64 48 (gt .i64 (gt .i64 a.1 100) 10)))).bind λd=>
 (toB (IntKind.wrap .u8 (aw .i64 48 (Int.tmod (gt .i64 a.1 100) 10)))).bind λe=>
 (app 1 ([]:List UInt8) [d,e]).bind λl=>
 agree (List.replicate 2 ((toB (IntKind.wrap .u8 (aw .i64 48 (gt .i64 (Int.tmod a.1 100) 10)))).bind λf=>
 (toB (IntKind.wrap .u8 (aw .i64 48 (Int.tmod (Int.tmod a.1 100) 10)))).bind λg=>
 (app 1 l [f,g]).bind λm=>
 agree (List.replicate 1 ((bB N N ([a.2.1,a.2.2.1,a.2.2.2.1,a.2.2.2.2.1,a.2.2.2.2.2],([a.2.1,a.2.2.1,a.2.2.2.1,a.2.2.2.2.1,a.2.2.2.2.2].length:Int),0,a.1,a.2.1,a.2.2.1,a.2.2.2.1,a.2.2.2.2.1,a.2.2.2.2.2,m)).bind λ(n,o,h,i,j,k,b)=>
 (app 1 b ([90]:Bs)).bind λc=>
 some (c,0):Y18)) some:Y18)) some:Y18),(
 (toB (IntKind.wrap .u8 (aw .i64 48 (gt .i64 (gt .i64 a.1 100) 10)))).bind λd=>
 (toB (IntKind.wrap .u8 (aw .i64 48 (Int.tmod (gt .i64 a.1 100) 10)))).bind λe=>
 (app 1 ([]:List UInt8) [d,e]).bind λl=>
 agree (List.replicate 2 ((toB (IntKind.wrap .u8 (aw .i64 48 (gt .i64 (Int.tmod a.1 100) 10)))).bind λf=>
 (toB (IntKind.wrap .u8 (aw .i64 48 (Int.tmod (Int.tmod a.1 100) 10)))).bind λg=>
 (app 1 l [f,g]).bind λm=>
 agree (List.replicate 1 ((bB N N ([a.2.1,a.2.2.1,a.2.2.2.1,a.2.2.2.2.1,a.2.2.2.2.2],([a.2.1,a.2.2.1,a.2.2.2.1,a.2.2.2.2.1,a.2.2.2.2.2].length:Int),0,a.1,a.2.1,a.2.2.1,a.2.2.2.1,a.2.2.2.2.1,a.2.2.2.2.2,m)).bind λ(n,o,h,i,j,k,b)=>
 (app 1 b ([90]:Bs)).bind λc=>
 some (c,0):Y18)) some:Y18)) some:Y18),(
 (toB (IntKind.wrap .u8 (aw .i64 48 (gt .i64 (gt .i64 a.1 100) 10)))).bind λd=>
 (toB (IntKind.wrap .u8 (aw .i64 48 (Int.tmod (gt .i64 a.1 100) 10)))).bind λe=>
 (app 1 ([]:List UInt8) [d,e]).bind λl=>
 agree (List.replicate 2 ((toB (IntKind.wrap .u8 (aw .i64 48 (gt .i64 (Int.tmod a.1 100) 10)))).bind λf=>
 (toB (IntKind.wrap .u8 (aw .i64 48 (Int.tmod (Int.tmod a.1 100) 10)))).bind λg=>
 (app 1 l [f,g]).bind λm=>
 agree (List.replicate 1 ((bB N N ([a.2.1,a.2.2.1,a.2.2.2.1,a.2.2.2.2.1,a.2.2.2.2.2],([a.2.1,a.2.2.1,a.2.2.2.1,a.2.2.2.2.1,a.2.2.2.2.2].length:Int),0,a.1,a.2.1,a.2.2.1,a.2.2.2.1,a.2.2.2.2.1,a.2.2.2.2.2,m)).bind λ(n,o,h,i,j,k,b)=>
 (app 1 b ([90]:Bs)).bind λc=>
 some (c,0):Y18)) some:Y18)) some:Y18)] λ(q,p)=>
 some (q,p)
def C8:Tr cI:=(.node .nil 1107229150211 [(.normal,⟨[(2,hc0),(3,hc4)],[.junk,.junk,.junk]⟩)] .nil)
def sX(L:List (KL B0)):Ctx B0:=⟨[rR],[],[],L,C8⟩
def zY:LD:=⟨138,2,2,⟨[(0,.own 1),(17,aa1),(18,hc4),(19,hc4)],[oW,.arr .byte false false,.junk]⟩,[(.exit 0,⟨[(0,.own 1)],[oW,.arr .byte false false,.junk]⟩)]⟩
def zZ:KL B0:=gL (sX []) zY (bB NN) (by kernel_rfl)
def C9:KC B0:=gC 115 (sX [zZ]) [tD] (.tup [hc0,hc4]) (iT NN) (by kernel_rfl)
attribute [local irreducible] bB iT
def ep(N n:Nat):Y49->Y50:=Nat.rec (λ_=>none) (λ_ L (o,k,i,l,m,b,c,d,e,f)=>
 bif decide (i<k) then(
 (ix o i).bind λa=>
 (toB (IntKind.wrap .u8 (aw .i64 48 (gt .i64 a 10)))).bind λg=>
 (toB (IntKind.wrap .u8 (aw .i64 48 (Int.tmod a 10)))).bind λh=>
 (app 1 f [g,h]).bind λj=>
 L (o,k,aw .i64 i 1,l,m,b,c,d,e,j))
 else
 some (l,m,b,c,d,e,f)) n
def kY(N:Nat)(a:Y5):Y18:=
 (dW a).bind λc1=>
 bif (!c1) then(
 some ([],8))
 else
 bif decide (a.1<1950) then(
 some ([],9))
 else
 bif decide (a.1>2049) then(
 some ([],9))
 else
 agree (List.replicate 2 (
 (toB (IntKind.wrap .u8 (aw .i64 48 (gt .i64 (Int.tmod a.1 100) 10)))).bind λf=>
 (toB (IntKind.wrap .u8 (aw .i64 48 (Int.tmod (Int.tmod a.1 100) 10)))).bind λg=>
 (app 1 ([]:List UInt8) [f,g]).bind λi=>
 agree (List.replicate 1 ((ep N N ([a.2.1,a.2.2.1,a.2.2.2.1,a.2.2.2.2.1,a.2.2.2.2.2],([a.2.1,a.2.2.1,a.2.2.2.1,a.2.2.2.2.1,a.2.2.2.2.2].length:Int),0,a.1,a.2.1,a.2.2.1,a.2.2.2.1,a.2.2.2.2.1,a.2.2.2.2.2,i)).bind λ(j,k,l,m,n,h,c)=>
 (app 1 c ([90]:Bs)).bind λd=>
 some (d,0):Y18)) some:Y18)) λ(e,b)=>
 some (e,b)
def Ja:Tr cI:=(.node .nil 1107162043395 [(.normal,⟨[(2,hc0),(3,hc4)],[.junk,.junk,.junk]⟩)] .nil)
def ym(L:List (KL B0)):Ctx B0:=⟨[rR],[],[],L,Ja⟩
def Er:LD:=⟨138,2,2,⟨[(0,.own 1),(17,aa1),(18,hc4),(19,hc4)],[oW,.arr .byte false false,.junk]⟩,[(.exit 0,⟨[(0,.own 1)],[oW,.arr .byte false false,.junk]⟩)]⟩
def Es:KL B0:=gL (ym []) Er (ep NN) (by kernel_rfl)
def Jb:KC B0:=gC 114 (ym [Es]) [tD] (.tup [hc0,hc4]) (kY NN) (by kernel_rfl)
attribute [local irreducible] ep kY
def wV:AD B0:=⟨87,(c1 [zH,C9,eJ,Jb]),[tD],(.tup [hc0,hc4])⟩
@[local irreducible] noncomputable def iZ(N:Nat)(a:Y5):Y18:=syv N (wV.go (a))
def G9:KC B0:=gA wV (iZ NN) (by kernel_rfl)
def fW(N:Nat)(c:Y5)(a2:Y5):Y18:=
 agree (List.replicate 4 (
 (iZ N c).bind λ(f,d)=>
 (app 24 [] [f]).bind λg=>
 agree (List.replicate 1 ((iZ N a2).bind λ(h,e)=>
 (app 24 g [h]).bind λi=>
 some (iO d e,i):Y51)) some:Y51)) λ(b,j)=>
 bif (b !=0) then(
 some ([],b))
 else
 (aH N j).bind λ(k,a)=>
 some (k,a)
def B8:Tr cI:=(.node .nil 1102263094274 [(.normal,⟨[(6,.ptr 2 0),(8,hc4)],[.junk,.junk,.cells [.own 3] false,.arr tc0 false false,.junk,.junk]⟩)] .nil)
def B9:KC B0:=gC 41 ⟨[G9,eX],[],[],[],B8⟩ [tD,tD] (.tup [hc0,hc4]) (u2 (fW NN)) (by kernel_rfl)
attribute [local irreducible] fW
def wW:AD B0:=⟨19,(c1 [kV,kI]),[GC],(.tup [hc0,hc4])⟩
@[local irreducible] noncomputable def gB(N:Nat)(a:Y6):Y18:=syv N (wW.go (a))
def ql:KC B0:=gA wW (gB NN) (by kernel_rfl)
def qm:AD B0:=⟨88,(c1 [eJ,eX]),[hc0,hc0],(.tup [hc0,hc4])⟩
@[local irreducible] noncomputable def kM(N:Nat)(a:Bs)(a2:Bs):Y18:=syv N (qm.go (a,a2))
def Aa:KC B0:=gA qm (u2 (kM NN)) (by kernel_rfl)
def rJ:AD B0:=⟨42,(c1 [tO,pE,ql,Aa]),[Uu],(.tup [hc0,hc4])⟩
@[local irreducible] noncomputable def gG(N:Nat)(a:(Y0×Y6)):Y18:=syv N (rJ.go (a))
def Ca:KC B0:=gA rJ (gG NN) (by kernel_rfl)
def sY:AD B0:=⟨118,(c1 []),[ay],hc0⟩
@[local irreducible] noncomputable def lW(a:Bool):Option Bs:=syv NN (sY.go (a))
def Da:KC B0:=gA sY lW (by kernel_rfl)
def Gn:Tr cI:=(.node .nil 6039804932 [(.normal,⟨[(1,.ptr 0 0),(5,.ptr 1 0),(6,.ptr 2 0),(7,.func (.func 117) [] [.ptr 2 0,.ptr 1 0])],[tE,Qj,.cells [.own 3] false,.arr tc0 false false]⟩)] .nil)
def vy:AD B0:=⟨90,⟨[tI,eJ,Da,eX],[],[],[],Gn⟩,[hc3],(.tup [hc0,hc4])⟩
@[local irreducible] noncomputable def lx(N:Nat)(a:Y7):Y18:=syv N (vy.go (a))
def Gp:KC B0:=gA vy (lx NN) (by kernel_rfl)
def nh(L:List (KL B0)):Ctx B0:=⟨[qk,Gp,eX],[],[],L,.nil⟩
def pn:LD:=⟨44,5,0,⟨[(4,.own 0),(12,sf),(13,hc4),(14,hc4)],[.arr tc0 false false]⟩,[(.ret,⟨[(2,vN),(3,hc4)],[.junk]⟩),(.exit 0,⟨[(4,.own 0)],[.arr tc0 false false]⟩)]⟩
@[local irreducible] noncomputable def iz(N n:Nat):(Y8×Y23)->Option ((Int)⊕(List Bs)):=Nat.rec (λ_=>none) (λ_ L x=>syv N (pn.round (nh []).cxs L x)) n
def xK:KL B0:=gL (nh []) pn (iz NN) (by kernel_rfl)
def qZ:AD B0:=⟨44,(nh [xK]),[sf],(.tup [hc0,hc4])⟩
@[local irreducible] noncomputable def ib(N:Nat)(a:Y8):Y18:=syv N (qZ.go (a))
def AW:KC B0:=gA qZ (ib NN) (by kernel_rfl)
end
end Go.Fw
