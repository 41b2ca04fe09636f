/- A framework for proofs about Go programs in this model: part L. Everything is proved; no condition is added. -/
import Derived.Test.YtfjfjojmeookfaaGreatDoorFwK
set_option linter.unusedVariables false
set_option linter.unusedSimpArgs false
set_option linter.defProp false
namespace Go.Fw
open Go Go.Proofs.Tryz
noncomputable section
set_option maxRecDepth 100000
set_option maxHeartbeats 0
attribute [local irreducible] ix app slc cC toB agree fU fW fT jB dR aK aV aX cR
def I7:AD B0:=⟨105,(c1 [(V1 NN)]),[hc0],(.tup [Sv,hc4])⟩
@[irreducible] def uC(N:Nat)(a:Bs):Y5:=syv N (I7.go (a))
def TL:=gA I7 (uC NN)
def I8:AD B0:=⟨67,(c1 [TL]),[hc0],(.tup [.hole .node,hc4])⟩
@[irreducible] def fx(N:Nat)(a:Bs):Option (Fw.Node×Y4):=syv N (I8.go (a))
def kn:=gA I8 (fx NN)
def Bw:AD B0:=⟨88,(c1 [kn]),[hc0],au⟩
@[irreducible] def Bx(N:Nat)(a:Bs):Option Bool:=syv N (Bw.go (a))
def MN:=gA Bw (Bx NN)
def zF:AD B0:=⟨44,(c1 [oC,MN]),[hc1],au⟩
@[irreducible] def qW(N:Nat)(a:Y0):Option Bool:=syv N (zF.go (a))
def zH:=gA zF (qW NN)
def zJ:AD B0:=⟨141,(c1 [kn,oC]),[hc1],au⟩
@[irreducible] def qX(N:Nat)(a:Y0):Option Bool:=syv N (zJ.go (a))
def Lz:=gA zJ (qX NN)
def fy(L:List (KL B0)):Ctx B0:=⟨[N8],[],[],L,.nil⟩
def C7:LD:=⟨122,2,2,⟨[(0,ahJ),(1,.ptr 0 0),(3,.own 2)],[oo3,.arr .byte false true,.arr .byte false false]⟩,[(.exit 0,⟨[(1,.ptr 0 0),(3,.own 2)],[oo3,.arr .byte false true,.arr .byte false false]⟩)]⟩
@[local irreducible] def lw(N n:Nat):(Int×Y0)->Option Y0:=Nat.rec (λ_=>none) (λ_ L x=>syv N (C7.round (fy []).cxs L x)) n
def fh:=gL (fy []) C7 (lw NN)
def C8:LD:=⟨123,1,3,⟨[(0,.own 2),(2,hc3),(3,hc3)],[oo3,.arr .byte false true,.arr .byte false true]⟩,[(.exit 0,⟨[],[oo3,.arr .byte false true,.arr .byte false true]⟩)]⟩
@[local irreducible] def lx(N n:Nat):(Int×Int×Y0)->Option Y0:=Nat.rec (λ_=>none) (λ_ L x=>syv N (C8.round (fy [fh]).cxs L x)) n
def im:=gL (fy [fh]) C8 (lx NN)
def C9:LD:=⟨122,2,3,⟨[(0,ahJ),(1,.ptr 0 0),(3,.own 3)],[oo3,.arr .byte false true,.junk,.arr .byte false false]⟩,[(.exit 0,⟨[(1,.ptr 0 0),(3,.own 3)],[oo3,.arr .byte false true,.junk,.arr .byte false false]⟩)]⟩
@[local irreducible] def ly(N n:Nat):(Int×Y0)->Option Y0:=Nat.rec (λ_=>none) (λ_ L x=>syv N (C9.round (fy [fh,im]).cxs L x)) n
def lA:=gL (fy [fh,im]) C9 (ly NN)
def Da:LD:=⟨123,1,4,⟨[(0,.own 3),(2,hc3),(3,hc3)],[oo3,.arr .byte false true,.junk,.arr .byte false true]⟩,[(.exit 0,⟨[],[oo3,.arr .byte false true,.junk,.arr .byte false true]⟩)]⟩
@[local irreducible] def lB(N n:Nat):(Int×Int×Y0)->Option Y0:=Nat.rec (λ_=>none) (λ_ L x=>syv N (Da.round (fy [fh,im,lA]).cxs L x)) n
def uD:=gL (fy [fh,im,lA]) Da (lB NN)
def Db:LD:=⟨89,8,0,⟨[(6,.ptr 0 0),(7,.func (.func 122) [] [.ptr 0 0]),(29,TG),(30,hc3),(31,hc3)],[oo3,.arr .byte false false,.junk]⟩,[(.exit 0,⟨[(6,.ptr 0 0)],[oo3,.arr .byte false false,.junk]⟩)]⟩
@[local irreducible] def uE(N n:Nat):(Y3×Y9)->Option Bs:=Nat.rec (λ_=>none) (λ_ L x=>syv N (Db.round (fy [fh,im,lA,uD]).cxs L x)) n
def N9:=gL (fy [fh,im,lA,uD]) Db (uE NN)
def I9:AD B0:=⟨89,(fy [fh,im,lA,uD,N9]),[bO],(.tup [hc0,hc3])⟩
@[irreducible] def ko(N:Nat)(a:Bs):Y10:=syv N (I9.go (a))
def uF:=gA I9 (ko NN)
def AA:Tr bh:=(.node .nil 3154122752 [(.normal,⟨[(0,jw),(3,hc3),(9,jw),(10,hc3),(11,hc3)],[]⟩)] .nil)
def fj(L:List (KL B0)):Ctx B0:=⟨[],[ZT],[],L,AA⟩
def mR:LD:=⟨47,3,0,⟨[(0,jw),(3,hc3),(9,jw),(10,hc3),(11,hc3)],[]⟩,[(.exit 0,⟨[(0,jw),(3,hc3)],[]⟩)]⟩
@[local irreducible] def cW(N n:Nat):(Y2×Int×Y2×Y4)->Option (Y2×Int):=Nat.rec (λ_=>none) (λ_ L x=>syv N (mR.round (fj []).cxs L x)) n
def iR:=gL (fj []) mR (cW NN)
def mS:LD:=⟨47,11,0,⟨[(6,.own 0),(25,jw),(26,hc3),(27,hc3)],[.arr .byte false false]⟩,[(.exit 2,⟨[(6,.own 0)],[.arr .byte false false]⟩)]⟩
@[local irreducible] def cX(N n:Nat):(Y2×Y9)->Option Bs:=Nat.rec (λ_=>none) (λ_ L x=>syv N (mS.round (fj [iR]).cxs L x)) n
def xo:=gL (fj [iR]) mS (cX NN)
def oV:AD B0:=⟨47,(fj [iR,xo]),[jw],hc0⟩
@[irreducible] def bP(N:Nat)(a:List Bs):Option Bs:=syv N (oV.go (a))
def fk:=gA oV (bP NN)
def MO:Tr bh:=(.node .nil 6106910720 [(.normal,⟨[(8,Az)],[]⟩)] .nil)
def By:AD B0:=⟨91,⟨[],[],[],[],MO⟩,[hc3,au,hc3],(.tup [Az,hc3])⟩
@[irreducible] def eM(a:Int)(a2:Bool)(a3:Int):Option Y4:=syv NN (By.go (a,a2,a3))
def Bz:=gA By (u3 eM)
def kq(L:List (KL B0)):Ctx B0:=⟨[],[],[],L,.nil⟩
def ww:LD:=⟨124,3,0,⟨[(0,TF),(3,.own 0)],[.arr .byte false false]⟩,[(.exit 0,⟨[(3,.own 0)],[.arr .byte false false]⟩)]⟩
@[local irreducible] def kK(N n:Nat):Y8->Option Bs:=Nat.rec (λ_=>none) (λ_ L x=>syv N (ww.round (kq []).cxs L x)) n
def oE:=gL (kq []) ww (kK NN)
def wx:LD:=⟨123,1,1,⟨[(0,.own 0),(2,hc3),(3,hc3)],[.arr .byte false true]⟩,[(.exit 0,⟨[],[.arr .byte false true]⟩)]⟩
@[local irreducible] def dt(N n:Nat):Y9->Option Bs:=Nat.rec (λ_=>none) (λ_ L x=>syv N (wx.round (kq [oE]).cxs L x)) n
def IG:=gL (kq [oE]) wx (dt NN)
def BA:AD B0:=⟨124,(kq [oE,IG]),[TF],hc0⟩
@[irreducible] def sO(N:Nat)(a:Int):Option Bs:=syv N (BA.go (a))
def MP:=gA BA (sO NN)
def Ja:AD B0:=⟨92,(c1 [MP]),[hc3],(.tup [hc0,hc3])⟩
@[irreducible] def mT(N:Nat)(a:Int):Y10:=syv N (Ja.go (a))
def Jb:=gA Ja (mT NN)
def ym:Tr bh:=(.node .nil 3154122752 [(.normal,⟨[(0,jw),(3,hc3),(9,jw),(10,hc3),(11,hc3)],[]⟩)] .nil)
def eE(L:List (KL B0)):Ctx B0:=⟨[],[ZT],[],L,ym⟩
def lC:LD:=⟨47,3,0,⟨[(0,jw),(3,hc3),(9,jw),(10,hc3),(11,hc3)],[]⟩,[(.exit 0,⟨[(0,jw),(3,hc3)],[]⟩)]⟩
@[local irreducible] def lD(N n:Nat):(Y2×Int×Y2×Y4)->Option (Y2×Int):=Nat.rec (λ_=>none) (λ_ L x=>syv N (lC.round (eE []).cxs L x)) n
def io:=gL (eE []) lC (lD NN)
def lE:LD:=⟨47,11,0,⟨[(6,.own 0),(25,jw),(26,hc3),(27,hc3)],[.arr .byte false false]⟩,[(.exit 2,⟨[(6,.own 0)],[.arr .byte false false]⟩)]⟩
@[local irreducible] def lF(N n:Nat):(Y2×Y9)->Option Bs:=Nat.rec (λ_=>none) (λ_ L x=>syv N (lE.round (eE [io]).cxs L x)) n
def uG:=gL (eE [io]) lE (lF NN)
def nD:ADO B0:=⟨47,(eE [io,uG]),[jw],.byte⟩
@[irreducible] def dw(N:Nat)(a:List Bs):Option Bs:=syv N (nD.go (a))
def nE:=gAO nD (dw NN)
def Jc:AD B0:=⟨48,⟨[Bz,Jb],[nE],[],[],.nil⟩,[hc3,au,hc3,hc0],(.tup [hc0,hc3])⟩
@[irreducible] def pu(N:Nat)(a:Int)(a2:Bool)(a3:Int)(a4:Bs):Y10:=syv N (Jc.go (a,a2,a3,a4))
def Jd:=gA Jc (u4 (pu NN))
def EC:AD B0:=⟨19,(c1 [fk,Jd]),[hc3,au,hc3,jw],(.tup [hc0,hc3])⟩
@[irreducible] def cz(N:Nat)(a:Int)(a2:Bool)(a3:Int)(a4:List Bs):Y10:=syv N (EC.go (a,a2,a3,a4))
def cg:=gA EC (u4 (cz NN))
end
end Go.Fw
