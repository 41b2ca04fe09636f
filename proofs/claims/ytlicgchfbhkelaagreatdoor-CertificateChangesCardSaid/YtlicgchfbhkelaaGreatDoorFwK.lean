/- A framework for proofs about Go programs in this model: part K. Everything is proved; no condition is added. -/
import Derived.Shelf.Strings.BuilderRune
import Derived.Lib.RuneBytes
import Derived.RangeFuncWrites
import Derived.Laws.EntriesVeiled
import Derived.Laws.BitsAllLaws
import Derived.Laws.IdiomStrings
import Derived.Lib.BufferRead
import Derived.Test.YtlicgchfbhkelaaGreatDoorFwI
import Derived.Test.YtlicgchfbhkelaaGreatDoorFwJ
set_option linter.unusedVariables false
set_option linter.unusedSimpArgs false
set_option linter.defProp false
namespace Go.Proofs
open Go.Shelf Go.RowKit Go.Sort Go.Lib
def Tryz.lays168_ren:Go.Shelf.Ren:=⟨λ|168=>385|240=>216|242=>392|276=>291|278=>394|n=>n,λ|0=>0|3=>3|4=>4|5=>5|9=>9|20=>20|21=>21|37=>22|46=>176|51=>177|70=>257|72=>259|75=>251|164=>471|80=>263|n=>n,λ|n=>n⟩
def Tryz.lays168:Go.Proofs.Lays.n168 Tryz.prog Tryz.lays168_ren:={
 mixed:=by kernel_rfl
 f168:=Tryz.func385.trans (alD some (by kernel_rfl))
 f240:=Tryz.func216.trans (alD some (by kernel_rfl))
 f242:=Tryz.func392.trans (alD some (by kernel_rfl))
 f276:=Tryz.func291.trans (alD some (by kernel_rfl))
 f278:=Tryz.func394.trans (alD some (by kernel_rfl))
 t0:=aow
 a0:=Tryz.isAgg0
 z0:=Tryz.sizeOf0
 v0:=aoF
 t3:=am9
 a3:=anW
 z3:=anL
 v3:=anl
 t4:=ana
 a4:=anY
 z4:=anN
 v4:=ann
 t5:=amD
 a5:=anA
 z5:=ans
 v5:=amS
 t9:=amU
 a9:=anX
 z9:=anM
 v9:=anm
 t20:=Tryz.underlying20
 a20:=Tryz.isAgg20
 z20:=Tryz.sizeOf20
 v20:=Tryz.zeroValue20
 t21:=anz
 a21:=aok
 z21:=an6
 v21:=anF
 t37:=aom
 a37:=Tryz.isAgg22
 z37:=Tryz.sizeOf22
 v37:=Tryz.zeroValue22
 t46:=Tryz.underlying176
 a46:=Tryz.isAgg176
 z46:=Tryz.sizeOf176
 v46:=Tryz.zeroValue176
 t51:=Tryz.underlying177
 a51:=Tryz.isAgg177
 z51:=Tryz.sizeOf177
 v51:=Tryz.zeroValue177
 t70:=Tryz.underlying257
 a70:=Tryz.isAgg257
 z70:=Tryz.sizeOf257
 v70:=Tryz.zeroValue257
 t72:=Tryz.underlying259
 a72:=Tryz.isAgg259
 z72:=Tryz.sizeOf259
 v72:=Tryz.zeroValue259
 t75:=Tryz.underlying251
 a75:=Tryz.isAgg251
 z75:=Tryz.sizeOf251
 v75:=Tryz.zeroValue251
 t164:=Tryz.underlying471
 a164:=Tryz.isAgg471
 z164:=Tryz.sizeOf471
 v164:=Tryz.zeroValue471}
def Tryz.Builder_Extra_168:Builder.Extra Tryz.prog Tryz.lays168_ren:={
 sizeBuilder:=by kernel_rfl
 liesBuilder:=by kernel_rfl
 t5:=amD
 a5:=anA
 z5:=ans
 v5:=amS
 infoByte:=by kernel_rfl
 cellsByte:=by kernel_rfl
 sizeByte:=by kernel_rfl
 neB5:=by decide}
def Tryz.Builder_WriteRune_k(B b:Nat)(bs:List Value)(r:Int)(d: -2147483648<=r)(f:r<=2147483647)(w:World)(h:Lib.IsBuilderF 259 5 B b bs w)(a:bs.length+4<=140737488355328)(c:B<=w.heap.size):
 Calls Tryz.prog 385 #[.pointer (some ⟨b,0,none⟩),.int .i32 r] w λe g=>e=.returned (.tuple #[.int .i64 (Lib.runeCells r).length,.nilIface])/\(Lib.BuilderAtF 259 5 B b (.pointer (some ⟨b,0,none⟩)) (bs++Lib.runeCells r) g/\Below B w g/\Lib.OthersKept 5 (some b) w g):=by
 have i:=Any.Builder_WriteRune_k (ρ:=Tryz.lays168_ren) Tryz.lays168 Tryz.Builder_Extra_168 B b bs r d f w h a c;exact i
end Go.Proofs
namespace Go.Fw
def stepU(x:Nat)(o:UInt8):Nat:=x*256 % 4294967296+o.toNat
def ajf(l:List UInt8):Nat:=l.foldl stepU 0
def unitAt(c:List UInt8)(wd x:Nat):Nat:=ajf ((c.drop (x*wd)).take wd)
noncomputable def gz(i:Nat)(r:Int):Bool:=match i with
 |1=>(dJ r).getD false
 |2=>(cK r 32 126).getD false
 |3=>(bh r 0 127).getD false
 |4=>(bh r 32 126).getD false
 |5=>(FU r).getD false
 |_=>(dK r).getD false
noncomputable def adY(i:Nat)(c:List UInt8)(wd x:Nat):Bool:=Nat.ble (unitAt c wd x) 1114111&&gz i (unitAt c wd x)
def vq(c:List UInt8)(wd m:Nat):List UInt8:=(List.finRange m).flatMap λx=>Lib.encodeRune (unitAt c wd x.val)
noncomputable def Dx(N:Nat)(i wd:Nat)(a:Int)(c:List UInt8):Option ((Int×List UInt8)×Int):=
 bif Nat.beq (c.length % wd) 0 then
  bif (List.finRange (c.length / wd)).all λx=>adY i c wd x.val then
   (ip N (a,vq c wd (c.length / wd))).map λb=>bif b then((a,vq c wd (c.length / wd)),0) else((0,[]),6)
  else some ((0,[]),6)
 else some ((0,[]),6)
noncomputable def XX(N:Nat)(a:Int)(c:List UInt8):Option ((Int×List UInt8)×Int):=
 bif Nat.ble c.length 35184372088831 then
  if a=12 then(ip N (a,c)).map λb=>bif b then((a,c),0) else((0,[]),6)
  else if a=19 then Dx N 1 1 a c
  else if a=20 then Dx N 2 1 a c
  else if a=22 then Dx N 3 1 a c
  else if a=26 then Dx N 4 1 a c
  else if a=28 then Dx N 5 4 a c
  else if a=30 then Dx N 6 2 a c
  else some ((0,[]),3)
 else none
def ZR:∃f:Nat->Int->List UInt8->Option ((Int×List UInt8)×Int),f=XX:=⟨_,rfl⟩
noncomputable def aI:Nat->Int->List UInt8->Option ((Int×List UInt8)×Int):=Classical.choose ZR
def wq(N:Nat)(a:Int)(c:List UInt8):aI N a c=XX N a c:=anE (anE (anE (ame ZR) N) a) c
noncomputable def BF(N:Nat):Ctr:=⟨[.hole (.int .i64),.hole (.sl .byte)],.tup [.hole (.pair (.int .i64) .str),.hole (.int .i64)],λ(x:Int×List UInt8)=>aI N x.1 x.2⟩
end Go.Fw
def amF:=@Go.KeepsOthers.setCell
def amM:=@Go.callsIn_wide
def an4:=@Go.callsIn_of_wp_marks
def aol:=@List.flatMap_cons
def aoY:=@Bool.not_eq_true
namespace Go.Proofs
open Go.RowKit Go.Shelf
attribute [local go_sem] Oper.semAt_some
def Tryz.Looks(b:Int)(f:Nat)(wd:Nat)(R:Array Value->World->Prop)(w:World):Prop:=
 ∀W,Below w.heap.size w W->Calls Tryz.prog 368 #[] W λe c=>∃d a,e=.returned (.map (some d))/\Below W.heap.size W c/\
  (Instr.lookup 537 (.map (some d)) (.int .i64 b) true).run Tryz.prog c=.ok (.tuple #[.agg #[.func (.func f) #[] a,.int .i64 wd],.bool true]) c/\R a c
def gI(W c:World):Prop:=∀(k:Nat)(a:Array Value)(t:TypeId)(b:Nat×Nat),W.heap[k]?=some (.cells a t b)->c.heap[k]?=some (.cells a t b)
variable{Z:Nat}{Y:Value}{X:Int}{W:Int->Bool}
def gI.of_grown{W b:World}{a:Option Nat}(c:W.grownBy b a)(d:∀r,a=some r->Z<=r/\∃o:Obj,W.heap[r]?=some o/\o.isCells=false):gI W b:=
 λ_ _ _ _ h=>(grownBy_keeps_cells c (λr e=>(d r e).2) h rfl).trans h
def gI.of_below{W a:World}(h:Below W.heap.size W a):gI W a:=λk _ _ _ b=>(h.block k (alE.1 b).1).trans b
def IsBuilderF.kept{T e:TypeId}{B b:Nat}{bs:List Value}{W c:World}(h:Lib.IsBuilderF T e B b bs W)(j:gI W c):Lib.IsBuilderF T e B b bs c:=by
 have a:∀p,Lib.BuilderAtF T e B b p bs W->Lib.BuilderAtF T e B b p bs c:=by
  rintro p ⟨q,v,r,i,s⟩;refine⟨q,v,j _ _ _ _ r,⟨i.1,?_⟩,s⟩;rcases i.2 with t|⟨g,d,f,o,k,l,m,n⟩
  ·exact .inl t
  ·exact .inr ⟨g,d,f,o,k,l,j _ _ _ _ m,n⟩
 exact h.imp (a _) (a _)
def bP(W:World)(o:Obj)(k:Nat):(W.alloc o).heap[k]?=if k=W.heap.size then some o else W.heap[k]? :=by
 show(W.heap.push o)[k]?=_;rw[an3]
def U4{W:World}{n:Nat}(h:W.heap.size=n)(a b c d e:Obj):
 (((((W.alloc a).alloc b).alloc c).alloc d).alloc e).heap[n]?=some a/\(((((W.alloc a).alloc b).alloc c).alloc d).alloc e).heap[n+1]?=some b/\
 (((((W.alloc a).alloc b).alloc c).alloc d).alloc e).heap[n+1+1]?=some c/\(((((W.alloc a).alloc b).alloc c).alloc d).alloc e).heap[n+3]?=some d/\
 (((((W.alloc a).alloc b).alloc c).alloc d).alloc e).heap[n+4]?=some e/\(((((W.alloc a).alloc b).alloc c).alloc d).alloc e).heap.size=n+5:=by
 simp only[bP,World.size_alloc,h];refine⟨?_,?_,?_,?_,?_,?_⟩
 all_goals (repeat (first|rw[ali trivial]|rw[ali (by omega)]|rw[alJ (by omega)]|rfl|trivial|omega))
def KeepsOthers.of_below{W a:World}(h:Below W.heap.size W a):KeepsOthers W a:=⟨h.size,λk _ b _=>(h.block k (alE.1 b).1).trans b⟩
def KeepsOthers.of_others{n e b:Nat}{W a:World}(l:Below n W a)(h:Lib.OthersKept e (some b) W a)(f:∃i t d,W.heap[b]?=some (.cells i t d)):KeepsOthers W a:=by
 refine⟨l.size,λk o g j=>h k o g ?_ ?_⟩
 ·rintro⟨⟩;obtain⟨i,t,d,f⟩:=f;rw[f]at g;cases g;cases j
 ·rintro c d rfl;cases j
def Tryz.stepU_or(z:Nat)(y:UInt8):bits .or .u32 ((z:Int)*256 % 4294967296) ((y.toNat:Int) % 4294967296)=((Fw.stepU z y:Nat):Int):=by
 have d:y.toNat<2 ^ 8:=y.toNat_lt;have a:(z:Int)*256 % 4294967296=((z*256 % 4294967296:Nat):Int):=by omega
 have b:(y.toNat:Int) % 4294967296=((y.toNat:Nat):Int):=by omega
 rw[a,b,u32_or_nat _ _ (by omega) (by omega)];have c:z*256 % 4294967296=2 ^ 8*(z % 16777216):=by omega
 unfold Fw.stepU;rw[c,<-Nat.two_pow_add_eq_or_of_lt d]
def Tryz.wrap64_nat{j:Nat}(h:j+1<=9223372036854775807):wrap64 ((j:Int)+1)=((j+1:Nat):Int):=by unfold wrap64;omega
def Tryz.take_fold{U:List UInt8}{j:Nat}(h:j<U.length){z:Nat}(a:(U.take j).foldl Fw.stepU 0=z):(U.take (j+1)).foldl Fw.stepU 0=Fw.stepU z (U[j]?.getD 0):=by
 rw[al8,List.foldl_append,a,akZ h];rfl
def Tryz.three_sets{W:World}{n0:Nat}(a:(W.cell? ⟨n0,0,none⟩).isSome=true)(b:(W.cell? ⟨n0,1,none⟩).isSome=true)(c:(W.cell? ⟨n0+1,0,none⟩).isSome=true)(x y z:Value):
 (((W.setCell ⟨n0,0,none⟩ x).setCell ⟨n0,1,none⟩ y).setCell ⟨n0+1,0,none⟩ z).cell? ⟨n0,0,none⟩=some x/\(((W.setCell ⟨n0,0,none⟩ x).setCell ⟨n0,1,none⟩ y).setCell ⟨n0+1,0,none⟩ z).cell? ⟨n0,1,none⟩=some y/\
 (((W.setCell ⟨n0,0,none⟩ x).setCell ⟨n0,1,none⟩ y).setCell ⟨n0+1,0,none⟩ z).cell? ⟨n0+1,0,none⟩=some z:=by
 refine⟨?_,?_,?_⟩<;>simp[go_sem,a,b,c]
def Tryz.decV(r:(Int×List UInt8)×Int):Value:=.tuple #[.agg #[.int .i64 r.1.1,.string ⟨r.1.2.toArray⟩],.int .i64 r.2]
def Tryz.accC(c:List UInt8)(wd m:Nat)(pre:List (Fin m)):List Value:=pre.flatMap λx=>Lib.runeCells (Fw.unitAt c wd x.val)
def Tryz.goodU(c:List UInt8)(wd:Nat)(a:Int->Bool)(x:Nat):Bool:=Nat.ble (Fw.unitAt c wd x) 1114111&&a (Fw.unitAt c wd x)
def Tryz.HasOK(g:Nat)(c:Int->Bool)(b:Array Value)(d:World):Prop:=
 ∀a,Below d.heap.size d a->∀r:Int,0<=r->r<=1114111->Calls Tryz.prog g (#[.int .i32 r]++b) a λe f=>e=.returned (.bool (c r))/\Below a.heap.size a f
structure Tryz.DecI(c:List UInt8)(kind:Int)(C:ByteArray)(sv:Value)(hf wd m n1:Nat)(caps:Array Value)(has:Int->Bool)(w':World)(pre:List (Fin m))(W:World):Prop where
 below:Below n1 w' W
 b6:W.heap[n1]?=some (.cells #[.func (.func hf) #[] caps,.int .i64 wd] 536 (0,0))
 b8:W.heap[n1+1]?=some (.cells #[.int .i64 kind,.string C] 372 (0,0))
 b9:Lib.IsBuilderF 259 5 n1 (n1+1+1) (Tryz.accC c wd m pre) W
 bx1:W.heap[n1+3]?=some (.cells #[sv] 22 (0,0))
 bx2:W.heap[n1+4]?=some (.cells #[.int .i64 wd] 3 (0,0))
 good:∀x∈pre,Tryz.goodU c wd has x.val=true
def Tryz.DecI.own{c:List UInt8}{f:Int}{C:ByteArray}{r:Value}{o wd m h:Nat}{b:Array Value}{g:Int->Bool}{l:World}{B:Nat}(p:h<=l.heap.size)(n:h<=B):OwnFrom B (Tryz.DecI c f C r o wd m h b g l):=
 λs W t q a i j=>by
  have d:=gI.of_grown i j;exact⟨a.below.grown i (amo p a.below.size) (λk e=>amo n (j k e).1),d _ _ _ _ a.b6,d _ _ _ _ a.b8,IsBuilderF.kept a.b9 d,d _ _ _ _ a.bx1,d _ _ _ _ a.bx2,a.good⟩
structure Tryz.DecX(c:List UInt8)(wd m n0:Nat)(has:Int->Bool)(w:World)(t:Code)(pre:List (Fin m))(W:World):Prop where
 ret:t=.ret
 below:Below n0 w W
 c40:W.cell? ⟨n0,0,none⟩=some (.int .i64 0)
 c41:W.cell? ⟨n0,1,none⟩=some (.string ⟨#[]⟩)
 c50:W.cell? ⟨n0+1,0,none⟩=some (.int .i64 6)
 bad:∃x∈pre,Tryz.goodU c wd has x.val=false
def Tryz.DecX.own{c:List UInt8}{wd m n0:Nat}{f:Int->Bool}{w:World}{B:Nat}(t:Code)(i:n0<=w.heap.size)(h:n0<=B):OwnFrom B (Tryz.DecX c wd m n0 f w t):=
 λs W l j b d g=>by
  have a:=λr e=>(g r e).2;exact⟨b.ret,b.below.grown d (amo i b.below.size) (λk e=>amo h (g k e).1),cell_kept b.c40 d a,cell_kept b.c41 d a,cell_kept b.c50 d a,b.bad⟩
def Tryz.cell_of{W:World}{b:Nat}{cs:Array Value}{t:TypeId}(h:W.heap[b]?=some (.cells cs t (0,0)))(i:Nat):W.cell? ⟨b,i,none⟩=cs[i]?/\W.frozen? ⟨b,i,none⟩=false:=by
 unfold World.cell? World.frozen?;simp only[h];exact⟨rfl,by simp⟩
def Tryz.accC_snoc{c:List UInt8}{wd m:Nat}{pre:List (Fin m)}(x:Fin m):Tryz.accC c wd m (pre++[x])=Tryz.accC c wd m pre++Lib.runeCells (Fw.unitAt c wd x.val):=by
 simp[Tryz.accC]
def Tryz.runeCells_len(r:Int):(Lib.runeCells r).length<=4:=by
 unfold Lib.runeCells Lib.encodeRuneZ;rw[alQ]
 repeat' split
 all_goals simp
def Tryz.accC_len{c:List UInt8}{wd m:Nat}:∀(pre:List (Fin m)),(Tryz.accC c wd m pre).length<=4*pre.length
 |[]=>al2 _
 |x::b=>by
  have a:=Tryz.accC_len (c:=c) (wd:=wd) b;have d:=Tryz.runeCells_len (Fw.unitAt c wd x.val);unfold Tryz.accC at a⊢;rw[aol,ak2,ak4];omega
def Tryz.dec_ret{D:Nat}{w X:World}{tmps:Array Value}{k:Int}{S:ByteArray}{b:Int}
 (t4:tmps[4]?.getD undef=.pointer (some ⟨w.heap.size,0,none⟩))(t5:tmps[5]?.getD undef=.pointer (some ⟨w.heap.size+1,0,none⟩))
 (n:X.cell? ⟨w.heap.size,0,none⟩=some (.int .i64 k))(o:X.cell? ⟨w.heap.size,1,none⟩=some (.string S))(p:X.cell? ⟨w.heap.size+1,0,none⟩=some (.int .i64 b))
 (d:X.heap[D]?=some (.deferred (some [])))(s:w.heap.size<=D)(q:Below w.heap.size w X){c:Value}(f:c=.tuple #[.agg #[.int .i64 k,.string S],.int .i64 b]):
 bodyPostM Fence.wide 9 Tryz.prog Tryz.f371 (λe i=>e=.returned c/\Below w.heap.size w i) .ret {tmps:=tmps,defers:=[{target:=.collected D,args:= #[]}]} X:=by
 refine⟨by simp,.inl ⟨_,_,rfl,run_takeDeferred d,?_⟩⟩;have g:∀{a v},X.cell? a=some v->(X.putObj D (.deferred none)).cell? a=some v:=λh=>cell_kept h (grownBy_putObj' _ D (.deferred none)) (λr e=>by cases e;exact⟨_,d,rfl⟩);have j:=g n;have l:=g o;have m:=g p;refine⟨c,?_,rfl,q.trans (belowK_b (w:=w) (ak7 _) X D _ _ s d rfl rfl)⟩;have t:Tryz.f371.results= #[.cell 4 372,.cell 5 41]:=rfl;subst f;unfold results;rw[t];simp[go_sem,t4,t5,j,l,m]
set_option maxRecDepth 100000 in
set_option maxHeartbeats 8000000 in
def Tryz.dec_try(kind:Int)(a:Option Addr)(b off cap m wd:Nat)(c:List UInt8)(hf:Nat)(K:World->Prop)(has:Int->Bool)(w:World)(hwd:1<=wd)(hL:c.length=m*wd)(hcap:m*wd<=cap)(hmax:cap<=9223372036854775807)
 (hm4:m<=35184372088831)(hsv:m=0∨a=some ⟨b,off,none⟩)(hbw:0<m->b<w.heap.size)(hcell:∀(j:Nat) x,c[j]?=some x->w.cell? ⟨b,off+j,none⟩=some (.int .u8 x.toNat))
 (hconv:∀W,Below w.heap.size w W->(convert 22 9 (.slice a c.length cap)).run Tryz.prog W=.ok (.string ⟨c.toArray⟩) W)
 (eh:∀args w,(callFunc hf args).run Tryz.prog w=.ok (.enter hf args) w)(hF:Tryz.Looks kind hf wd (λcaps W=>Tryz.HasOK hf has caps W/\K W) w)
 (T:List UInt8)(hT:Lib.byteCells T=Tryz.accC c wd m (List.finRange m))(vb:Bool)
 (hV:((List.finRange m).all λx=>Tryz.goodU c wd has x.val)=true->∀W',K W'->∀W'',Below W'.heap.size W' W''->Calls Tryz.prog 367 #[.agg #[.int .i64 kind,.string ⟨T.toArray⟩]] W'' λe W3=>e=.returned (.bool vb)/\Below W''.heap.size W'' W3):
 Calls Tryz.prog 371 #[.int .i64 kind,.slice a c.length cap] w λe W'=>e=.returned (Tryz.decV (bif ((List.finRange m).all λx=>Tryz.goodU c wd has x.val) then bif vb then((kind,T),0) else((0,[]),6) else((0,[]),6)))/\Below w.heap.size w W':=by
 have mixed:Tryz.prog.follows .mixedOrders=true:=by kernel_rfl
 obtain⟨GV,hGV⟩:∃GV,((List.finRange m).all λx=>Tryz.goodU c wd has x.val)=GV:=⟨_,rfl⟩;rw[hGV]at hV⊢;have HG:Hid (((List.finRange m).all λx=>Tryz.goodU c wd has x.val)=GV):=hGV;obtain⟨RV,hRV⟩:∃RV,Tryz.decV (bif GV then bif vb then((kind,T),0) else((0,[]),6) else((0,[]),6))=RV:=⟨_,rfl⟩;rw[hRV];have HR:Hid (Tryz.decV (bif GV then bif vb then((kind,T),0) else((0,[]),6) else((0,[]),6))=RV):=hRV;clear hGV hRV;refine(amM (n:=9)).1 ?_;refine an4 Tryz.func371 rfl trivial ?_ rfl;simp only[Tryz.ntmps371,amP,ak4,alq,Nat.reduceAdd,Nat.reduceSub,amW,amX,anj,am1,alN,alT];have hB0:Below w.heap.size w ((w.alloc (.cells #[.int .i64 0,.string ⟨#[]⟩] 372)).alloc (.cells #[.int .i64 0] 41)):=((amh _ w).alloc (ak7 _) _).alloc (by simp) _;have hF1:=hF _ hB0;have hrem:(c.length:Int).tmod wd=0:=by
  rw[hL,aoD];exact Int.mul_tmod_left _ _
 obtain⟨L,hLe⟩:∃L,c.length=L:=⟨_,rfl⟩;obtain⟨C,hC⟩:∃C,(⟨c.toArray⟩:ByteArray)=C:=⟨_,rfl⟩;rw[hLe]at hrem hconv hL⊢;rw[hC]at hconv;have HL:Hid (L=m*wd):=hL;have HC:Hid (∀(j:Nat) x,c[j]?=some x->w.cell? ⟨b,off+j,none⟩=some (.int .u8 x.toNat)):=hcell;have HS:Hid (m=0∨a=some ⟨b,off,none⟩):=hsv;clear hF hL hcell hsv
 gi_wp2_with (first
  |(refine⟨trivial,?_⟩;gi_at_call 368;refine(amM.2 hF1).mono ?_;rintro e w' ⟨bm,caps,rfl,hb,hlook,hR,hKw⟩;have hcv:=hconv (w'.alloc (Obj.cells #[Value.func (Fn.func hf) #[] caps,Value.int IntKind.i64 wd] 536)) ((hB0.trans (hb.mono (by simp;omega))).alloc (by have:=hb.size;simp at this;omega) _);clear hconv)
  |(refine⟨trivial,?_⟩;gi_at_call 384;refine(Tryz.chunk_in Fence.wide _ trivial rfl a L cap wd hwd _).mono ?_;rintro e w'' ⟨rfl,rfl⟩))
 all_goals (
  obtain⟨n1,hn1⟩:∃n1,w'.heap.size=n1:=⟨_,rfl⟩;obtain⟨W0,hW0⟩:∃W0,((((w'.alloc (.cells #[.func (.func hf) #[] caps,.int .i64 wd] 536)).alloc (.cells #[.int .i64 kind,.string C] 372)).alloc (.cells #[.pointer none,.slice none 0 0] 259)).alloc (.cells #[.slice a L cap] 22)).alloc (.cells #[.int .i64 wd] 3)=W0:=⟨_,rfl⟩;have h5:=U4 hn1 (.cells #[.func (.func hf) #[] caps,.int .i64 wd] 536) (.cells #[.int .i64 kind,.string C] 372) (.cells #[.pointer none,.slice none 0 0] 259) (.cells #[.slice a L cap] 22) (.cells #[.int .i64 wd] 3);have hBW:Below n1 w' W0:=by
   rw[<-hW0];exact(((((amh _ w').alloc (by omega) _).alloc (by simp;omega) _).alloc (by simp;omega) _).alloc (by simp;omega) _).alloc (by simp;omega) _
  rw[hW0]at h5;obtain⟨ha1,ha2,ha3,ha4,ha5,hE⟩:=h5;have hc1:W0.cell? ⟨n1+3,0,none⟩=some (.slice a L cap):=by unfold World.cell?;simp only[ha4];rfl
  have hc2:W0.cell? ⟨n1+4,0,none⟩=some (.int .i64 wd):=by unfold World.cell?;simp only[ha5];rfl
  have hI0:Tryz.DecI c kind C (.slice a L cap) hf wd m n1 caps has w' [] W0:=
   ⟨hBW,ha1,ha2,.inl ⟨by omega,.slice none 0 0,ha3,⟨rfl,.inl ⟨rfl,rfl⟩⟩,by simp[Value.ownBlock]⟩,ha4,ha5,λx h=>absurd h (by simp)⟩
  have hseq:=Tryz.chunk_stops Fence.wide (9-1) trivial rfl (by omega) (n1+3) (n1+4) n1 b off cap wd m (.slice a L cap) hwd W0 (by omega) (by omega) hc1 hc2 (by
   rcases HS.out with h|h
   ·exact .inl ⟨h,a,cap,by rw[HL.out,h,amZ]⟩
   ·exact .inr ⟨by rw[h,HL.out],hcap,hmax⟩)
  have hKb:∀(W:World)(l:Nat)(o o':Obj),W0.heap.size<=l->W.heap[l]?=some o->o.isCells=false->o.isWalk=false->pH n1 (n1+3) (n1+4) W (W.putObj l o'):=λW l o o' hl h h1 h2=>
   ⟨belowK_b (w:=W0) (by omega) W l o o' hl h h1 h2,World.putObj_heap_other (by omega),World.putObj_heap_other (by omega)⟩
  have hnw:w.heap.size+2<=n1:=by have:=hb.size;simp at this;omega
  simp only[hn1,hW0];clear hW0 hcv hlook hF1
  refine' wpIn_rangeFunc_ownG rfl (by omega) (gf:=391) (lb:= #[.pointer (some ⟨n1+3,0,none⟩),.pointer (some ⟨n1+4,0,none⟩)]) rfl trivial (anu Tryz.func391 (by kernel_rfl) rfl) hseq (λh k=>h.trans k) hKb (amh _ _) (λ_=>rfl)
   (Tryz.DecI c kind C (.slice a L cap) hf wd m n1 caps has w') (Tryz.DecX c wd m w.heap.size has w) (Tryz.DecI.own (by omega) (by omega)) (λt=>Tryz.DecX.own t (ak7 _) (by omega)) hI0 _ ?_ ?_ ?_ ?_
  rotate_left
  ·intro l x W K hK
   gi_wp2
   exact hK
  ·rintro l pre x W hI hlen;obtain⟨X,hX⟩:∃X,x.val*wd=X:=⟨_,rfl⟩;obtain⟨U,hU⟩:∃U,(c.drop (x.val*wd)).take wd=U:=⟨_,rfl⟩;have hXL:X+wd<=L:=by
    have:(x.val+1)*wd<=m*wd:=al6 _ x.isLt;rw[anq,hX,<-HL.out]at this;exact this
   have hUl:U.length=wd:=by
    rw[<-hU,alB,al0,hX,hLe];omega
   have hUc:Hid (∀j,j<wd->W.cell? ⟨b,off+X+j,none⟩=some (.int .u8 (U[j]?.getD 0).toNat)):=by
    intro j hj;have e:U[j]?=c[X+j]? :=by
     rw[<-hU,aoL,ali hj,aoc,hX]
    have hlt:X+j<c.length:=by omega
    rw[e,akZ hlt];have hBn:Below w.heap.size w W:=((hB0.trans (hb.mono (by simp;omega)))).trans (hI.below.mono (by omega));rw[anc];exact(hBn.cell (p:=⟨b,off+(X+j),none⟩) (hbw (Nat.lt_of_le_of_lt (al2 _) x.isLt))).trans (HC.out (X+j) _ (akZ hlt))
   have hwc:wd<=cap:=by have:=HL.out;omega
   have hc6:W.cell? ⟨n1,0,none⟩=some (.func (.func hf) #[] caps):=by unfold World.cell?;simp only[hI.b6];rfl
   simp only[hX];have HX:=hX;have hU0:Hid ((c.drop (x.val*wd)).take wd=U):=hU;have hnb:∀(k:Nat) o,((w.alloc (.cells #[.int .i64 0,.string ⟨#[]⟩] 372)).alloc (.cells #[.int .i64 0] 41)).heap[k]?=some o->k<w.heap.size+2->W.heap[k]?=some o:=λk o h1 h2=>
    (hI.below.block k (by omega)).trans ((hb.block k (by simp;omega)).trans h1)
   have hq4i:Hid (W.heap[w.heap.size]?=some (.cells #[.int .i64 0,.string ⟨#[]⟩] 372 (0,0))):=hnb _ _ (by rw[bP,bP,alJ (by simp),ali rfl]) (by omega);have hq5i:Hid (W.heap[w.heap.size+1]?=some (.cells #[.int .i64 0] 41 (0,0))):=hnb _ _ (by rw[bP,ali (by simp)]) (by omega);clear hX hU hXL hnb
   gi_wp2
   gi_loopw [11,51] (λxv iv wr=>∃j:Nat,j<=wd/\iv=.int .i64 j/\xv=.int .u32 (((U.take j).foldl Fw.stepU 0:Nat):Int)/\wr=W) (λ_ iv _=>wd-(intOf iv).toNat)
   case atStart=>exact⟨0,al2 _,rfl,rfl,rfl⟩
   case round=>
    obtain⟨j,hj,rfl,rfl,rfl⟩:=hrel;by_cases hlt:j<wd
    ·have hcj:=hUc.out j hlt;obtain⟨y,hy⟩:∃y,(U[j]?.getD 0)=y:=⟨_,rfl⟩;obtain⟨z,hz⟩:∃z:Nat,(U.take j).foldl Fw.stepU 0=z:=⟨_,rfl⟩;rw[hy]at hcj;simp only[hz];clear HX;have hz1:=Tryz.take_fold (U:=U) (by omega) hz;rw[hy]at hz1;have hj64:=Tryz.wrap64_nat (j:=j) (by omega);have HZ:Hid ((U.take (j+1)).foldl Fw.stepU 0=Fw.stepU z y):=hz1;have HJ:Hid (wrap64 ((j:Int)+1)=((j+1:Nat):Int)):=hj64;clear hz1 hj64 hz
     gi_wp2
     refine⟨⟨j+1,hlt,?_,?_,trivial⟩,?_⟩
     ·first|rw[HJ.out]|simp
     ·rw[Tryz.stepU_or,HZ.out]
     ·first|rw[HJ.out]|skip
      simp only[intOf];omega
    ·obtain rfl:j=wd:=by omega
     rw[alw (by omega)];obtain⟨z,hz⟩:∃z:Nat,U.foldl Fw.stepU 0=z:=⟨_,rfl⟩;simp only[hz];have HZ:Hid (U.foldl Fw.stepU 0=z):=hz;have hzu:Hid (Fw.unitAt c j x.val=z):=by
      unfold Fw.unitAt;rw[hU0.out];exact hz
     have hq4:=hq4i.out;have hq5:=hq5i.out;clear hz HX;by_cases hzm:z<=1114111
     ·have hcall:=hR wr (hI.below.mono (by omega)) (z:Int) (by omega) (by omega);have hlen2:=Tryz.accC_len (c:=c) (wd:=j) pre;have hbs:(Tryz.accC c j m pre).length+4<=140737488355328:=by omega
      obtain⟨bs,hbsE⟩:∃bs,Tryz.accC c j m pre=bs:=⟨_,rfl⟩;have hb9:=hI.b9;rw[hbsE]at hb9 hbs;cases hv:has z with
      |true=>
       rw[hv]at hcall
       gi_wp2_with (first
        |(refine⟨trivial,(CallsIn.inRound l (amM.2 hcall)).mono ?_⟩;rintro e W3 ⟨rfl,hb3⟩;have hbl3:=IsBuilderF.kept hb9 (gI.of_below hb3))
        |(refine⟨trivial,?_⟩;gi_at_call 385;refine(CallsIn.inRound l (amM.2 (Tryz.Builder_WriteRune_k n1 (n1+1+1) bs (z:Int) (by omega) (by omega) _ hbl3 hbs (by have:=hb3.size;have:=hI.below.size;omega)))).mono ?_;rintro e W4 ⟨rfl,hbu,hb4,ho4⟩))
       have hb3n:Below n1 wr W3:=hb3.mono (by have:=hI.below.size;omega);have kc:∀(k:Nat) cs (t:TypeId),wr.heap[k]?=some (.cells cs t (0,0))->k≠n1+1+1->t≠5->W4.heap[k]?=some (.cells cs t (0,0)):=λk cs t h1 h2 h3=>
        ho4 k _ (gI.of_below hb3 _ _ _ _ h1) (λe=>h2 (by cases e;rfl)) (λc' fz' e=>h3 (by cases e;rfl))
       have k34:KeepsOthers W3 W4:=KeepsOthers.of_others hb4 ho4 (by
        rcases hbl3 with⟨_,v,h,_⟩|⟨_,v,h,_⟩<;>exact⟨_,_,_,h⟩)
       have hg:=hzu.out;refine⟨((KeepsOthers.of_below hb3).trans k34).from _,⟨hb3n.trans hb4,(kc _ _ _ hI.bx1 (by omega) (by decide)).trans hI.bx1.symm,(kc _ _ _ hI.bx2 (by omega) (by decide)).trans hI.bx2.symm⟩,
        hI.below.trans (hb3n.trans hb4),kc _ _ _ hI.b6 (by omega) (by decide),kc _ _ _ hI.b8 (by omega) (by decide),?_,kc _ _ _ hI.bx1 (by omega) (by decide),kc _ _ _ hI.bx2 (by omega) (by decide),λy hy=> ?_⟩
       ·rw[Tryz.accC_snoc,hbsE,hg];exact .inr hbu
       ·rcases alM.1 hy with h|h
        ·exact hI.good y h
        ·obtain rfl:y=x:=by simpa using h
         unfold Tryz.goodU;rw[hg,hv,alY hzm];rfl
      |false=>
       rw[hv]at hcall
       gi_wp2_with (refine⟨trivial,(CallsIn.inRound l (amM.2 hcall)).mono ?_⟩;rintro e W3 ⟨rfl,hb3⟩;have hk3:=gI.of_below hb3;have hq41:=Tryz.cell_of (hk3 _ _ _ _ hq4) 0;have hq42:=Tryz.cell_of (hk3 _ _ _ _ hq4) 1;have hq43:=Tryz.cell_of (hk3 _ _ _ _ hq5) 0;simp at hq41 hq42 hq43)
       have h3s:=Tryz.three_sets (W:=W3) (n0:=w.heap.size) (by rw[hq41.1];rfl) (by rw[hq42.1];rfl) (by rw[hq43.1];rfl) (.int .i64 0) (.string ⟨#[]⟩) (.int .i64 6);have hBn0:Below w.heap.size w W3:=((hB0.trans (hb.mono (by simp;omega))).trans (hI.below.mono (by omega))).trans (hb3.mono (by have:=hI.below.size;omega));refine⟨((KeepsOthers.of_below hb3).trans (((amF _ _ _).trans (amF _ _ _)).trans (amF _ _ _))).from _,rfl,?_,h3s.1,h3s.2.1,h3s.2.2,x,alM.2 (.inr (al3.2 rfl)),?_⟩
       ·exact((hBn0.setCell (p:=⟨w.heap.size,0,none⟩) (ak7 _) _).setCell (p:=⟨w.heap.size,1,none⟩) (ak7 _) _).setCell (p:=⟨w.heap.size+1,0,none⟩) (by simp) _
       ·unfold Tryz.goodU;rw[hzu.out];rw[hv,Bool.and_false]
     ·have hzm2:1114111<z:=by omega
      have hq41:=Tryz.cell_of hq4 0;have hq42:=Tryz.cell_of hq4 1;have hq43:=Tryz.cell_of hq5 0;simp at hq41 hq42 hq43
      gi_wp2
      refine⟨λ_ h=>(by cases h),?_⟩
      gi_wp2
      have h3s:=Tryz.three_sets (W:=wr) (n0:=w.heap.size) (by rw[hq41.1];rfl) (by rw[hq42.1];rfl) (by rw[hq43.1];rfl) (.int .i64 0) (.string ⟨#[]⟩) (.int .i64 6);have hBn0:Below w.heap.size w wr:=(hB0.trans (hb.mono (by simp;omega))).trans (hI.below.mono (by omega));refine⟨((KeepsOthers.refl _).trans (((amF _ _ _).trans (amF _ _ _)).trans (amF _ _ _))).from _,rfl,?_,h3s.1,h3s.2.1,h3s.2.2,x,alM.2 (.inr (al3.2 rfl)),?_⟩
      ·exact((hBn0.setCell (p:=⟨w.heap.size,0,none⟩) (ak7 _) _).setCell (p:=⟨w.heap.size,1,none⟩) (ak7 _) _).setCell (p:=⟨w.heap.size+1,0,none⟩) (by simp) _
      ·unfold Tryz.goodU;rw[hzu.out];rw[show Nat.ble z 1114111=false from by rw[<-aoY,Nat.ble_eq];omega,Bool.false_and]
  ·rintro D xs W hD rfl hI hK;have hall:((List.finRange m).all λx=>Tryz.goodU c wd has x.val)=true:=by
    rw[alv];exact hI.good
   have hGt:GV=true:=HG.out.symm.trans hall;have hVx:=hV hGt w' hKw;have hbT:Lib.IsBuilderF 259 5 n1 (n1+1+1) (Lib.byteCells T) W:=by rw[hT];exact hI.b9
   have HRt:Hid (Tryz.decV (bif vb then((kind,T),0) else((0,[]),6))=RV):=by
    have:=HR.out;rw[hGt]at this;exact this
   clear hall hGt hV hT HG HR;have hnW:n1<=W.heap.size:=by have:=hI.below.size;omega
   have hb8:=hI.b8;have hIb:=hI.below;obtain⟨TB,hTB⟩:∃TB,(⟨T.toArray⟩:ByteArray)=TB:=⟨_,rfl⟩;have hstr:=Tryz.Builder_String_any_k n1 (n1+1+1) T W hbT hnW;rw[hTB]at hVx hstr;clear hbT;have hnb:∀(k:Nat) o,((w.alloc (.cells #[.int .i64 0,.string ⟨#[]⟩] 372)).alloc (.cells #[.int .i64 0] 41)).heap[k]?=some o->k<w.heap.size+2->W.heap[k]?=some o:=λk o h1 h2=>
    (hI.below.block k (by omega)).trans ((hb.block k (by simp;omega)).trans h1)
   have hq4:W.heap[w.heap.size]?=some (.cells #[.int .i64 0,.string ⟨#[]⟩] 372 (0,0)):=hnb _ _ (by rw[bP,bP,alJ (by simp),ali rfl]) (by omega);have hq5:W.heap[w.heap.size+1]?=some (.cells #[.int .i64 0] 41 (0,0)):=hnb _ _ (by rw[bP,ali (by simp)]) (by omega);clear hnb hI;cases vb
   all_goals (
    gi_wp2_with (first
     |(refine⟨trivial,?_⟩;gi_at_call 147;refine(amM.2 hstr).mono ?_;rintro e W5 ⟨rfl,hs5,hb5,ho5⟩;have h80:=Tryz.cell_of (ho5 _ _ hb8 (λe=>by simp at e) (λc' fz' e=>by cases e)) 0;have h81:=Tryz.cell_of (ho5 _ _ hb8 (λe=>by simp at e) (λc' fz' e=>by cases e)) 1;simp at h80 h81)
     |(refine⟨trivial,?_⟩;gi_at_call 367
       have hXB:Below n1 w' (W5.setCell ⟨n1+1,1,none⟩ (.string TB)):=hIb.trans (hb5.setCell (p:=⟨n1+1,1,none⟩) (Nat.le_succ n1) _);refine(amM.2 (hVx _ (by rw[hn1];exact hXB))).mono ?_;rintro e W6 ⟨rfl,hb6⟩;have hs5:=hb5.size;have hsX:(W5.setCell ⟨n1+1,1,none⟩ (.string TB)).heap.size=W5.heap.size:=by simp
       have hlt1:n1+1<W.heap.size:=(alE.1 hb8).1;have hx0:(W5.setCell ⟨n1+1,1,none⟩ (.string TB)).cell? ⟨n1+1,0,none⟩=some (.int .i64 kind):=by simp[go_sem,h80,h81]
       have hx1:(W5.setCell ⟨n1+1,1,none⟩ (.string TB)).cell? ⟨n1+1,1,none⟩=some (.string TB):=by simp[go_sem,h80,h81]
       have hc80:=(hb6.cell (p:=⟨n1+1,0,none⟩) (by rw[hsX];show n1+1<_;omega)).trans hx0;have hc81:=(hb6.cell (p:=⟨n1+1,1,none⟩) (by rw[hsX];show n1+1<_;omega)).trans hx1;have hblk:∀(k:Nat) o,k<n1->W.heap[k]?=some o->W6.heap[k]?=some o:=λk o h1 h2=>
        (hb6.block k (by rw[hsX];omega)).trans ((Below.heap_setCell _ _ _ k (by show k≠n1+1;omega)).trans ((hb5.block k h1).trans h2))
       have hq41:=Tryz.cell_of (hblk _ _ (by omega) hq4) 0;have hq42:=Tryz.cell_of (hblk _ _ (by omega) hq4) 1;have hq43:=Tryz.cell_of (hblk _ _ (by omega) hq5) 0;have hDl:D<W.heap.size:=(alE.1 hK).1;have hK6:W6.heap[D]?=some (.deferred (some [])):=(hb6.block D (by rw[hsX];omega)).trans ((Below.heap_setCell _ _ _ D (by show D≠n1+1;omega)).trans (ho5 _ _ hK (λe=>by simp at e;omega) (λc' fz' e=>by cases e)));have hB6:Below n1 w' W6:=hXB.trans (hb6.mono (by rw[hsX];omega));clear hx0 hx1 hblk;simp at hq41 hq42 hq43))
    have h3s:=Tryz.three_sets (W:=W6) (n0:=w.heap.size) (by rw[hq41.1];rfl) (by rw[hq42.1];rfl) (by rw[hq43.1];rfl);have hBn0:Below w.heap.size w W6:=(hB0.trans (hb.mono (by simp;omega))).trans (hB6.mono (by omega));have hKs:=λx y z=>(((amF W6 ⟨w.heap.size,0,none⟩ x).trans (amF _ ⟨w.heap.size,1,none⟩ y)).trans (amF _ ⟨w.heap.size+1,0,none⟩ z)).same D _ hK6 rfl;refine Tryz.dec_ret rfl rfl (h3s _ _ _).1 (h3s _ _ _).2.1 (h3s _ _ _).2.2 (hKs _ _ _) (by omega) (((hBn0.setCell (p:=⟨w.heap.size,0,none⟩) (ak7 _) _).setCell (p:=⟨w.heap.size,1,none⟩) (ak7 _) _).setCell (p:=⟨w.heap.size+1,0,none⟩) (by simp) _) ?_;have hfin:=HRt.out
    first|exact hfin.symm|(subst hTB;exact hfin.symm))
  ·rintro D cd pre W hD hpre hX hK;obtain⟨rfl,hBX,x40,x41,x50,y,hy,hbad⟩:=hX;have hGf:GV=false:=by
    rw[<-HG.out,<-aoY,alv];intro h;rw[h y (List.mem_finRange y)]at hbad;cases hbad
   have hfin:=HR.out;rw[hGf]at hfin
   gi_wp2
   exact Tryz.dec_ret rfl rfl x40 x41 x50 hK (by omega) hBX hfin.symm)
end Go.Proofs
namespace Go.Proofs
open Go.RowKit Go.Shelf
attribute [local go_sem] Oper.semAt_some
def Tryz.dec_ret0{w X:World}{tmps:Array Value}{k:Int}{S:ByteArray}{a:Int}
 (t4:tmps[4]?.getD undef=.pointer (some ⟨w.heap.size,0,none⟩))(t5:tmps[5]?.getD undef=.pointer (some ⟨w.heap.size+1,0,none⟩))
 (f:X.cell? ⟨w.heap.size,0,none⟩=some (.int .i64 k))(g:X.cell? ⟨w.heap.size,1,none⟩=some (.string S))(h:X.cell? ⟨w.heap.size+1,0,none⟩=some (.int .i64 a))
 (i:Below w.heap.size w X){b:Value}(c:b=.tuple #[.agg #[.int .i64 k,.string S],.int .i64 a]):
 bodyPostM Fence.wide 9 Tryz.prog Tryz.f371 (λe d=>e=.returned b/\Below w.heap.size w d) .ret {tmps:=tmps,defers:=[]} X:=by
 refine⟨b,?_,rfl,i⟩;have j:Tryz.f371.results= #[.cell 4 372,.cell 5 41]:=rfl;subst c;unfold results;rw[j];simp[go_sem,t4,t5,f,g,h]
def Tryz.LooksNo(a:Int)(w:World):Prop:=
 ∀W,Below w.heap.size w W->Calls Tryz.prog 368 #[] W λe b=>∃c,e=.returned (.map (some c))/\Below W.heap.size W b/\
  (Instr.lookup 537 (.map (some c)) (.int .i64 a) true).run Tryz.prog b=.ok (.tuple #[.agg #[.nilFunc,.int .i64 0],.bool false]) b
set_option maxRecDepth 100000 in
set_option maxHeartbeats 8000000 in
def Tryz.dec_none(f:Int)(a:Option Addr)(L l:Nat)(w:World)(s:Tryz.LooksNo f w):
 Calls Tryz.prog 371 #[.int .i64 f,.slice a L l] w λe u=>e=.returned (Tryz.decV ((0,[]),3))/\Below w.heap.size w u:=by
 have mixed:Tryz.prog.follows .mixedOrders=true:=by kernel_rfl
 refine(amM (n:=9)).1 ?_;refine an4 Tryz.func371 rfl trivial ?_ rfl;simp only[Tryz.ntmps371,amP,ak4,alq,Nat.reduceAdd,Nat.reduceSub,amW,amX,anj,am1,alN,alT];have h:Below w.heap.size w ((w.alloc (.cells #[.int .i64 0,.string ⟨#[]⟩] 372)).alloc (.cells #[.int .i64 0] 41)):=((amh _ w).alloc (ak7 _) _).alloc (by simp) _;have o:=s _ h;have i:((w.alloc (.cells #[.int .i64 0,.string ⟨#[]⟩] 372)).alloc (.cells #[.int .i64 0] 41)).heap[w.heap.size]?=some (.cells #[.int .i64 0,.string ⟨#[]⟩] 372 (0,0)):=by rw[bP,bP,alJ (by simp),ali rfl]
 have r:((w.alloc (.cells #[.int .i64 0,.string ⟨#[]⟩] 372)).alloc (.cells #[.int .i64 0] 41)).heap[w.heap.size+1]?=some (.cells #[.int .i64 0] 41 (0,0)):=by rw[bP,ali (by simp)]
 clear s
 gi_wp2_with (refine⟨trivial,?_⟩;gi_at_call 368;refine(amM.2 o).mono ?_;rintro e t ⟨v,rfl,j,q⟩
              have k:=gI.of_below (j.alloc j.size (.cells #[Value.nilFunc,.int .i64 0] 536));have b:=Tryz.cell_of (k _ _ _ _ i) 0;have c:=Tryz.cell_of (k _ _ _ _ i) 1;have d:=Tryz.cell_of (k _ _ _ _ r) 0;have m:Below w.heap.size w (t.alloc (.cells #[Value.nilFunc,.int .i64 0] 536)):=(h.trans (j.mono (by simp;omega))).alloc (by have:=j.size;simp at this;omega) _;clear k;simp at b c d)
 have g:=Tryz.three_sets (W:=t.alloc (.cells #[Value.nilFunc,.int .i64 0] 536)) (n0:=w.heap.size) (by rw[b.1];rfl) (by rw[c.1];rfl) (by rw[d.1];rfl);exact Tryz.dec_ret0 rfl rfl (g _ _ _).1 (g _ _ _).2.1 (g _ _ _).2.2 (((m.setCell (p:=⟨w.heap.size,0,none⟩) (ak7 _) _).setCell (p:=⟨w.heap.size,1,none⟩) (ak7 _) _).setCell (p:=⟨w.heap.size+1,0,none⟩) (by simp) _) rfl
set_option maxRecDepth 100000 in
set_option maxHeartbeats 8000000 in
def Tryz.dec_rem(g:Int)(a:Option Addr)(L q m wd:Nat)(R:Array Value->World->Prop)(w:World)(E:1<wd)(y:¬L % wd=0)(x:Tryz.Looks g m wd R w):
 Calls Tryz.prog 371 #[.int .i64 g,.slice a L q] w λe A=>e=.returned (Tryz.decV ((0,[]),6))/\Below w.heap.size w A:=by
 have mixed:Tryz.prog.follows .mixedOrders=true:=by kernel_rfl
 refine(amM (n:=9)).1 ?_;refine an4 Tryz.func371 rfl trivial ?_ rfl;simp only[Tryz.ntmps371,amP,ak4,alq,Nat.reduceAdd,Nat.reduceSub,amW,amX,anj,am1,alN,alT];have j:Below w.heap.size w ((w.alloc (.cells #[.int .i64 0,.string ⟨#[]⟩] 372)).alloc (.cells #[.int .i64 0] 41)):=((amh _ w).alloc (ak7 _) _).alloc (by simp) _;have s:=x _ j;have k:((w.alloc (.cells #[.int .i64 0,.string ⟨#[]⟩] 372)).alloc (.cells #[.int .i64 0] 41)).heap[w.heap.size]?=some (.cells #[.int .i64 0,.string ⟨#[]⟩] 372 (0,0)):=by rw[bP,bP,alJ (by simp),ali rfl]
 have u:((w.alloc (.cells #[.int .i64 0,.string ⟨#[]⟩] 372)).alloc (.cells #[.int .i64 0] 41)).heap[w.heap.size+1]?=some (.cells #[.int .i64 0] 41 (0,0)):=by rw[bP,ali (by simp)]
 have C:¬((wd:Int)=0):=by omega
 have i:¬((L:Int) % wd=0):=by omega
 have v:((L:Int) % wd !=0)=true:=by simpa using i
 have B:1<(wd:Int):=by omega
 clear x
 gi_wp2_with (refine⟨trivial,?_⟩;gi_at_call 368;refine(amM.2 s).mono ?_;rintro e z ⟨D,b,rfl,l,t,_⟩
              have o:=gI.of_below (l.alloc l.size (.cells #[.func (.func m) #[] b,.int .i64 wd] 536));have c:=Tryz.cell_of (o _ _ _ _ k) 0;have d:=Tryz.cell_of (o _ _ _ _ k) 1;have f:=Tryz.cell_of (o _ _ _ _ u) 0;have r:Below w.heap.size w (z.alloc (.cells #[.func (.func m) #[] b,.int .i64 wd] 536)):=(j.trans (l.mono (by simp;omega))).alloc (by have:=l.size;simp at this;omega) _;clear o;simp at c d f)
 have h:=Tryz.three_sets (W:=z.alloc (.cells #[.func (.func m) #[] b,.int .i64 wd] 536)) (n0:=w.heap.size) (by rw[c.1];rfl) (by rw[d.1];rfl) (by rw[f.1];rfl);exact Tryz.dec_ret0 rfl rfl (h _ _ _).1 (h _ _ _).2.1 (h _ _ _).2.2 (((r.setCell (p:=⟨w.heap.size,0,none⟩) (ak7 _) _).setCell (p:=⟨w.heap.size,1,none⟩) (ak7 _) _).setCell (p:=⟨w.heap.size+1,0,none⟩) (by simp) _) rfl
set_option maxRecDepth 100000 in
set_option maxHeartbeats 8000000 in
def Tryz.dec_utf(b:Int)(a:Option Addr)(u x:Nat)(c:List UInt8)(K:World->Prop)(R:Array Value->World->Prop)(w:World)
 (f:∀W,Below w.heap.size w W->(convert 22 9 (.slice a c.length u)).run Tryz.prog W=.ok (.string ⟨c.toArray⟩) W)
 (Q:Tryz.Looks b x 0 (λd W=>R d W/\K W) w)(A:Bool)
 (J:∀t,K t->∀h,Below t.heap.size t h->Calls Tryz.prog 367 #[.agg #[.int .i64 b,.string ⟨c.toArray⟩]] h λe T=>e=.returned (.bool A)/\Below h.heap.size h T):
 Calls Tryz.prog 371 #[.int .i64 b,.slice a c.length u] w λe t=>e=.returned (Tryz.decV (bif A then((b,c),0) else((0,[]),6)))/\Below w.heap.size w t:=by
 have mixed:Tryz.prog.follows .mixedOrders=true:=by kernel_rfl
 refine(amM (n:=9)).1 ?_;refine an4 Tryz.func371 rfl trivial ?_ rfl;simp only[Tryz.ntmps371,amP,ak4,alq,Nat.reduceAdd,Nat.reduceSub,amW,amX,anj,am1,alN,alT];have q:Below w.heap.size w ((w.alloc (.cells #[.int .i64 0,.string ⟨#[]⟩] 372)).alloc (.cells #[.int .i64 0] 41)):=((amh _ w).alloc (ak7 _) _).alloc (by simp) _;have H:=Q _ q;have y:((w.alloc (.cells #[.int .i64 0,.string ⟨#[]⟩] 372)).alloc (.cells #[.int .i64 0] 41)).heap[w.heap.size]?=some (.cells #[.int .i64 0,.string ⟨#[]⟩] 372 (0,0)):=by rw[bP,bP,alJ (by simp),ali rfl]
 have N:((w.alloc (.cells #[.int .i64 0,.string ⟨#[]⟩] 372)).alloc (.cells #[.int .i64 0] 41)).heap[w.heap.size+1]?=some (.cells #[.int .i64 0] 41 (0,0)):=by rw[bP,ali (by simp)]
 obtain⟨C,P⟩:∃C,(⟨c.toArray⟩:ByteArray)=C:=⟨_,rfl⟩;obtain⟨D,r⟩:∃D,Tryz.decV (bif A then((b,c),0) else((0,[]),6))=D:=⟨_,rfl⟩;rw[P]at f J;rw[r];have S:Hid (Tryz.decV (bif A then((b,c),0) else((0,[]),6))=D):=r;clear Q r;cases A
 all_goals (
  gi_wp2_with (first
   |(refine⟨trivial,?_⟩;gi_at_call 368;refine(amM.2 H).mono ?_;rintro e s ⟨V,d,rfl,i,M,_,I⟩
     have U:=f (s.alloc (Obj.cells #[Value.func (Fn.func x) #[] d,Value.int IntKind.i64 0] 536)) ((q.trans (i.mono (by simp;omega))).alloc (by have:=i.size;simp at this;omega) _);have L:=J s I ((s.alloc (.cells #[.func (.func x) #[] d,.int .i64 0] 536)).alloc (.cells #[.int .i64 b,.string C] 372)) (((amh _ s).alloc (ak7 _) _).alloc (by simp) _);have z:((s.alloc (.cells #[.func (.func x) #[] d,.int .i64 0] 536)).alloc (.cells #[.int .i64 b,.string C] 372)).heap[s.heap.size+1]?=some (.cells #[.int .i64 b,.string C] 372 (0,0)):=by rw[bP,ali (by simp)]
     clear J f)
   |(refine⟨trivial,?_⟩;gi_at_call 367;refine(amM.2 L).mono ?_;rintro e O ⟨rfl,v⟩
     have B:=(gI.of_below ((i.alloc i.size (.cells #[.func (.func x) #[] d,.int .i64 0] 536)).alloc (by have:=i.size;simp at this⊢;omega) (.cells #[.int .i64 b,.string C] 372)));have g:=gI.of_below v;have E:=Tryz.cell_of (g _ _ _ _ z) 0;have F:=Tryz.cell_of (g _ _ _ _ z) 1;have k:=Tryz.cell_of (g _ _ _ _ (B _ _ _ _ y)) 0;have l:=Tryz.cell_of (g _ _ _ _ (B _ _ _ _ y)) 1;have m:=Tryz.cell_of (g _ _ _ _ (B _ _ _ _ N)) 0;have G:Below w.heap.size w O:=(((q.trans (i.mono (by simp;omega))).alloc (by have:=i.size;simp at this;omega) _).alloc (by have:=i.size;simp at this;simp;omega) _).trans (v.mono (by have:=i.size;simp at this;simp;omega));clear B g;simp at E F k l m))
  have o:=Tryz.three_sets (W:=O) (n0:=w.heap.size) (by rw[k.1];rfl) (by rw[l.1];rfl) (by rw[m.1];rfl);refine Tryz.dec_ret0 rfl rfl (o _ _ _).1 (o _ _ _).2.1 (o _ _ _).2.2 (((G.setCell (p:=⟨w.heap.size,0,none⟩) (ak7 _) _).setCell (p:=⟨w.heap.size,1,none⟩) (ak7 _) _).setCell (p:=⟨w.heap.size+1,0,none⟩) (by simp) _) ?_;have j:=S.out
  first|exact j.symm|(subst P;exact j.symm))
end Go.Proofs
def anG:=@Array.toList_inj
namespace Go.Fw
open Go.RowKit
def Li{P:Program}{G:Gh}{w:World}(F:me G w){t:TypeId}{lk:LK}{z:D}(J:zF P t=some (lk,z)){ok:Bool}{ks vs:List D}{k d:D}{mv E:Value}(h:xk lk z ok ks vs k=some d)(B:Rep G (.pmap ks vs) mv)(I:Rep G k E):
 ∃u,(Instr.lookup t mv E ok).run P w=.ok u w/\Rep G d u:=by
 simp only[Rep]at B;obtain⟨b,M,L,rfl,j,r,x,y⟩:=B;obtain⟨H,_⟩:=F.mimm _ _ j;unfold xk at h;split at h<;>try (cases h;done)
 rename_i e;split at h<;>try (cases h;done)
 split at h<;>try (cases h;done)
 obtain⟨e,o⟩:=F3 e;have A:ks.length=vs.length:=by rw[x.length,y.length];simp
 have g:(ks.zip vs).map (·.1)=ks:=aos omq;have v:(ks.zip vs).map (·.2)=vs:=aot omq;have m:F2 G (ks.zip vs) L:=⟨by rw[g];exact x,by rw[v];exact y⟩;obtain⟨s,p1,p2,K⟩:=Ns r m;have C:∀p∈ks.zip vs,kJ p.1=true:=λp l=>e _ (by rw[<-g];exact alW.2 ⟨p,l,rfl⟩);have q:∀p∈s,kJ p.1=true:=λp l=>C p (p1.subset l);have f:(ks.zip vs).Pairwise λa b=>eX a.1≠eX b.1:=by
  have c:((ks.zip vs).map (·.1)).Pairwise λa b=>eX a≠eX b:=by rw[g];exact o
  rw[List.pairwise_map]at c;exact c
 have i:=uS (z:=z) (ok:=ok) (n:=‹Int›) C;rw[g,v,h]at i;rw[Lg p1.symm f,<-uS q]at i;exact CI J i.symm H p2 K I
def uU{P:Program}{G:Gh}{w c:World}(h:GlobOk P G w)(b:Below w.heap.size w c):GlobOk P G c:=
 ⟨λg a e=>⟨alO (h.1 g a e).1 b.size,(h.1 g a e).2⟩,h.2.below b rfl⟩
def YX{P:Program}{G G':Gh}{w c:World}(h:GlobOk P G w)(a:FW G G' w c):GlobOk P G' c:=
 ⟨λg b e=>⟨alO (h.1 g b e).1 a.below.size,Rep.mono a.le _ _ (h.1 g b e).2⟩,h.2.below a.below rfl⟩
def L8{G G':Gh}{w b:World}(a:FW G G' w b):me G' b:=⟨a.imm,a.mimm,a.siz⟩
def CJ{G:Gh}{w a:World}(h:me G w)(b:Below w.heap.size w a):me G a:=L8 (iU h b)
end Go.Fw
namespace Go.Proofs.Tryz
open Go Go.Fw Go.RowKit
def NB:zF prog 537=some (.i,.agg [.nilf,.int .i64 0]):=krq
def si{f:Nat}{i:Nat}{ds:List D}{G:Gh}{W:World}{a:Array Value}(m:me G W)(l:GlobOk prog G W)(b:af G ds a.toList)
 (h:∀r:Int,0<=r->r<=1114111->cq prog f (.int .i32 r::ds) (.bool (gz i r))):Tryz.HasOK f (gz i) a W:=by
 intro c d r j k;have:=h r j k G c (.int .i32 r::a.toList) (CJ m d) (uU l d) (by simp only[af,Rep];exact⟨_,_,rfl,rfl,b⟩);rw[show(Value.int .i32 r::a.toList).toArray= #[.int .i32 r]++a from by apply anG.1;simp]at this;refine this.mono ?_;rintro e p ⟨v,o,rfl,n,g⟩;simp only[Rep]at g;subst g;exact⟨rfl,n.below⟩
def akk(r:Int)(c:0<=r)(d:r<=1114111):dJ r=some (gz 1 r):=by
 have a:sf r=some (inP r):=by
  unfold sf;rw[ak3 omq,ak3 omq];rfl
 have:∃y,dJ r=some y:=by
  unfold dJ;simp only[a,akX];cases decide (r>=97)<;>cases decide (r<=122)<;>cases decide (r>=65)<;>cases decide (r<=90)<;>cases decide (r>=48)<;>cases decide (r<=57)<;>exact⟨_,rfl⟩
 obtain⟨y,b⟩:=this;show _=some ((dJ r).getD false);rw[b];rfl
def ahb(r a b:Int):bh r a b=some ((bh r a b).getD false):=by
 unfold bh;cases decide (r>=a)<;>rfl
def akl(r:Int):cK r 32 126=some (gz 2 r):=by
 have:∃y,cK r 32 126=some y:=by
  unfold cK;rw[ahb];simp only[akX];cases (bh r 32 126).getD false<;>cases decide (r>=160)<;>exact⟨_,rfl⟩
 obtain⟨y,a⟩:=this;show _=some ((cK r 32 126).getD false);rw[a];rfl
def akm(r:Int):FU r=some (gz 5 r):=by
 show _=some ((FU r).getD false);rw[JL];rfl
def akn(r:Int):dK r=some (gz 6 r):=by
 have:∃y,dK r=some y:=by
  unfold dK;rw[JL];simp only[akX];cases Lib.validRune r<;>exact⟨_,rfl⟩
 obtain⟨y,a⟩:=this;show _=some ((dK r).getD false);rw[a];rfl
def p1(r:Int)(a:0<=r)(b:r<=1114111):cq prog 378 (.int .i32 r::[]) (.bool (gz 1 r)):=by
 obtain⟨_,_,_,h⟩:=fS;obtain⟨v,e,_,c⟩:=h r (gz 1 r) (akk r a b);have e:some ((SV.bool (gz 1 r),([]:List DV)))=some (v,[]):=e;cases e;exact c [.int .i32 r] rfl _ (by simp only[VRs,VR];exact⟨_,_,rfl,rfl,rfl⟩)
def pB(a b:Int)(i:Nat)(d:∀r,gz i r=(bh r a b).getD false)(r:Int)(_:0<=r)(_:r<=1114111):cq prog 390 (.int .i32 r::[.rptr [.int .i32 a] 0,.rptr [.int .i32 b] 0]) (.bool (gz i r)):=by
 obtain⟨_,_,_,h⟩:=cL;obtain⟨v,e,_,c⟩:=h (r,a,b) (gz i r) (by rw[d];exact ahb r a b);have e:some ((SV.bool (gz i r),([]:List DV)))=some (v,[]):=e;cases e;exact c [.int .i32 r,.rc [.int .i32 a] 0,.rc [.int .i32 b] 0] rfl _ (by simp only[VRs,VR];exact⟨_,_,rfl,rfl,_,_,rfl,⟨_,rfl,⟨_,_,rfl,rfl,rfl⟩⟩,_,_,rfl,⟨_,rfl,⟨_,_,rfl,rfl,rfl⟩⟩,rfl⟩)
def p2(r:Int)(_:0<=r)(_:r<=1114111):cq prog 381 (.int .i32 r::[.rptr [dB] 0]) (.bool (gz 2 r)):=by
 obtain⟨_,_,_,h⟩:=em;obtain⟨v,e,_,a⟩:=h ((r,32,126):Int×Int×Int) (gz 2 r) (akl r);have e:some ((SV.bool (gz 2 r),([]:List DV)))=some (v,[]):=e;cases e;exact a [.int .i32 r,.rc [.func (.func 390) [] [.rc [.int .i32 32] 0,.rc [.int .i32 126] 0]] 0] rfl _ (by simp only[VRs,VR,dB,btw];exact⟨_,_,rfl,rfl,_,_,rfl,⟨_,rfl,_,_,rfl,⟨_,_,rfl,rfl,_,_,rfl,⟨_,rfl,_,_,rfl,rfl,rfl⟩,_,_,rfl,⟨_,rfl,_,_,rfl,rfl,rfl⟩,rfl⟩,rfl⟩,rfl⟩)
def p5(r:Int)(_:0<=r)(_:r<=1114111):cq prog 382 (.int .i32 r::[]) (.bool (gz 5 r)):=by
 obtain⟨_,_,_,h⟩:=I4;obtain⟨v,e,_,a⟩:=h r (gz 5 r) (akm r);have e:some ((SV.bool (gz 5 r),([]:List DV)))=some (v,[]):=e;cases e;exact a [.int .i32 r] rfl _ (by simp only[VRs,VR];exact⟨_,_,rfl,rfl,rfl⟩)
def p6(r:Int)(_:0<=r)(_:r<=1114111):cq prog 383 (.int .i32 r::[]) (.bool (gz 6 r)):=by
 obtain⟨_,_,_,h⟩:=fT;obtain⟨v,e,_,a⟩:=h r (gz 6 r) (akn r);have e:some ((SV.bool (gz 6 r),([]:List DV)))=some (v,[]):=e;cases e;exact a [.int .i32 r] rfl _ (by simp only[VRs,VR];exact⟨_,_,rfl,rfl,rfl⟩)
def KV(W:World):Prop:=∃G,me G W/\GlobOk prog G W
variable{Z:Int}
def sj{G:Gh}{w:World}(C:me G w)(o:GlobOk prog G w){h wd i:Nat}{ds:List D}
 (E:xk .i (.agg [.nilf,.int .i64 0]) true lF lG (.int .i64 Z)=some (.tuple [.agg [.func (.func h) [] ds,.int .i64 (wd:Int)],.bool true]))
 (F:∀W a d,me d W->GlobOk prog d W->af d ds a.toList->Tryz.HasOK h (gz i) a W):Tryz.Looks Z h wd (λa W=>Tryz.HasOK h (gz i) a W/\KV W) w:=by
 intro W l;refine(Ma G W [] (CJ C l) (uU o l) rfl).mono ?_;rintro e I ⟨v,d,rfl,m,p⟩;have b:=L8 m;have g:=YX (uU o l) m;obtain⟨u,H,k⟩:=Li b NB E p (show Rep d (.int .i64 Z) (.int .i64 Z) by simp only[Rep]);simp only[Rep,af]at k;obtain⟨q,rfl,M,J,s,⟨n,rfl,N,K,t,⟨f,c,rfl,x,y⟩,O,L,rfl,rfl,rfl⟩,P,r4,rfl,rfl,rfl⟩:=k;have j:=p;simp only[Rep]at j;obtain⟨r,_,_,rfl,_⟩:=j;have z:q= #[.agg n,.bool true]:=anG.1 s;have A:n= #[.func (.func h) f c,.int .i64 wd]:=anG.1 t;have B:f= #[]:=anG.1 x;subst z A B;exact⟨r,c,rfl,m.below,H,F _ _ _ b g y,d,b,g⟩
def abR{G:Gh}{w:World}(q:me G w)(p:GlobOk prog G w)
 (r:xk .i (.agg [.nilf,.int .i64 0]) true lF lG (.int .i64 Z)=some (.tuple [.agg [.nilf,.int .i64 0],.bool false])):Tryz.LooksNo Z w:=by
 intro W f;refine(Ma G W [] (CJ q f) (uU p f) rfl).mono ?_;rintro e t ⟨v,i,rfl,g,h⟩;have c:=L8 g;obtain⟨u,s,b⟩:=Li c NB r h (show Rep i (.int .i64 Z) (.int .i64 Z) by simp only[Rep]);simp only[Rep,af]at b;obtain⟨j,rfl,A,x,l,⟨d,rfl,B,y,m,rfl,C,z,rfl,rfl,rfl⟩,D,r4,rfl,rfl,rfl⟩:=b;have a:=h;simp only[Rep]at a;obtain⟨k,_,_,rfl,_⟩:=a;have n:j= #[.agg d,.bool false]:=anG.1 l;have o:d= #[.nilFunc,.int .i64 0]:=anG.1 m;subst n o;exact⟨k,rfl,g.below,s⟩
def YY(h:Z≠12/\Z≠19/\Z≠20/\Z≠22/\Z≠26/\Z≠28/\Z≠30):
 xk .i (.agg [.nilf,.int .i64 0]) true lF lG (.int .i64 Z)=some (.tuple [.agg [.nilf,.int .i64 0],.bool false]):=by
 have k:∀p∈lF.zip lG,kJ p.1=true:=by intro p a;simp[lF,lG]at a;rcases a with rfl|rfl|rfl|rfl|rfl|rfl|rfl<;>rfl
 have b:xk .i (.agg [.nilf,.int .i64 0]) true lF lG (.int .i64 Z)=na .i (.agg [.nilf,.int .i64 0]) true ((lF.zip lG).map (·.1)) ((lF.zip lG).map (·.2)) (.int .i64 Z):=rfl;rw[b,uS k];obtain⟨c,d,e,f,g,i,j⟩:=h;have:kx Z (lF.zip lG)=none:=by
  simp[lF,lG,kx,eX,c.symm,d.symm,e.symm,f.symm,g.symm,i.symm,j.symm]
 rw[this];rfl
def Lj(N:Nat)(a:Int)(T:List UInt8)(d:Bool)(h:ip N (a,T)=some d):∀c,KV c->∀b,Below c.heap.size c b->
 Calls prog 367 #[.agg #[.int .i64 a,.string ⟨T.toArray⟩]] b λe i=>e=.returned (.bool d)/\Below b.heap.size b i:=by
 rintro c ⟨G,l,k⟩ b f;obtain⟨_,_,_,m⟩:=oQ N;obtain⟨v,e,_,j⟩:=m ((a,T):Int×Bs) d h;have e:some ((SV.bool d,([]:List DV)))=some (v,[]):=e;cases e;have o:=j [.agg [.int .i64 a,.str T]] rfl [.agg [.int .i64 a,.str T]] (by simp only[VRs,VR];exact⟨_,_,rfl,⟨_,rfl,_,_,rfl,rfl,_,_,rfl,rfl,rfl⟩,rfl⟩);refine(o G b [.agg #[.int .i64 a,.string ⟨T.toArray⟩]] (CJ l f) (uU k f) (by simp only[af,Rep];exact⟨_,_,rfl,⟨_,rfl,_,_,rfl,rfl,_,_,rfl,rfl,rfl⟩,rfl⟩)).mono ?_;rintro e q ⟨v,p,rfl,n,g⟩;simp only[SV.can,Rep]at g;subst g;exact⟨rfl,n.below⟩
end Go.Proofs.Tryz
namespace Go.Proofs.Tryz
open Go Go.Fw Go.RowKit
def Tg{G:Gh}{w:World}(e:me G w){b:Nat}:∀{xs:List UInt8}{o:Nat},Cells G b o (bH mA xs)->∀(j:Nat) x,xs[j]?=some x->w.cell? ⟨b,o+j,none⟩=some (.int .u8 (x.toNat:Int))
 |[],_,_,j,x,a=>by simp at a
 |y::c,o,h,j,x,a=>by
  rw[show bH mA (y::c)=.int .u8 (y.toNat:Int)::bH mA c from mA.fcons y c]at h;simp only[Cells]at h;obtain⟨⟨v,f,d⟩,g⟩:=h;cases j with
  |zero=>
   simp at a;subst a;simp only[Rep]at d;rw[anx,e.imm _ _ _ f,d]
  |succ j=>
   have:=Tg e g j x (by simpa using a);rw[show o+(j+1)=o+1+j from omq];exact this
variable{Z:Nat}
def Ga{a:Option Addr}{c:List UInt8}{w:World}
 (h:(∃b o,a=some ⟨b,o,none⟩/\∀j x,c[j]?=some x->w.cell? ⟨b,o+j,none⟩=some (.int .u8 (x.toNat:Int)))∨c=[])(W:World)(l:Below w.heap.size w W):
 (convert 22 9 (.slice a c.length Z)).run prog W=.ok (.string ⟨c.toArray⟩) W:=by
 have g:∀x:Addr,(∀j (d:j<c.length),W.cell? (x.add j)=some (.int .u8 (c[j].toNat:Int)))->(convert 22 9 (.slice (some x) c.length Z)).run prog W=.ok (.string ⟨c.toArray⟩) W:=λx f=>
  run_convert_bytes_back W 22 9 5 x Z c krq krq krq f
 rcases h with⟨b,o,rfl,f⟩|rfl
 ·refine g _ λj d=> ?_;have i:=f j _ (akZ d);have k:=(l.cell (p:=⟨b,o+j,none⟩) (ed i)).trans i;have e:(⟨b,o,none⟩:Addr).add j=⟨b,o+j,none⟩:=by cases j<;>simp[Addr.add]
  rw[e];exact k
 ·cases a with
  |none=>exact Lib.run_convert_nil_bytes W 22 9 5 Z krq krq krq
  |some x=>exact g x λj d=>absurd d (an8 _)
def ND(c:List UInt8)(wd m:Nat):Lib.byteCells (vq c wd m)=Tryz.accC c wd m (List.finRange m):=by
 unfold vq Tryz.accC;induction List.finRange m with
 |nil=>rfl
 |cons x b a=>
  rw[aol,aol,<-a,<-Lib.byteCells_encodeRune];simp[Lib.byteCells]
structure Arg(w:World)(a:Option Addr)(c:List UInt8)(cap:Nat):Prop where
 le:c.length<=cap
 max:cap<=9223372036854775807
 cells:(∃b o,a=some ⟨b,o,none⟩/\∀j x,c[j]?=some x->w.cell? ⟨b,o+j,none⟩=some (.int .u8 (x.toNat:Int)))∨c=[]
def tg{N i wd p:Nat}{d:Int}{c:List UInt8}{a:Option Addr}{w:World}{y:(Int×List UInt8)×Int}(n:Arg w a c Z)(u:c.length<=35184372088831)(B:1<=wd)
 (H:∀l w,(callFunc p l).run prog w=.ok (.enter p l) w)
 (E:Tryz.Looks d p wd (λq W=>Tryz.HasOK p (gz i) q W/\KV W) w)(k:Dx N i wd d c=some y):
 Calls prog 371 #[.int .i64 d,.slice a c.length Z] w λe K=>e=.returned (Tryz.decV y)/\Below w.heap.size w K:=by
 unfold Dx at k;cases z:Nat.beq (c.length % wd) 0 with
 |false=>
  rw[z]at k;cases k;have C:¬c.length % wd=0:=λh=>by rw[h]at z;cases z
  exact Tryz.dec_rem d a c.length Z p wd _ w (by
   rcases alf 1 wd with h|h
   ·exact h
   ·exfalso;obtain rfl:wd=1:=omq;exact C (Nat.mod_one _)) C E
 |true=>
  rw[z]at k;have C:c.length % wd=0:=amp z;obtain⟨m,D⟩:∃m,c.length / wd=m:=⟨_,rfl⟩;have g:c.length=m*wd:=by rw[<-D,Nat.mul_comm];exact(Nat.mul_div_cancel' (Nat.dvd_of_mod_eq_zero C)).symm
  rw[D]at k;have v:m<=35184372088831:=amo (by rw[<-D];exact Nat.div_le_self _ _) u;obtain⟨b,o,A,s,f⟩:∃b o,(m=0∨a=some ⟨b,o,none⟩)/\(0<m->b<w.heap.size)/\∀(j:Nat) x,c[j]?=some x->w.cell? ⟨b,o+j,none⟩=some (.int .u8 (x.toNat:Int)):=by
   rcases n.cells with⟨b,o,rfl,I⟩|rfl
   ·refine⟨b,o,.inr rfl,λh=> ?_,I⟩;have L:0<c.length:=by rw[g];exact ao4 h omq
    exact ed (I 0 _ (akZ L))
   ·have:m=0:=by rw[<-D];simp
    exact⟨0,0,.inl this,λh=>omq,λj x h=>by simp at h⟩
  have r:((List.finRange m).all λx=>adY i c wd x.val)=((List.finRange m).all λx=>Tryz.goodU c wd (gz i) x.val):=rfl;rw[r]at k;cases t:((List.finRange m).all λx=>Tryz.goodU c wd (gz i) x.val) with
  |true=>
   rw[t]at k;obtain⟨J,F,G⟩:=amK.1 k;have:=Tryz.dec_try d a b o Z m wd c p KV (gz i) w B g (g▸n.le) n.max v A s f (Ga n.cells) H E (vq c wd m) (ND c wd m) J (λ_=>Lj N d _ J F);rw[t]at this;rw[<-G];exact this
  |false=>
   rw[t]at k;have:=Tryz.dec_try d a b o Z m wd c p KV (gz i) w B g (g▸n.le) n.max v A s f (Ga n.cells) H E (vq c wd m) (ND c wd m) true (λh=>by rw[t]at h;cases h);rw[t]at this;cases k;exact this
def YZ(N:Nat)(b:Int)(c:List UInt8)(y:(Int×List UInt8)×Int)(d:aI N b c=some y){G:Gh}{w:World}(m:me G w)(l:GlobOk prog G w){a:Option Addr}(n:Arg w a c Z):
 Calls prog 371 #[.int .i64 b,.slice a c.length Z] w λe B=>e=.returned (Tryz.decV y)/\Below w.heap.size w B:=by
 rw[wq]at d;unfold XX at d;cases x:Nat.ble c.length 35184372088831 with
 |false=>rw[x]at d;cases d
 |true=>
  have g:=alb x;rw[x]at d;simp only[ala]at d;by_cases o:b=12
  ·subst o;rw[ali rfl]at d;obtain⟨A,z,rfl⟩:=amK.1 d;exact Tryz.dec_utf 12 a Z 382 c KV (λf W=>Tryz.HasOK 382 (gz 5) f W) w (Ga n.cells) (sj (i:=5) (ds:=[]) (wd:=0) m l rfl λW f v h j k=>si h j k p5) A (Lj N 12 c A z)
  rw[alJ o]at d;by_cases p:b=19
  ·subst p;rw[ali rfl]at d;exact tg n g deq (anu Tryz.func378 krq rfl) (sj (i:=1) (ds:=[]) (wd:=1) m l rfl λW f v h j k=>si h j k p1) d
  rw[alJ p]at d;by_cases q:b=20
  ·subst q;rw[ali rfl]at d;exact tg n g deq (anu Tryz.func381 krq rfl) (sj (i:=2) (ds:=[.rptr [dB] 0]) (wd:=1) m l rfl λW f v h j k=>si h j k p2) d
  rw[alJ q]at d;by_cases r:b=22
  ·subst r;rw[ali rfl]at d;exact tg n g deq (anu Tryz.func390 krq rfl) (sj (i:=3) (ds:=[.rptr [.int .i32 0] 0,.rptr [.int .i32 127] 0]) (wd:=1) m l rfl λW f v h j k=>si h j k (pB 0 127 3 λ_=>rfl)) d
  rw[alJ r]at d;by_cases s:b=26
  ·subst s;rw[ali rfl]at d;exact tg n g deq (anu Tryz.func390 krq rfl) (sj (i:=4) (ds:=[.rptr [.int .i32 32] 0,.rptr [.int .i32 126] 0]) (wd:=1) m l rfl λW f v h j k=>si h j k (pB 32 126 4 λ_=>rfl)) d
  rw[alJ s]at d;by_cases t:b=28
  ·subst t;rw[ali rfl]at d;exact tg n g deq (anu Tryz.func382 krq rfl) (sj (i:=5) (ds:=[]) (wd:=4) m l rfl λW f v h j k=>si h j k p5) d
  rw[alJ t]at d;by_cases u:b=30
  ·subst u;rw[ali rfl]at d;exact tg n g deq (anu Tryz.func383 krq rfl) (sj (i:=6) (ds:=[]) (wd:=2) m l rfl λW f v h j k=>si h j k p6) d
  rw[alJ u]at d;cases d;exact Tryz.dec_none b a c.length Z w (abR m l (YY ⟨o,p,q,r,s,t,u⟩))
def aeF:fI prog 371:=(eY (f:=371) (fn:=f371) krq).2
def L9(N:Nat):cD prog 371 (BF N):=by
 refine⟨aeF,rfl,rfl,λ(x:Int×List UInt8)(y:(Int×List UInt8)×Int) n=> ?_⟩;obtain⟨d,c⟩:=x;have n:aI N d c=some y:=n;obtain⟨⟨D,E⟩,v⟩:=y;refine⟨.tup [.agg [.int .i64 D,.str E],.int .i64 v],rfl,λ_ _=>by simp only[SV.can,SV.cans,VR,VRs];exact⟨_,rfl,_,_,rfl,⟨_,rfl,_,_,rfl,rfl,_,_,rfl,rfl,rfl⟩,_,_,rfl,rfl,rfl⟩,?_⟩;intro K m F g;cases m;simp only[VRs]at g;obtain⟨z,_,rfl,i,d2,_,rfl,q,rfl⟩:=g;intro G w u j A r;have i:z=.int .i64 d:=by simpa only[kV,VR] using i
 simp only[kV,VR]at q;obtain⟨H,rfl,_⟩:=q;subst i;simp only[af]at r;obtain⟨I,_,rfl,s,J,_,rfl,t,rfl⟩:=r;simp only[Rep]at s t;subst s;obtain⟨a,h,rfl,k,l,_,f⟩:=t;have B:Arg w a c h:=⟨k,l,by
  rcases f with⟨b,o,rfl,f⟩|f
  ·exact .inl ⟨b,o,rfl,Tg j f⟩
  ·refine .inr ?_;cases c with
   |nil=>rfl
   |cons y p=>rw[show TC.flat .byte (y::p)=.int .u8 (y.toNat:Int)::bH mA p from mA.fcons y p]at f;cases f⟩
 refine(YZ N d c _ n j A B).mono ?_;rintro e L ⟨rfl,C⟩;refine⟨_,G,rfl,iU j C,?_⟩;simp only[SV.can,SV.cans,Tryz.decV,Rep,af];exact⟨_,rfl,_,_,rfl,⟨_,rfl,_,_,rfl,rfl,_,_,rfl,rfl,rfl⟩,_,_,rfl,rfl,rfl⟩
end Go.Proofs.Tryz
namespace Go.Proofs.Tryz
open Go Go.Fw
def Bq:List D:=((D.int IntKind.i64 0)::((D.int IntKind.i64 9)::((D.int IntKind.i64 14)::((D.int IntKind.i64 15)::((D.int IntKind.i64 17)::((D.int IntKind.i64 18)::((D.int IntKind.i64 19)::((D.int IntKind.i64 20)::((D.int IntKind.i64 21)::((D.int IntKind.i64 24)::((D.int IntKind.i64 27)::((D.int IntKind.i64 28)::((D.int IntKind.i64 29)::((D.int IntKind.i64 30)::((D.int IntKind.i64 31)::((D.int IntKind.i64 32)::((D.int IntKind.i64 33)::((D.int IntKind.i64 35)::((D.int IntKind.i64 36)::((D.int IntKind.i64 37)::((D.int IntKind.i64 46)::((D.int IntKind.i64 54)::((D.int IntKind.i64 101)::((D.int IntKind.i64 111)::[]))))))))))))))))))))))))
def Br:List D:=((D.agg ((D.str [])::((D.str (111::(112::(97::(113::(117::(101::[])))))))::((D.iface 283 (D.agg ((D.func (Fn.func 152) [] [])::((D.func (Fn.func 165) [] [])::((D.func (Fn.func 166) [] [])::[])))))::[]))))::((D.agg ((D.str (50::(46::(53::(46::(50::(57::(46::(57::[])))))))))::((D.str (83::(117::(98::(106::(101::(99::(116::(68::(105::(114::(101::(99::(116::(111::(114::(121::(65::(116::(116::(114::(105::(98::(117::(116::(101::(115::[])))))))))))))))))))))))))))::((D.iface 301 (D.agg ((D.func (Fn.func 167) [] [])::((D.func (Fn.func 168) [] [])::((D.func (Fn.func 169) [] [])::[])))))::[]))))::((D.agg ((D.str (50::(46::(53::(46::(50::(57::(46::(49::(52::[]))))))))))::((D.str (83::(117::(98::(106::(101::(99::(116::(75::(101::(121::(73::(100::(101::(110::(116::(105::(102::(105::(101::(114::[])))))))))))))))))))))::((D.iface 283 (D.agg ((D.func (Fn.func 152) [] [])::((D.func (Fn.func 170) [] [])::((D.func (Fn.func 171) [] [])::[])))))::[]))))::((D.agg ((D.str (50::(46::(53::(46::(50::(57::(46::(49::(53::[]))))))))))::((D.str (75::(101::(121::(85::(115::(97::(103::(101::[])))))))))::((D.iface 304 (D.agg ((D.func (Fn.func 153) [] [])::((D.func (Fn.func 172) [] [])::((D.func (Fn.func 173) [] [])::[])))))::[]))))::((D.agg ((D.str (50::(46::(53::(46::(50::(57::(46::(49::(55::[]))))))))))::((D.str (83::(117::(98::(106::(101::(99::(116::(65::(108::(116::(78::(97::(109::(101::[])))))))))))))))::((D.iface 280 (D.agg ((D.func (Fn.func 154) [] [])::((D.func (Fn.func 155) [] [])::((D.func (Fn.func 156) [] [])::[])))))::[]))))::((D.agg ((D.str (50::(46::(53::(46::(50::(57::(46::(49::(56::[]))))))))))::((D.str (73::(115::(115::(117::(101::(114::(65::(108::(116::(78::(97::(109::(101::[]))))))))))))))::((D.iface 280 (D.agg ((D.func (Fn.func 154) [] [])::((D.func (Fn.func 155) [] [])::((D.func (Fn.func 156) [] [])::[])))))::[]))))::((D.agg ((D.str (50::(46::(53::(46::(50::(57::(46::(49::(57::[]))))))))))::((D.str (66::(97::(115::(105::(99::(67::(111::(110::(115::(116::(114::(97::(105::(110::(116::(115::[])))))))))))))))))::((D.iface 310 (D.agg ((D.func (Fn.func 174) [] [])::((D.func (Fn.func 175) [] [])::((D.func (Fn.func 176) [] [])::[])))))::[]))))::((D.agg ((D.str (50::(46::(53::(46::(50::(57::(46::(50::(48::[]))))))))))::((D.str (67::(82::(76::(78::(117::(109::(98::(101::(114::[]))))))))))::((D.iface 283 (D.agg ((D.func (Fn.func 152) [] [])::((D.func (Fn.func 157) [] [])::((D.func (Fn.func 158) [] [])::[])))))::[]))))::((D.agg ((D.str (50::(46::(53::(46::(50::(57::(46::(50::(49::[]))))))))))::((D.str (67::(82::(76::(82::(101::(97::(115::(111::(110::[]))))))))))::((D.iface 304 (D.agg ((D.func (Fn.func 153) [] [])::((D.func (Fn.func 177) [] [])::((D.func (Fn.func 178) [] [])::[])))))::[]))))::((D.agg ((D.str (50::(46::(53::(46::(50::(57::(46::(50::(52::[]))))))))))::((D.str (73::(110::(118::(97::(108::(105::(100::(105::(116::(121::(68::(97::(116::(101::[])))))))))))))))::((D.iface 314 (D.agg ((D.func (Fn.func 179) [] [])::((D.func (Fn.func 180) [] [])::((D.func (Fn.func 181) [] [])::[])))))::[]))))::((D.agg ((D.str (50::(46::(53::(46::(50::(57::(46::(50::(55::[]))))))))))::((D.str (66::(97::(115::(101::(67::(82::(76::(78::(117::(109::(98::(101::(114::[]))))))))))))))::((D.iface 283 (D.agg ((D.func (Fn.func 152) [] [])::((D.func (Fn.func 157) [] [])::((D.func (Fn.func 158) [] [])::[])))))::[]))))::((D.agg ((D.str (50::(46::(53::(46::(50::(57::(46::(50::(56::[]))))))))))::((D.str (73::(115::(115::(117::(105::(110::(103::(68::(105::(115::(116::(114::(105::(98::(117::(116::(105::(111::(110::(80::(111::(105::(110::(116::[])))))))))))))))))))))))))::((D.iface 320 (D.agg ((D.func (Fn.func 182) [] [])::((D.func (Fn.func 183) [] [])::((D.func (Fn.func 184) [] [])::[])))))::[]))))::((D.agg ((D.str (50::(46::(53::(46::(50::(57::(46::(50::(57::[]))))))))))::((D.str (67::(101::(114::(116::(105::(102::(105::(99::(97::(116::(101::(73::(115::(115::(117::(101::(114::[]))))))))))))))))))::((D.iface 280 (D.agg ((D.func (Fn.func 154) [] [])::((D.func (Fn.func 155) [] [])::((D.func (Fn.func 156) [] [])::[])))))::[]))))::((D.agg ((D.str (50::(46::(53::(46::(50::(57::(46::(51::(48::[]))))))))))::((D.str (78::(97::(109::(101::(67::(111::(110::(115::(116::(114::(97::(105::(110::(116::(115::[]))))))))))))))))::((D.iface 326 (D.agg ((D.func (Fn.func 185) [] [])::((D.func (Fn.func 186) [] [])::((D.func (Fn.func 187) [] [])::[])))))::[]))))::((D.agg ((D.str (50::(46::(53::(46::(50::(57::(46::(51::(49::[]))))))))))::((D.str (67::(82::(76::(68::(105::(115::(116::(114::(105::(98::(117::(116::(105::(111::(110::(80::(111::(105::(110::(116::(115::[]))))))))))))))))))))))::((D.iface 289 (D.agg ((D.func (Fn.func 159) [] [])::((D.func (Fn.func 160) [] [])::((D.func (Fn.func 161) [] [])::[])))))::[]))))::((D.agg ((D.str (50::(46::(53::(46::(50::(57::(46::(51::(50::[]))))))))))::((D.str (67::(101::(114::(116::(105::(102::(105::(99::(97::(116::(101::(80::(111::(108::(105::(99::(105::(101::(115::[]))))))))))))))))))))::((D.iface 332 (D.agg ((D.func (Fn.func 188) [] [])::((D.func (Fn.func 189) [] [])::((D.func (Fn.func 190) [] [])::[])))))::[]))))::((D.agg ((D.str (50::(46::(53::(46::(50::(57::(46::(51::(51::[]))))))))))::((D.str (80::(111::(108::(105::(99::(121::(77::(97::(112::(112::(105::(110::(103::(115::[])))))))))))))))::((D.iface 338 (D.agg ((D.func (Fn.func 191) [] [])::((D.func (Fn.func 192) [] [])::((D.func (Fn.func 193) [] [])::[])))))::[]))))::((D.agg ((D.str (50::(46::(53::(46::(50::(57::(46::(51::(53::[]))))))))))::((D.str (65::(117::(116::(104::(111::(114::(105::(116::(121::(75::(101::(121::(73::(100::(101::(110::(116::(105::(102::(105::(101::(114::[])))))))))))))))))))))))::((D.iface 344 (D.agg ((D.func (Fn.func 194) [] [])::((D.func (Fn.func 195) [] [])::((D.func (Fn.func 196) [] [])::[])))))::[]))))::((D.agg ((D.str (50::(46::(53::(46::(50::(57::(46::(51::(54::[]))))))))))::((D.str (80::(111::(108::(105::(99::(121::(67::(111::(110::(115::(116::(114::(97::(105::(110::(116::(115::[]))))))))))))))))))::((D.iface 350 (D.agg ((D.func (Fn.func 197) [] [])::((D.func (Fn.func 198) [] [])::((D.func (Fn.func 199) [] [])::[])))))::[]))))::((D.agg ((D.str (50::(46::(53::(46::(50::(57::(46::(51::(55::[]))))))))))::((D.str (69::(120::(116::(75::(101::(121::(85::(115::(97::(103::(101::[]))))))))))))::((D.iface 356 (D.agg ((D.func (Fn.func 200) [] [])::((D.func (Fn.func 201) [] [])::((D.func (Fn.func 202) [] [])::[])))))::[]))))::((D.agg ((D.str (50::(46::(53::(46::(50::(57::(46::(52::(54::[]))))))))))::((D.str (70::(114::(101::(115::(104::(101::(115::(116::(67::(82::(76::[]))))))))))))::((D.iface 289 (D.agg ((D.func (Fn.func 159) [] [])::((D.func (Fn.func 160) [] [])::((D.func (Fn.func 161) [] [])::[])))))::[]))))::((D.agg ((D.str (50::(46::(53::(46::(50::(57::(46::(53::(52::[]))))))))))::((D.str (73::(110::(104::(105::(98::(105::(116::(65::(110::(121::(80::(111::(108::(105::(99::(121::[])))))))))))))))))::((D.iface 304 (D.agg ((D.func (Fn.func 153) [] [])::((D.func (Fn.func 203) [] [])::((D.func (Fn.func 204) [] [])::[])))))::[]))))::((D.agg ((D.str (49::(46::(51::(46::(54::(46::(49::(46::(53::(46::(53::(46::(55::(46::(49::(46::(49::[]))))))))))))))))))::((D.str (65::(117::(116::(104::(111::(114::(105::(116::(121::(73::(110::(102::(111::(65::(99::(99::(101::(115::(115::[]))))))))))))))))))))::((D.iface 295 (D.agg ((D.func (Fn.func 162) [] [])::((D.func (Fn.func 163) [] [])::((D.func (Fn.func 164) [] [])::[])))))::[]))))::((D.agg ((D.str (49::(46::(51::(46::(54::(46::(49::(46::(53::(46::(53::(46::(55::(46::(49::(46::(49::(49::[])))))))))))))))))))::((D.str (83::(117::(98::(106::(101::(99::(116::(73::(110::(102::(111::(65::(99::(99::(101::(115::(115::[]))))))))))))))))))::((D.iface 295 (D.agg ((D.func (Fn.func 162) [] [])::((D.func (Fn.func 163) [] [])::((D.func (Fn.func 164) [] [])::[])))))::[]))))::[]))))))))))))))))))))))))
def lH(P:Program):KOk P noK:=bL P
def abU:cq prog 135 [] (.cmap Bq Br):=Dq (n:=20) tok (bL _) mixed rfl krq krq krq
end Go.Proofs.Tryz
namespace Go.Fw
open Go.RowKit
section
variable {P:Program}{N:Nat}{all:Array Oper}{o:Oper}{r:List Oper}{τ τ' :Env}{σ σ' :Sto}{Kt:Env→Sto→Prop}
variable{Z:List Nat}{Y:Operand}
def abX{t l:Nat}{ks vs:List D}{f:Option Nat}(c:bw all τ o=some true)(n:o.op=.next Y false)(hit:ev τ Y=some (.ptr l 0 0))(m:σ[l]?=some (.miter ks vs Z f))
 (hd:o.dst=some t)(p:Nat.blt t N=true)(e:Z=[]->eR P N all r ((t,.tuple [.bool false])::τ) σ Kt)
 (g:∀i a b,i∈Z->ks[i]?=some a->vs[i]?=some b->eR P N all r ((t,.tuple [.bool true,a,b])::τ) (σ.set l (.miter ks vs (Z.filter (· !=i)) (some i))) Kt):eR P N all (o::r) τ σ Kt:=by
 have h:∀d,eg N o.dst d τ=some ((t,d)::τ):=λd=>by
  unfold eg;rw[hd];simp only;exact ali (alb p)
 refine .inl ⟨c,(Zm n hit m).mono ?_⟩;rintro d s (⟨c,rfl,rfl⟩|⟨i,a,b,c,j,k,rfl,rfl⟩)
 ·exact⟨_,h _,e c⟩
 ·exact⟨_,h _,g i a b c j k⟩
def aeJ{T:Tys}{K:FuncId->List D->Option D}{l i:Nat}{ks vs:List D}{a b:D}(hit:ev τ Y=some (.ptr l 0 0))(e:σ[l]?=some (.miter ks vs Z (some i)))
 (c:ks[i]?=some a)(d:vs[i]?=some b):opE T K τ σ (.entry Y)=some (.tuple [a,b],σ):=by
 simp[opE,aop,RQ,hit,Nm,e,c,d]
def goC{T:Tys}(tok:TOk T P){c:Call}{f:FuncId}{ds a:List D}{d:D}(b:bw all τ o=some true)(k:o.op=.call c)(i:lI T τ c=some (f,ds))(l:xh σ ds=some (a,σ'))
 (j:fI P f)(h:cq P f a d)(e:eg N o.dst d τ=some τ')(g:eR P N all r τ' σ' Kt):eR P N all (o::r) τ σ Kt:=
 .inl ⟨b,(Ti tok k i l j (h.acall _)).mono (by rintro m s ⟨rfl,rfl⟩;exact⟨τ',e,g⟩)⟩
end
end Go.Fw
namespace Go.Proofs.Tryz
open Go Go.Fw
set_option maxHeartbeats 1000000
def ahh:fI prog 135:=(eY (f:=135) (fn:=f135) krq).2
def ne:List (List UInt8):=Br.map λd=>match d with|.agg (.str s::_)=>s|_=>[]
def th:List Int:=Bq.map λd=>match d with|.int _ n=>n|_=>0
def uV(s:List UInt8):List (List UInt8)->List Int->Int
 |i::a,n::b=>if i=s then n else uV s a b
 |_,_=>0
def Bt(s:List UInt8):Int:=if s=[] then 0 else uV s ne th
def hit(s:List UInt8)(i:Nat):Bool:=decide (ne[i]?=some s)&&decide (s≠[])
def KI(s:List UInt8)(n:Nat)(τ:Env)(σ:Sto):Prop:=∃l a b,get τ 0=some (.str s)/\get τ 6=some (.ptr l 0 0)/\σ[l]?=some (.miter Bq Br a b)/\
 a.length=n/\(∀i,i<24->i ∉ a->hit s i=false)/\(∀i∈a,i<24)
def Zc(i:Nat):Bool:=
 match Bq[i]?,Br[i]?,ne[i]?,th[i]? with
 |some (.int .i64 k),some (.agg [.str id,.str _,.iface _ _]),some a,some b=>decide (id=a)&&decide (k=b)&&decide (uV id ne th=k)
 |_,_,_,_=>false
def abY:(List.range 24).all Zc=true:=krq
def aeK{i:Nat}(q:i<24){a b:D}(n:Bq[i]?=some a)(p:Br[i]?=some b):
 ∃k id e c d,a=.int .i64 k/\b=.agg [.str id,.str e,.iface c d]/\ne[i]?=some id/\th[i]?=some k/\uV id ne th=k:=by
 have h:=alv.1 abY i (anD.2 q);unfold Zc at h;rw[n,p]at h;split at h
 ·rename_i k id e c d s t f g j l;cases f;cases g;simp only[akY,alL]at h;obtain⟨⟨rfl,rfl⟩,m⟩:=h;exact⟨_,_,_,_,_,rfl,rfl,j,l,m⟩
 ·cases h
def Vv(s:List UInt8):∀(a:List (List UInt8))(b:List Int),(∀(i:Nat),a[i]?≠some s)->uV s a b=0
 |[],_,_=>rfl
 |i::a,[],_=>rfl
 |i::a,n::b,h=>by
  have c:i≠s:=λe=>h 0 (by simp[e]);simp only[uV,c,alV];exact Vv s a b λj d=>h (j+1) (by simpa using d)
def aeL:ne.length=24:=krq
def Zd{s id:List UInt8}{n i:Nat}{a:List Nat}{τ:Env}{σ:Sto}(t:a.length=n)(f:∀i,i<24->i ∉ a->hit s i=false)(c:∀i∈a,i<24)(l:i∈a)
 (hid:ne[i]?=some id)(k:hit s i=false)(g:Go.Fw.get τ 0=some (.str s))(h:Go.Fw.get τ 6=some (.ptr 0 0 0))(p:σ[0]?=some (.miter Bq Br (a.filter (· !=i)) (some i))):
 ∃m,m<n/\KI s m τ σ:=by
 refine⟨(a.filter (· !=i)).length,?_,0,_,_,g,h,p,rfl,λj b d=> ?_,λj b=>c j (anP.1 b).1⟩
 ·rw[<-t];exact List.length_filter_lt_length_iff_exists.2 ⟨i,l,by simp⟩
 ·by_cases e:j=i
  ·subst e;exact k
  ·exact f j b λq=>d (anP.2 ⟨q,by simpa using e⟩)
def aeM(s:List UInt8):cq prog 134 [.str s] (.int .i64 (Bt s)):=by
 refine adP (i:=0) tok func134 rfl rfl rfl ?_
 repeat first|refine cV ?_|refine bJ ?_
 refine go1 tok (lH _) rfl rfl rfl ?_
 repeat first|refine cV ?_|refine bJ ?_
 refine goC tok rfl rfl rfl rfl ahh abU rfl ?_;refine go1 tok (lH _) rfl rfl rfl ?_
 repeat first|refine cV ?_|refine bJ ?_|refine BY ?_
 refine aa7 (KI s) (n:=24) ⟨0,List.range 24,none,rfl,rfl,rfl,rfl,λi c y=>absurd (anD.2 c) y,λi c=>anD.1 c⟩ ?_;rintro n τ σ ⟨l,E,z,A,M,Q,y,p,m⟩;refine AWp.gc [l] (λ_ h=>absurd h (an8 _)) siq (σ':=[.miter Bq Br E z]) (τ':=[(6,.ptr 0 0 0),(0,.str s)]) rfl ?_ ?_ ?_
 ·intro j S T u f
  match j,u,f with
  |0,u,f=>
   simp at u f;subst u f;exact⟨Q,krq⟩
  |j+1,u,_=>simp at u
 ·intro t d q;simp only[Go.Fw.get]at q;split at q
  ·rename_i e;subst e;cases q;exact⟨M,rfl⟩
  ·split at q
   ·rename_i e;subst e;cases q;exact⟨A,rfl⟩
   ·cases q
 repeat first|refine cV ?_|refine bJ ?_
 refine abX rfl rfl rfl rfl rfl rfl (λx=> ?_) (λi a b c H I=> ?_)
 ·refine go1 tok (lH _) rfl rfl rfl ?_;refine cV (jU rfl (Lu ?_))
  repeat first|refine cV ?_|refine bJ ?_
  refine go1 tok (lH _) rfl rfl rfl ?_;subst x;have A:Bt s=0:=by
   unfold Bt;split
   ·rfl
   ·rename_i R;refine Vv s _ _ λi c=> ?_;have w:i<24:=by rw[<-aeL];exact aj c
    have:=p i w siq;simp[hit,c,R]at this
  rw[A];exact nT (ES rfl rfl rfl)
 ·have v:=m i c;refine go1 tok (lH _) rfl rfl rfl ?_;refine cV (pJ rfl (nq ?_));refine BY ?_;have g:∃k id L F G,a=.int .i64 k/\b=.agg [.str id,.str L,.iface F G]/\ne[i]?=some id/\th[i]?=some k/\uV id ne th=k:=aeK v H I;obtain⟨k,id,L,F,G,rfl,rfl,hid,K,D⟩:=g
  repeat first|refine cV ?_|refine bJ ?_
  refine go1 tok (lH _) rfl (aeJ rfl rfl H I) rfl ?_
  repeat refine go1 tok (lH _) rfl rfl rfl ?_
  repeat first|refine cV ?_|refine bJ ?_
  iterate 5 refine go1 tok (lH _) rfl rfl rfl ?_
  cases J:(id==s)
  ·have B:id≠s:=by simpa using J
   refine no1 rfl rfl ?_;refine no1 rfl rfl ?_;refine go1 tok (lH _) rfl rfl rfl ?_;refine jU rfl (nq ?_);exact Zd y p m c hid (by simp[hit,hid,B]) rfl rfl rfl
  ·refine go1 tok (lH _) rfl rfl rfl ?_;refine go1 tok (lH _) rfl rfl rfl ?_;cases C:(s==(⟨#[]⟩:ByteArray).data.toList)
   ·refine go1 tok (lH _) rfl rfl rfl ?_;refine pJ rfl ?_
    repeat first|refine cV ?_|refine bJ ?_
    repeat refine go1 tok (lH _) rfl rfl rfl ?_
    have O:Bt s=k:=by
     have e:id=s:=by simpa using J
     subst e;unfold Bt;rw[alJ (λh=>by subst h;cases C),D]
    rw[O];exact nT (ES rfl rfl rfl)
   ·refine go1 tok (lH _) rfl rfl rfl ?_;refine jU rfl (nq ?_);exact Zd y p m c hid (by simp at C;simp[hit,C]) rfl rfl rfl
end Go.Proofs.Tryz
namespace Go.Fw
def Ua:List (List UInt8):=[[],[50,46,53,46,50,57,46,57],[50,46,53,46,50,57,46,49,52],[50,46,53,46,50,57,46,49,53],[50,46,53,46,50,57,46,49,55],[50,46,53,46,50,57,46,49,56],[50,46,53,46,50,57,46,49,57],[50,46,53,46,50,57,46,50,48],[50,46,53,46,50,57,46,50,49],[50,46,53,46,50,57,46,50,52],[50,46,53,46,50,57,46,50,55],[50,46,53,46,50,57,46,50,56],[50,46,53,46,50,57,46,50,57],[50,46,53,46,50,57,46,51,48],[50,46,53,46,50,57,46,51,49],[50,46,53,46,50,57,46,51,50],[50,46,53,46,50,57,46,51,51],[50,46,53,46,50,57,46,51,53],[50,46,53,46,50,57,46,51,54],[50,46,53,46,50,57,46,51,55],[50,46,53,46,50,57,46,52,54],[50,46,53,46,50,57,46,53,52],[49,46,51,46,54,46,49,46,53,46,53,46,55,46,49,46,49],[49,46,51,46,54,46,49,46,53,46,53,46,55,46,49,46,49,49]]
def GE:List Int:=[0,9,14,15,17,18,19,20,21,24,27,28,29,30,31,32,33,35,36,37,46,54,101,111]
def tp(s:List UInt8):List (List UInt8)->List Int->Int
 |i::a,n::b=>if i=s then n else tp s a b
 |_,_=>0
def CU(s:List UInt8):Int:=if s=[] then 0 else tp s Ua GE
def VV:∃f:List UInt8->Option Int,f=λs=>some (CU s):=⟨_,rfl⟩
noncomputable def aQ:List UInt8->Option Int:=Classical.choose VV
def yn(s:List UInt8):aQ s=some (CU s):=anE (ame VV) s
noncomputable def CV:Ctr:=⟨[.hole .str],.hole (.int .i64),λ(x:List UInt8)=>aQ x⟩
end Go.Fw
namespace Go.Proofs.Tryz
open Go Go.Fw Go.RowKit
def abV:ne=Ua:=krq
def abW:th=GE:=krq
def Vu(s:List UInt8):∀(a:List (List UInt8))(b:List Int),uV s a b=tp s a b
 |[],_=>rfl
 |_::_,[]=>rfl
 |i::a,n::b=>by
  unfold uV tp;rw[Vu s a b]
def Xd(s:List UInt8):Bt s=CU s:=by
 unfold Bt CU;rw[abV,abW,Vu]
def ahg:fI prog 134:=(eY (f:=134) (fn:=f134) krq).2
def NG:cD prog 134 CV:=by
 refine⟨ahg,rfl,rfl,λ(x:List UInt8)(y:Int) b=> ?_⟩;have b:aQ x=some y:=b;rw[yn]at b;cases b;refine⟨.int .i64 (CU x),rfl,λ_ _=>by simp only[SV.can,VR],?_⟩;intro g d f a;cases d;simp only[VRs]at a;obtain⟨e,_,rfl,c,rfl⟩:=a;have c:e=.str x:=by simpa only[kV,VR] using c
 subst c;have:=aeM x;rw[Xd]at this;exact this
end Go.Proofs.Tryz
namespace Go.Fw
open Go Go.Proofs.Tryz
noncomputable section
set_option maxRecDepth 100000
set_option maxHeartbeats 0
attribute [local irreducible] ix app slc cw toB agree fF fH fE ju dD aI aP aQ
abbrev Y0:=Bs×Bs
abbrev Y1:=List Y0
abbrev Y2:=List Y1
abbrev Y3:=Int×Int
abbrev Y4:=Int×Int×Int×Y3
abbrev Y5:=Int×Y4
abbrev Y6:=Bs×Int
abbrev Y7:=Y0×Y6
abbrev Y8:=Bs×Bool×Bs
abbrev Y9:=List Y8
abbrev Y10:=Int×Bs×Y0×Y2×Y5×Y5×Y2×Y7×Bool×Y6×Bool×Y6×Y9
abbrev Y11:=Y10×Y7
abbrev Y12:=List Bs
abbrev Y13:=List Int
abbrev Y14:=Option (Fw.Spot×Y3)
abbrev Y15:=Int×Int×Int×Int×Bool×List Fw.Spot×Int×Int×List Fw.Node×List Fw.Spot×Int×Int×Int×Int×Bool
abbrev Y16:=Int×Bs
abbrev Y17:=Int×Y16
abbrev Y18:=Option Y6
abbrev Y19:=Int×Bool×Y12
abbrev Y20:=Option (Bs×Y3)
abbrev Y21:=Int×Int×Bool×Int×Y3
abbrev Y22:=List Y21
abbrev Y23:=Int×Int×Y12
abbrev Y24:=List (Bs×Y12)
abbrev Y25:=Option (Int×Y3)
abbrev Y26:=Option (Bs×Bool)
abbrev Y27:=Int×Bs×Bs×Bs×Y2×Y16×Y16
abbrev Y28:=Option (Y27×Bool)
abbrev Y29:=Option (Y0×Y3)
abbrev Y30:=List Y27
abbrev Y31:=Option (Int×Bool)
abbrev Y32:=Bool×Bool×Int
abbrev Y33:=Option (Bs×Int×Int×Int×Int×Int×Int×Int×Y5)
abbrev Y34:=Y30×Y1×Bool×Bool×Y32
abbrev Y35:=Int×Int×Bool×Int×Int×Int×Y30
abbrev Y36:=Y30×Y1×Int×Y30
abbrev Y37:=List (Bs×Y1)
abbrev Y38:=Int×Int×Bool×Int×Int×Int×Y0
abbrev Y39:=Y37×Int×Int×Bool×Int×Int×Int×Bs×Y1×Int×Int×Bool×Int×Int×Int×Y38
abbrev Y40:=Int×Int×Bool×Int×Int×Int×Bs×Bs×Y3
abbrev Y41:=Y37×Int×Int×Bool×Int×Int×Int×Bs×Y1×Y21
abbrev Y42:=Y37×Int×Int×Bool×Int×Int×Int×Bs×Y1
abbrev Y43:=Bool×Bs×Y30×Bs
abbrev Y44:=Bool×Int×Bool×Int
abbrev Y45:=List (Bs×Y27)
abbrev Y46:=Int×Bs×Bool×Bs×Int×Y12×Y30×Y43×Y32×Y44×Y37×Y1×(Y30×Y30)×List Y36×Y34×Y45×Y24×Y5
abbrev Y47:=Bool×Bool×Bool×Int×Y3
abbrev Y48:=Y13×Int×Int×Int×Int×Int×Int×Y17
abbrev Y49:=Option (Int×Int×Int×Int×Y17)
abbrev tc0:TC:=.sl .byte
abbrev tc1:TC:=.pair .str tc0
abbrev tc2:TC:=.sl tc1
abbrev tc3:TC:=.pair .str (.pair .bool tc0)
abbrev tc4:TC:=.int .i64
abbrev tc5:TC:=.pair tc4 tc4
abbrev tc6:TC:=.pair tc4 tc5
abbrev tc7:TC:=.pair .bool tc6
abbrev tc8:TC:=.pair tc4 tc7
abbrev tc9:TC:=.pair tc4 tc8
abbrev agm:TC:=.sl .str
abbrev Wx:TC:=.sl tc2
abbrev Sg:TC:=.pair tc4 .str
abbrev ajV:TC:=.pair Sg Sg
abbrev ajW:TC:=.pair Wx ajV
abbrev ajX:TC:=.pair tc0 ajW
abbrev ajY:TC:=.pair .str ajX
abbrev ajZ:TC:=.pair .str ajY
abbrev C7:TC:=.pair tc4 ajZ
abbrev Fk:TC:=.sl C7
abbrev agn:TC:=.pair .bool (.pair tc0 (.pair Fk tc0))
abbrev ago:TC:=.pair .bool tc4
abbrev abb:TC:=.pair .bool ago
abbrev agp:TC:=.pair .bool (.pair tc4 ago)
abbrev rT:TC:=.pair .str tc2
abbrev agq:TC:=.sl rT
abbrev Fl:TC:=.pair .str .str
abbrev agr:TC:=.sl Fl
abbrev ags:TC:=.pair Fk Fk
abbrev aj0:TC:=.pair tc4 Fk
abbrev aj1:TC:=.pair tc2 aj0
abbrev Ou:TC:=.pair Fk aj1
abbrev agt:TC:=.sl Ou
abbrev agu:TC:=.pair Fk (.pair tc2 (.pair .bool (.pair .bool abb)))
abbrev Ov:TC:=.pair .str C7
abbrev agv:TC:=.sl Ov
abbrev agw:TC:=.sl tc0
abbrev Ow:TC:=.pair .str agw
abbrev agx:TC:=.sl Ow
abbrev Wy:TC:=.pair tc4 (.pair tc4 (.pair tc4 tc6))
abbrev aj2:TC:=.pair agx Wy
abbrev aj3:TC:=.pair agv aj2
abbrev aj4:TC:=.pair agu aj3
abbrev aj5:TC:=.pair agt aj4
abbrev aj6:TC:=.pair ags aj5
abbrev aj7:TC:=.pair agr aj6
abbrev aj8:TC:=.pair agq aj7
abbrev aj9:TC:=.pair agp aj8
abbrev aka:TC:=.pair abb aj9
abbrev akb:TC:=.pair agn aka
abbrev akc:TC:=.pair Fk akb
abbrev akd:TC:=.pair agm akc
abbrev ake:TC:=.pair tc4 akd
abbrev akf:TC:=.pair tc0 ake
abbrev akg:TC:=.pair .bool akf
abbrev akh:TC:=.pair .str akg
abbrev Ox:TC:=.pair tc4 akh
abbrev LA:TC:=.int .u64
abbrev Fm:TC:=.int .u32
abbrev Sh:TC:=.pair tc0 tc4
abbrev abc:TC:=.pair tc1 Sh
abbrev agy:TC:=.sl tc3
abbrev abd:TC:=.pair tc4 (.pair tc0 (.pair tc1 (.pair Wx (.pair Wy (.pair Wy (.pair Wx (.pair abc (.pair .bool (.pair Sh (.pair .bool (.pair Sh agy)))))))))))
abbrev Ia:PV:=.hole (.pair abd abc)
abbrev hc0:PV:=.hole tc0
abbrev au:PV:=.hole .bool
abbrev hc1:PV:=.hole tc1
abbrev C8:PV:=.hole Sh
abbrev Si:PV:=.hole LA
abbrev bx:PV:=.hole .str
abbrev Sj:PV:=.hole (.sl Fm)
abbrev abe:PV:=.hole agm
abbrev hc4:PV:=.hole tc4
abbrev Ri:PV:=.hole .spot
abbrev hc5:PV:=.hole tc5
abbrev zr:PV:=.hole (.int .u8)
abbrev agz:PV:=.hole Fm
abbrev jp:PV:=.hole agw
abbrev hc2:PV:=.hole tc2
abbrev fq:PV:=.hole Wx
abbrev tI:PV:=.hole Wy
abbrev Oy:PV:=.hole abc
abbrev hc3:PV:=.hole tc3
abbrev hc9:PV:=.hole tc9
abbrev dW:PV:=.hole (.sl tc9)
abbrev agA:PV:=.hole Ow
abbrev abf:PV:=.hole agx
abbrev JK:PV:=.hole (.pair tc4 tc0)
abbrev Ar:PV:=.hole C7
abbrev abg:PV:=.hole Sg
abbrev kO:PV:=.hole Fk
abbrev adA:PV:=.hole (.pair Fk tc2)
abbrev agB:PV:=.hole agu
abbrev agC:PV:=.hole Ou
abbrev agD:PV:=.hole agt
abbrev Oz:PV:=.hole agq
abbrev Wz:PV:=.hole agr
abbrev agE:PV:=.hole agn
abbrev agF:PV:=.hole Ov
abbrev abh:PV:=.hole agv
abbrev lQ:PV:=.hole agy
abbrev OA:PV:=.hole abd
abbrev adB:PV:=.hole (.sl tc4)
abbrev vZ:PV:=.ilit .i64 0
abbrev vN:PV:=.nils
abbrev vE:PV:=.slit []
abbrev vF:PV:=.blit false
abbrev oo0:PO:=.cells [hc4,hc4] false
abbrev oo1:PO:=.cells [hc4,hc4,hc4,hc4,au,vN,vN,.own 1] false
abbrev oo2:PO:=.cells [hc4,hc4,hc4,hc4,au,vN,.own 5,.own 6] false
abbrev oo3:PO:=.cells [.own 1] false
abbrev oo4:PO:=.cells [hc4,au] false
abbrev oo5:PO:=.cells [vZ,vZ] false
abbrev oo6:PO:=.cells [.ilit .i64 6,hc4] false
abbrev oo7:PO:=.cells [hc0,hc4] false
abbrev oo8:PO:=.cells [vZ,vE,vE,vN,vN,vZ,vE,vZ,vE] false
abbrev oo9:PO:=.cells [vF,vF,vZ] false
abbrev Sk:PO:=.cells [hc0] false
abbrev nt:PO:=.cells [hc4,hc4,hc4,hc4,hc4,hc4] false
abbrev Sl:PO:=.cells [hc4] false
abbrev OB:PO:=.cells [vN,vN,vZ,vN,vF,vF,vF,vF,vF,vF] false
abbrev Sm:PO:=.cells [kO,hc2,hc4,kO,au,au,au,au,au,au] false
abbrev cY:PO:=.cells [hc4,hc4,au,hc4,hc4,hc4] false
abbrev abi:PO:=.cells [hc4,bx,bx,hc0,fq,hc4,bx,hc4,bx] false
abbrev WA:PO:=.cells [vN,vN] false
abbrev abj:PO:=.cells [kO,kO] false
abbrev nY:PO:=.cells [.own 2] false
abbrev Fo:PO:=.cells [bx,.own 7] false
abbrev Ib:PO:=.cells [bx,hc0] false
abbrev abk:PO:=.cells [bx,bx] false
abbrev WB:PO:=.cells [vF,vZ,vF,vZ] false
abbrev abl:PO:=.cells [au,hc4,au,hc4] false
abbrev tJ:PO:=.cells [bx,au,hc0] false
abbrev tK:PO:=.cells [vZ,vE,vF,vN,vZ,vN,vN,vF,vN,vN,vN,vF,vF,vZ,vF,vZ,vF,vZ,vN,vN,vN,vN,vN,vN,vN,vF,vF,vF,vF,vZ,vN,vN,vZ,vZ,vZ,vZ,vZ,vZ] false
abbrev agG:PO:=.cells [hc4,bx,au,vN,vZ,vN,vN,vF,vN,vN,vN,au,au,hc4,vF,vZ,vF,vZ,vN,vN,vN,vN,vN,vN,vN,vF,vF,vF,vF,vZ,vN,vN,vZ,vZ,vZ,vZ,vZ,vZ] false
abbrev agH:PO:=.cells [hc4,bx,au,vN,vZ,vN,vN,vF,vN,vN,vN,vF,vF,vZ,vF,vZ,vF,vZ,vN,vN,vN,vN,vN,vN,vN,vF,vF,vF,vF,vZ,vN,vN,hc4,hc4,hc4,hc4,hc4,hc4] false
abbrev agI:PO:=.cells [hc4,bx,au,vN,vZ,vN,vN,vF,vN,vN,vN,vF,vF,vZ,vF,vZ,vF,vZ,vN,vN,vN,vN,vN,kO,hc2,au,au,au,au,hc4,vN,vN,vZ,vZ,vZ,vZ,vZ,vZ] false
abbrev agJ:PO:=.cells [hc4,bx,au,vN,vZ,vN,vN,vF,vN,vN,vN,vF,vF,vZ,vF,vZ,vF,vZ,vN,vN,kO,kO,vN,vN,vN,vF,vF,vF,vF,vZ,vN,vN,vZ,vZ,vZ,vZ,vZ,vZ] false
abbrev agK:PO:=.cells [hc4,bx,au,vN,vZ,vN,vN,au,hc0,kO,hc0,vF,vF,vZ,vF,vZ,vF,vZ,vN,vN,vN,vN,vN,vN,vN,vF,vF,vF,vF,vZ,vN,vN,vZ,vZ,vZ,vZ,vZ,vZ] false
abbrev agL:PO:=.cells [hc4,bx,au,vN,vZ,vN,vN,vF,vN,vN,vN,vF,vF,vZ,au,hc4,au,hc4,vN,vN,vN,vN,vN,vN,vN,vF,vF,vF,vF,vZ,vN,vN,vZ,vZ,vZ,vZ,vZ,vZ] false
abbrev Fp:PO:=.cells [hc4,hc0,bx,hc0,fq,hc4,hc4,hc4,hc4,hc4,hc4,hc4,hc4,hc4,hc4,hc4,hc4,fq,bx,hc0,hc0,hc4,au,hc0,hc4,au,hc0,hc4,lQ] false
abbrev WC:PO:=.cells [.own 2,hc4] false
abbrev abm:PO:=.cells [bx,au,vN] false
abbrev dX:PO:=.cells [vZ,vN,vE,vN,vN,vZ,vZ,vZ,vZ,vZ,vZ,vZ,vZ,vZ,vZ,vZ,vZ,vN,vE,vN,vN,vZ,vF,vN,vZ,vF,vN,vZ,vN] false
abbrev dw:PO:=.cells [hc0,dW,hc4,hc4] false
abbrev abn:PO:=.cells [hc4,hc0,bx,hc0,fq,hc4,hc4,hc4,hc4,hc4,hc4,hc4,hc4,hc4,hc4,hc4,hc4,vN,vE,vN,vN,vZ,vF,vN,vZ,vF,vN,vZ,vN] false
abbrev abo:PO:=.cells [hc4,vN,vE,vN,vN,vZ,vZ,vZ,vZ,vZ,vZ,vZ,vZ,vZ,vZ,vZ,vZ,vN,vE,vN,vN,vZ,vF,vN,vZ,vF,vN,vZ,vN] false
abbrev abp:PO:=.cells [hc4,hc0,vE,vN,vN,vZ,vZ,vZ,vZ,vZ,vZ,vZ,vZ,vZ,vZ,vZ,vZ,vN,vE,vN,vN,vZ,vF,vN,vZ,vF,vN,vZ,vN] false
abbrev OC:PO:=.cells [vE,vN] false
abbrev abq:PO:=.cells [hc4,hc0,bx,hc0,fq,hc4,hc4,hc4,hc4,hc4,hc4,hc4,hc4,hc4,hc4,hc4,hc4,fq,vE,vN,vN,vZ,vF,vN,vZ,vF,vN,vZ,vN] false
abbrev abr:PO:=.cells [vE,vN,vN,vZ] false
abbrev agM:PO:=.cells [bx,hc0,hc0,hc4] false
abbrev WD:PO:=.cells [hc4,hc0,bx,hc0,fq,hc4,hc4,hc4,hc4,hc4,hc4,hc4,hc4,hc4,hc4,hc4,hc4,fq,bx,hc0,hc0,hc4,vF,vN,vZ,vF,vN,vZ,vN] false
abbrev Ic:PO:=.cells [vN,vZ] false
abbrev WE:PO:=.cells [hc4,hc0,bx,hc0,fq,hc4,hc4,hc4,hc4,hc4,hc4,hc4,hc4,hc4,hc4,hc4,hc4,fq,bx,hc0,hc0,hc4,au,hc0,hc4,vF,vN,vZ,vN] false
abbrev WF:PO:=.cells [vZ,vZ,vF,vZ,vZ,vZ] false
abbrev agN:PO:=.cells [hc4,hc0,bx,hc0,vN,vZ,vZ,vZ,vZ,vZ,vZ,vZ,vZ,vZ,vZ,vZ,vZ,vN,vE,vN,vN,vZ,vF,vN,vZ,vF,vN,vZ,vN] false
abbrev agO:PO:=.cells [hc4,hc0,bx,hc0,fq,hc4,hc4,hc4,hc4,hc4,hc4,hc4,hc4,hc4,hc4,hc4,hc4,fq,bx,hc0,hc0,hc4,au,hc0,hc4,au,hc0,hc4,vN] false
abbrev yq:PO:=.cells [vZ,vN,vE,vN,vN,vZ,vZ,vZ,vZ,vZ,vZ,vZ,vZ,vZ,vZ,vZ,vZ,vN,vE,vN,vN,vZ,vF,vN,vZ,vF,vN,vZ,vN,vE,vN,vN,vZ] false
abbrev abs:PO:=.cells [hc4,hc0,bx,hc0,fq,hc4,hc4,hc4,hc4,hc4,hc4,hc4,hc4,hc4,hc4,hc4,hc4,fq,bx,hc0,hc0,hc4,au,hc0,hc4,au,hc0,hc4,lQ,bx,hc0,hc0,hc4] false
def hHt:Tr TC:=(.node (.node (.node (.node (.node .nil 22 .byte .nil) 26 tc2 .nil) 33 tc3 (.node (.node .nil 56 tc0 .nil) 80 tc1 .nil)) 96 tc9 (.node (.node (.node .nil 128 .node .nil) 147 Ox .nil) 174 LA (.node .nil 178 Fm .nil))) 180 .spot (.node (.node (.node (.node .nil 189 .str .nil) 190 C7 .nil) 197 rT (.node (.node .nil 198 Fl .nil) 201 Ou .nil)) 204 Ov (.node (.node (.node .nil 205 Ow .nil) 359 tc4 .nil) 432 tc1 (.node .nil 518 Sg .nil))))
def hOt:Tr OH:=(.node (.node (.node (.node (.node (.node (.node .nil 458756 (.cells [(0,tc0)]) .nil) 1114116 (.cells [(0,tc0)]) .nil) 1572963 .frzv (.node .nil 1703945 (.cells [(4,.node)]) .nil)) 2555907 (.val .byte) (.node (.node .nil 2621450 .frz .nil) 2686982 (.cells [(0,tc0)]) (.node .nil 2883588 (.val tc0) .nil))) 3145752 .res (.node (.node (.node (.node .nil 3211301 .res .nil) 3735558 (.val tc2) .nil) 4128774 (.val tc3) (.node .nil 4325380 (.val LA) .nil)) 4325441 (.build Fm) (.node (.node .nil 4456450 (.cells [(4,.node)]) .nil) 4456452 (.cells [(7,.spot)]) (.node .nil 5308420 (.val Ox) .nil)))) 5439496 (.val tc0) (.node (.node (.node (.node (.node .nil 5570573 .frz .nil) 5898246 (.cells [(0,tc0)]) .nil) 6029315 (.cells [(4,.node)]) (.node .nil 6094854 (.cells [(0,.byte)]) .nil)) 6291477 (.build .byte) (.node (.node .nil 6357000 (.val tc9) .nil) 6488070 (.val tc1) (.node .nil 6488071 (.val tc0) .nil))) 6684676 (.val .str) (.node (.node (.node .nil 6750210 (.cells [(7,.spot)]) .nil) 6750212 (.cells [(7,.spot)]) (.node .nil 7798788 (.val Fm) .nil)) 7864327 (.build .byte) (.node (.node .nil 7995398 (.build .byte) .nil) 8060938 (.cells [(4,.node)]) (.node .nil 8519688 (.cells [(7,.spot)]) .nil))))) 8519694 (.cells [(7,.spot),(6,.node)]) (.node (.node (.node (.node (.node (.node .nil 8519695 (.cells [(7,.spot)]) .nil) 8519753 (.agg [(6,.node),(7,.spot)]) .nil) 8978435 (.cells [(4,.node)]) (.node .nil 9043997 (.val .byte) .nil)) 9109519 (.val .byte) (.node (.node .nil 9699332 (.cells [(7,.spot)]) .nil) 10158084 (.val tc0) (.node .nil 10223622 (.val C7) .nil))) 10551302 (.val Ou) (.node (.node (.node .nil 12255295 .frzv .nil) 12255297 .frzv (.node .nil 12451844 (.cells [(0,rT)]) .nil)) 12648452 (.cells [(0,Fl)]) (.node (.node .nil 12845138 .frzv .nil) 13238278 (.val .str) (.node .nil 15138824 (.val Ov) .nil)))) 15335432 (.val Ow) (.node (.node (.node (.node (.node .nil 16711688 (.val C7) .nil) 16777221 (.cells [(1,tc1)]) .nil) 17039366 (.cells [(1,tc1)]) (.node .nil 17301510 .frz .nil)) 19333128 (.val .byte) (.node (.node .nil 20119556 (.cells [(1,tc0)]) .nil) 20119558 (.cells [(1,tc0)]) (.node .nil 20119564 (.agg [(1,tc0)]) .nil))) 20316164 (.cells [(1,tc0)]) (.node (.node (.node .nil 20316166 (.cells [(1,tc0)]) .nil) 20840484 .frzv (.node .nil 20840508 .frzv .nil)) 21299203 (.cells [(4,.node)]) (.node (.node .nil 22413315 (.cells [(4,.node)]) .nil) 23265283 (.cells [(4,.node)]) (.node .nil 24182789 (.val tc0) .nil))))))
def B0:Bse:=⟨prog,T,hHt,hOt,tok,mixed⟩
def u2{a b c:Type}(f:a->b->c)(x:a×b):c:=f x.1 x.2
abbrev c1(l:List (KC B0)):Ctx B0:=⟨l,[],[],[],.nil⟩
def u3{a b c d:Type}(f:a->b->c->d)(x:a×b×c):d:=f x.1 x.2.1 x.2.2
def u4{a b c d e:Type}(f:a->b->c->d->e)(x:a×b×c×d):e:=f x.1 x.2.1 x.2.2.1 x.2.2.2
def u9{a b c d e g h i j k:Type}(f:a->b->c->d->e->g->h->i->j->k)(x:a×b×c×d×e×g×h×i×j):k:=f x.1 x.2.1 x.2.2.1 x.2.2.2.1 x.2.2.2.2.1 x.2.2.2.2.2.1 x.2.2.2.2.2.2.1 x.2.2.2.2.2.2.2.1 x.2.2.2.2.2.2.2.2
def agP:KC B0:=⟨(144,Sz),ahj⟩
def aew:KC B0:=⟨(140,OT),aeT⟩
def aki:KX B0:=⟨(141,SA),akp⟩
def jh:KC B0:=⟨(67,Pe),afk⟩
def YC:KO B0:=⟨(94,TH),ahB⟩
def agQ:KC B0:=⟨(129,Sy),ahi⟩
def As:KC B0:=⟨(371,BF NN),L9 NN⟩
def WG:KC B0:=⟨(297,N3),XP⟩
def At:KC B0:=⟨(344,BE NN),Ms NN⟩
def MV:KC B0:=⟨(134,CV),NG⟩
def WH:KC B0:=⟨(135,N2),XN⟩
def oF:Option Y11:=
 some ((0,([1]:Bs),(([49,46,50,46,51]:Bs),[]),[[(([50,46,53,46,52,46,51]:Bs),([12,2,65,98]:Bs))]],(2000,1,1,0,0,0),(2001,1,1,0,0,0),[[(([50,46,53,46,52,46,51]:Bs),([12,2,65,98]:Bs))]],((([49,46,50,46,52]:Bs),[]),([160]:Bs),5),false,([],0),false,([],0),[]),(([49,46,50,46,51]:Bs),[]),[],0)
def MW:KC B0:=gC 12 (c1 []) [] Ia (λ_=>oF) krq
attribute [irreducible] oF
def G7:AD B0:=⟨71,(c1 []),[hc0,hc0],au⟩
@[irreducible] def rD(a:Bs)(a2:Bs):Option Bool:=syv NN (G7.go (a,a2))
def QO:=gA G7 (u2 rD)
def xt:AD B0:=⟨30,(c1 [QO]),[hc1,hc1],au⟩
@[irreducible] def gD(a:Y0)(a2:Y0):Option Bool:=syv NN (xt.go (a,a2))
def xu:=gA xt (u2 gD)
def yE:AD B0:=⟨37,(c1 []),[C8],au⟩
@[irreducible] def eI(a:Y6):Option Bool:=syv NN (yE.go (a))
def iw:=gA yE eI
def B6:AD B0:=⟨76,(c1 []),[hc0],au⟩
@[irreducible] def oG(a:Bs):Option Bool:=syv NN (B6.go (a))
def ji:=gA B6 oG
def qo:AD B0:=⟨128,(c1 [agP]),[Si,.ilit .i64 10],bx⟩
@[local irreducible] def dV(a:Int):Option Bs:=syv NN (qo.go (a))
def qp:=gA qo dV
def K3:AD B0:=⟨127,(c1 []),[Sj],au⟩
@[irreducible] def lR(a:List Int):Option Bool:=syv NN (K3.go (a))
def K4:=gA K3 lR
def Fq(L:List (KL B0)):Ctx B0:=⟨[aew,qp,K4],[],[aki],L,.nil⟩
def G8:LD:=⟨119,3,0,⟨[(4,.own 0),(10,abe),(11,hc4),(12,hc4)],[.arr Fm false false]⟩,[(.ret,⟨[(2,vN),(3,hc4)],[.junk]⟩),(.exit 0,⟨[(4,.own 0)],[.arr Fm false false]⟩)]⟩
@[local irreducible] def G9(N n:Nat):(Y12×Int×Int×Y13)->Option ((Int)⊕(List Int)):=Nat.rec (λ_=>none) (λ_ L x=>syv N (G8.round (Fq []).cxs L x)) n
def QP:=gL (Fq []) G8 (G9 NN)
def MX:AD B0:=⟨119,(Fq [QP]),[bx],(.tup [Sj,hc4])⟩
@[irreducible] def Fr(N:Nat)(a:Bs):Option (Y13×Int):=syv N (MX.go (a))
def MY:=gA MX (Fr NN)
def K5:AD B0:=⟨91,(c1 [MY]),[bx],au⟩
@[irreducible] def xi(N:Nat)(a:Bs):Option Bool:=syv N (K5.go (a))
def nX:=gA K5 (xi NN)
def Ha:AD B0:=⟨148,(c1 []),[hc4,hc4],(.tup [Ri,hc5])⟩
@[local irreducible] def gj(a:Int)(a2:Int):Y14:=syv NN (Ha.go (a,a2))
def QQ:=gA Ha (u2 gj)
def tM:AD B0:=⟨149,(c1 []),[zr],(.tup [hc4,au,hc4,hc4])⟩
@[irreducible] def dq(a:Int):Option (Int×Bool×Y3):=syv NN (tM.go (a))
def Fs:=gA tM dq
def xw:AD B0:=⟨218,(c1 []),[hc4,hc4],(.tup [hc4,hc4,hc5])⟩
@[local irreducible] def lh(a:Int)(a2:Int):Option (Int×Int×Y3):=syv NN (xw.go (a,a2))
def Id:=gA xw (u2 lh)
def rU(L:List (KL B0)):Ctx B0:=⟨[Id],[],[],L,.nil⟩
def vD:LD:=⟨150,14,0,⟨[(0,hc0),(4,.ptr 0 0),(5,.func (.func 218) [] []),(6,hc4),(7,hc4),(8,hc4)],[oo0]⟩,[(.exit 0,⟨[(0,hc0),(4,.ptr 0 0),(5,.func (.func 218) [] []),(6,hc4),(7,hc4)],[oo0]⟩)]⟩
@[local irreducible] def eL(N n:Nat):(Bs×Y4)->Option (Bs×Int×Int×Y3):=Nat.rec (λ_=>none) (λ_ L x=>syv N (vD.round (rU []).cxs L x)) n
def HE:=gL (rU []) vD (eL NN)
def Au:AD B0:=⟨150,(rU [HE]),[hc0],(.tup [hc4,hc4,hc5])⟩
@[irreducible] def dA(N:Nat)(a:Bs):Option (Int×Int×Y3):=syv N (Au.go (a))
def LB:=gA Au (dA NN)
end
end Go.Fw
