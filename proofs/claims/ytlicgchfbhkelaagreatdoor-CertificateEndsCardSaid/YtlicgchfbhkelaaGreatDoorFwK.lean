/- A framework for proofs about Go programs in this model: part K. Everything is proved; no condition is added. -/
import Derived.Shelf.Strings.BuilderRune
import Derived.Lib.RuneBytes
import Derived.RangeFuncWrites
import Derived.Laws.EntriesVeiled
import Derived.Laws.BitsAllLaws
import Derived.Laws.IdiomStrings
import Derived.Lib.BufferRead
import Derived.Test.YtlicgchfbhkelaaGreatDoorFwI
import Derived.Test.YtlicgchfbhkelaaGreatDoorFwJ
set_option linter.unusedVariables false
set_option linter.unusedSimpArgs false
set_option linter.defProp false
namespace Go.Proofs
open Go.Shelf Go.RowKit Go.Sort Go.Lib
def Tryz.lays168_ren:Go.Shelf.Ren:=⟨λ|168=>385|240=>216|242=>392|276=>291|278=>394|n=>n,λ|0=>0|3=>3|4=>4|5=>5|9=>9|20=>20|21=>21|37=>22|46=>176|51=>177|70=>257|72=>259|75=>251|164=>471|80=>263|n=>n,λ|n=>n⟩
def Tryz.lays168:Go.Proofs.Lays.n168 Tryz.prog Tryz.lays168_ren:={
 mixed:=by kernel_rfl
 f168:=Tryz.func385.trans (ain some (by kernel_rfl))
 f240:=Tryz.func216.trans (ain some (by kernel_rfl))
 f242:=Tryz.func392.trans (ain some (by kernel_rfl))
 f276:=Tryz.func291.trans (ain some (by kernel_rfl))
 f278:=Tryz.func394.trans (ain some (by kernel_rfl))
 t0:=ak8
 a0:=Tryz.isAgg0
 z0:=Tryz.sizeOf0
 v0:=alg
 t3:=ajO
 a3:=akz
 z3:=akm
 v3:=ajX
 t4:=ajP
 a4:=akB
 z4:=ako
 v4:=ajZ
 t5:=ajc
 a5:=aka
 z5:=aj3
 v5:=ajw
 t9:=ajy
 a9:=akA
 z9:=akn
 v9:=ajY
 t20:=Tryz.underlying20
 a20:=Tryz.isAgg20
 z20:=Tryz.sizeOf20
 v20:=Tryz.zeroValue20
 t21:=aj9
 a21:=akY
 z21:=akK
 v21:=akf
 t37:=ak0
 a37:=Tryz.isAgg22
 z37:=Tryz.sizeOf22
 v37:=Tryz.zeroValue22
 t46:=Tryz.underlying176
 a46:=Tryz.isAgg176
 z46:=Tryz.sizeOf176
 v46:=Tryz.zeroValue176
 t51:=Tryz.underlying177
 a51:=Tryz.isAgg177
 z51:=Tryz.sizeOf177
 v51:=Tryz.zeroValue177
 t70:=Tryz.underlying257
 a70:=Tryz.isAgg257
 z70:=Tryz.sizeOf257
 v70:=Tryz.zeroValue257
 t72:=Tryz.underlying259
 a72:=Tryz.isAgg259
 z72:=Tryz.sizeOf259
 v72:=Tryz.zeroValue259
 t75:=Tryz.underlying251
 a75:=Tryz.isAgg251
 z75:=Tryz.sizeOf251
 v75:=Tryz.zeroValue251
 t164:=Tryz.underlying471
 a164:=Tryz.isAgg471
 z164:=Tryz.sizeOf471
 v164:=Tryz.zeroValue471}
def Tryz.Builder_Extra_168:Builder.Extra Tryz.prog Tryz.lays168_ren:={
 sizeBuilder:=by kernel_rfl
 liesBuilder:=by kernel_rfl
 t5:=ajc
 a5:=aka
 z5:=aj3
 v5:=ajw
 infoByte:=by kernel_rfl
 cellsByte:=by kernel_rfl
 sizeByte:=by kernel_rfl
 neB5:=by decide}
def Tryz.Builder_WriteRune_k(B b:Nat)(bs:List Value)(r:Int)(d: -2147483648<=r)(f:r<=2147483647)(w:World)(h:Lib.IsBuilderF 259 5 B b bs w)(a:bs.length+4<=140737488355328)(c:B<=w.heap.size):
 Calls Tryz.prog 385 #[.pointer (some ⟨b,0,none⟩),.int .i32 r] w λe g=>e=.returned (.tuple #[.int .i64 (Lib.runeCells r).length,.nilIface])/\(Lib.BuilderAtF 259 5 B b (.pointer (some ⟨b,0,none⟩)) (bs++Lib.runeCells r) g/\Below B w g/\Lib.OthersKept 5 (some b) w g):=by
 have i:=Any.Builder_WriteRune_k (ρ:=Tryz.lays168_ren) Tryz.lays168 Tryz.Builder_Extra_168 B b bs r d f w h a c;exact i
end Go.Proofs
namespace Go.Fw
def stepU(x:Nat)(o:UInt8):Nat:=x*256 % 4294967296+o.toNat
def af3(l:List UInt8):Nat:=l.foldl stepU 0
def unitAt(c:List UInt8)(wd x:Nat):Nat:=af3 ((c.drop (x*wd)).take wd)
noncomputable def kj(i:Nat)(r:Int):Bool:=match i with
 |1=>(gR r).getD false
 |2=>(fT r 32 126).getD false
 |3=>(cU r 0 127).getD false
 |4=>(cU r 32 126).getD false
 |5=>(Ey r).getD false
 |_=>(gS r).getD false
noncomputable def abo(i:Nat)(c:List UInt8)(wd x:Nat):Bool:=Nat.ble (unitAt c wd x) 1114111&&kj i (unitAt c wd x)
def uN(c:List UInt8)(wd m:Nat):List UInt8:=(List.finRange m).flatMap λx=>Lib.encodeRune (unitAt c wd x.val)
noncomputable def Cn(N:Nat)(i wd:Nat)(a:Int)(c:List UInt8):Option ((Int×List UInt8)×Int):=
 bif Nat.beq (c.length % wd) 0 then
  bif (List.finRange (c.length / wd)).all λx=>abo i c wd x.val then
   (kU N (a,uN c wd (c.length / wd))).map λb=>bif b then((a,uN c wd (c.length / wd)),0) else((0,[]),6)
  else some ((0,[]),6)
 else some ((0,[]),6)
noncomputable def VK(N:Nat)(a:Int)(c:List UInt8):Option ((Int×List UInt8)×Int):=
 bif Nat.ble c.length 35184372088831 then
  if a=12 then(kU N (a,c)).map λb=>bif b then((a,c),0) else((0,[]),6)
  else if a=19 then Cn N 1 1 a c
  else if a=20 then Cn N 2 1 a c
  else if a=22 then Cn N 3 1 a c
  else if a=26 then Cn N 4 1 a c
  else if a=28 then Cn N 5 4 a c
  else if a=30 then Cn N 6 2 a c
  else some ((0,[]),3)
 else none
def Xy:∃f:Nat->Int->List UInt8->Option ((Int×List UInt8)×Int),f=VK:=⟨_,rfl⟩
noncomputable def bE:Nat->Int->List UInt8->Option ((Int×List UInt8)×Int):=Classical.choose Xy
def vK(N:Nat)(a:Int)(c:List UInt8):bE N a c=VK N a c:=akr (akr (akr (aiU Xy) N) a) c
noncomputable def AJ(N:Nat):Ctr:=⟨[.hole (.int .i64),.hole (.sl .byte)],.tup [.hole (.pair (.int .i64) .str),.hole (.int .i64)],λ(x:Int×List UInt8)=>bE N x.1 x.2⟩
end Go.Fw
def ajf:=@Go.KeepsOthers.setCell
def ajq:=@Go.callsIn_wide
def akI:=@Go.callsIn_of_wp_marks
def akZ:=@List.flatMap_cons
namespace Go.Proofs
open Go.RowKit Go.Shelf
attribute [local go_sem] Oper.semAt_some
def Tryz.Looks(b:Int)(f:Nat)(wd:Nat)(R:Array Value->World->Prop)(w:World):Prop:=
 ∀W,Below w.heap.size w W->Calls Tryz.prog 368 #[] W λe c=>∃d a,e=.returned (.map (some d))/\Below W.heap.size W c/\
  (Instr.lookup 537 (.map (some d)) (.int .i64 b) true).run Tryz.prog c=.ok (.tuple #[.agg #[.func (.func f) #[] a,.int .i64 wd],.bool true]) c/\R a c
def kB(W c:World):Prop:=∀(k:Nat)(a:Array Value)(t:TypeId)(b:Nat×Nat),W.heap[k]?=some (.cells a t b)->c.heap[k]?=some (.cells a t b)
variable{Z:Nat}{Y:Int}{X:Value}{W:Int->Bool}
def kB.of_grown{W b:World}{a:Option Nat}(c:W.grownBy b a)(d:∀r,a=some r->Z<=r/\∃o:Obj,W.heap[r]?=some o/\o.isCells=false):kB W b:=
 λ_ _ _ _ h=>(grownBy_keeps_cells c (λr e=>(d r e).2) h rfl).trans h
def kB.of_below{W a:World}(h:Below W.heap.size W a):kB W a:=λk _ _ _ b=>(h.block k (aim.1 b).1).trans b
def IsBuilderF.kept{T e:TypeId}{B b:Nat}{bs:List Value}{W c:World}(h:Lib.IsBuilderF T e B b bs W)(j:kB W c):Lib.IsBuilderF T e B b bs c:=by
 have a:∀p,Lib.BuilderAtF T e B b p bs W->Lib.BuilderAtF T e B b p bs c:=by
  rintro p ⟨q,v,r,i,s⟩;refine⟨q,v,j _ _ _ _ r,⟨i.1,?_⟩,s⟩;rcases i.2 with t|⟨g,d,f,o,k,l,m,n⟩
  ·exact .inl t
  ·exact .inr ⟨g,d,f,o,k,l,j _ _ _ _ m,n⟩
 exact h.imp (a _) (a _)
def eE(W:World)(o:Obj)(k:Nat):(W.alloc o).heap[k]?=if k=W.heap.size then some o else W.heap[k]? :=by
 show(W.heap.push o)[k]?=_;rw[akG]
def SN{W:World}{n:Nat}(h:W.heap.size=n)(a b c d e:Obj):
 (((((W.alloc a).alloc b).alloc c).alloc d).alloc e).heap[n]?=some a/\(((((W.alloc a).alloc b).alloc c).alloc d).alloc e).heap[n+1]?=some b/\
 (((((W.alloc a).alloc b).alloc c).alloc d).alloc e).heap[n+1+1]?=some c/\(((((W.alloc a).alloc b).alloc c).alloc d).alloc e).heap[n+3]?=some d/\
 (((((W.alloc a).alloc b).alloc c).alloc d).alloc e).heap[n+4]?=some e/\(((((W.alloc a).alloc b).alloc c).alloc d).alloc e).heap.size=n+5:=by
 simp only[eE,World.size_alloc,h];refine⟨?_,?_,?_,?_,?_,?_⟩
 all_goals (repeat (first|rw[ah2 trivial]|rw[ah2 (by omega)]|rw[air (by omega)]|rfl|trivial|omega))
def KeepsOthers.of_below{W a:World}(h:Below W.heap.size W a):KeepsOthers W a:=⟨h.size,λk _ b _=>(h.block k (aim.1 b).1).trans b⟩
def KeepsOthers.of_others{n e b:Nat}{W a:World}(l:Below n W a)(h:Lib.OthersKept e (some b) W a)(f:∃i t d,W.heap[b]?=some (.cells i t d)):KeepsOthers W a:=by
 refine⟨l.size,λk o g j=>h k o g ?_ ?_⟩
 ·rintro⟨⟩;obtain⟨i,t,d,f⟩:=f;rw[f]at g;cases g;cases j
 ·rintro c d rfl;cases j
def Tryz.stepU_or(z:Nat)(y:UInt8):bits .or .u32 ((z:Int)*256 % 4294967296) ((y.toNat:Int) % 4294967296)=((Fw.stepU z y:Nat):Int):=by
 have d:y.toNat<2 ^ 8:=y.toNat_lt;have a:(z:Int)*256 % 4294967296=((z*256 % 4294967296:Nat):Int):=by omega
 have b:(y.toNat:Int) % 4294967296=((y.toNat:Nat):Int):=by omega
 rw[a,b,u32_or_nat _ _ (by omega) (by omega)];have c:z*256 % 4294967296=2 ^ 8*(z % 16777216):=by omega
 unfold Fw.stepU;rw[c,<-Nat.two_pow_add_eq_or_of_lt d]
def Tryz.wrap64_nat{j:Nat}(h:j+1<=9223372036854775807):wrap64 ((j:Int)+1)=((j+1:Nat):Int):=by unfold wrap64;omega
def Tryz.take_fold{U:List UInt8}{j:Nat}(h:j<U.length){z:Nat}(a:(U.take j).foldl Fw.stepU 0=z):(U.take (j+1)).foldl Fw.stepU 0=Fw.stepU z (U[j]?.getD 0):=by
 rw[aiQ,List.foldl_append,a,ahK h];rfl
def Tryz.three_sets{W:World}{n0:Nat}(a:(W.cell? ⟨n0,0,none⟩).isSome=true)(b:(W.cell? ⟨n0,1,none⟩).isSome=true)(c:(W.cell? ⟨n0+1,0,none⟩).isSome=true)(x y z:Value):
 (((W.setCell ⟨n0,0,none⟩ x).setCell ⟨n0,1,none⟩ y).setCell ⟨n0+1,0,none⟩ z).cell? ⟨n0,0,none⟩=some x/\(((W.setCell ⟨n0,0,none⟩ x).setCell ⟨n0,1,none⟩ y).setCell ⟨n0+1,0,none⟩ z).cell? ⟨n0,1,none⟩=some y/\
 (((W.setCell ⟨n0,0,none⟩ x).setCell ⟨n0,1,none⟩ y).setCell ⟨n0+1,0,none⟩ z).cell? ⟨n0+1,0,none⟩=some z:=by
 refine⟨?_,?_,?_⟩<;>simp[go_sem,a,b,c]
def Tryz.decV(r:(Int×List UInt8)×Int):Value:=.tuple #[.agg #[.int .i64 r.1.1,.string ⟨r.1.2.toArray⟩],.int .i64 r.2]
def Tryz.accC(c:List UInt8)(wd m:Nat)(pre:List (Fin m)):List Value:=pre.flatMap λx=>Lib.runeCells (Fw.unitAt c wd x.val)
def Tryz.goodU(c:List UInt8)(wd:Nat)(a:Int->Bool)(x:Nat):Bool:=Nat.ble (Fw.unitAt c wd x) 1114111&&a (Fw.unitAt c wd x)
def Tryz.HasOK(g:Nat)(c:Int->Bool)(b:Array Value)(d:World):Prop:=
 ∀a,Below d.heap.size d a->∀r:Int,0<=r->r<=1114111->Calls Tryz.prog g (#[.int .i32 r]++b) a λe f=>e=.returned (.bool (c r))/\Below a.heap.size a f
structure Tryz.DecI(c:List UInt8)(kind:Int)(C:ByteArray)(sv:Value)(hf wd m n1:Nat)(caps:Array Value)(has:Int->Bool)(w':World)(pre:List (Fin m))(W:World):Prop where
 below:Below n1 w' W
 b6:W.heap[n1]?=some (.cells #[.func (.func hf) #[] caps,.int .i64 wd] 536 (0,0))
 b8:W.heap[n1+1]?=some (.cells #[.int .i64 kind,.string C] 372 (0,0))
 b9:Lib.IsBuilderF 259 5 n1 (n1+1+1) (Tryz.accC c wd m pre) W
 bx1:W.heap[n1+3]?=some (.cells #[sv] 22 (0,0))
 bx2:W.heap[n1+4]?=some (.cells #[.int .i64 wd] 3 (0,0))
 good:∀x∈pre,Tryz.goodU c wd has x.val=true
def Tryz.DecI.own{c:List UInt8}{f:Int}{C:ByteArray}{r:Value}{o wd m h:Nat}{b:Array Value}{g:Int->Bool}{l:World}{B:Nat}(p:h<=l.heap.size)(n:h<=B):OwnFrom B (Tryz.DecI c f C r o wd m h b g l):=
 λs W t q a i j=>by
  have d:=kB.of_grown i j;exact⟨a.below.grown i (ai4 p a.below.size) (λk e=>ai4 n (j k e).1),d _ _ _ _ a.b6,d _ _ _ _ a.b8,IsBuilderF.kept a.b9 d,d _ _ _ _ a.bx1,d _ _ _ _ a.bx2,a.good⟩
structure Tryz.DecX(c:List UInt8)(wd m n0:Nat)(has:Int->Bool)(w:World)(t:Code)(pre:List (Fin m))(W:World):Prop where
 ret:t=.ret
 below:Below n0 w W
 c40:W.cell? ⟨n0,0,none⟩=some (.int .i64 0)
 c41:W.cell? ⟨n0,1,none⟩=some (.string ⟨#[]⟩)
 c50:W.cell? ⟨n0+1,0,none⟩=some (.int .i64 6)
 bad:∃x∈pre,Tryz.goodU c wd has x.val=false
def Tryz.DecX.own{c:List UInt8}{wd m n0:Nat}{f:Int->Bool}{w:World}{B:Nat}(t:Code)(i:n0<=w.heap.size)(h:n0<=B):OwnFrom B (Tryz.DecX c wd m n0 f w t):=
 λs W l j b d g=>by
  have a:=λr e=>(g r e).2;exact⟨b.ret,b.below.grown d (ai4 i b.below.size) (λk e=>ai4 h (g k e).1),cell_kept b.c40 d a,cell_kept b.c41 d a,cell_kept b.c50 d a,b.bad⟩
def Tryz.cell_of{W:World}{b:Nat}{cs:Array Value}{t:TypeId}(h:W.heap[b]?=some (.cells cs t (0,0)))(i:Nat):W.cell? ⟨b,i,none⟩=cs[i]?/\W.frozen? ⟨b,i,none⟩=false:=by
 unfold World.cell? World.frozen?;simp only[h];exact⟨rfl,by simp⟩
def Tryz.accC_snoc{c:List UInt8}{wd m:Nat}{pre:List (Fin m)}(x:Fin m):Tryz.accC c wd m (pre++[x])=Tryz.accC c wd m pre++Lib.runeCells (Fw.unitAt c wd x.val):=by
 simp[Tryz.accC]
def Tryz.runeCells_len(r:Int):(Lib.runeCells r).length<=4:=by
 unfold Lib.runeCells Lib.encodeRuneZ;rw[aiy]
 repeat' split
 all_goals simp
def Tryz.accC_len{c:List UInt8}{wd m:Nat}:∀(pre:List (Fin m)),(Tryz.accC c wd m pre).length<=4*pre.length
 |[]=>aiJ _
 |x::b=>by
  have a:=Tryz.accC_len (c:=c) (wd:=wd) b;have d:=Tryz.runeCells_len (Fw.unitAt c wd x.val);unfold Tryz.accC at a⊢;rw[akZ,ahN,ahP];omega
def Tryz.dec_ret{D:Nat}{w X:World}{tmps:Array Value}{k:Int}{S:ByteArray}{b:Int}
 (t4:tmps[4]?.getD undef=.pointer (some ⟨w.heap.size,0,none⟩))(t5:tmps[5]?.getD undef=.pointer (some ⟨w.heap.size+1,0,none⟩))
 (n:X.cell? ⟨w.heap.size,0,none⟩=some (.int .i64 k))(o:X.cell? ⟨w.heap.size,1,none⟩=some (.string S))(p:X.cell? ⟨w.heap.size+1,0,none⟩=some (.int .i64 b))
 (d:X.heap[D]?=some (.deferred (some [])))(s:w.heap.size<=D)(q:Below w.heap.size w X){c:Value}(f:c=.tuple #[.agg #[.int .i64 k,.string S],.int .i64 b]):
 bodyPostM Fence.wide 9 Tryz.prog Tryz.f371 (λe i=>e=.returned c/\Below w.heap.size w i) .ret {tmps:=tmps,defers:=[{target:=.collected D,args:= #[]}]} X:=by
 refine⟨by simp,.inl ⟨_,_,rfl,run_takeDeferred d,?_⟩⟩;have g:∀{a v},X.cell? a=some v->(X.putObj D (.deferred none)).cell? a=some v:=λh=>cell_kept h (grownBy_putObj' _ D (.deferred none)) (λr e=>by cases e;exact⟨_,d,rfl⟩);have j:=g n;have l:=g o;have m:=g p;refine⟨c,?_,rfl,q.trans (belowK_b (w:=w) (ahS _) X D _ _ s d rfl rfl)⟩;have t:Tryz.f371.results= #[.cell 4 372,.cell 5 41]:=rfl;subst f;unfold results;rw[t];simp[go_sem,t4,t5,j,l,m]
set_option maxRecDepth 100000 in
set_option maxHeartbeats 8000000 in
def Tryz.dec_try(kind:Int)(a:Option Addr)(b off cap m wd:Nat)(c:List UInt8)(hf:Nat)(K:World->Prop)(has:Int->Bool)(w:World)(hwd:1<=wd)(hL:c.length=m*wd)(hcap:m*wd<=cap)(hmax:cap<=9223372036854775807)
 (hm4:m<=35184372088831)(hsv:m=0∨a=some ⟨b,off,none⟩)(hbw:0<m->b<w.heap.size)(hcell:∀(j:Nat) x,c[j]?=some x->w.cell? ⟨b,off+j,none⟩=some (.int .u8 x.toNat))
 (hconv:∀W,Below w.heap.size w W->(convert 22 9 (.slice a c.length cap)).run Tryz.prog W=.ok (.string ⟨c.toArray⟩) W)
 (eh:∀args w,(callFunc hf args).run Tryz.prog w=.ok (.enter hf args) w)(hF:Tryz.Looks kind hf wd (λcaps W=>Tryz.HasOK hf has caps W/\K W) w)
 (T:List UInt8)(hT:Lib.byteCells T=Tryz.accC c wd m (List.finRange m))(vb:Bool)
 (hV:((List.finRange m).all λx=>Tryz.goodU c wd has x.val)=true->∀W',K W'->∀W'',Below W'.heap.size W' W''->Calls Tryz.prog 367 #[.agg #[.int .i64 kind,.string ⟨T.toArray⟩]] W'' λe W3=>e=.returned (.bool vb)/\Below W''.heap.size W'' W3):
 Calls Tryz.prog 371 #[.int .i64 kind,.slice a c.length cap] w λe W'=>e=.returned (Tryz.decV (bif ((List.finRange m).all λx=>Tryz.goodU c wd has x.val) then bif vb then((kind,T),0) else((0,[]),6) else((0,[]),6)))/\Below w.heap.size w W':=by
 have mixed:Tryz.prog.follows .mixedOrders=true:=by kernel_rfl
 obtain⟨GV,hGV⟩:∃GV,((List.finRange m).all λx=>Tryz.goodU c wd has x.val)=GV:=⟨_,rfl⟩;rw[hGV]at hV⊢;have HG:Hid (((List.finRange m).all λx=>Tryz.goodU c wd has x.val)=GV):=hGV;obtain⟨RV,hRV⟩:∃RV,Tryz.decV (bif GV then bif vb then((kind,T),0) else((0,[]),6) else((0,[]),6))=RV:=⟨_,rfl⟩;rw[hRV];have HR:Hid (Tryz.decV (bif GV then bif vb then((kind,T),0) else((0,[]),6) else((0,[]),6))=RV):=hRV;clear hGV hRV;refine(ajq (n:=9)).1 ?_;refine akI Tryz.func371 rfl trivial ?_ rfl;simp only[Tryz.ntmps371,aju,ahP,ah9,Nat.reduceAdd,Nat.reduceSub,ajA,ajB,ajU,ajF,aiw,aiB];have hB0:Below w.heap.size w ((w.alloc (.cells #[.int .i64 0,.string ⟨#[]⟩] 372)).alloc (.cells #[.int .i64 0] 41)):=((aiX _ w).alloc (ahS _) _).alloc (by simp) _;have hF1:=hF _ hB0;have hrem:(c.length:Int).tmod wd=0:=by
  rw[hL,alz];exact Int.mul_tmod_left _ _
 obtain⟨L,hLe⟩:∃L,c.length=L:=⟨_,rfl⟩;obtain⟨C,hC⟩:∃C,(⟨c.toArray⟩:ByteArray)=C:=⟨_,rfl⟩;rw[hLe]at hrem hconv hL⊢;rw[hC]at hconv;have HL:Hid (L=m*wd):=hL;have HC:Hid (∀(j:Nat) x,c[j]?=some x->w.cell? ⟨b,off+j,none⟩=some (.int .u8 x.toNat)):=hcell;have HS:Hid (m=0∨a=some ⟨b,off,none⟩):=hsv;clear hF hL hcell hsv
 gi_wp2_with (first
  |(refine⟨trivial,?_⟩;gi_at_call 368;refine(ajq.2 hF1).mono ?_;rintro e w' ⟨bm,caps,rfl,hb,hlook,hR,hKw⟩;have hcv:=hconv (w'.alloc (Obj.cells #[Value.func (Fn.func hf) #[] caps,Value.int IntKind.i64 wd] 536)) ((hB0.trans (hb.mono (by simp;omega))).alloc (by have:=hb.size;simp at this;omega) _);clear hconv)
  |(refine⟨trivial,?_⟩;gi_at_call 384;refine(Tryz.chunk_in Fence.wide _ trivial rfl a L cap wd hwd _).mono ?_;rintro e w'' ⟨rfl,rfl⟩))
 all_goals (
  obtain⟨n1,hn1⟩:∃n1,w'.heap.size=n1:=⟨_,rfl⟩;obtain⟨W0,hW0⟩:∃W0,((((w'.alloc (.cells #[.func (.func hf) #[] caps,.int .i64 wd] 536)).alloc (.cells #[.int .i64 kind,.string C] 372)).alloc (.cells #[.pointer none,.slice none 0 0] 259)).alloc (.cells #[.slice a L cap] 22)).alloc (.cells #[.int .i64 wd] 3)=W0:=⟨_,rfl⟩;have h5:=SN hn1 (.cells #[.func (.func hf) #[] caps,.int .i64 wd] 536) (.cells #[.int .i64 kind,.string C] 372) (.cells #[.pointer none,.slice none 0 0] 259) (.cells #[.slice a L cap] 22) (.cells #[.int .i64 wd] 3);have hBW:Below n1 w' W0:=by
   rw[<-hW0];exact(((((aiX _ w').alloc (by omega) _).alloc (by simp;omega) _).alloc (by simp;omega) _).alloc (by simp;omega) _).alloc (by simp;omega) _
  rw[hW0]at h5;obtain⟨ha1,ha2,ha3,ha4,ha5,hE⟩:=h5;have hc1:W0.cell? ⟨n1+3,0,none⟩=some (.slice a L cap):=by unfold World.cell?;simp only[ha4];rfl
  have hc2:W0.cell? ⟨n1+4,0,none⟩=some (.int .i64 wd):=by unfold World.cell?;simp only[ha5];rfl
  have hI0:Tryz.DecI c kind C (.slice a L cap) hf wd m n1 caps has w' [] W0:=
   ⟨hBW,ha1,ha2,.inl ⟨by omega,.slice none 0 0,ha3,⟨rfl,.inl ⟨rfl,rfl⟩⟩,by simp[Value.ownBlock]⟩,ha4,ha5,λx h=>absurd h (by simp)⟩
  have hseq:=Tryz.chunk_stops Fence.wide (9-1) trivial rfl (by omega) (n1+3) (n1+4) n1 b off cap wd m (.slice a L cap) hwd W0 (by omega) (by omega) hc1 hc2 (by
   rcases HS.out with h|h
   ·exact .inl ⟨h,a,cap,by rw[HL.out,h,ajD]⟩
   ·exact .inr ⟨by rw[h,HL.out],hcap,hmax⟩)
  have hKb:∀(W:World)(l:Nat)(o o':Obj),W0.heap.size<=l->W.heap[l]?=some o->o.isCells=false->o.isWalk=false->qu n1 (n1+3) (n1+4) W (W.putObj l o'):=λW l o o' hl h h1 h2=>
   ⟨belowK_b (w:=W0) (by omega) W l o o' hl h h1 h2,World.putObj_heap_other (by omega),World.putObj_heap_other (by omega)⟩
  have hnw:w.heap.size+2<=n1:=by have:=hb.size;simp at this;omega
  simp only[hn1,hW0];clear hW0 hcv hlook hF1
  refine' wpIn_rangeFunc_ownG rfl (by omega) (gf:=391) (lb:= #[.pointer (some ⟨n1+3,0,none⟩),.pointer (some ⟨n1+4,0,none⟩)]) rfl trivial (aj5 Tryz.func391 (by kernel_rfl) rfl) hseq (λh k=>h.trans k) hKb (aiX _ _) (λ_=>rfl)
   (Tryz.DecI c kind C (.slice a L cap) hf wd m n1 caps has w') (Tryz.DecX c wd m w.heap.size has w) (Tryz.DecI.own (by omega) (by omega)) (λt=>Tryz.DecX.own t (ahS _) (by omega)) hI0 _ ?_ ?_ ?_ ?_
  rotate_left
  ·intro l x W K hK
   gi_wp2
   exact hK
  ·rintro l pre x W hI hlen;obtain⟨X,hX⟩:∃X,x.val*wd=X:=⟨_,rfl⟩;obtain⟨U,hU⟩:∃U,(c.drop (x.val*wd)).take wd=U:=⟨_,rfl⟩;have hXL:X+wd<=L:=by
    have:(x.val+1)*wd<=m*wd:=aiK _ x.isLt;rw[aj1,hX,<-HL.out]at this;exact this
   have hUl:U.length=wd:=by
    rw[<-hU,aig,aiF,hX,hLe];omega
   have hUc:Hid (∀j,j<wd->W.cell? ⟨b,off+X+j,none⟩=some (.int .u8 (U[j]?.getD 0).toNat)):=by
    intro j hj;have e:U[j]?=c[X+j]? :=by
     rw[<-hU,alm,ah2 hj,akP,hX]
    have hlt:X+j<c.length:=by omega
    rw[e,ahK hlt];have hBn:Below w.heap.size w W:=((hB0.trans (hb.mono (by simp;omega)))).trans (hI.below.mono (by omega));rw[ajR];exact(hBn.cell (p:=⟨b,off+(X+j),none⟩) (hbw (Nat.lt_of_le_of_lt (aiJ _) x.isLt))).trans (HC.out (X+j) _ (ahK hlt))
   have hwc:wd<=cap:=by have:=HL.out;omega
   have hc6:W.cell? ⟨n1,0,none⟩=some (.func (.func hf) #[] caps):=by unfold World.cell?;simp only[hI.b6];rfl
   simp only[hX];have HX:=hX;have hU0:Hid ((c.drop (x.val*wd)).take wd=U):=hU;have hnb:∀(k:Nat) o,((w.alloc (.cells #[.int .i64 0,.string ⟨#[]⟩] 372)).alloc (.cells #[.int .i64 0] 41)).heap[k]?=some o->k<w.heap.size+2->W.heap[k]?=some o:=λk o h1 h2=>
    (hI.below.block k (by omega)).trans ((hb.block k (by simp;omega)).trans h1)
   have hq4i:Hid (W.heap[w.heap.size]?=some (.cells #[.int .i64 0,.string ⟨#[]⟩] 372 (0,0))):=hnb _ _ (by rw[eE,eE,air (by simp),ah2 rfl]) (by omega);have hq5i:Hid (W.heap[w.heap.size+1]?=some (.cells #[.int .i64 0] 41 (0,0))):=hnb _ _ (by rw[eE,ah2 (by simp)]) (by omega);clear hX hU hXL hnb
   gi_wp2
   gi_loopw [11,51] (λxv iv wr=>∃j:Nat,j<=wd/\iv=.int .i64 j/\xv=.int .u32 (((U.take j).foldl Fw.stepU 0:Nat):Int)/\wr=W) (λ_ iv _=>wd-(intOf iv).toNat)
   case atStart=>exact⟨0,aiJ _,rfl,rfl,rfl⟩
   case round=>
    obtain⟨j,hj,rfl,rfl,rfl⟩:=hrel;by_cases hlt:j<wd
    ·have hcj:=hUc.out j hlt;obtain⟨y,hy⟩:∃y,(U[j]?.getD 0)=y:=⟨_,rfl⟩;obtain⟨z,hz⟩:∃z:Nat,(U.take j).foldl Fw.stepU 0=z:=⟨_,rfl⟩;rw[hy]at hcj;simp only[hz];clear HX;have hz1:=Tryz.take_fold (U:=U) (by omega) hz;rw[hy]at hz1;have hj64:=Tryz.wrap64_nat (j:=j) (by omega);have HZ:Hid ((U.take (j+1)).foldl Fw.stepU 0=Fw.stepU z y):=hz1;have HJ:Hid (wrap64 ((j:Int)+1)=((j+1:Nat):Int)):=hj64;clear hz1 hj64 hz
     gi_wp2
     refine⟨⟨j+1,hlt,?_,?_,trivial⟩,?_⟩
     ·first|rw[HJ.out]|simp
     ·rw[Tryz.stepU_or,HZ.out]
     ·first|rw[HJ.out]|skip
      simp only[intOf];omega
    ·obtain rfl:j=wd:=by omega
     rw[aih (by omega)];obtain⟨z,hz⟩:∃z:Nat,U.foldl Fw.stepU 0=z:=⟨_,rfl⟩;simp only[hz];have HZ:Hid (U.foldl Fw.stepU 0=z):=hz;have hzu:Hid (Fw.unitAt c j x.val=z):=by
      unfold Fw.unitAt;rw[hU0.out];exact hz
     have hq4:=hq4i.out;have hq5:=hq5i.out;clear hz HX;by_cases hzm:z<=1114111
     ·have hcall:=hR wr (hI.below.mono (by omega)) (z:Int) (by omega) (by omega);have hlen2:=Tryz.accC_len (c:=c) (wd:=j) pre;have hbs:(Tryz.accC c j m pre).length+4<=140737488355328:=by omega
      obtain⟨bs,hbsE⟩:∃bs,Tryz.accC c j m pre=bs:=⟨_,rfl⟩;have hb9:=hI.b9;rw[hbsE]at hb9 hbs;cases hv:has z with
      |true=>
       rw[hv]at hcall
       gi_wp2_with (first
        |(refine⟨trivial,(CallsIn.inRound l (ajq.2 hcall)).mono ?_⟩;rintro e W3 ⟨rfl,hb3⟩;have hbl3:=IsBuilderF.kept hb9 (kB.of_below hb3))
        |(refine⟨trivial,?_⟩;gi_at_call 385;refine(CallsIn.inRound l (ajq.2 (Tryz.Builder_WriteRune_k n1 (n1+1+1) bs (z:Int) (by omega) (by omega) _ hbl3 hbs (by have:=hb3.size;have:=hI.below.size;omega)))).mono ?_;rintro e W4 ⟨rfl,hbu,hb4,ho4⟩))
       have hb3n:Below n1 wr W3:=hb3.mono (by have:=hI.below.size;omega);have kc:∀(k:Nat) cs (t:TypeId),wr.heap[k]?=some (.cells cs t (0,0))->k≠n1+1+1->t≠5->W4.heap[k]?=some (.cells cs t (0,0)):=λk cs t h1 h2 h3=>
        ho4 k _ (kB.of_below hb3 _ _ _ _ h1) (λe=>h2 (by cases e;rfl)) (λc' fz' e=>h3 (by cases e;rfl))
       have k34:KeepsOthers W3 W4:=KeepsOthers.of_others hb4 ho4 (by
        rcases hbl3 with⟨_,v,h,_⟩|⟨_,v,h,_⟩<;>exact⟨_,_,_,h⟩)
       have hg:=hzu.out;refine⟨((KeepsOthers.of_below hb3).trans k34).from _,⟨hb3n.trans hb4,(kc _ _ _ hI.bx1 (by omega) (by decide)).trans hI.bx1.symm,(kc _ _ _ hI.bx2 (by omega) (by decide)).trans hI.bx2.symm⟩,
        hI.below.trans (hb3n.trans hb4),kc _ _ _ hI.b6 (by omega) (by decide),kc _ _ _ hI.b8 (by omega) (by decide),?_,kc _ _ _ hI.bx1 (by omega) (by decide),kc _ _ _ hI.bx2 (by omega) (by decide),λy hy=> ?_⟩
       ·rw[Tryz.accC_snoc,hbsE,hg];exact .inr hbu
       ·rcases aiv.1 hy with h|h
        ·exact hI.good y h
        ·obtain rfl:y=x:=by simpa using h
         unfold Tryz.goodU;rw[hg,hv,aiH hzm];rfl
      |false=>
       rw[hv]at hcall
       gi_wp2_with (refine⟨trivial,(CallsIn.inRound l (ajq.2 hcall)).mono ?_⟩;rintro e W3 ⟨rfl,hb3⟩;have hk3:=kB.of_below hb3;have hq41:=Tryz.cell_of (hk3 _ _ _ _ hq4) 0;have hq42:=Tryz.cell_of (hk3 _ _ _ _ hq4) 1;have hq43:=Tryz.cell_of (hk3 _ _ _ _ hq5) 0;simp at hq41 hq42 hq43)
       have h3s:=Tryz.three_sets (W:=W3) (n0:=w.heap.size) (by rw[hq41.1];rfl) (by rw[hq42.1];rfl) (by rw[hq43.1];rfl) (.int .i64 0) (.string ⟨#[]⟩) (.int .i64 6);have hBn0:Below w.heap.size w W3:=((hB0.trans (hb.mono (by simp;omega))).trans (hI.below.mono (by omega))).trans (hb3.mono (by have:=hI.below.size;omega));refine⟨((KeepsOthers.of_below hb3).trans (((ajf _ _ _).trans (ajf _ _ _)).trans (ajf _ _ _))).from _,rfl,?_,h3s.1,h3s.2.1,h3s.2.2,x,aiv.2 (.inr (aiN.2 rfl)),?_⟩
       ·exact((hBn0.setCell (p:=⟨w.heap.size,0,none⟩) (ahS _) _).setCell (p:=⟨w.heap.size,1,none⟩) (ahS _) _).setCell (p:=⟨w.heap.size+1,0,none⟩) (by simp) _
       ·unfold Tryz.goodU;rw[hzu.out];rw[hv,Bool.and_false]
     ·have hzm2:1114111<z:=by omega
      have hq41:=Tryz.cell_of hq4 0;have hq42:=Tryz.cell_of hq4 1;have hq43:=Tryz.cell_of hq5 0;simp at hq41 hq42 hq43
      gi_wp2
      refine⟨λ_ h=>(by cases h),?_⟩
      gi_wp2
      have h3s:=Tryz.three_sets (W:=wr) (n0:=w.heap.size) (by rw[hq41.1];rfl) (by rw[hq42.1];rfl) (by rw[hq43.1];rfl) (.int .i64 0) (.string ⟨#[]⟩) (.int .i64 6);have hBn0:Below w.heap.size w wr:=(hB0.trans (hb.mono (by simp;omega))).trans (hI.below.mono (by omega));refine⟨((KeepsOthers.refl _).trans (((ajf _ _ _).trans (ajf _ _ _)).trans (ajf _ _ _))).from _,rfl,?_,h3s.1,h3s.2.1,h3s.2.2,x,aiv.2 (.inr (aiN.2 rfl)),?_⟩
      ·exact((hBn0.setCell (p:=⟨w.heap.size,0,none⟩) (ahS _) _).setCell (p:=⟨w.heap.size,1,none⟩) (ahS _) _).setCell (p:=⟨w.heap.size+1,0,none⟩) (by simp) _
      ·unfold Tryz.goodU;rw[hzu.out];rw[show Nat.ble z 1114111=false from by rw[<-Bool.not_eq_true,Nat.ble_eq];omega,Bool.false_and]
  ·rintro D xs W hD rfl hI hK;have hall:((List.finRange m).all λx=>Tryz.goodU c wd has x.val)=true:=by
    rw[aie];exact hI.good
   have hGt:GV=true:=HG.out.symm.trans hall;have hVx:=hV hGt w' hKw;have hbT:Lib.IsBuilderF 259 5 n1 (n1+1+1) (Lib.byteCells T) W:=by rw[hT];exact hI.b9
   have HRt:Hid (Tryz.decV (bif vb then((kind,T),0) else((0,[]),6))=RV):=by
    have:=HR.out;rw[hGt]at this;exact this
   clear hall hGt hV hT HG HR;have hnW:n1<=W.heap.size:=by have:=hI.below.size;omega
   have hb8:=hI.b8;have hIb:=hI.below;obtain⟨TB,hTB⟩:∃TB,(⟨T.toArray⟩:ByteArray)=TB:=⟨_,rfl⟩;have hstr:=Tryz.Builder_String_any_k n1 (n1+1+1) T W hbT hnW;rw[hTB]at hVx hstr;clear hbT;have hnb:∀(k:Nat) o,((w.alloc (.cells #[.int .i64 0,.string ⟨#[]⟩] 372)).alloc (.cells #[.int .i64 0] 41)).heap[k]?=some o->k<w.heap.size+2->W.heap[k]?=some o:=λk o h1 h2=>
    (hI.below.block k (by omega)).trans ((hb.block k (by simp;omega)).trans h1)
   have hq4:W.heap[w.heap.size]?=some (.cells #[.int .i64 0,.string ⟨#[]⟩] 372 (0,0)):=hnb _ _ (by rw[eE,eE,air (by simp),ah2 rfl]) (by omega);have hq5:W.heap[w.heap.size+1]?=some (.cells #[.int .i64 0] 41 (0,0)):=hnb _ _ (by rw[eE,ah2 (by simp)]) (by omega);clear hnb hI;cases vb
   all_goals (
    gi_wp2_with (first
     |(refine⟨trivial,?_⟩;gi_at_call 147;refine(ajq.2 hstr).mono ?_;rintro e W5 ⟨rfl,hs5,hb5,ho5⟩;have h80:=Tryz.cell_of (ho5 _ _ hb8 (λe=>by simp at e) (λc' fz' e=>by cases e)) 0;have h81:=Tryz.cell_of (ho5 _ _ hb8 (λe=>by simp at e) (λc' fz' e=>by cases e)) 1;simp at h80 h81)
     |(refine⟨trivial,?_⟩;gi_at_call 367
       have hXB:Below n1 w' (W5.setCell ⟨n1+1,1,none⟩ (.string TB)):=hIb.trans (hb5.setCell (p:=⟨n1+1,1,none⟩) (Nat.le_succ n1) _);refine(ajq.2 (hVx _ (by rw[hn1];exact hXB))).mono ?_;rintro e W6 ⟨rfl,hb6⟩;have hs5:=hb5.size;have hsX:(W5.setCell ⟨n1+1,1,none⟩ (.string TB)).heap.size=W5.heap.size:=by simp
       have hlt1:n1+1<W.heap.size:=(aim.1 hb8).1;have hx0:(W5.setCell ⟨n1+1,1,none⟩ (.string TB)).cell? ⟨n1+1,0,none⟩=some (.int .i64 kind):=by simp[go_sem,h80,h81]
       have hx1:(W5.setCell ⟨n1+1,1,none⟩ (.string TB)).cell? ⟨n1+1,1,none⟩=some (.string TB):=by simp[go_sem,h80,h81]
       have hc80:=(hb6.cell (p:=⟨n1+1,0,none⟩) (by rw[hsX];show n1+1<_;omega)).trans hx0;have hc81:=(hb6.cell (p:=⟨n1+1,1,none⟩) (by rw[hsX];show n1+1<_;omega)).trans hx1;have hblk:∀(k:Nat) o,k<n1->W.heap[k]?=some o->W6.heap[k]?=some o:=λk o h1 h2=>
        (hb6.block k (by rw[hsX];omega)).trans ((Below.heap_setCell _ _ _ k (by show k≠n1+1;omega)).trans ((hb5.block k h1).trans h2))
       have hq41:=Tryz.cell_of (hblk _ _ (by omega) hq4) 0;have hq42:=Tryz.cell_of (hblk _ _ (by omega) hq4) 1;have hq43:=Tryz.cell_of (hblk _ _ (by omega) hq5) 0;have hDl:D<W.heap.size:=(aim.1 hK).1;have hK6:W6.heap[D]?=some (.deferred (some [])):=(hb6.block D (by rw[hsX];omega)).trans ((Below.heap_setCell _ _ _ D (by show D≠n1+1;omega)).trans (ho5 _ _ hK (λe=>by simp at e;omega) (λc' fz' e=>by cases e)));have hB6:Below n1 w' W6:=hXB.trans (hb6.mono (by rw[hsX];omega));clear hx0 hx1 hblk;simp at hq41 hq42 hq43))
    have h3s:=Tryz.three_sets (W:=W6) (n0:=w.heap.size) (by rw[hq41.1];rfl) (by rw[hq42.1];rfl) (by rw[hq43.1];rfl);have hBn0:Below w.heap.size w W6:=(hB0.trans (hb.mono (by simp;omega))).trans (hB6.mono (by omega));have hKs:=λx y z=>(((ajf W6 ⟨w.heap.size,0,none⟩ x).trans (ajf _ ⟨w.heap.size,1,none⟩ y)).trans (ajf _ ⟨w.heap.size+1,0,none⟩ z)).same D _ hK6 rfl;refine Tryz.dec_ret rfl rfl (h3s _ _ _).1 (h3s _ _ _).2.1 (h3s _ _ _).2.2 (hKs _ _ _) (by omega) (((hBn0.setCell (p:=⟨w.heap.size,0,none⟩) (ahS _) _).setCell (p:=⟨w.heap.size,1,none⟩) (ahS _) _).setCell (p:=⟨w.heap.size+1,0,none⟩) (by simp) _) ?_;have hfin:=HRt.out
    first|exact hfin.symm|(subst hTB;exact hfin.symm))
  ·rintro D cd pre W hD hpre hX hK;obtain⟨rfl,hBX,x40,x41,x50,y,hy,hbad⟩:=hX;have hGf:GV=false:=by
    rw[<-HG.out,<-Bool.not_eq_true,aie];intro h;rw[h y (List.mem_finRange y)]at hbad;cases hbad
   have hfin:=HR.out;rw[hGf]at hfin
   gi_wp2
   exact Tryz.dec_ret rfl rfl x40 x41 x50 hK (by omega) hBX hfin.symm)
end Go.Proofs
namespace Go.Proofs
open Go.RowKit Go.Shelf
attribute [local go_sem] Oper.semAt_some
def Tryz.dec_ret0{w X:World}{tmps:Array Value}{k:Int}{S:ByteArray}{a:Int}
 (t4:tmps[4]?.getD undef=.pointer (some ⟨w.heap.size,0,none⟩))(t5:tmps[5]?.getD undef=.pointer (some ⟨w.heap.size+1,0,none⟩))
 (f:X.cell? ⟨w.heap.size,0,none⟩=some (.int .i64 k))(g:X.cell? ⟨w.heap.size,1,none⟩=some (.string S))(h:X.cell? ⟨w.heap.size+1,0,none⟩=some (.int .i64 a))
 (i:Below w.heap.size w X){b:Value}(c:b=.tuple #[.agg #[.int .i64 k,.string S],.int .i64 a]):
 bodyPostM Fence.wide 9 Tryz.prog Tryz.f371 (λe d=>e=.returned b/\Below w.heap.size w d) .ret {tmps:=tmps,defers:=[]} X:=by
 refine⟨b,?_,rfl,i⟩;have j:Tryz.f371.results= #[.cell 4 372,.cell 5 41]:=rfl;subst c;unfold results;rw[j];simp[go_sem,t4,t5,f,g,h]
def Tryz.LooksNo(a:Int)(w:World):Prop:=
 ∀W,Below w.heap.size w W->Calls Tryz.prog 368 #[] W λe b=>∃c,e=.returned (.map (some c))/\Below W.heap.size W b/\
  (Instr.lookup 537 (.map (some c)) (.int .i64 a) true).run Tryz.prog b=.ok (.tuple #[.agg #[.nilFunc,.int .i64 0],.bool false]) b
set_option maxRecDepth 100000 in
set_option maxHeartbeats 8000000 in
def Tryz.dec_none(f:Int)(a:Option Addr)(L l:Nat)(w:World)(s:Tryz.LooksNo f w):
 Calls Tryz.prog 371 #[.int .i64 f,.slice a L l] w λe u=>e=.returned (Tryz.decV ((0,[]),3))/\Below w.heap.size w u:=by
 have mixed:Tryz.prog.follows .mixedOrders=true:=by kernel_rfl
 refine(ajq (n:=9)).1 ?_;refine akI Tryz.func371 rfl trivial ?_ rfl;simp only[Tryz.ntmps371,aju,ahP,ah9,Nat.reduceAdd,Nat.reduceSub,ajA,ajB,ajU,ajF,aiw,aiB];have h:Below w.heap.size w ((w.alloc (.cells #[.int .i64 0,.string ⟨#[]⟩] 372)).alloc (.cells #[.int .i64 0] 41)):=((aiX _ w).alloc (ahS _) _).alloc (by simp) _;have o:=s _ h;have i:((w.alloc (.cells #[.int .i64 0,.string ⟨#[]⟩] 372)).alloc (.cells #[.int .i64 0] 41)).heap[w.heap.size]?=some (.cells #[.int .i64 0,.string ⟨#[]⟩] 372 (0,0)):=by rw[eE,eE,air (by simp),ah2 rfl]
 have r:((w.alloc (.cells #[.int .i64 0,.string ⟨#[]⟩] 372)).alloc (.cells #[.int .i64 0] 41)).heap[w.heap.size+1]?=some (.cells #[.int .i64 0] 41 (0,0)):=by rw[eE,ah2 (by simp)]
 clear s
 gi_wp2_with (refine⟨trivial,?_⟩;gi_at_call 368;refine(ajq.2 o).mono ?_;rintro e t ⟨v,rfl,j,q⟩
              have k:=kB.of_below (j.alloc j.size (.cells #[Value.nilFunc,.int .i64 0] 536));have b:=Tryz.cell_of (k _ _ _ _ i) 0;have c:=Tryz.cell_of (k _ _ _ _ i) 1;have d:=Tryz.cell_of (k _ _ _ _ r) 0;have m:Below w.heap.size w (t.alloc (.cells #[Value.nilFunc,.int .i64 0] 536)):=(h.trans (j.mono (by simp;omega))).alloc (by have:=j.size;simp at this;omega) _;clear k;simp at b c d)
 have g:=Tryz.three_sets (W:=t.alloc (.cells #[Value.nilFunc,.int .i64 0] 536)) (n0:=w.heap.size) (by rw[b.1];rfl) (by rw[c.1];rfl) (by rw[d.1];rfl);exact Tryz.dec_ret0 rfl rfl (g _ _ _).1 (g _ _ _).2.1 (g _ _ _).2.2 (((m.setCell (p:=⟨w.heap.size,0,none⟩) (ahS _) _).setCell (p:=⟨w.heap.size,1,none⟩) (ahS _) _).setCell (p:=⟨w.heap.size+1,0,none⟩) (by simp) _) rfl
set_option maxRecDepth 100000 in
set_option maxHeartbeats 8000000 in
def Tryz.dec_rem(g:Int)(a:Option Addr)(L q m wd:Nat)(R:Array Value->World->Prop)(w:World)(E:1<wd)(y:¬L % wd=0)(x:Tryz.Looks g m wd R w):
 Calls Tryz.prog 371 #[.int .i64 g,.slice a L q] w λe A=>e=.returned (Tryz.decV ((0,[]),6))/\Below w.heap.size w A:=by
 have mixed:Tryz.prog.follows .mixedOrders=true:=by kernel_rfl
 refine(ajq (n:=9)).1 ?_;refine akI Tryz.func371 rfl trivial ?_ rfl;simp only[Tryz.ntmps371,aju,ahP,ah9,Nat.reduceAdd,Nat.reduceSub,ajA,ajB,ajU,ajF,aiw,aiB];have j:Below w.heap.size w ((w.alloc (.cells #[.int .i64 0,.string ⟨#[]⟩] 372)).alloc (.cells #[.int .i64 0] 41)):=((aiX _ w).alloc (ahS _) _).alloc (by simp) _;have s:=x _ j;have k:((w.alloc (.cells #[.int .i64 0,.string ⟨#[]⟩] 372)).alloc (.cells #[.int .i64 0] 41)).heap[w.heap.size]?=some (.cells #[.int .i64 0,.string ⟨#[]⟩] 372 (0,0)):=by rw[eE,eE,air (by simp),ah2 rfl]
 have u:((w.alloc (.cells #[.int .i64 0,.string ⟨#[]⟩] 372)).alloc (.cells #[.int .i64 0] 41)).heap[w.heap.size+1]?=some (.cells #[.int .i64 0] 41 (0,0)):=by rw[eE,ah2 (by simp)]
 have C:¬((wd:Int)=0):=by omega
 have i:¬((L:Int) % wd=0):=by omega
 have v:((L:Int) % wd !=0)=true:=by simpa using i
 have B:1<(wd:Int):=by omega
 clear x
 gi_wp2_with (refine⟨trivial,?_⟩;gi_at_call 368;refine(ajq.2 s).mono ?_;rintro e z ⟨D,b,rfl,l,t,_⟩
              have o:=kB.of_below (l.alloc l.size (.cells #[.func (.func m) #[] b,.int .i64 wd] 536));have c:=Tryz.cell_of (o _ _ _ _ k) 0;have d:=Tryz.cell_of (o _ _ _ _ k) 1;have f:=Tryz.cell_of (o _ _ _ _ u) 0;have r:Below w.heap.size w (z.alloc (.cells #[.func (.func m) #[] b,.int .i64 wd] 536)):=(j.trans (l.mono (by simp;omega))).alloc (by have:=l.size;simp at this;omega) _;clear o;simp at c d f)
 have h:=Tryz.three_sets (W:=z.alloc (.cells #[.func (.func m) #[] b,.int .i64 wd] 536)) (n0:=w.heap.size) (by rw[c.1];rfl) (by rw[d.1];rfl) (by rw[f.1];rfl);exact Tryz.dec_ret0 rfl rfl (h _ _ _).1 (h _ _ _).2.1 (h _ _ _).2.2 (((r.setCell (p:=⟨w.heap.size,0,none⟩) (ahS _) _).setCell (p:=⟨w.heap.size,1,none⟩) (ahS _) _).setCell (p:=⟨w.heap.size+1,0,none⟩) (by simp) _) rfl
set_option maxRecDepth 100000 in
set_option maxHeartbeats 8000000 in
def Tryz.dec_utf(b:Int)(a:Option Addr)(u x:Nat)(c:List UInt8)(K:World->Prop)(R:Array Value->World->Prop)(w:World)
 (f:∀W,Below w.heap.size w W->(convert 22 9 (.slice a c.length u)).run Tryz.prog W=.ok (.string ⟨c.toArray⟩) W)
 (Q:Tryz.Looks b x 0 (λd W=>R d W/\K W) w)(A:Bool)
 (J:∀t,K t->∀h,Below t.heap.size t h->Calls Tryz.prog 367 #[.agg #[.int .i64 b,.string ⟨c.toArray⟩]] h λe T=>e=.returned (.bool A)/\Below h.heap.size h T):
 Calls Tryz.prog 371 #[.int .i64 b,.slice a c.length u] w λe t=>e=.returned (Tryz.decV (bif A then((b,c),0) else((0,[]),6)))/\Below w.heap.size w t:=by
 have mixed:Tryz.prog.follows .mixedOrders=true:=by kernel_rfl
 refine(ajq (n:=9)).1 ?_;refine akI Tryz.func371 rfl trivial ?_ rfl;simp only[Tryz.ntmps371,aju,ahP,ah9,Nat.reduceAdd,Nat.reduceSub,ajA,ajB,ajU,ajF,aiw,aiB];have q:Below w.heap.size w ((w.alloc (.cells #[.int .i64 0,.string ⟨#[]⟩] 372)).alloc (.cells #[.int .i64 0] 41)):=((aiX _ w).alloc (ahS _) _).alloc (by simp) _;have H:=Q _ q;have y:((w.alloc (.cells #[.int .i64 0,.string ⟨#[]⟩] 372)).alloc (.cells #[.int .i64 0] 41)).heap[w.heap.size]?=some (.cells #[.int .i64 0,.string ⟨#[]⟩] 372 (0,0)):=by rw[eE,eE,air (by simp),ah2 rfl]
 have N:((w.alloc (.cells #[.int .i64 0,.string ⟨#[]⟩] 372)).alloc (.cells #[.int .i64 0] 41)).heap[w.heap.size+1]?=some (.cells #[.int .i64 0] 41 (0,0)):=by rw[eE,ah2 (by simp)]
 obtain⟨C,P⟩:∃C,(⟨c.toArray⟩:ByteArray)=C:=⟨_,rfl⟩;obtain⟨D,r⟩:∃D,Tryz.decV (bif A then((b,c),0) else((0,[]),6))=D:=⟨_,rfl⟩;rw[P]at f J;rw[r];have S:Hid (Tryz.decV (bif A then((b,c),0) else((0,[]),6))=D):=r;clear Q r;cases A
 all_goals (
  gi_wp2_with (first
   |(refine⟨trivial,?_⟩;gi_at_call 368;refine(ajq.2 H).mono ?_;rintro e s ⟨V,d,rfl,i,M,_,I⟩
     have U:=f (s.alloc (Obj.cells #[Value.func (Fn.func x) #[] d,Value.int IntKind.i64 0] 536)) ((q.trans (i.mono (by simp;omega))).alloc (by have:=i.size;simp at this;omega) _);have L:=J s I ((s.alloc (.cells #[.func (.func x) #[] d,.int .i64 0] 536)).alloc (.cells #[.int .i64 b,.string C] 372)) (((aiX _ s).alloc (ahS _) _).alloc (by simp) _);have z:((s.alloc (.cells #[.func (.func x) #[] d,.int .i64 0] 536)).alloc (.cells #[.int .i64 b,.string C] 372)).heap[s.heap.size+1]?=some (.cells #[.int .i64 b,.string C] 372 (0,0)):=by rw[eE,ah2 (by simp)]
     clear J f)
   |(refine⟨trivial,?_⟩;gi_at_call 367;refine(ajq.2 L).mono ?_;rintro e O ⟨rfl,v⟩
     have B:=(kB.of_below ((i.alloc i.size (.cells #[.func (.func x) #[] d,.int .i64 0] 536)).alloc (by have:=i.size;simp at this⊢;omega) (.cells #[.int .i64 b,.string C] 372)));have g:=kB.of_below v;have E:=Tryz.cell_of (g _ _ _ _ z) 0;have F:=Tryz.cell_of (g _ _ _ _ z) 1;have k:=Tryz.cell_of (g _ _ _ _ (B _ _ _ _ y)) 0;have l:=Tryz.cell_of (g _ _ _ _ (B _ _ _ _ y)) 1;have m:=Tryz.cell_of (g _ _ _ _ (B _ _ _ _ N)) 0;have G:Below w.heap.size w O:=(((q.trans (i.mono (by simp;omega))).alloc (by have:=i.size;simp at this;omega) _).alloc (by have:=i.size;simp at this;simp;omega) _).trans (v.mono (by have:=i.size;simp at this;simp;omega));clear B g;simp at E F k l m))
  have o:=Tryz.three_sets (W:=O) (n0:=w.heap.size) (by rw[k.1];rfl) (by rw[l.1];rfl) (by rw[m.1];rfl);refine Tryz.dec_ret0 rfl rfl (o _ _ _).1 (o _ _ _).2.1 (o _ _ _).2.2 (((G.setCell (p:=⟨w.heap.size,0,none⟩) (ahS _) _).setCell (p:=⟨w.heap.size,1,none⟩) (ahS _) _).setCell (p:=⟨w.heap.size+1,0,none⟩) (by simp) _) ?_;have j:=S.out
  first|exact j.symm|(subst P;exact j.symm))
end Go.Proofs
def akg:=@Array.toList_inj
namespace Go.Fw
open Go.RowKit
def Js{P:Program}{G:Gh}{w:World}(F:nX G w){t:TypeId}{lk:LK}{z:D}(J:yD P t=some (lk,z)){ok:Bool}{ks vs:List D}{k d:D}{mv E:Value}(h:wv lk z ok ks vs k=some d)(B:Rep G (.pmap ks vs) mv)(I:Rep G k E):
 ∃u,(Instr.lookup t mv E ok).run P w=.ok u w/\Rep G d u:=by
 simp only[Rep]at B;obtain⟨b,M,L,rfl,j,r,x,y⟩:=B;obtain⟨H,_⟩:=F.mimm _ _ j;unfold wv at h;split at h<;>try (cases h;done)
 rename_i e;split at h<;>try (cases h;done)
 split at h<;>try (cases h;done)
 obtain⟨e,o⟩:=EH e;have A:ks.length=vs.length:=by rw[x.length,y.length];simp
 have g:(ks.zip vs).map (·.1)=ks:=ak5 (by omega);have v:(ks.zip vs).map (·.2)=vs:=ak6 (by omega);have m:EG G (ks.zip vs) L:=⟨by rw[g];exact x,by rw[v];exact y⟩;obtain⟨s,p1,p2,K⟩:=LE r m;have C:∀p∈ks.zip vs,mU p.1=true:=λp l=>e _ (by rw[<-g];exact aiG.2 ⟨p,l,rfl⟩);have q:∀p∈s,mU p.1=true:=λp l=>C p (p1.subset l);have f:(ks.zip vs).Pairwise λa b=>ja a.1≠ja b.1:=by
  have c:((ks.zip vs).map (·.1)).Pairwise λa b=>ja a≠ja b:=by rw[g];exact o
  rw[List.pairwise_map]at c;exact c
 have i:=uy (z:=z) (ok:=ok) (n:=‹Int›) C;rw[g,v,h]at i;rw[Jq p1.symm f,<-uy q]at i;exact BD J i.symm H p2 K I
def uB{P:Program}{G:Gh}{w c:World}(h:GlobOk P G w)(b:Below w.heap.size w c):GlobOk P G c:=
 ⟨λg a e=>⟨aix (h.1 g a e).1 b.size,(h.1 g a e).2⟩,h.2.below b rfl⟩
def WE{P:Program}{G G':Gh}{w c:World}(h:GlobOk P G w)(a:EA G G' w c):GlobOk P G' c:=
 ⟨λg b e=>⟨aix (h.1 g b e).1 a.below.size,Rep.mono a.le _ _ (h.1 g b e).2⟩,h.2.below a.below rfl⟩
def Ke{G G':Gh}{w b:World}(a:EA G G' w b):nX G' b:=⟨a.imm,a.mimm,a.siz⟩
def BE{G:Gh}{w a:World}(h:nX G w)(b:Below w.heap.size w a):nX G a:=Ke (lH h b)
end Go.Fw
namespace Go.Proofs.Tryz
open Go Go.Fw Go.RowKit
def LM:yD prog 537=some (.i,.agg [.nilf,.int .i64 0]):=by kernel_rfl
def sr{f:Nat}{i:Nat}{ds:List D}{G:Gh}{W:World}{a:Array Value}(m:nX G W)(l:GlobOk prog G W)(b:af G ds a.toList)
 (h:∀r:Int,0<=r->r<=1114111->fh prog f (.int .i32 r::ds) (.bool (kj i r))):Tryz.HasOK f (kj i) a W:=by
 intro c d r j k;have:=h r j k G c (.int .i32 r::a.toList) (BE m d) (uB l d) (by simp only[af,Rep];exact⟨_,_,rfl,rfl,b⟩);rw[show(Value.int .i32 r::a.toList).toArray= #[.int .i32 r]++a from by apply akg.1;simp]at this;refine this.mono ?_;rintro e p ⟨v,o,rfl,n,g⟩;simp only[Rep]at g;subst g;exact⟨rfl,n.below⟩
def ag7(r:Int)(c:0<=r)(d:r<=1114111):gR r=some (kj 1 r):=by
 have a:sn r=some (inP r):=by
  unfold sn;rw[ahO (by omega),ahO (by omega)];rfl
 have:∃y,gR r=some y:=by
  unfold gR;simp only[a,ahI];cases decide (r>=97)<;>cases decide (r<=122)<;>cases decide (r>=65)<;>cases decide (r<=90)<;>cases decide (r>=48)<;>cases decide (r<=57)<;>exact⟨_,rfl⟩
 obtain⟨y,b⟩:=this;show _=some ((gR r).getD false);rw[b];rfl
def aef(r a b:Int):cU r a b=some ((cU r a b).getD false):=by
 unfold cU;cases decide (r>=a)<;>rfl
def ag8(r:Int):fT r 32 126=some (kj 2 r):=by
 have:∃y,fT r 32 126=some y:=by
  unfold fT;rw[aef];simp only[ahI];cases (cU r 32 126).getD false<;>cases decide (r>=160)<;>exact⟨_,rfl⟩
 obtain⟨y,a⟩:=this;show _=some ((fT r 32 126).getD false);rw[a];rfl
def ag9(r:Int):Ey r=some (kj 5 r):=by
 show _=some ((Ey r).getD false);rw[Ih];rfl
def aha(r:Int):gS r=some (kj 6 r):=by
 have:∃y,gS r=some y:=by
  unfold gS;rw[Ih];simp only[ahI];cases Lib.validRune r<;>exact⟨_,rfl⟩
 obtain⟨y,a⟩:=this;show _=some ((gS r).getD false);rw[a];rfl
def p1(r:Int)(a:0<=r)(b:r<=1114111):fh prog 378 (.int .i32 r::[]) (.bool (kj 1 r)):=by
 obtain⟨_,_,_,h⟩:=jE;obtain⟨v,e,_,c⟩:=h r (kj 1 r) (ag7 r a b);have e:some ((SV.bool (kj 1 r),([]:List DV)))=some (v,[]):=e;cases e;exact c [.int .i32 r] rfl _ (by simp only[VRs,VR];exact⟨_,_,rfl,rfl,rfl⟩)
def pB(a b:Int)(i:Nat)(d:∀r,kj i r=(cU r a b).getD false)(r:Int)(_:0<=r)(_:r<=1114111):fh prog 390 (.int .i32 r::[.rptr [.int .i32 a] 0,.rptr [.int .i32 b] 0]) (.bool (kj i r)):=by
 obtain⟨_,_,_,h⟩:=fY;obtain⟨v,e,_,c⟩:=h (r,a,b) (kj i r) (by rw[d];exact aef r a b);have e:some ((SV.bool (kj i r),([]:List DV)))=some (v,[]):=e;cases e;exact c [.int .i32 r,.rc [.int .i32 a] 0,.rc [.int .i32 b] 0] rfl _ (by simp only[VRs,VR];exact⟨_,_,rfl,rfl,_,_,rfl,⟨_,rfl,⟨_,_,rfl,rfl,rfl⟩⟩,_,_,rfl,⟨_,rfl,⟨_,_,rfl,rfl,rfl⟩⟩,rfl⟩)
def p2(r:Int)(_:0<=r)(_:r<=1114111):fh prog 381 (.int .i32 r::[.rptr [dB] 0]) (.bool (kj 2 r)):=by
 obtain⟨_,_,_,h⟩:=ir;obtain⟨v,e,_,a⟩:=h ((r,32,126):Int×Int×Int) (kj 2 r) (ag8 r);have e:some ((SV.bool (kj 2 r),([]:List DV)))=some (v,[]):=e;cases e;exact a [.int .i32 r,.rc [.func (.func 390) [] [.rc [.int .i32 32] 0,.rc [.int .i32 126] 0]] 0] rfl _ (by simp only[VRs,VR,dB,btw];exact⟨_,_,rfl,rfl,_,_,rfl,⟨_,rfl,_,_,rfl,⟨_,_,rfl,rfl,_,_,rfl,⟨_,rfl,_,_,rfl,rfl,rfl⟩,_,_,rfl,⟨_,rfl,_,_,rfl,rfl,rfl⟩,rfl⟩,rfl⟩,rfl⟩)
def p5(r:Int)(_:0<=r)(_:r<=1114111):fh prog 382 (.int .i32 r::[]) (.bool (kj 5 r)):=by
 obtain⟨_,_,_,h⟩:=Hs;obtain⟨v,e,_,a⟩:=h r (kj 5 r) (ag9 r);have e:some ((SV.bool (kj 5 r),([]:List DV)))=some (v,[]):=e;cases e;exact a [.int .i32 r] rfl _ (by simp only[VRs,VR];exact⟨_,_,rfl,rfl,rfl⟩)
def p6(r:Int)(_:0<=r)(_:r<=1114111):fh prog 383 (.int .i32 r::[]) (.bool (kj 6 r)):=by
 obtain⟨_,_,_,h⟩:=jF;obtain⟨v,e,_,a⟩:=h r (kj 6 r) (aha r);have e:some ((SV.bool (kj 6 r),([]:List DV)))=some (v,[]):=e;cases e;exact a [.int .i32 r] rfl _ (by simp only[VRs,VR];exact⟨_,_,rfl,rfl,rfl⟩)
def KV(W:World):Prop:=∃G,nX G W/\GlobOk prog G W
variable{Z:Int}
def su{G:Gh}{w:World}(C:nX G w)(o:GlobOk prog G w){h wd i:Nat}{ds:List D}
 (E:wv .i (.agg [.nilf,.int .i64 0]) true nB nC (.int .i64 Z)=some (.tuple [.agg [.func (.func h) [] ds,.int .i64 (wd:Int)],.bool true]))
 (F:∀W a d,nX d W->GlobOk prog d W->af d ds a.toList->Tryz.HasOK h (kj i) a W):Tryz.Looks Z h wd (λa W=>Tryz.HasOK h (kj i) a W/\KV W) w:=by
 intro W l;refine(Kg G W [] (BE C l) (uB o l) rfl).mono ?_;rintro e I ⟨v,d,rfl,m,p⟩;have b:=Ke m;have g:=WE (uB o l) m;obtain⟨u,H,k⟩:=Js b LM E p (show Rep d (.int .i64 Z) (.int .i64 Z) by simp only[Rep]);simp only[Rep,af]at k;obtain⟨q,rfl,M,J,s,⟨n,rfl,N,K,t,⟨f,c,rfl,x,y⟩,O,L,rfl,rfl,rfl⟩,P,r4,rfl,rfl,rfl⟩:=k;have j:=p;simp only[Rep]at j;obtain⟨r,_,_,rfl,_⟩:=j;have z:q= #[.agg n,.bool true]:=akg.1 s;have A:n= #[.func (.func h) f c,.int .i64 wd]:=akg.1 t;have B:f= #[]:=akg.1 x;subst z A B;exact⟨r,c,rfl,m.below,H,F _ _ _ b g y,d,b,g⟩
def Zt{G:Gh}{w:World}(q:nX G w)(p:GlobOk prog G w)
 (r:wv .i (.agg [.nilf,.int .i64 0]) true nB nC (.int .i64 Z)=some (.tuple [.agg [.nilf,.int .i64 0],.bool false])):Tryz.LooksNo Z w:=by
 intro W f;refine(Kg G W [] (BE q f) (uB p f) rfl).mono ?_;rintro e t ⟨v,i,rfl,g,h⟩;have c:=Ke g;obtain⟨u,s,b⟩:=Js c LM r h (show Rep i (.int .i64 Z) (.int .i64 Z) by simp only[Rep]);simp only[Rep,af]at b;obtain⟨j,rfl,A,x,l,⟨d,rfl,B,y,m,rfl,C,z,rfl,rfl,rfl⟩,D,r4,rfl,rfl,rfl⟩:=b;have a:=h;simp only[Rep]at a;obtain⟨k,_,_,rfl,_⟩:=a;have n:j= #[.agg d,.bool false]:=akg.1 l;have o:d= #[.nilFunc,.int .i64 0]:=akg.1 m;subst n o;exact⟨k,rfl,g.below,s⟩
def WF(h:Z≠12/\Z≠19/\Z≠20/\Z≠22/\Z≠26/\Z≠28/\Z≠30):
 wv .i (.agg [.nilf,.int .i64 0]) true nB nC (.int .i64 Z)=some (.tuple [.agg [.nilf,.int .i64 0],.bool false]):=by
 have k:∀p∈nB.zip nC,mU p.1=true:=by intro p a;simp[nB,nC]at a;rcases a with rfl|rfl|rfl|rfl|rfl|rfl|rfl<;>rfl
 have b:wv .i (.agg [.nilf,.int .i64 0]) true nB nC (.int .i64 Z)=oK .i (.agg [.nilf,.int .i64 0]) true ((nB.zip nC).map (·.1)) ((nB.zip nC).map (·.2)) (.int .i64 Z):=rfl;rw[b,uy k];obtain⟨c,d,e,f,g,i,j⟩:=h;have:mN Z (nB.zip nC)=none:=by
  simp[nB,nC,mN,ja,c.symm,d.symm,e.symm,f.symm,g.symm,i.symm,j.symm]
 rw[this];rfl
def Jt(N:Nat)(a:Int)(T:List UInt8)(d:Bool)(h:kU N (a,T)=some d):∀c,KV c->∀b,Below c.heap.size c b->
 Calls prog 367 #[.agg #[.int .i64 a,.string ⟨T.toArray⟩]] b λe i=>e=.returned (.bool d)/\Below b.heap.size b i:=by
 rintro c ⟨G,l,k⟩ b f;obtain⟨_,_,_,m⟩:=pQ N;obtain⟨v,e,_,j⟩:=m ((a,T):Int×Bs) d h;have e:some ((SV.bool d,([]:List DV)))=some (v,[]):=e;cases e;have o:=j [.agg [.int .i64 a,.str T]] rfl [.agg [.int .i64 a,.str T]] (by simp only[VRs,VR];exact⟨_,_,rfl,⟨_,rfl,_,_,rfl,rfl,_,_,rfl,rfl,rfl⟩,rfl⟩);refine(o G b [.agg #[.int .i64 a,.string ⟨T.toArray⟩]] (BE l f) (uB k f) (by simp only[af,Rep];exact⟨_,_,rfl,⟨_,rfl,_,_,rfl,rfl,_,_,rfl,rfl,rfl⟩,rfl⟩)).mono ?_;rintro e q ⟨v,p,rfl,n,g⟩;simp only[SV.can,Rep]at g;subst g;exact⟨rfl,n.below⟩
end Go.Proofs.Tryz
namespace Go.Proofs.Tryz
open Go Go.Fw Go.RowKit
def QW{G:Gh}{w:World}(e:nX G w){b:Nat}:∀{xs:List UInt8}{o:Nat},Cells G b o (dF mC xs)->∀(j:Nat) x,xs[j]?=some x->w.cell? ⟨b,o+j,none⟩=some (.int .u8 (x.toNat:Int))
 |[],_,_,j,x,a=>by simp at a
 |y::c,o,h,j,x,a=>by
  rw[show dF mC (y::c)=.int .u8 (y.toNat:Int)::dF mC c from mC.fcons y c]at h;simp only[Cells]at h;obtain⟨⟨v,f,d⟩,g⟩:=h;cases j with
  |zero=>
   simp at a;subst a;simp only[Rep]at d;rw[aj8,e.imm _ _ _ f,d]
  |succ j=>
   have:=QW e g j x (by simpa using a);rw[show o+(j+1)=o+1+j from by omega];exact this
variable{Z:Nat}
def ES{a:Option Addr}{c:List UInt8}{w:World}
 (h:(∃b o,a=some ⟨b,o,none⟩/\∀j x,c[j]?=some x->w.cell? ⟨b,o+j,none⟩=some (.int .u8 (x.toNat:Int)))∨c=[])(W:World)(l:Below w.heap.size w W):
 (convert 22 9 (.slice a c.length Z)).run prog W=.ok (.string ⟨c.toArray⟩) W:=by
 have g:∀x:Addr,(∀j (d:j<c.length),W.cell? (x.add j)=some (.int .u8 (c[j].toNat:Int)))->(convert 22 9 (.slice (some x) c.length Z)).run prog W=.ok (.string ⟨c.toArray⟩) W:=λx f=>
  run_convert_bytes_back W 22 9 5 x Z c (by kernel_rfl) (by kernel_rfl) (by kernel_rfl) f
 rcases h with⟨b,o,rfl,f⟩|rfl
 ·refine g _ λj d=> ?_;have i:=f j _ (ahK d);have k:=(l.cell (p:=⟨b,o+j,none⟩) (ip i)).trans i;have e:(⟨b,o,none⟩:Addr).add j=⟨b,o+j,none⟩:=by cases j<;>simp[Addr.add]
  rw[e];exact k
 ·cases a with
  |none=>exact Lib.run_convert_nil_bytes W 22 9 5 Z (by kernel_rfl) (by kernel_rfl) (by kernel_rfl)
  |some x=>exact g x λj d=>absurd d (akM _)
def LN(c:List UInt8)(wd m:Nat):Lib.byteCells (uN c wd m)=Tryz.accC c wd m (List.finRange m):=by
 unfold uN Tryz.accC;induction List.finRange m with
 |nil=>rfl
 |cons x b a=>
  rw[akZ,akZ,<-a,<-Lib.byteCells_encodeRune];simp[Lib.byteCells]
structure Arg(w:World)(a:Option Addr)(c:List UInt8)(cap:Nat):Prop where
 le:c.length<=cap
 max:cap<=9223372036854775807
 cells:(∃b o,a=some ⟨b,o,none⟩/\∀j x,c[j]?=some x->w.cell? ⟨b,o+j,none⟩=some (.int .u8 (x.toNat:Int)))∨c=[]
def tb{N i wd p:Nat}{d:Int}{c:List UInt8}{a:Option Addr}{w:World}{y:(Int×List UInt8)×Int}(n:Arg w a c Z)(u:c.length<=35184372088831)(B:1<=wd)
 (H:∀l w,(callFunc p l).run prog w=.ok (.enter p l) w)
 (E:Tryz.Looks d p wd (λq W=>Tryz.HasOK p (kj i) q W/\KV W) w)(k:Cn N i wd d c=some y):
 Calls prog 371 #[.int .i64 d,.slice a c.length Z] w λe K=>e=.returned (Tryz.decV y)/\Below w.heap.size w K:=by
 unfold Cn at k;cases z:Nat.beq (c.length % wd) 0 with
 |false=>
  rw[z]at k;cases k;have C:¬c.length % wd=0:=λh=>by rw[h]at z;cases z
  exact Tryz.dec_rem d a c.length Z p wd _ w (by
   rcases ah0 1 wd with h|h
   ·exact h
   ·exfalso;obtain rfl:wd=1:=by omega
    exact C (Nat.mod_one _)) C E
 |true=>
  rw[z]at k;have C:c.length % wd=0:=ai5 z;obtain⟨m,D⟩:∃m,c.length / wd=m:=⟨_,rfl⟩;have g:c.length=m*wd:=by rw[<-D,Nat.mul_comm];exact(Nat.mul_div_cancel' (Nat.dvd_of_mod_eq_zero C)).symm
  rw[D]at k;have v:m<=35184372088831:=ai4 (by rw[<-D];exact Nat.div_le_self _ _) u;obtain⟨b,o,A,s,f⟩:∃b o,(m=0∨a=some ⟨b,o,none⟩)/\(0<m->b<w.heap.size)/\∀(j:Nat) x,c[j]?=some x->w.cell? ⟨b,o+j,none⟩=some (.int .u8 (x.toNat:Int)):=by
   rcases n.cells with⟨b,o,rfl,I⟩|rfl
   ·refine⟨b,o,.inr rfl,λh=> ?_,I⟩;have L:0<c.length:=by rw[g];exact alE h (by omega)
    exact ip (I 0 _ (ahK L))
   ·have:m=0:=by rw[<-D];simp
    exact⟨0,0,.inl this,λh=>by omega,λj x h=>by simp at h⟩
  have r:((List.finRange m).all λx=>abo i c wd x.val)=((List.finRange m).all λx=>Tryz.goodU c wd (kj i) x.val):=rfl;rw[r]at k;cases t:((List.finRange m).all λx=>Tryz.goodU c wd (kj i) x.val) with
  |true=>
   rw[t]at k;obtain⟨J,F,G⟩:=ajo.1 k;have:=Tryz.dec_try d a b o Z m wd c p KV (kj i) w B g (g▸n.le) n.max v A s f (ES n.cells) H E (uN c wd m) (LN c wd m) J (λ_=>Jt N d _ J F);rw[t]at this;rw[<-G];exact this
  |false=>
   rw[t]at k;have:=Tryz.dec_try d a b o Z m wd c p KV (kj i) w B g (g▸n.le) n.max v A s f (ES n.cells) H E (uN c wd m) (LN c wd m) true (λh=>by rw[t]at h;cases h);rw[t]at this;cases k;exact this
def WG(N:Nat)(b:Int)(c:List UInt8)(y:(Int×List UInt8)×Int)(d:bE N b c=some y){G:Gh}{w:World}(m:nX G w)(l:GlobOk prog G w){a:Option Addr}(n:Arg w a c Z):
 Calls prog 371 #[.int .i64 b,.slice a c.length Z] w λe B=>e=.returned (Tryz.decV y)/\Below w.heap.size w B:=by
 rw[vK]at d;unfold VK at d;cases x:Nat.ble c.length 35184372088831 with
 |false=>rw[x]at d;cases d
 |true=>
  have g:=ahV x;rw[x]at d;simp only[ahY]at d;by_cases o:b=12
  ·subst o;rw[ah2 rfl]at d;obtain⟨A,z,rfl⟩:=ajo.1 d;exact Tryz.dec_utf 12 a Z 382 c KV (λf W=>Tryz.HasOK 382 (kj 5) f W) w (ES n.cells) (su (i:=5) (ds:=[]) (wd:=0) m l rfl λW f v h j k=>sr h j k p5) A (Jt N 12 c A z)
  rw[air o]at d;by_cases p:b=19
  ·subst p;rw[ah2 rfl]at d;exact tb n g (by decide) (aj5 Tryz.func378 (by kernel_rfl) rfl) (su (i:=1) (ds:=[]) (wd:=1) m l rfl λW f v h j k=>sr h j k p1) d
  rw[air p]at d;by_cases q:b=20
  ·subst q;rw[ah2 rfl]at d;exact tb n g (by decide) (aj5 Tryz.func381 (by kernel_rfl) rfl) (su (i:=2) (ds:=[.rptr [dB] 0]) (wd:=1) m l rfl λW f v h j k=>sr h j k p2) d
  rw[air q]at d;by_cases r:b=22
  ·subst r;rw[ah2 rfl]at d;exact tb n g (by decide) (aj5 Tryz.func390 (by kernel_rfl) rfl) (su (i:=3) (ds:=[.rptr [.int .i32 0] 0,.rptr [.int .i32 127] 0]) (wd:=1) m l rfl λW f v h j k=>sr h j k (pB 0 127 3 λ_=>rfl)) d
  rw[air r]at d;by_cases s:b=26
  ·subst s;rw[ah2 rfl]at d;exact tb n g (by decide) (aj5 Tryz.func390 (by kernel_rfl) rfl) (su (i:=4) (ds:=[.rptr [.int .i32 32] 0,.rptr [.int .i32 126] 0]) (wd:=1) m l rfl λW f v h j k=>sr h j k (pB 32 126 4 λ_=>rfl)) d
  rw[air s]at d;by_cases t:b=28
  ·subst t;rw[ah2 rfl]at d;exact tb n g (by decide) (aj5 Tryz.func382 (by kernel_rfl) rfl) (su (i:=5) (ds:=[]) (wd:=4) m l rfl λW f v h j k=>sr h j k p5) d
  rw[air t]at d;by_cases u:b=30
  ·subst u;rw[ah2 rfl]at d;exact tb n g (by decide) (aj5 Tryz.func383 (by kernel_rfl) rfl) (su (i:=6) (ds:=[]) (wd:=2) m l rfl λW f v h j k=>sr h j k p6) d
  rw[air u]at d;cases d;exact Tryz.dec_none b a c.length Z w (Zt m l (WF ⟨o,p,q,r,s,t,u⟩))
def abU:jt prog 371:=(jr (f:=371) (fn:=f371) (by kernel_rfl)).2
def Kf(N:Nat):fG prog 371 (AJ N):=by
 refine⟨abU,rfl,rfl,λ(x:Int×List UInt8)(y:(Int×List UInt8)×Int) n=> ?_⟩;obtain⟨d,c⟩:=x;have n:bE N d c=some y:=n;obtain⟨⟨D,E⟩,v⟩:=y;refine⟨.tup [.agg [.int .i64 D,.str E],.int .i64 v],rfl,λ_ _=>by simp only[SV.can,SV.cans,VR,VRs];exact⟨_,rfl,_,_,rfl,⟨_,rfl,_,_,rfl,rfl,_,_,rfl,rfl,rfl⟩,_,_,rfl,rfl,rfl⟩,?_⟩;intro K m F g;cases m;simp only[VRs]at g;obtain⟨z,_,rfl,i,d2,_,rfl,q,rfl⟩:=g;intro G w u j A r;have i:z=.int .i64 d:=by simpa only[nk,VR] using i
 simp only[nk,VR]at q;obtain⟨H,rfl,_⟩:=q;subst i;simp only[af]at r;obtain⟨I,_,rfl,s,J,_,rfl,t,rfl⟩:=r;simp only[Rep]at s t;subst s;obtain⟨a,h,rfl,k,l,_,f⟩:=t;have B:Arg w a c h:=⟨k,l,by
  rcases f with⟨b,o,rfl,f⟩|f
  ·exact .inl ⟨b,o,rfl,QW j f⟩
  ·refine .inr ?_;cases c with
   |nil=>rfl
   |cons y p=>rw[show TC.flat .byte (y::p)=.int .u8 (y.toNat:Int)::dF mC p from mC.fcons y p]at f;cases f⟩
 refine(WG N d c _ n j A B).mono ?_;rintro e L ⟨rfl,C⟩;refine⟨_,G,rfl,lH j C,?_⟩;simp only[SV.can,SV.cans,Tryz.decV,Rep,af];exact⟨_,rfl,_,_,rfl,⟨_,rfl,_,_,rfl,rfl,_,_,rfl,rfl,rfl⟩,_,_,rfl,rfl,rfl⟩
end Go.Proofs.Tryz
namespace Go.Proofs.Tryz
open Go Go.Fw
def Av:List D:=((D.int IntKind.i64 0)::((D.int IntKind.i64 9)::((D.int IntKind.i64 14)::((D.int IntKind.i64 15)::((D.int IntKind.i64 17)::((D.int IntKind.i64 18)::((D.int IntKind.i64 19)::((D.int IntKind.i64 20)::((D.int IntKind.i64 21)::((D.int IntKind.i64 24)::((D.int IntKind.i64 27)::((D.int IntKind.i64 28)::((D.int IntKind.i64 29)::((D.int IntKind.i64 30)::((D.int IntKind.i64 31)::((D.int IntKind.i64 32)::((D.int IntKind.i64 33)::((D.int IntKind.i64 35)::((D.int IntKind.i64 36)::((D.int IntKind.i64 37)::((D.int IntKind.i64 46)::((D.int IntKind.i64 54)::((D.int IntKind.i64 101)::((D.int IntKind.i64 111)::[]))))))))))))))))))))))))
def Aw:List D:=((D.agg ((D.str [])::((D.str (111::(112::(97::(113::(117::(101::[])))))))::((D.iface 283 (D.agg ((D.func (Fn.func 152) [] [])::((D.func (Fn.func 165) [] [])::((D.func (Fn.func 166) [] [])::[])))))::[]))))::((D.agg ((D.str (50::(46::(53::(46::(50::(57::(46::(57::[])))))))))::((D.str (83::(117::(98::(106::(101::(99::(116::(68::(105::(114::(101::(99::(116::(111::(114::(121::(65::(116::(116::(114::(105::(98::(117::(116::(101::(115::[])))))))))))))))))))))))))))::((D.iface 301 (D.agg ((D.func (Fn.func 167) [] [])::((D.func (Fn.func 168) [] [])::((D.func (Fn.func 169) [] [])::[])))))::[]))))::((D.agg ((D.str (50::(46::(53::(46::(50::(57::(46::(49::(52::[]))))))))))::((D.str (83::(117::(98::(106::(101::(99::(116::(75::(101::(121::(73::(100::(101::(110::(116::(105::(102::(105::(101::(114::[])))))))))))))))))))))::((D.iface 283 (D.agg ((D.func (Fn.func 152) [] [])::((D.func (Fn.func 170) [] [])::((D.func (Fn.func 171) [] [])::[])))))::[]))))::((D.agg ((D.str (50::(46::(53::(46::(50::(57::(46::(49::(53::[]))))))))))::((D.str (75::(101::(121::(85::(115::(97::(103::(101::[])))))))))::((D.iface 304 (D.agg ((D.func (Fn.func 153) [] [])::((D.func (Fn.func 172) [] [])::((D.func (Fn.func 173) [] [])::[])))))::[]))))::((D.agg ((D.str (50::(46::(53::(46::(50::(57::(46::(49::(55::[]))))))))))::((D.str (83::(117::(98::(106::(101::(99::(116::(65::(108::(116::(78::(97::(109::(101::[])))))))))))))))::((D.iface 280 (D.agg ((D.func (Fn.func 154) [] [])::((D.func (Fn.func 155) [] [])::((D.func (Fn.func 156) [] [])::[])))))::[]))))::((D.agg ((D.str (50::(46::(53::(46::(50::(57::(46::(49::(56::[]))))))))))::((D.str (73::(115::(115::(117::(101::(114::(65::(108::(116::(78::(97::(109::(101::[]))))))))))))))::((D.iface 280 (D.agg ((D.func (Fn.func 154) [] [])::((D.func (Fn.func 155) [] [])::((D.func (Fn.func 156) [] [])::[])))))::[]))))::((D.agg ((D.str (50::(46::(53::(46::(50::(57::(46::(49::(57::[]))))))))))::((D.str (66::(97::(115::(105::(99::(67::(111::(110::(115::(116::(114::(97::(105::(110::(116::(115::[])))))))))))))))))::((D.iface 310 (D.agg ((D.func (Fn.func 174) [] [])::((D.func (Fn.func 175) [] [])::((D.func (Fn.func 176) [] [])::[])))))::[]))))::((D.agg ((D.str (50::(46::(53::(46::(50::(57::(46::(50::(48::[]))))))))))::((D.str (67::(82::(76::(78::(117::(109::(98::(101::(114::[]))))))))))::((D.iface 283 (D.agg ((D.func (Fn.func 152) [] [])::((D.func (Fn.func 157) [] [])::((D.func (Fn.func 158) [] [])::[])))))::[]))))::((D.agg ((D.str (50::(46::(53::(46::(50::(57::(46::(50::(49::[]))))))))))::((D.str (67::(82::(76::(82::(101::(97::(115::(111::(110::[]))))))))))::((D.iface 304 (D.agg ((D.func (Fn.func 153) [] [])::((D.func (Fn.func 177) [] [])::((D.func (Fn.func 178) [] [])::[])))))::[]))))::((D.agg ((D.str (50::(46::(53::(46::(50::(57::(46::(50::(52::[]))))))))))::((D.str (73::(110::(118::(97::(108::(105::(100::(105::(116::(121::(68::(97::(116::(101::[])))))))))))))))::((D.iface 314 (D.agg ((D.func (Fn.func 179) [] [])::((D.func (Fn.func 180) [] [])::((D.func (Fn.func 181) [] [])::[])))))::[]))))::((D.agg ((D.str (50::(46::(53::(46::(50::(57::(46::(50::(55::[]))))))))))::((D.str (66::(97::(115::(101::(67::(82::(76::(78::(117::(109::(98::(101::(114::[]))))))))))))))::((D.iface 283 (D.agg ((D.func (Fn.func 152) [] [])::((D.func (Fn.func 157) [] [])::((D.func (Fn.func 158) [] [])::[])))))::[]))))::((D.agg ((D.str (50::(46::(53::(46::(50::(57::(46::(50::(56::[]))))))))))::((D.str (73::(115::(115::(117::(105::(110::(103::(68::(105::(115::(116::(114::(105::(98::(117::(116::(105::(111::(110::(80::(111::(105::(110::(116::[])))))))))))))))))))))))))::((D.iface 320 (D.agg ((D.func (Fn.func 182) [] [])::((D.func (Fn.func 183) [] [])::((D.func (Fn.func 184) [] [])::[])))))::[]))))::((D.agg ((D.str (50::(46::(53::(46::(50::(57::(46::(50::(57::[]))))))))))::((D.str (67::(101::(114::(116::(105::(102::(105::(99::(97::(116::(101::(73::(115::(115::(117::(101::(114::[]))))))))))))))))))::((D.iface 280 (D.agg ((D.func (Fn.func 154) [] [])::((D.func (Fn.func 155) [] [])::((D.func (Fn.func 156) [] [])::[])))))::[]))))::((D.agg ((D.str (50::(46::(53::(46::(50::(57::(46::(51::(48::[]))))))))))::((D.str (78::(97::(109::(101::(67::(111::(110::(115::(116::(114::(97::(105::(110::(116::(115::[]))))))))))))))))::((D.iface 326 (D.agg ((D.func (Fn.func 185) [] [])::((D.func (Fn.func 186) [] [])::((D.func (Fn.func 187) [] [])::[])))))::[]))))::((D.agg ((D.str (50::(46::(53::(46::(50::(57::(46::(51::(49::[]))))))))))::((D.str (67::(82::(76::(68::(105::(115::(116::(114::(105::(98::(117::(116::(105::(111::(110::(80::(111::(105::(110::(116::(115::[]))))))))))))))))))))))::((D.iface 289 (D.agg ((D.func (Fn.func 159) [] [])::((D.func (Fn.func 160) [] [])::((D.func (Fn.func 161) [] [])::[])))))::[]))))::((D.agg ((D.str (50::(46::(53::(46::(50::(57::(46::(51::(50::[]))))))))))::((D.str (67::(101::(114::(116::(105::(102::(105::(99::(97::(116::(101::(80::(111::(108::(105::(99::(105::(101::(115::[]))))))))))))))))))))::((D.iface 332 (D.agg ((D.func (Fn.func 188) [] [])::((D.func (Fn.func 189) [] [])::((D.func (Fn.func 190) [] [])::[])))))::[]))))::((D.agg ((D.str (50::(46::(53::(46::(50::(57::(46::(51::(51::[]))))))))))::((D.str (80::(111::(108::(105::(99::(121::(77::(97::(112::(112::(105::(110::(103::(115::[])))))))))))))))::((D.iface 338 (D.agg ((D.func (Fn.func 191) [] [])::((D.func (Fn.func 192) [] [])::((D.func (Fn.func 193) [] [])::[])))))::[]))))::((D.agg ((D.str (50::(46::(53::(46::(50::(57::(46::(51::(53::[]))))))))))::((D.str (65::(117::(116::(104::(111::(114::(105::(116::(121::(75::(101::(121::(73::(100::(101::(110::(116::(105::(102::(105::(101::(114::[])))))))))))))))))))))))::((D.iface 344 (D.agg ((D.func (Fn.func 194) [] [])::((D.func (Fn.func 195) [] [])::((D.func (Fn.func 196) [] [])::[])))))::[]))))::((D.agg ((D.str (50::(46::(53::(46::(50::(57::(46::(51::(54::[]))))))))))::((D.str (80::(111::(108::(105::(99::(121::(67::(111::(110::(115::(116::(114::(97::(105::(110::(116::(115::[]))))))))))))))))))::((D.iface 350 (D.agg ((D.func (Fn.func 197) [] [])::((D.func (Fn.func 198) [] [])::((D.func (Fn.func 199) [] [])::[])))))::[]))))::((D.agg ((D.str (50::(46::(53::(46::(50::(57::(46::(51::(55::[]))))))))))::((D.str (69::(120::(116::(75::(101::(121::(85::(115::(97::(103::(101::[]))))))))))))::((D.iface 356 (D.agg ((D.func (Fn.func 200) [] [])::((D.func (Fn.func 201) [] [])::((D.func (Fn.func 202) [] [])::[])))))::[]))))::((D.agg ((D.str (50::(46::(53::(46::(50::(57::(46::(52::(54::[]))))))))))::((D.str (70::(114::(101::(115::(104::(101::(115::(116::(67::(82::(76::[]))))))))))))::((D.iface 289 (D.agg ((D.func (Fn.func 159) [] [])::((D.func (Fn.func 160) [] [])::((D.func (Fn.func 161) [] [])::[])))))::[]))))::((D.agg ((D.str (50::(46::(53::(46::(50::(57::(46::(53::(52::[]))))))))))::((D.str (73::(110::(104::(105::(98::(105::(116::(65::(110::(121::(80::(111::(108::(105::(99::(121::[])))))))))))))))))::((D.iface 304 (D.agg ((D.func (Fn.func 153) [] [])::((D.func (Fn.func 203) [] [])::((D.func (Fn.func 204) [] [])::[])))))::[]))))::((D.agg ((D.str (49::(46::(51::(46::(54::(46::(49::(46::(53::(46::(53::(46::(55::(46::(49::(46::(49::[]))))))))))))))))))::((D.str (65::(117::(116::(104::(111::(114::(105::(116::(121::(73::(110::(102::(111::(65::(99::(99::(101::(115::(115::[]))))))))))))))))))))::((D.iface 295 (D.agg ((D.func (Fn.func 162) [] [])::((D.func (Fn.func 163) [] [])::((D.func (Fn.func 164) [] [])::[])))))::[]))))::((D.agg ((D.str (49::(46::(51::(46::(54::(46::(49::(46::(53::(46::(53::(46::(55::(46::(49::(46::(49::(49::[])))))))))))))))))))::((D.str (83::(117::(98::(106::(101::(99::(116::(73::(110::(102::(111::(65::(99::(99::(101::(115::(115::[]))))))))))))))))))::((D.iface 295 (D.agg ((D.func (Fn.func 162) [] [])::((D.func (Fn.func 163) [] [])::((D.func (Fn.func 164) [] [])::[])))))::[]))))::[]))))))))))))))))))))))))
def nD(P:Program):KOk P noK:=eA P
def Zw:fh prog 135 [] (.cmap Av Aw):=Cf (n:=20) tok (eA _) mixed rfl (by kernel_rfl) (by kernel_rfl) (by kernel_rfl)
end Go.Proofs.Tryz
namespace Go.Fw
open Go.RowKit
section
variable {P:Program}{N:Nat}{all:Array Oper}{o:Oper}{r:List Oper}{τ τ' :Env}{σ σ' :Sto}{Kt:Env→Sto→Prop}
variable{Z:Operand}{Y:List Nat}
def Zz{t l:Nat}{ks vs:List D}{f:Option Nat}(c:df all τ o=some true)(n:o.op=.next Z false)(hit:ev τ Z=some (.ptr l 0 0))(m:σ[l]?=some (.miter ks vs Y f))
 (hd:o.dst=some t)(p:Nat.blt t N=true)(e:Y=[]->iN P N all r ((t,.tuple [.bool false])::τ) σ Kt)
 (g:∀i a b,i∈Y->ks[i]?=some a->vs[i]?=some b->iN P N all r ((t,.tuple [.bool true,a,b])::τ) (σ.set l (.miter ks vs (Y.filter (· !=i)) (some i))) Kt):iN P N all (o::r) τ σ Kt:=by
 have h:∀d,iq N o.dst d τ=some ((t,d)::τ):=λd=>by
  unfold iq;rw[hd];simp only;exact ah2 (ahV p)
 refine .inl ⟨c,(WT n hit m).mono ?_⟩;rintro d s (⟨c,rfl,rfl⟩|⟨i,a,b,c,j,k,rfl,rfl⟩)
 ·exact⟨_,h _,e c⟩
 ·exact⟨_,h _,g i a b c j k⟩
def abY{T:Tys}{K:FuncId->List D->Option D}{l i:Nat}{ks vs:List D}{a b:D}(hit:ev τ Z=some (.ptr l 0 0))(e:σ[l]?=some (.miter ks vs Y (some i)))
 (c:ks[i]?=some a)(d:vs[i]?=some b):opE T K τ σ (.entry Z)=some (.tuple [a,b],σ):=by
 simp[opE,aop,PQ,hit,Lx,e,c,d]
def goC{T:Tys}(tok:TOk T P){c:Call}{f:FuncId}{ds a:List D}{d:D}(b:df all τ o=some true)(k:o.op=.call c)(i:nE T τ c=some (f,ds))(l:wu σ ds=some (a,σ'))
 (j:jt P f)(h:fh P f a d)(e:iq N o.dst d τ=some τ')(g:iN P N all r τ' σ' Kt):iN P N all (o::r) τ σ Kt:=
 .inl ⟨b,(QY tok k i l j (h.acall _)).mono (by rintro m s ⟨rfl,rfl⟩;exact⟨τ',e,g⟩)⟩
end
end Go.Fw
namespace Go.Proofs.Tryz
open Go Go.Fw
set_option maxHeartbeats 1000000
def ael:jt prog 135:=(jr (f:=135) (fn:=f135) (by kernel_rfl)).2
def oM:List (List UInt8):=Aw.map λd=>match d with|.agg (.str s::_)=>s|_=>[]
def td:List Int:=Av.map λd=>match d with|.int _ n=>n|_=>0
def uC(s:List UInt8):List (List UInt8)->List Int->Int
 |i::a,n::b=>if i=s then n else uC s a b
 |_,_=>0
def Ax(s:List UInt8):Int:=if s=[] then 0 else uC s oM td
def hit(s:List UInt8)(i:Nat):Bool:=decide (oM[i]?=some s)&&decide (s≠[])
def KI(s:List UInt8)(n:Nat)(τ:Env)(σ:Sto):Prop:=∃l a b,get τ 0=some (.str s)/\get τ 6=some (.ptr l 0 0)/\σ[l]?=some (.miter Av Aw a b)/\
 a.length=n/\(∀i,i<24->i ∉ a->hit s i=false)/\(∀i∈a,i<24)
def WJ(i:Nat):Bool:=
 match Av[i]?,Aw[i]?,oM[i]?,td[i]? with
 |some (.int .i64 k),some (.agg [.str id,.str _,.iface _ _]),some a,some b=>decide (id=a)&&decide (k=b)&&decide (uC id oM td=k)
 |_,_,_,_=>false
def ZA:(List.range 24).all WJ=true:=by kernel_rfl
def abZ{i:Nat}(q:i<24){a b:D}(n:Av[i]?=some a)(p:Aw[i]?=some b):
 ∃k id e c d,a=.int .i64 k/\b=.agg [.str id,.str e,.iface c d]/\oM[i]?=some id/\td[i]?=some k/\uC id oM td=k:=by
 have h:=aie.1 ZA i (ake.2 q);unfold WJ at h;rw[n,p]at h;split at h
 ·rename_i k id e c d s t f g j l;cases f;cases g;simp only[ahJ,aiu]at h;obtain⟨⟨rfl,rfl⟩,m⟩:=h;exact⟨_,_,_,_,_,rfl,rfl,j,l,m⟩
 ·cases h
def Ts(s:List UInt8):∀(a:List (List UInt8))(b:List Int),(∀(i:Nat),a[i]?≠some s)->uC s a b=0
 |[],_,_=>rfl
 |i::a,[],_=>rfl
 |i::a,n::b,h=>by
  have c:i≠s:=λe=>h 0 (by simp[e]);simp only[uC,c,aiE];exact Ts s a b λj d=>h (j+1) (by simpa using d)
def ab0:oM.length=24:=by kernel_rfl
def WK{s id:List UInt8}{n i:Nat}{a:List Nat}{τ:Env}{σ:Sto}(t:a.length=n)(f:∀i,i<24->i ∉ a->hit s i=false)(c:∀i∈a,i<24)(l:i∈a)
 (hid:oM[i]?=some id)(k:hit s i=false)(g:Go.Fw.get τ 0=some (.str s))(h:Go.Fw.get τ 6=some (.ptr 0 0 0))(p:σ[0]?=some (.miter Av Aw (a.filter (· !=i)) (some i))):
 ∃m,m<n/\KI s m τ σ:=by
 refine⟨(a.filter (· !=i)).length,?_,0,_,_,g,h,p,rfl,λj b d=> ?_,λj b=>c j (akq.1 b).1⟩
 ·rw[<-t];exact List.length_filter_lt_length_iff_exists.2 ⟨i,l,by simp⟩
 ·by_cases e:j=i
  ·subst e;exact k
  ·exact f j b λq=>d (akq.2 ⟨q,by simpa using e⟩)
def ab1(s:List UInt8):fh prog 134 [.str s] (.int .i64 (Ax s)):=by
 refine abe (i:=0) tok func134 rfl rfl rfl ?_
 repeat first|refine gq ?_|refine eu ?_
 refine go1 tok (nD _) rfl rfl rfl ?_
 repeat first|refine gq ?_|refine eu ?_
 refine goC tok rfl rfl rfl rfl ael Zw rfl ?_;refine go1 tok (nD _) rfl rfl rfl ?_
 repeat first|refine gq ?_|refine eu ?_|refine AX ?_
 refine Yx (KI s) (n:=24) ⟨0,List.range 24,none,rfl,rfl,rfl,rfl,λi c y=>absurd (ake.2 c) y,λi c=>ake.1 c⟩ ?_;rintro n τ σ ⟨l,E,z,A,M,Q,y,p,m⟩;refine AWp.gc [l] (λ_ h=>absurd h (akM _)) (by simp) (σ':=[.miter Av Aw E z]) (τ':=[(6,.ptr 0 0 0),(0,.str s)]) rfl ?_ ?_ ?_
 ·intro j S T u f
  match j,u,f with
  |0,u,f=>
   simp at u f;subst u f;exact⟨Q,by kernel_rfl⟩
  |j+1,u,_=>simp at u
 ·intro t d q;simp only[Go.Fw.get]at q;split at q
  ·rename_i e;subst e;cases q;exact⟨M,rfl⟩
  ·split at q
   ·rename_i e;subst e;cases q;exact⟨A,rfl⟩
   ·cases q
 repeat first|refine gq ?_|refine eu ?_
 refine Zz rfl rfl rfl rfl rfl rfl (λx=> ?_) (λi a b c H I=> ?_)
 ·refine go1 tok (nD _) rfl rfl rfl ?_;refine gq (mE rfl (JF ?_))
  repeat first|refine gq ?_|refine eu ?_
  refine go1 tok (nD _) rfl rfl rfl ?_;subst x;have A:Ax s=0:=by
   unfold Ax;split
   ·rfl
   ·rename_i R;refine Ts s _ _ λi c=> ?_;have w:i<24:=by rw[<-ab0];exact ah c
    have:=p i w (by simp);simp[hit,c,R]at this
  rw[A];exact pq (DB rfl rfl rfl)
 ·have v:=m i c;refine go1 tok (nD _) rfl rfl rfl ?_;refine gq (qw rfl (oU ?_));refine AX ?_;have g:∃k id L F G,a=.int .i64 k/\b=.agg [.str id,.str L,.iface F G]/\oM[i]?=some id/\td[i]?=some k/\uC id oM td=k:=abZ v H I;obtain⟨k,id,L,F,G,rfl,rfl,hid,K,D⟩:=g
  repeat first|refine gq ?_|refine eu ?_
  refine go1 tok (nD _) rfl (abY rfl rfl H I) rfl ?_
  repeat refine go1 tok (nD _) rfl rfl rfl ?_
  repeat first|refine gq ?_|refine eu ?_
  iterate 5 refine go1 tok (nD _) rfl rfl rfl ?_
  cases J:(id==s)
  ·have B:id≠s:=by simpa using J
   refine no1 rfl rfl ?_;refine no1 rfl rfl ?_;refine go1 tok (nD _) rfl rfl rfl ?_;refine mE rfl (oU ?_);exact WK y p m c hid (by simp[hit,hid,B]) rfl rfl rfl
  ·refine go1 tok (nD _) rfl rfl rfl ?_;refine go1 tok (nD _) rfl rfl rfl ?_;cases C:(s==(⟨#[]⟩:ByteArray).data.toList)
   ·refine go1 tok (nD _) rfl rfl rfl ?_;refine qw rfl ?_
    repeat first|refine gq ?_|refine eu ?_
    repeat refine go1 tok (nD _) rfl rfl rfl ?_
    have O:Ax s=k:=by
     have e:id=s:=by simpa using J
     subst e;unfold Ax;rw[air (λh=>by subst h;cases C),D]
    rw[O];exact pq (DB rfl rfl rfl)
   ·refine go1 tok (nD _) rfl rfl rfl ?_;refine mE rfl (oU ?_);exact WK y p m c hid (by simp at C;simp[hit,C]) rfl rfl rfl
end Go.Proofs.Tryz
namespace Go.Fw
def RP:List (List UInt8):=[[],[50,46,53,46,50,57,46,57],[50,46,53,46,50,57,46,49,52],[50,46,53,46,50,57,46,49,53],[50,46,53,46,50,57,46,49,55],[50,46,53,46,50,57,46,49,56],[50,46,53,46,50,57,46,49,57],[50,46,53,46,50,57,46,50,48],[50,46,53,46,50,57,46,50,49],[50,46,53,46,50,57,46,50,52],[50,46,53,46,50,57,46,50,55],[50,46,53,46,50,57,46,50,56],[50,46,53,46,50,57,46,50,57],[50,46,53,46,50,57,46,51,48],[50,46,53,46,50,57,46,51,49],[50,46,53,46,50,57,46,51,50],[50,46,53,46,50,57,46,51,51],[50,46,53,46,50,57,46,51,53],[50,46,53,46,50,57,46,51,54],[50,46,53,46,50,57,46,51,55],[50,46,53,46,50,57,46,52,54],[50,46,53,46,50,57,46,53,52],[49,46,51,46,54,46,49,46,53,46,53,46,55,46,49,46,49],[49,46,51,46,54,46,49,46,53,46,53,46,55,46,49,46,49,49]]
def Fk:List Int:=[0,9,14,15,17,18,19,20,21,24,27,28,29,30,31,32,33,35,36,37,46,54,101,111]
def tj(s:List UInt8):List (List UInt8)->List Int->Int
 |i::a,n::b=>if i=s then n else tj s a b
 |_,_=>0
def BM(s:List UInt8):Int:=if s=[] then 0 else tj s RP Fk
def TU:∃f:List UInt8->Option Int,f=λs=>some (BM s):=⟨_,rfl⟩
noncomputable def cg:List UInt8->Option Int:=Classical.choose TU
def xz(s:List UInt8):cg s=some (BM s):=akr (aiU TU) s
noncomputable def BN:Ctr:=⟨[.hole .str],.hole (.int .i64),λ(x:List UInt8)=>cg x⟩
end Go.Fw
namespace Go.Proofs.Tryz
open Go Go.Fw Go.RowKit
def Zx:oM=RP:=by kernel_rfl
def Zy:td=Fk:=by kernel_rfl
def Tq(s:List UInt8):∀(a:List (List UInt8))(b:List Int),uC s a b=tj s a b
 |[],_=>rfl
 |_::_,[]=>rfl
 |i::a,n::b=>by
  unfold uC tj;rw[Tq s a b]
def U2(s:List UInt8):Ax s=BM s:=by
 unfold Ax BM;rw[Zx,Zy,Tq]
def aek:jt prog 134:=(jr (f:=134) (fn:=f134) (by kernel_rfl)).2
def LQ:fG prog 134 BN:=by
 refine⟨aek,rfl,rfl,λ(x:List UInt8)(y:Int) b=> ?_⟩;have b:cg x=some y:=b;rw[xz]at b;cases b;refine⟨.int .i64 (BM x),rfl,λ_ _=>by simp only[SV.can,VR],?_⟩;intro g d f a;cases d;simp only[VRs]at a;obtain⟨e,_,rfl,c,rfl⟩:=a;have c:e=.str x:=by simpa only[nk,VR] using c
 subst c;have:=ab1 x;rw[U2]at this;exact this
end Go.Proofs.Tryz
namespace Go.Fw
open Go Go.Proofs.Tryz
noncomputable section
set_option maxRecDepth 100000
set_option maxHeartbeats 0
attribute [local irreducible] ix app slc fM toB agree jO jP jN mz gW bE bZ cg
abbrev Y0:=Bs×Bs
abbrev Y1:=List Y0
abbrev Y2:=List Y1
abbrev Y3:=Int×Int
abbrev Y4:=Int×Int×Int×Y3
abbrev Y5:=Int×Y4
abbrev Y6:=Bs×Int
abbrev Y7:=Bs×Bool×Bs
abbrev Y8:=List Y7
abbrev Y9:=Int×Bs×Y0×Y2×Y5×Y5×Y2×(Y0×Y6)×Bool×Y6×Bool×Y6×Y8
abbrev Y10:=Y9×Y0×Y6
abbrev Y11:=List Bs
abbrev Y12:=List Int
abbrev Y13:=Option (Fw.Spot×Y3)
abbrev Y14:=Int×Int×Int×Int×Bool×List Fw.Spot×Int×Int×List Fw.Node×List Fw.Spot×Int×Int×Int×Int×Bool
abbrev Y15:=Int×Int×Y0
abbrev Y16:=Int×Bs
abbrev Y17:=Int×Y16
abbrev Y18:=Option Y6
abbrev Y19:=Int×Bool×Y11
abbrev Y20:=Option (Bs×Y3)
abbrev Y21:=Int×Int×Bool×Int×Y3
abbrev Y22:=List Y21
abbrev Y23:=Int×Int×Y11
abbrev Y24:=List (Bs×Y11)
abbrev Y25:=Option (Int×Y3)
abbrev Y26:=Option (Bs×Bool)
abbrev Y27:=Int×Bs×Bs×Bs×Y2×Y16×Y16
abbrev Y28:=Option (Y27×Bool)
abbrev Y29:=Option (Y0×Y3)
abbrev Y30:=List Y27
abbrev Y31:=Option (Int×Bool)
abbrev Y32:=Bool×Bool×Int
abbrev Y33:=Int×Int×Int×Int×Int×Int×Y5
abbrev Y34:=Option (Bs×Int×Y33)
abbrev Y35:=Y30×Y1×Bool×Bool×Y32
abbrev Y36:=Int×Int×Bool×Int×Int×Int×Y30
abbrev Y37:=Y30×Y1×Int×Y30
abbrev Y38:=List (Bs×Y1)
abbrev Y39:=Y38×Int×Int×Bool×Int×Int×Int×Bs×Y1×Int×Int×Bool×Int×Int×Int×Int×Int×Bool×Int×Y15
abbrev Y40:=Int×Int×Bool×Int×Int×Int×Bs×Bs×Y3
abbrev Y41:=Y38×Int×Int×Bool×Int×Int×Int×Bs×Y1×Y21
abbrev Y42:=Y38×Int×Int×Bool×Int×Int×Int×Bs×Y1
abbrev Y43:=Y1×Int×Int×Bool×Int×Y15
abbrev Y44:=Bool×Bs×Y30×Bs
abbrev Y45:=Bool×Int×Bool×Int
abbrev Y46:=List (Bs×Y27)
abbrev Y47:=Int×Bs×Bool×Bs×Int×Y11×Y30×Y44×Y32×Y45×Y38×Y1×(Y30×Y30)×List Y37×Y35×Y46×Y24×Y5
abbrev Y48:=Bool×Bool×Bool×Int×Y3
abbrev Y49:=Y12×Int×Int×Int×Int×Int×Int×Y17
abbrev Y50:=Option (Int×Int×Int×Int×Y17)
abbrev Y51:=Option (Int×Y11)
abbrev Y52:=Option (Int×Bs×Bs×Bs×Y2×Int×Int×Int×Int×Int×Int×Int×Int×Int×Int×Int×Int×Y2×Bs×Bs×Bs×Int×Bool×Bs×Int×Bool×Bs×Int×Y8×Int×Y11)
abbrev Y53:=Option (Bs×Bs×Y22×Int×Int×Y21)
abbrev Y54:=Bs×Y22×Int×Int×Int×Bs×Y0
abbrev Y55:=Bs×Y22×Int×Int×Int×Bs×Bs×Bs×Y2×Y33
abbrev Y56:=Option (Bs×Y22×Int×Int×Int×Bs×Bs×Bs×Y2×Int×Int×Int×Int×Int×Int×Int×Int×Int×Int×Int×Int×Y2×Bs×Bs×Y6)
abbrev Y57:=Bs×Y22×Int×Int×Int×Bs×Bs×Bs×Y2×Int×Int×Int×Int×Int×Int×Int×Int×Int×Int×Int×Int×Y2×Bs×Bs×Bs×Int×Y21
abbrev Y58:=Bs×Y22×Int×Int×Int×Bs×Bs×Bs×Y2×Int×Int×Int×Int×Int×Int×Int×Int×Int×Int×Int×Int×Y2×Bs×Bs×Bs×Int×Y6
abbrev Y59:=Bs×Int×Bool×Bs×Int×Y21
abbrev Y60:=Bs×Y22×Int×Int×Int×Bs×Bs×Bs×Y2×Int×Int×Int×Int×Int×Int×Int×Int×Int×Int×Int×Int×Y2×Bs×Bs×Y59
abbrev Y61:=Bs×Y22×Int×Int×Int×Bs×Bs×Bs×Y2×Int×Int×Int×Int×Int×Int×Int×Int×Int×Int×Int×Int×Y2×Bs×Bs×Bs×Int×Bool×Bs×Int×Y6
abbrev Y62:=Bs×Y22×Int×Int×Int×Bs×Bs×Bs×Y2×Int×Int×Int×Int×Int×Int×Int×Int×Int×Int×Int×Int×Y2×Bs×Bs×Bs×Int×Bool×Y59
abbrev Y63:=Bs×Y22×Int×Int×Int×Bs×Bs×Bs×Y2×Int×Int×Int×Int×Int×Int×Int×Int×Int×Int×Int×Int×Y2×Bs×Bs×Bs×Int×Bool×Bs×Int×Bool×Bs×Int×Y8
abbrev Y64:=Option Y63
abbrev Y65:=Option (Bs×Y22×Y15)
abbrev Y66:=Bs×Y22×Int×Int×Int×Bs×Bs×Bs×Y2×Int×Int×Int×Int×Int×Int×Int×Int×Int×Int×Int×Int×Y2×Bs×Bs×Bs×Int×Bool×Bs×Int×Bool×Bs×Int×Y8×Bs×Bs×Y6
noncomputable abbrev tc0:TC:=.sl .byte
noncomputable abbrev tc1:TC:=.pair .str tc0
noncomputable abbrev tc2:TC:=.sl tc1
noncomputable abbrev tc3:TC:=.pair .str (.pair .bool tc0)
noncomputable abbrev tc4:TC:=.int .i64
noncomputable abbrev tc5:TC:=.pair tc4 tc4
noncomputable abbrev tc6:TC:=.pair tc4 tc5
noncomputable abbrev tc7:TC:=.pair .bool tc6
noncomputable abbrev tc8:TC:=.pair tc4 tc7
noncomputable abbrev tc9:TC:=.pair tc4 tc8
noncomputable abbrev adr:TC:=.sl .str
noncomputable abbrev Us:TC:=.sl tc2
noncomputable abbrev Qe:TC:=.pair tc4 .str
noncomputable abbrev agI:TC:=.pair Qe Qe
noncomputable abbrev agJ:TC:=.pair Us agI
noncomputable abbrev agK:TC:=.pair tc0 agJ
noncomputable abbrev agL:TC:=.pair .str agK
noncomputable abbrev agM:TC:=.pair .str agL
noncomputable abbrev BZ:TC:=.pair tc4 agM
noncomputable abbrev D3:TC:=.sl BZ
noncomputable abbrev ads:TC:=.pair .bool (.pair tc0 (.pair D3 tc0))
noncomputable abbrev adt:TC:=.pair .bool tc4
noncomputable abbrev YB:TC:=.pair .bool adt
noncomputable abbrev adu:TC:=.pair .bool (.pair tc4 adt)
noncomputable abbrev se:TC:=.pair .str tc2
noncomputable abbrev adv:TC:=.sl se
noncomputable abbrev D4:TC:=.pair .str .str
noncomputable abbrev adw:TC:=.sl D4
noncomputable abbrev adx:TC:=.pair D3 D3
noncomputable abbrev agN:TC:=.pair tc4 D3
noncomputable abbrev agO:TC:=.pair tc2 agN
noncomputable abbrev ML:TC:=.pair D3 agO
noncomputable abbrev ady:TC:=.sl ML
noncomputable abbrev adz:TC:=.pair D3 (.pair tc2 (.pair .bool (.pair .bool YB)))
noncomputable abbrev MM:TC:=.pair .str BZ
noncomputable abbrev adA:TC:=.sl MM
noncomputable abbrev adB:TC:=.sl tc0
noncomputable abbrev MN:TC:=.pair .str adB
noncomputable abbrev adC:TC:=.sl MN
noncomputable abbrev Ut:TC:=.pair tc4 (.pair tc4 (.pair tc4 tc6))
noncomputable abbrev agP:TC:=.pair adC Ut
noncomputable abbrev agQ:TC:=.pair adA agP
noncomputable abbrev agR:TC:=.pair adz agQ
noncomputable abbrev agS:TC:=.pair ady agR
noncomputable abbrev agT:TC:=.pair adx agS
noncomputable abbrev agU:TC:=.pair adw agT
noncomputable abbrev agV:TC:=.pair adv agU
noncomputable abbrev agW:TC:=.pair adu agV
noncomputable abbrev agX:TC:=.pair YB agW
noncomputable abbrev agY:TC:=.pair ads agX
noncomputable abbrev agZ:TC:=.pair D3 agY
noncomputable abbrev ag0:TC:=.pair adr agZ
noncomputable abbrev ag1:TC:=.pair tc4 ag0
noncomputable abbrev ag2:TC:=.pair tc0 ag1
noncomputable abbrev ag3:TC:=.pair .bool ag2
noncomputable abbrev ag4:TC:=.pair .str ag3
noncomputable abbrev MO:TC:=.pair tc4 ag4
noncomputable abbrev JL:TC:=.int .u64
noncomputable abbrev D5:TC:=.int .u32
noncomputable abbrev Qf:TC:=.pair tc0 tc4
noncomputable abbrev YC:TC:=.pair tc1 Qf
noncomputable abbrev adD:TC:=.sl tc3
noncomputable abbrev YD:TC:=.pair tc4 (.pair tc0 (.pair tc1 (.pair Us (.pair Ut (.pair Ut (.pair Us (.pair YC (.pair .bool (.pair Qf (.pair .bool (.pair Qf adD)))))))))))
noncomputable abbrev MP:PV:=.hole (.pair YD YC)
noncomputable abbrev hc0:PV:=.hole tc0
noncomputable abbrev ay:PV:=.hole .bool
noncomputable abbrev hc1:PV:=.hole tc1
noncomputable abbrev GC:PV:=.hole Qf
noncomputable abbrev Qg:PV:=.hole JL
noncomputable abbrev dr:PV:=.hole .str
noncomputable abbrev Qh:PV:=.hole (.sl D5)
noncomputable abbrev YE:PV:=.hole adr
noncomputable abbrev hc4:PV:=.hole tc4
noncomputable abbrev Pg:PV:=.hole .spot
noncomputable abbrev hc5:PV:=.hole tc5
noncomputable abbrev A4:PV:=.hole (.int .u8)
noncomputable abbrev adE:PV:=.hole D5
noncomputable abbrev pW:PV:=.hole adB
noncomputable abbrev hc2:PV:=.hole tc2
noncomputable abbrev lj:PV:=.hole Us
noncomputable abbrev tD:PV:=.hole Ut
noncomputable abbrev Uu:PV:=.hole YC
noncomputable abbrev hc3:PV:=.hole tc3
noncomputable abbrev hc9:PV:=.hole tc9
noncomputable abbrev ic:PV:=.hole (.sl tc9)
noncomputable abbrev adF:PV:=.hole MN
noncomputable abbrev YF:PV:=.hole adC
noncomputable abbrev Ig:PV:=.hole (.pair tc4 tc0)
noncomputable abbrev zn:PV:=.hole BZ
noncomputable abbrev YG:PV:=.hole Qe
noncomputable abbrev na:PV:=.hole D3
noncomputable abbrev aa0:PV:=.hole (.pair D3 tc2)
noncomputable abbrev adG:PV:=.hole adz
noncomputable abbrev adH:PV:=.hole ML
noncomputable abbrev adI:PV:=.hole ady
noncomputable abbrev MQ:PV:=.hole adv
noncomputable abbrev Uv:PV:=.hole adw
noncomputable abbrev adJ:PV:=.hole ads
noncomputable abbrev adK:PV:=.hole MM
noncomputable abbrev YH:PV:=.hole adA
noncomputable abbrev sf:PV:=.hole adD
noncomputable abbrev Uw:PV:=.hole YD
noncomputable abbrev aa1:PV:=.hole (.sl tc4)
noncomputable abbrev vZ:PV:=.ilit .i64 0
noncomputable abbrev vN:PV:=.nils
noncomputable abbrev vE:PV:=.slit []
noncomputable abbrev vF:PV:=.blit false
noncomputable abbrev oo0:PO:=.cells [hc4,hc4] false
noncomputable abbrev oo1:PO:=.cells [hc4,hc4,hc4,hc4,ay,vN,vN,.own 1] false
noncomputable abbrev oo2:PO:=.cells [hc4,hc4,hc4,hc4,ay,vN,.own 5,.own 6] false
noncomputable abbrev oo3:PO:=.cells [.own 1] false
noncomputable abbrev oo4:PO:=.cells [hc4,ay] false
noncomputable abbrev oo5:PO:=.cells [vZ,vZ] false
noncomputable abbrev oo6:PO:=.cells [.ilit .i64 6,hc4] false
noncomputable abbrev oo7:PO:=.cells [hc0,hc4] false
noncomputable abbrev oo8:PO:=.cells [vZ,vE,vE,vN,vN,vZ,vE,vZ,vE] false
noncomputable abbrev oo9:PO:=.cells [vF,vF,vZ] false
noncomputable abbrev Qi:PO:=.cells [hc0] false
noncomputable abbrev oW:PO:=.cells [hc4,hc4,hc4,hc4,hc4,hc4] false
noncomputable abbrev Qj:PO:=.cells [hc4] false
noncomputable abbrev MR:PO:=.cells [vN,vN,vZ,vN,vF,vF,vF,vF,vF,vF] false
noncomputable abbrev Qk:PO:=.cells [na,hc2,hc4,na,ay,ay,ay,ay,ay,ay] false
noncomputable abbrev gr:PO:=.cells [hc4,hc4,ay,hc4,hc4,hc4] false
noncomputable abbrev YI:PO:=.cells [hc4,dr,dr,hc0,lj,hc4,dr,hc4,dr] false
noncomputable abbrev Ux:PO:=.cells [vN,vN] false
noncomputable abbrev YJ:PO:=.cells [na,na] false
noncomputable abbrev py:PO:=.cells [.own 2] false
noncomputable abbrev D6:PO:=.cells [dr,.own 7] false
noncomputable abbrev GD:PO:=.cells [dr,hc0] false
noncomputable abbrev YK:PO:=.cells [dr,dr] false
noncomputable abbrev Uy:PO:=.cells [vF,vZ,vF,vZ] false
noncomputable abbrev YL:PO:=.cells [ay,hc4,ay,hc4] false
noncomputable abbrev tE:PO:=.cells [dr,ay,hc0] false
noncomputable abbrev tF:PO:=.cells [vZ,vE,vF,vN,vZ,vN,vN,vF,vN,vN,vN,vF,vF,vZ,vF,vZ,vF,vZ,vN,vN,vN,vN,vN,vN,vN,vF,vF,vF,vF,vZ,vN,vN,vZ,vZ,vZ,vZ,vZ,vZ] false
noncomputable abbrev adL:PO:=.cells [hc4,dr,ay,vN,vZ,vN,vN,vF,vN,vN,vN,ay,ay,hc4,vF,vZ,vF,vZ,vN,vN,vN,vN,vN,vN,vN,vF,vF,vF,vF,vZ,vN,vN,vZ,vZ,vZ,vZ,vZ,vZ] false
noncomputable abbrev adM:PO:=.cells [hc4,dr,ay,vN,vZ,vN,vN,vF,vN,vN,vN,vF,vF,vZ,vF,vZ,vF,vZ,vN,vN,vN,vN,vN,vN,vN,vF,vF,vF,vF,vZ,vN,vN,hc4,hc4,hc4,hc4,hc4,hc4] false
noncomputable abbrev adN:PO:=.cells [hc4,dr,ay,vN,vZ,vN,vN,vF,vN,vN,vN,vF,vF,vZ,vF,vZ,vF,vZ,vN,vN,vN,vN,vN,na,hc2,ay,ay,ay,ay,hc4,vN,vN,vZ,vZ,vZ,vZ,vZ,vZ] false
noncomputable abbrev adO:PO:=.cells [hc4,dr,ay,vN,vZ,vN,vN,vF,vN,vN,vN,vF,vF,vZ,vF,vZ,vF,vZ,vN,vN,na,na,vN,vN,vN,vF,vF,vF,vF,vZ,vN,vN,vZ,vZ,vZ,vZ,vZ,vZ] false
noncomputable abbrev adP:PO:=.cells [hc4,dr,ay,vN,vZ,vN,vN,ay,hc0,na,hc0,vF,vF,vZ,vF,vZ,vF,vZ,vN,vN,vN,vN,vN,vN,vN,vF,vF,vF,vF,vZ,vN,vN,vZ,vZ,vZ,vZ,vZ,vZ] false
noncomputable abbrev adQ:PO:=.cells [hc4,dr,ay,vN,vZ,vN,vN,vF,vN,vN,vN,vF,vF,vZ,ay,hc4,ay,hc4,vN,vN,vN,vN,vN,vN,vN,vF,vF,vF,vF,vZ,vN,vN,vZ,vZ,vZ,vZ,vZ,vZ] false
noncomputable abbrev D7:PO:=.cells [hc4,hc0,dr,hc0,lj,hc4,hc4,hc4,hc4,hc4,hc4,hc4,hc4,hc4,hc4,hc4,hc4,lj,dr,hc0,hc0,hc4,ay,hc0,hc4,ay,hc0,hc4,sf] false
noncomputable abbrev Uz:PO:=.cells [.own 2,hc4] false
noncomputable abbrev YM:PO:=.cells [dr,ay,vN] false
noncomputable abbrev ie:PO:=.cells [vZ,vN,vE,vN,vN,vZ,vZ,vZ,vZ,vZ,vZ,vZ,vZ,vZ,vZ,vZ,vZ,vN,vE,vN,vN,vZ,vF,vN,vZ,vF,vN,vZ,vN] false
noncomputable abbrev gE:PO:=.cells [hc0,ic,hc4,hc4] false
noncomputable abbrev YN:PO:=.cells [hc4,hc0,dr,hc0,lj,hc4,hc4,hc4,hc4,hc4,hc4,hc4,hc4,hc4,hc4,hc4,hc4,vN,vE,vN,vN,vZ,vF,vN,vZ,vF,vN,vZ,vN] false
noncomputable abbrev YO:PO:=.cells [hc4,vN,vE,vN,vN,vZ,vZ,vZ,vZ,vZ,vZ,vZ,vZ,vZ,vZ,vZ,vZ,vN,vE,vN,vN,vZ,vF,vN,vZ,vF,vN,vZ,vN] false
noncomputable abbrev YP:PO:=.cells [hc4,hc0,vE,vN,vN,vZ,vZ,vZ,vZ,vZ,vZ,vZ,vZ,vZ,vZ,vZ,vZ,vN,vE,vN,vN,vZ,vF,vN,vZ,vF,vN,vZ,vN] false
noncomputable abbrev MS:PO:=.cells [vE,vN] false
noncomputable abbrev YQ:PO:=.cells [hc4,hc0,dr,hc0,lj,hc4,hc4,hc4,hc4,hc4,hc4,hc4,hc4,hc4,hc4,hc4,hc4,lj,vE,vN,vN,vZ,vF,vN,vZ,vF,vN,vZ,vN] false
noncomputable abbrev YR:PO:=.cells [vE,vN,vN,vZ] false
noncomputable abbrev adR:PO:=.cells [dr,hc0,hc0,hc4] false
noncomputable abbrev UA:PO:=.cells [hc4,hc0,dr,hc0,lj,hc4,hc4,hc4,hc4,hc4,hc4,hc4,hc4,hc4,hc4,hc4,hc4,lj,dr,hc0,hc0,hc4,vF,vN,vZ,vF,vN,vZ,vN] false
noncomputable abbrev GE:PO:=.cells [vN,vZ] false
noncomputable abbrev UB:PO:=.cells [hc4,hc0,dr,hc0,lj,hc4,hc4,hc4,hc4,hc4,hc4,hc4,hc4,hc4,hc4,hc4,hc4,lj,dr,hc0,hc0,hc4,ay,hc0,hc4,vF,vN,vZ,vN] false
noncomputable abbrev UC:PO:=.cells [vZ,vZ,vF,vZ,vZ,vZ] false
noncomputable abbrev adS:PO:=.cells [hc4,hc0,dr,hc0,vN,vZ,vZ,vZ,vZ,vZ,vZ,vZ,vZ,vZ,vZ,vZ,vZ,vN,vE,vN,vN,vZ,vF,vN,vZ,vF,vN,vZ,vN] false
noncomputable abbrev adT:PO:=.cells [hc4,hc0,dr,hc0,lj,hc4,hc4,hc4,hc4,hc4,hc4,hc4,hc4,hc4,hc4,hc4,hc4,lj,dr,hc0,hc0,hc4,ay,hc0,hc4,ay,hc0,hc4,vN] false
noncomputable abbrev xD:PO:=.cells [vZ,vN,vE,vN,vN,vZ,vZ,vZ,vZ,vZ,vZ,vZ,vZ,vZ,vZ,vZ,vZ,vN,vE,vN,vN,vZ,vF,vN,vZ,vF,vN,vZ,vN,vE,vN,vN,vZ] false
noncomputable abbrev YS:PO:=.cells [hc4,hc0,dr,hc0,lj,hc4,hc4,hc4,hc4,hc4,hc4,hc4,hc4,hc4,hc4,hc4,hc4,lj,dr,hc0,hc0,hc4,ay,hc0,hc4,ay,hc0,hc4,sf,dr,hc0,hc0,hc4] false
noncomputable def hHt:Tr TC:=(.node (.node (.node (.node (.node .nil 22 .byte .nil) 26 tc2 .nil) 33 tc3 (.node (.node .nil 56 tc0 .nil) 80 tc1 .nil)) 96 tc9 (.node (.node (.node .nil 128 .node .nil) 147 MO .nil) 174 JL (.node .nil 178 D5 .nil))) 180 .spot (.node (.node (.node (.node .nil 189 .str .nil) 190 BZ .nil) 197 se (.node (.node .nil 198 D4 .nil) 201 ML .nil)) 204 MM (.node (.node (.node .nil 205 MN .nil) 359 tc4 .nil) 432 tc1 (.node .nil 518 Qe .nil))))
noncomputable def hOt:Tr OH:=(.node (.node (.node (.node (.node (.node (.node .nil 196660 (.build .byte) .nil) 458756 (.cells [(0,tc0)]) .nil) 1114116 (.cells [(0,tc0)]) (.node .nil 1572963 .frzv .nil)) 1703945 (.cells [(4,.node)]) (.node (.node .nil 2555907 (.val .byte) .nil) 2621450 .frz (.node .nil 2686982 (.cells [(0,tc0)]) .nil))) 2883588 (.val tc0) (.node (.node (.node (.node .nil 3145752 .res .nil) 3735558 (.val tc2) .nil) 4128774 (.val tc3) (.node .nil 4325380 (.val JL) .nil)) 4325441 (.build D5) (.node (.node .nil 4456450 (.cells [(4,.node)]) .nil) 4456452 (.cells [(7,.spot)]) (.node .nil 5308420 (.val MO) .nil)))) 5439496 (.val tc0) (.node (.node (.node (.node (.node .nil 5570573 .frz .nil) 5898246 (.cells [(0,tc0)]) .nil) 6029315 (.cells [(4,.node)]) (.node .nil 6094854 (.cells [(0,.byte)]) .nil)) 6291477 (.build .byte) (.node (.node .nil 6357000 (.val tc9) .nil) 6488070 (.val tc1) (.node .nil 6488071 (.val tc0) .nil))) 6684676 (.val .str) (.node (.node (.node .nil 6750210 (.cells [(7,.spot)]) .nil) 6750212 (.cells [(7,.spot)]) (.node .nil 7798788 (.val D5) .nil)) 7864327 (.build .byte) (.node (.node .nil 7995398 (.build .byte) .nil) 8060938 (.cells [(4,.node)]) (.node .nil 8519688 (.cells [(7,.spot)]) .nil))))) 8519694 (.cells [(7,.spot),(6,.node)]) (.node (.node (.node (.node (.node (.node .nil 8519695 (.cells [(7,.spot)]) .nil) 8519753 (.agg [(6,.node),(7,.spot)]) .nil) 8978435 (.cells [(4,.node)]) (.node .nil 9043997 (.val .byte) .nil)) 9109519 (.val .byte) (.node (.node .nil 9699332 (.cells [(7,.spot)]) .nil) 10158084 (.val tc0) (.node .nil 10223622 (.val BZ) .nil))) 10551302 (.val ML) (.node (.node (.node .nil 12255295 .frzv .nil) 12255297 .frzv (.node .nil 12451844 (.cells [(0,se)]) .nil)) 12648452 (.cells [(0,D4)]) (.node (.node .nil 12845138 .frzv .nil) 13238278 (.val .str) (.node .nil 15138824 (.val MM) .nil)))) 15335432 (.val MN) (.node (.node (.node (.node (.node .nil 16711688 (.val BZ) .nil) 16777221 (.cells [(1,tc1)]) .nil) 17039366 (.cells [(1,tc1)]) (.node .nil 17301510 .frz .nil)) 19333128 (.val .byte) (.node (.node .nil 20119556 (.cells [(1,tc0)]) .nil) 20119558 (.cells [(1,tc0)]) (.node .nil 20119564 (.agg [(1,tc0)]) .nil))) 20316164 (.cells [(1,tc0)]) (.node (.node (.node .nil 20316166 (.cells [(1,tc0)]) .nil) 20840484 .frzv (.node .nil 20840508 .frzv .nil)) 21299203 (.cells [(4,.node)]) (.node (.node .nil 22413315 (.cells [(4,.node)]) .nil) 23265283 (.cells [(4,.node)]) (.node .nil 24182789 (.val tc0) .nil))))))
noncomputable def B0:Bse:=⟨prog,T,hHt,hOt,tok,mixed⟩
def u2{a b c:Type}(f:a->b->c)(x:a×b):c:=f x.1 x.2
abbrev c1(l:List (KC B0)):Ctx B0:=⟨l,[],[],[],.nil⟩
def u3{a b c d:Type}(f:a->b->c->d)(x:a×b×c):d:=f x.1 x.2.1 x.2.2
def u4{a b c d e:Type}(f:a->b->c->d->e)(x:a×b×c×d):e:=f x.1 x.2.1 x.2.2.1 x.2.2.2
def u9{a b c d e g h i j k:Type}(f:a->b->c->d->e->g->h->i->j->k)(x:a×b×c×d×e×g×h×i×j):k:=f x.1 x.2.1 x.2.2.1 x.2.2.2.1 x.2.2.2.2.1 x.2.2.2.2.2.1 x.2.2.2.2.2.2.1 x.2.2.2.2.2.2.2.1 x.2.2.2.2.2.2.2.2
def adU:KC B0:=⟨(144,Qw),aen⟩
def abL:KC B0:=⟨(140,M6),ab8⟩
def ag5:KX B0:=⟨(141,Qx),ahc⟩
def lU:KC B0:=⟨(67,Np),acB⟩
def adV:KO B0:=⟨(94,Rn),aeF⟩
def adW:KC B0:=⟨(129,Qv),aem⟩
def zo:KC B0:=⟨(371,AJ NN),Kf NN⟩
def UD:KC B0:=⟨(297,Me),VD⟩
def zp:KC B0:=⟨(344,AI NN),KA NN⟩
def K8:KC B0:=⟨(134,BN),LQ⟩
def UE:KC B0:=⟨(135,Md),VA⟩
def cy:Option Y10:=
 some ((0,([1]:Bs),(([49,46,50,46,51]:Bs),[]),[[(([50,46,53,46,52,46,51]:Bs),([12,2,65,98]:Bs))]],(2000,1,1,0,0,0),(2001,1,1,0,0,0),[[(([50,46,53,46,52,46,51]:Bs),([12,2,65,98]:Bs))]],((([49,46,50,46,52]:Bs),[]),([160]:Bs),5),false,([],0),false,([],0),[]),(([49,46,50,46,51]:Bs),[]),[],0)
def K9:KC B0:=gC 12 (c1 []) [] MP (λ_=>cy) (by kernel_rfl)
attribute [local irreducible] cy
def FG:AD B0:=⟨71,(c1 []),[hc0,hc0],ay⟩
@[local irreducible] noncomputable def dV(a:Bs)(a2:Bs):Option Bool:=syv NN (FG.go (a,a2))
def OL:KC B0:=gA FG (u2 dV) (by kernel_rfl)
def wD:AD B0:=⟨30,(c1 [OL]),[hc1,hc1],ay⟩
@[local irreducible] noncomputable def bq(a:Y0)(a2:Y0):Option Bool:=syv NN (wD.go (a,a2))
def wF:KC B0:=gA wD (u2 bq) (by kernel_rfl)
def xM:AD B0:=⟨37,(c1 []),[GC],ay⟩
@[local irreducible] noncomputable def aZ(a:Y6):Option Bool:=syv NN (xM.go (a))
def kV:KC B0:=gA xM aZ (by kernel_rfl)
def A5:AD B0:=⟨76,(c1 []),[hc0],ay⟩
@[local irreducible] noncomputable def bS(a:Bs):Option Bool:=syv NN (A5.go (a))
def lV:KC B0:=gA A5 bS (by kernel_rfl)
def qT:AD B0:=⟨128,(c1 [adU]),[Qg,.ilit .i64 10],dr⟩
@[local irreducible] noncomputable def aM(a:Int):Option Bs:=syv NN (qT.go (a))
def qU:KC B0:=gA qT aM (by kernel_rfl)
def Ji:AD B0:=⟨127,(c1 []),[Qh],ay⟩
@[local irreducible] noncomputable def dO(a:List Int):Option Bool:=syv NN (Ji.go (a))
def Jj:KC B0:=gA Ji dO (by kernel_rfl)
def D8(L:List (KL B0)):Ctx B0:=⟨[abL,qU,Jj],[],[ag5],L,.nil⟩
def FH:LD:=⟨119,3,0,⟨[(4,.own 0),(10,YE),(11,hc4),(12,hc4)],[.arr D5 false false]⟩,[(.ret,⟨[(2,vN),(3,hc4)],[.junk]⟩),(.exit 0,⟨[(4,.own 0)],[.arr D5 false false]⟩)]⟩
@[local irreducible] noncomputable def eB(N n:Nat):(Y11×Int×Int×Y12)->Option ((Int)⊕(List Int)):=Nat.rec (λ_=>none) (λ_ L x=>syv N (FH.round (D8 []).cxs L x)) n
def OM:KL B0:=gL (D8 []) FH (eB NN) (by kernel_rfl)
def La:AD B0:=⟨119,(D8 [OM]),[dr],(.tup [Qh,hc4])⟩
@[local irreducible] noncomputable def gp(N:Nat)(a:Bs):Option (Y12×Int):=syv N (La.go (a))
def Lb:KC B0:=gA La (gp NN) (by kernel_rfl)
def Jk:AD B0:=⟨91,(c1 [Lb]),[dr],ay⟩
@[local irreducible] noncomputable def eP(N:Nat)(a:Bs):Option Bool:=syv N (Jk.go (a))
def px:KC B0:=gA Jk (eP NN) (by kernel_rfl)
def FI:AD B0:=⟨148,(c1 []),[hc4,hc4],(.tup [Pg,hc5])⟩
@[local irreducible] noncomputable def cG(a:Int)(a2:Int):Y13:=syv NN (FI.go (a,a2))
def ON:KC B0:=gA FI (u2 cG) (by kernel_rfl)
def tG:AD B0:=⟨149,(c1 []),[A4],(.tup [hc4,ay,hc4,hc4])⟩
@[local irreducible] noncomputable def aQ(a:Int):Option (Int×Bool×Y3):=syv NN (tG.go (a))
def D9:KC B0:=gA tG aQ (by kernel_rfl)
def wG:AD B0:=⟨218,(c1 []),[hc4,hc4],(.tup [hc4,hc4,hc5])⟩
@[local irreducible] noncomputable def bK(a:Int)(a2:Int):Option (Int×Int×Y3):=syv NN (wG.go (a,a2))
def GF:KC B0:=gA wG (u2 bK) (by kernel_rfl)
end
end Go.Fw
