/- A framework for proofs about Go programs in this model: part K. Everything is proved; no condition is added. -/
import Derived.Shelf.Strings.BuilderRune
import Derived.Lib.RuneBytes
import Derived.RangeFuncWrites
import Derived.Laws.EntriesVeiled
import Derived.Laws.BitsAllLaws
import Derived.Laws.IdiomStrings
import Derived.Lib.BufferRead
import Derived.Test.YtfjfjojmeookfaaGreatDoorFwI
import Derived.Test.YtfjfjojmeookfaaGreatDoorFwJ
set_option linter.unusedVariables false
set_option linter.unusedSimpArgs false
set_option linter.defProp false
namespace Go.Proofs
open Go.Shelf Go.RowKit Go.Sort Go.Lib
def Tryz.lays168_ren:Go.Shelf.Ren:=⟨λ|168=>390|240=>168|242=>397|276=>239|278=>399|n=>n,λ|0=>0|3=>3|4=>4|5=>5|9=>9|20=>20|21=>21|37=>22|46=>173|51=>174|70=>257|72=>259|75=>247|164=>387|80=>263|n=>n,λ|n=>n⟩
def Tryz.lays168:Go.Proofs.Lays.n168 Tryz.prog Tryz.lays168_ren:={
 mixed:=(by kernel_rfl)
 f168:=Tryz.func390.trans (amV some (by kernel_rfl))
 f240:=Tryz.func168.trans (amV some (by kernel_rfl))
 f242:=Tryz.func397.trans (amV some (by kernel_rfl))
 f276:=Tryz.func239.trans (amV some (by kernel_rfl))
 f278:=Tryz.func399.trans (amV some (by kernel_rfl))
 t0:=apO
 a0:=Tryz.isAgg0
 z0:=Tryz.sizeOf0
 v0:=apX
 t3:=aov
 a3:=apf
 z3:=ao4
 v3:=aoF
 t4:=aow
 a4:=aph
 z4:=ao6
 v4:=aoH
 t5:=anV
 a5:=aoS
 z5:=aoL
 v5:=aoc
 t9:=aof
 a9:=apg
 z9:=ao5
 v9:=aoG
 t20:=Tryz.underlying20
 a20:=Tryz.isAgg20
 z20:=Tryz.sizeOf20
 v20:=Tryz.zeroValue20
 t21:=aoR
 a21:=apE
 z21:=apr
 v21:=aoY
 t37:=apG
 a37:=Tryz.isAgg22
 z37:=Tryz.sizeOf22
 v37:=Tryz.zeroValue22
 t46:=Tryz.underlying173
 a46:=Tryz.isAgg173
 z46:=Tryz.sizeOf173
 v46:=Tryz.zeroValue173
 t51:=Tryz.underlying174
 a51:=Tryz.isAgg174
 z51:=Tryz.sizeOf174
 v51:=Tryz.zeroValue174
 t70:=Tryz.underlying257
 a70:=Tryz.isAgg257
 z70:=Tryz.sizeOf257
 v70:=Tryz.zeroValue257
 t72:=Tryz.underlying259
 a72:=Tryz.isAgg259
 z72:=Tryz.sizeOf259
 v72:=Tryz.zeroValue259
 t75:=Tryz.underlying247
 a75:=Tryz.isAgg247
 z75:=Tryz.sizeOf247
 v75:=Tryz.zeroValue247
 t164:=Tryz.underlying387
 a164:=Tryz.isAgg387
 z164:=Tryz.sizeOf387
 v164:=Tryz.zeroValue387}
def Tryz.Builder_Extra_168:Builder.Extra Tryz.prog Tryz.lays168_ren:={
 sizeBuilder:=(by kernel_rfl)
 liesBuilder:=(by kernel_rfl)
 t5:=anV
 a5:=aoS
 z5:=aoL
 v5:=aoc
 infoByte:=(by kernel_rfl)
 cellsByte:=(by kernel_rfl)
 sizeByte:=(by kernel_rfl)
 neB5:=by decide}
def Tryz.Builder_WriteRune_k(B b:Nat)(bs:List Value)(r:Int)(d: -2147483648<=r)(f:r<=2147483647)(w:World)(h:Lib.IsBuilderF 259 5 B b bs w)(a:bs.length+4<=140737488355328)(c:B<=w.heap.size):
 Calls Tryz.prog 390 #[.pointer (some ⟨b,0,none⟩),.int .i32 r] w λe g=>e=.returned (.tuple #[.int .i64 (Lib.runeCells r).length,.nilIface])/\(Lib.BuilderAtF 259 5 B b (.pointer (some ⟨b,0,none⟩)) (bs++Lib.runeCells r) g/\Below B w g/\Lib.OthersKept 5 (some b) w g):=by
 have i:=Any.Builder_WriteRune_k (ρ:=Tryz.lays168_ren) Tryz.lays168 Tryz.Builder_Extra_168 B b bs r d f w h a c;exact i
end Go.Proofs
namespace Go.Fw
def stepU(x:Nat)(o:UInt8):Nat:=x*256 % 4294967296+o.toNat
def aku(l:List UInt8):Nat:=l.foldl stepU 0
def unitAt(c:List UInt8)(wd x:Nat):Nat:=aku ((c.drop (x*wd)).take wd)
noncomputable def gN(i:Nat)(r:Int):Bool:=match i with
 |1=>(dZ r).getD false
 |2=>(cP r 32 126).getD false
 |3=>(bp r 0 127).getD false
 |4=>(bp r 32 126).getD false
 |5=>(GT r).getD false
 |_=>(ec r).getD false
noncomputable def ae4(i:Nat)(c:List UInt8)(wd x:Nat):Bool:=Nat.ble (unitAt c wd x) 1114111&&gN i (unitAt c wd x)
def wi(c:List UInt8)(wd m:Nat):List UInt8:=(List.finRange m).flatMap λx=>Lib.encodeRune (unitAt c wd x.val)
noncomputable def Er(N:Nat)(i wd:Nat)(a:Int)(c:List UInt8):Option ((Int×List UInt8)×Int):=
 bif Nat.beq (c.length % wd) 0 then
  bif (List.finRange (c.length / wd)).all λx=>ae4 i c wd x.val then
   (iE N (a,wi c wd (c.length / wd))).map λb=>bif b then((a,wi c wd (c.length / wd)),0) else((0,[]),6)
  else some ((0,[]),6)
 else some ((0,[]),6)
noncomputable def Zf(N:Nat)(a:Int)(c:List UInt8):Option ((Int×List UInt8)×Int):=
 bif Nat.ble c.length 35184372088831 then
  if a=12 then(iE N (a,c)).map λb=>bif b then((a,c),0) else((0,[]),6)
  else if a=19 then Er N 1 1 a c
  else if a=20 then Er N 2 1 a c
  else if a=22 then Er N 3 1 a c
  else if a=26 then Er N 4 1 a c
  else if a=28 then Er N 5 4 a c
  else if a=30 then Er N 6 2 a c
  else some ((0,[]),3)
 else none
def aa3:∃f:Nat->Int->List UInt8->Option ((Int×List UInt8)×Int),f=Zf:=⟨_,rfl⟩
noncomputable def aK:Nat->Int->List UInt8->Option ((Int×List UInt8)×Int):=Classical.choose aa3
def xi(N:Nat)(a:Int)(c:List UInt8):aK N a c=Zf N a c:=aoX (aoX (aoX (anz aa3) N) a) c
noncomputable def CG(N:Nat):Ctr:=⟨[.hole (.int .i64),.hole (.sl .byte)],.tup [.hole (.pair (.int .i64) .str),.hole (.int .i64)],λ(x:Int×List UInt8)=>aK N x.1 x.2⟩
end Go.Fw
def anX:=@Go.KeepsOthers.setCell
def an7:=@Go.callsIn_wide
def apq:=@Go.callsIn_of_wp_marks
def apF:=@List.flatMap_cons
def aqf:=@Bool.not_eq_true
def aqr:=@Bool.false_and
namespace Go.Proofs
open Go.RowKit Go.Shelf
attribute [local go_sem] Oper.semAt_some
def Tryz.Looks(b:Int)(f:Nat)(wd:Nat)(R:Array Value->World->Prop)(w:World):Prop:=
 ∀W,Below w.heap.size w W->Calls Tryz.prog 376 #[] W λe c=>∃d a,e=.returned (.map (some d))/\Below W.heap.size W c/\
  (Instr.lookup 547 (.map (some d)) (.int .i64 b) true).run Tryz.prog c=.ok (.tuple #[.agg #[.func (.func f) #[] a,.int .i64 wd],.bool true]) c/\R a c
def gV(W c:World):Prop:=∀(k:Nat)(a:Array Value)(t:TypeId)(b:Nat×Nat),W.heap[k]?=some (.cells a t b)->c.heap[k]?=some (.cells a t b)
variable{Z:Nat}{Y:Int->Bool}{X:Value}{W:Int}
def gV.of_grown{W b:World}{a:Option Nat}(c:W.grownBy b a)(d:∀r,a=some r->Z<=r/\∃o:Obj,W.heap[r]?=some o/\o.isCells=false):gV W b:=
 λ_ _ _ _ h=>(grownBy_keeps_cells c (λr e=>(d r e).2) h rfl).trans h
def gV.of_below{W a:World}(h:Below W.heap.size W a):gV W a:=λk _ _ _ b=>(h.block k (amW.1 b).1).trans b
def IsBuilderF.kept{T e:TypeId}{B b:Nat}{bs:List Value}{W c:World}(h:Lib.IsBuilderF T e B b bs W)(j:gV W c):Lib.IsBuilderF T e B b bs c:=by
 have a:∀p,Lib.BuilderAtF T e B b p bs W->Lib.BuilderAtF T e B b p bs c:=by
  rintro p ⟨q,v,r,i,s⟩;refine⟨q,v,j _ _ _ _ r,⟨i.1,?_⟩,s⟩;rcases i.2 with t|⟨g,d,f,o,k,l,m,n⟩
  ·exact .inl t
  ·exact .inr ⟨g,d,f,o,k,l,j _ _ _ _ m,n⟩
 exact h.imp (a _) (a _)
def bV(W:World)(o:Obj)(k:Nat):(W.alloc o).heap[k]?=if k=W.heap.size then some o else W.heap[k]? :=by
 show(W.heap.push o)[k]?=_;rw[apo]
def Wf{W:World}{n:Nat}(h:W.heap.size=n)(a b c d e:Obj):
 (((((W.alloc a).alloc b).alloc c).alloc d).alloc e).heap[n]?=some a/\(((((W.alloc a).alloc b).alloc c).alloc d).alloc e).heap[n+1]?=some b/\
 (((((W.alloc a).alloc b).alloc c).alloc d).alloc e).heap[n+1+1]?=some c/\(((((W.alloc a).alloc b).alloc c).alloc d).alloc e).heap[n+3]?=some d/\
 (((((W.alloc a).alloc b).alloc c).alloc d).alloc e).heap[n+4]?=some e/\(((((W.alloc a).alloc b).alloc c).alloc d).alloc e).heap.size=n+5:=by
 simp only[bV,World.size_alloc,h];refine⟨?_,?_,?_,?_,?_,?_⟩
 all_goals (repeat (first|rw[amE trivial]|rw[amE (by omega)]|rw[am4 (by omega)]|rfl|trivial|omega))
def KeepsOthers.of_below{W a:World}(h:Below W.heap.size W a):KeepsOthers W a:=⟨h.size,λk _ b _=>(h.block k (amW.1 b).1).trans b⟩
def KeepsOthers.of_others{n e b:Nat}{W a:World}(l:Below n W a)(h:Lib.OthersKept e (some b) W a)(f:∃i t d,W.heap[b]?=some (.cells i t d)):KeepsOthers W a:=by
 refine⟨l.size,λk o g j=>h k o g ?_ ?_⟩
 ·rintro⟨⟩;obtain⟨i,t,d,f⟩:=f;rw[f]at g;cases g;cases j
 ·rintro c d rfl;cases j
def Tryz.stepU_or(z:Nat)(y:UInt8):bits .or .u32 ((z:Int)*256 % 4294967296) ((y.toNat:Int) % 4294967296)=((Fw.stepU z y:Nat):Int):=by
 have d:y.toNat<2 ^ 8:=y.toNat_lt;have a:(z:Int)*256 % 4294967296=((z*256 % 4294967296:Nat):Int):=(by omega);have b:(y.toNat:Int) % 4294967296=((y.toNat:Nat):Int):=(by omega);rw[a,b,u32_or_nat _ _ (by omega) (by omega)];have c:z*256 % 4294967296=2 ^ 8*(z % 16777216):=(by omega);unfold Fw.stepU;rw[c,<-Nat.two_pow_add_eq_or_of_lt d]
def Tryz.wrap64_nat{j:Nat}(h:j+1<=9223372036854775807):wrap64 ((j:Int)+1)=((j+1:Nat):Int):=by unfold wrap64;omega
def Tryz.take_fold{U:List UInt8}{j:Nat}(h:j<U.length){z:Nat}(a:(U.take j).foldl Fw.stepU 0=z):(U.take (j+1)).foldl Fw.stepU 0=Fw.stepU z (U[j]?.getD 0):=by
 rw[ans,List.foldl_append,a,aml h];rfl
def Tryz.three_sets{W:World}{n0:Nat}(a:(W.cell? ⟨n0,0,none⟩).isSome=true)(b:(W.cell? ⟨n0,1,none⟩).isSome=true)(c:(W.cell? ⟨n0+1,0,none⟩).isSome=true)(x y z:Value):
 (((W.setCell ⟨n0,0,none⟩ x).setCell ⟨n0,1,none⟩ y).setCell ⟨n0+1,0,none⟩ z).cell? ⟨n0,0,none⟩=some x/\(((W.setCell ⟨n0,0,none⟩ x).setCell ⟨n0,1,none⟩ y).setCell ⟨n0+1,0,none⟩ z).cell? ⟨n0,1,none⟩=some y/\
 (((W.setCell ⟨n0,0,none⟩ x).setCell ⟨n0,1,none⟩ y).setCell ⟨n0+1,0,none⟩ z).cell? ⟨n0+1,0,none⟩=some z:=by
 refine⟨?_,?_,?_⟩<;>simp[go_sem,a,b,c]
def Tryz.decV(r:(Int×List UInt8)×Int):Value:=.tuple #[.agg #[.int .i64 r.1.1,.string ⟨r.1.2.toArray⟩],.int .i64 r.2]
def Tryz.accC(c:List UInt8)(wd m:Nat)(pre:List (Fin m)):List Value:=pre.flatMap λx=>Lib.runeCells (Fw.unitAt c wd x.val)
def Tryz.goodU(c:List UInt8)(wd:Nat)(a:Int->Bool)(x:Nat):Bool:=Nat.ble (Fw.unitAt c wd x) 1114111&&a (Fw.unitAt c wd x)
def Tryz.HasOK(g:Nat)(c:Int->Bool)(b:Array Value)(d:World):Prop:=
 ∀a,Below d.heap.size d a->∀r:Int,0<=r->r<=1114111->Calls Tryz.prog g (#[.int .i32 r]++b) a λe f=>e=.returned (.bool (c r))/\Below a.heap.size a f
structure Tryz.DecI(c:List UInt8)(kind:Int)(C:ByteArray)(sv:Value)(hf wd m n1:Nat)(caps:Array Value)(has:Int->Bool)(w':World)(pre:List (Fin m))(W:World):Prop where
 below:Below n1 w' W
 b6:W.heap[n1]?=some (.cells #[.func (.func hf) #[] caps,.int .i64 wd] 546 (0,0))
 b8:W.heap[n1+1]?=some (.cells #[.int .i64 kind,.string C] 391 (0,0))
 b9:Lib.IsBuilderF 259 5 n1 (n1+1+1) (Tryz.accC c wd m pre) W
 bx1:W.heap[n1+3]?=some (.cells #[sv] 22 (0,0))
 bx2:W.heap[n1+4]?=some (.cells #[.int .i64 wd] 3 (0,0))
 good:∀x∈pre,Tryz.goodU c wd has x.val=true
def Tryz.DecI.own{c:List UInt8}{f:Int}{C:ByteArray}{r:Value}{o wd m h:Nat}{b:Array Value}{g:Int->Bool}{l:World}{B:Nat}(p:h<=l.heap.size)(n:h<=B):OwnFrom B (Tryz.DecI c f C r o wd m h b g l):=
 λs W t q a i j=>by
  have d:=gV.of_grown i j;exact⟨a.below.grown i (anI p a.below.size) (λk e=>anI n (j k e).1),d _ _ _ _ a.b6,d _ _ _ _ a.b8,IsBuilderF.kept a.b9 d,d _ _ _ _ a.bx1,d _ _ _ _ a.bx2,a.good⟩
structure Tryz.DecX(c:List UInt8)(wd m n0:Nat)(has:Int->Bool)(w:World)(t:Code)(pre:List (Fin m))(W:World):Prop where
 ret:t=.ret
 below:Below n0 w W
 c40:W.cell? ⟨n0,0,none⟩=some (.int .i64 0)
 c41:W.cell? ⟨n0,1,none⟩=some (.string ⟨#[]⟩)
 c50:W.cell? ⟨n0+1,0,none⟩=some (.int .i64 6)
 bad:∃x∈pre,Tryz.goodU c wd has x.val=false
def Tryz.DecX.own{c:List UInt8}{wd m n0:Nat}{w:World}(t:Code)(h:n0<=w.heap.size)(g:n0<=Z):OwnFrom Z (Tryz.DecX c wd m n0 Y w t):=
 λs W j i b d f=>by
  have a:=λr e=>(f r e).2;exact⟨b.ret,b.below.grown d (anI h b.below.size) (λk e=>anI g (f k e).1),cell_kept b.c40 d a,cell_kept b.c41 d a,cell_kept b.c50 d a,b.bad⟩
def Tryz.cell_of{W:World}{b:Nat}{cs:Array Value}{t:TypeId}(h:W.heap[b]?=some (.cells cs t (0,0)))(i:Nat):W.cell? ⟨b,i,none⟩=cs[i]?/\W.frozen? ⟨b,i,none⟩=false:=by
 unfold World.cell? World.frozen?;simp only[h];exact⟨rfl,by simp⟩
def Tryz.accC_snoc{c:List UInt8}{wd m:Nat}{pre:List (Fin m)}(x:Fin m):Tryz.accC c wd m (pre++[x])=Tryz.accC c wd m pre++Lib.runeCells (Fw.unitAt c wd x.val):=by
 simp[Tryz.accC]
def Tryz.runeCells_len(r:Int):(Lib.runeCells r).length<=4:=by
 unfold Lib.runeCells Lib.encodeRuneZ;rw[am7]
 repeat' split
 all_goals simp
def Tryz.accC_len{c:List UInt8}{wd m:Nat}:∀(pre:List (Fin m)),(Tryz.accC c wd m pre).length<=4*pre.length
 |[]=>anp _
 |x::b=>by
  have a:=Tryz.accC_len (c:=c) (wd:=wd) b;have d:=Tryz.runeCells_len (Fw.unitAt c wd x.val);unfold Tryz.accC at a⊢;rw[apF,amo,amr];omega
def Tryz.dec_ret{D:Nat}{w X:World}{tmps:Array Value}{k:Int}{S:ByteArray}{b:Int}
 (t4:tmps[4]?.getD undef=.pointer (some ⟨w.heap.size,0,none⟩))(t5:tmps[5]?.getD undef=.pointer (some ⟨w.heap.size+1,0,none⟩))
 (n:X.cell? ⟨w.heap.size,0,none⟩=some (.int .i64 k))(o:X.cell? ⟨w.heap.size,1,none⟩=some (.string S))(p:X.cell? ⟨w.heap.size+1,0,none⟩=some (.int .i64 b))
 (d:X.heap[D]?=some (.deferred (some [])))(s:w.heap.size<=D)(q:Below w.heap.size w X){c:Value}(f:c=.tuple #[.agg #[.int .i64 k,.string S],.int .i64 b]):
 bodyPostM Fence.wide 9 Tryz.prog Tryz.f379 (λe i=>e=.returned c/\Below w.heap.size w i) .ret {tmps:=tmps,defers:=[{target:=.collected D,args:= #[]}]} X:=by
 refine⟨by simp,.inl ⟨_,_,rfl,run_takeDeferred d,?_⟩⟩;have g:∀{a v},X.cell? a=some v->(X.putObj D (.deferred none)).cell? a=some v:=λh=>cell_kept h (grownBy_putObj' _ D (.deferred none)) (λr e=>by cases e;exact⟨_,d,rfl⟩);have j:=g n;have l:=g o;have m:=g p;refine⟨c,?_,rfl,q.trans (belowK_b (w:=w) (amt _) X D _ _ s d rfl rfl)⟩;have t:Tryz.f379.results= #[.cell 4 391,.cell 5 40]:=rfl;subst f;unfold results;rw[t];simp[go_sem,t4,t5,j,l,m]
set_option maxRecDepth 100000 in
set_option maxHeartbeats 8000000 in
def Tryz.dec_try(kind:Int)(a:Option Addr)(b off cap m wd:Nat)(c:List UInt8)(hf:Nat)(K:World->Prop)(has:Int->Bool)(w:World)(hwd:1<=wd)(hL:c.length=m*wd)(hcap:m*wd<=cap)(hmax:cap<=9223372036854775807)
 (hm4:m<=35184372088831)(hsv:m=0∨a=some ⟨b,off,none⟩)(hbw:0<m->b<w.heap.size)(hcell:∀(j:Nat) x,c[j]?=some x->w.cell? ⟨b,off+j,none⟩=some (.int .u8 x.toNat))
 (hconv:∀W,Below w.heap.size w W->(convert 22 9 (.slice a c.length cap)).run Tryz.prog W=.ok (.string ⟨c.toArray⟩) W)
 (eh:∀args w,(callFunc hf args).run Tryz.prog w=.ok (.enter hf args) w)(hF:Tryz.Looks kind hf wd (λcaps W=>Tryz.HasOK hf has caps W/\K W) w)
 (T:List UInt8)(hT:Lib.byteCells T=Tryz.accC c wd m (List.finRange m))(vb:Bool)
 (hV:((List.finRange m).all λx=>Tryz.goodU c wd has x.val)=true->∀W',K W'->∀W'',Below W'.heap.size W' W''->Calls Tryz.prog 375 #[.agg #[.int .i64 kind,.string ⟨T.toArray⟩]] W'' λe W3=>e=.returned (.bool vb)/\Below W''.heap.size W'' W3):
 Calls Tryz.prog 379 #[.int .i64 kind,.slice a c.length cap] w λe W'=>e=.returned (Tryz.decV (bif ((List.finRange m).all λx=>Tryz.goodU c wd has x.val) then bif vb then((kind,T),0) else((0,[]),6) else((0,[]),6)))/\Below w.heap.size w W':=by
 have mixed:Tryz.prog.follows .mixedOrders=true:=(by kernel_rfl);obtain⟨GV,hGV⟩:∃GV,((List.finRange m).all λx=>Tryz.goodU c wd has x.val)=GV:=⟨_,rfl⟩;rw[hGV]at hV⊢;have HG:Hid (((List.finRange m).all λx=>Tryz.goodU c wd has x.val)=GV):=hGV;obtain⟨RV,hRV⟩:∃RV,Tryz.decV (bif GV then bif vb then((kind,T),0) else((0,[]),6) else((0,[]),6))=RV:=⟨_,rfl⟩;rw[hRV];have HR:Hid (Tryz.decV (bif GV then bif vb then((kind,T),0) else((0,[]),6) else((0,[]),6))=RV):=hRV;clear hGV hRV;refine(an7 (n:=9)).1 ?_;refine apq Tryz.func379 rfl trivial ?_ rfl;simp only[Tryz.ntmps379,aoa,amr,amI,Nat.reduceAdd,Nat.reduceSub,aoh,aoi,aoD,aom,anc,anf];have hB0:Below w.heap.size w ((w.alloc (.cells #[.int .i64 0,.string ⟨#[]⟩] 391)).alloc (.cells #[.int .i64 0] 40)):=((anB _ w).alloc (amt _) _).alloc (by simp) _;have hF1:=hF _ hB0;have hrem:(c.length:Int).tmod wd=0:=by
  rw[hL,apV];exact Int.mul_tmod_left _ _
 obtain⟨L,hLe⟩:∃L,c.length=L:=⟨_,rfl⟩;obtain⟨C,hC⟩:∃C,(⟨c.toArray⟩:ByteArray)=C:=⟨_,rfl⟩;rw[hLe]at hrem hconv hL⊢;rw[hC]at hconv;have HL:Hid (L=m*wd):=hL;have HC:Hid (∀(j:Nat) x,c[j]?=some x->w.cell? ⟨b,off+j,none⟩=some (.int .u8 x.toNat)):=hcell;have HS:Hid (m=0∨a=some ⟨b,off,none⟩):=hsv;clear hF hL hcell hsv
 gi_wp2_with (first
  |(refine⟨trivial,?_⟩;gi_at_call 376;refine(an7.2 hF1).mono ?_;rintro e w' ⟨bm,caps,rfl,hb,hlook,hR,hKw⟩;have hcv:=hconv (w'.alloc (Obj.cells #[Value.func (Fn.func hf) #[] caps,Value.int IntKind.i64 wd] 546)) ((hB0.trans (hb.mono (by simp; omega))).alloc (by have:=hb.size;simp at this;omega) _);clear hconv)
  |(refine⟨trivial,?_⟩;gi_at_call 389;refine(Tryz.chunk_in Fence.wide _ trivial rfl a L cap wd hwd _).mono ?_;rintro e w'' ⟨rfl,rfl⟩))
 all_goals (
  obtain⟨n1,hn1⟩:∃n1,w'.heap.size=n1:=⟨_,rfl⟩;obtain⟨W0,hW0⟩:∃W0,((((w'.alloc (.cells #[.func (.func hf) #[] caps,.int .i64 wd] 546)).alloc (.cells #[.int .i64 kind,.string C] 391)).alloc (.cells #[.pointer none,.slice none 0 0] 259)).alloc (.cells #[.slice a L cap] 22)).alloc (.cells #[.int .i64 wd] 3)=W0:=⟨_,rfl⟩;have h5:=Wf hn1 (.cells #[.func (.func hf) #[] caps,.int .i64 wd] 546) (.cells #[.int .i64 kind,.string C] 391) (.cells #[.pointer none,.slice none 0 0] 259) (.cells #[.slice a L cap] 22) (.cells #[.int .i64 wd] 3);have hBW:Below n1 w' W0:=by
   rw[<-hW0];exact(((((anB _ w').alloc (by omega) _).alloc (by simp; omega) _).alloc (by simp; omega) _).alloc (by simp; omega) _).alloc (by simp; omega) _
  rw[hW0]at h5;obtain⟨ha1,ha2,ha3,ha4,ha5,hE⟩:=h5;have hc1:W0.cell? ⟨n1+3,0,none⟩=some (.slice a L cap):=by unfold World.cell?;simp only[ha4];rfl
  have hc2:W0.cell? ⟨n1+4,0,none⟩=some (.int .i64 wd):=by unfold World.cell?;simp only[ha5];rfl
  have hI0:Tryz.DecI c kind C (.slice a L cap) hf wd m n1 caps has w' [] W0:=
   ⟨hBW,ha1,ha2,.inl ⟨(by omega),.slice none 0 0,ha3,⟨rfl,.inl ⟨rfl,rfl⟩⟩,by simp[Value.ownBlock]⟩,ha4,ha5,λx h=>absurd h (by simp)⟩
  have hseq:=Tryz.chunk_stops Fence.wide (9-1) trivial rfl (by omega) (n1+3) (n1+4) n1 b off cap wd m (.slice a L cap) hwd W0 (by omega) (by omega) hc1 hc2 (by
   rcases HS.out with h|h
   ·exact .inl ⟨h,a,cap,by rw[HL.out,h,aok]⟩
   ·exact .inr ⟨by rw[h,HL.out],hcap,hmax⟩)
  have hKb:∀(W:World)(l:Nat)(o o':Obj),W0.heap.size<=l->W.heap[l]?=some o->o.isCells=false->o.isWalk=false->qe n1 (n1+3) (n1+4) W (W.putObj l o'):=λW l o o' hl h h1 h2=>
   ⟨belowK_b (w:=W0) (by omega) W l o o' hl h h1 h2,World.putObj_heap_other (by omega),World.putObj_heap_other (by omega)⟩
  have hnw:w.heap.size+2<=n1:=by have:=hb.size;simp at this;omega
  simp only[hn1,hW0];clear hW0 hcv hlook hF1
  refine' wpIn_rangeFunc_ownG rfl (by omega) (gf:=396) (lb:= #[.pointer (some ⟨n1+3,0,none⟩),.pointer (some ⟨n1+4,0,none⟩)]) rfl trivial (aoM Tryz.func396 (by kernel_rfl) rfl) hseq (λh k=>h.trans k) hKb (anB _ _) (λ_=>rfl)
   (Tryz.DecI c kind C (.slice a L cap) hf wd m n1 caps has w') (Tryz.DecX c wd m w.heap.size has w) (Tryz.DecI.own (by omega) (by omega)) (λt=>Tryz.DecX.own t (amt _) (by omega)) hI0 _ ?_ ?_ ?_ ?_
  rotate_left
  ·intro l x W K hK
   gi_wp2
   exact hK
  ·rintro l pre x W hI hlen;obtain⟨X,hX⟩:∃X,x.val*wd=X:=⟨_,rfl⟩;obtain⟨U,hU⟩:∃U,(c.drop (x.val*wd)).take wd=U:=⟨_,rfl⟩;have hXL:X+wd<=L:=by
    have:(x.val+1)*wd<=m*wd:=ank _ x.isLt;rw[aoK,hX,<-HL.out]at this;exact this
   have hUl:U.length=wd:=by
    rw[<-hU,amT,anj,hX,hLe];omega
   have hUc:Hid (∀j,j<wd->W.cell? ⟨b,off+X+j,none⟩=some (.int .u8 (U[j]?.getD 0).toNat)):=by
    intro j hj;have e:U[j]?=c[X+j]? :=by
     rw[<-hU,ap3,amE hj,apw,hX]
    have hlt:X+j<c.length:=(by omega);rw[e,aml hlt];have hBn:Below w.heap.size w W:=((hB0.trans (hb.mono (by simp; omega)))).trans (hI.below.mono (by omega));rw[aoy];exact(hBn.cell (p:=⟨b,off+(X+j),none⟩) (hbw (Nat.lt_of_le_of_lt (anp _) x.isLt))).trans (HC.out (X+j) _ (aml hlt))
   have hwc:wd<=cap:=by have:=HL.out;omega
   have hc6:W.cell? ⟨n1,0,none⟩=some (.func (.func hf) #[] caps):=by unfold World.cell?;simp only[hI.b6];rfl
   simp only[hX];have HX:=hX;have hU0:Hid ((c.drop (x.val*wd)).take wd=U):=hU;have hnb:∀(k:Nat) o,((w.alloc (.cells #[.int .i64 0,.string ⟨#[]⟩] 391)).alloc (.cells #[.int .i64 0] 40)).heap[k]?=some o->k<w.heap.size+2->W.heap[k]?=some o:=λk o h1 h2=>
    (hI.below.block k (by omega)).trans ((hb.block k (by simp; omega)).trans h1)
   have hq4i:Hid (W.heap[w.heap.size]?=some (.cells #[.int .i64 0,.string ⟨#[]⟩] 391 (0,0))):=hnb _ _ (by rw[bV,bV,am4 (by simp),amE rfl]) (by omega);have hq5i:Hid (W.heap[w.heap.size+1]?=some (.cells #[.int .i64 0] 40 (0,0))):=hnb _ _ (by rw[bV,amE (by simp)]) (by omega);clear hX hU hXL hnb
   gi_wp2
   gi_loopw [11,51] (λxv iv wr=>∃j:Nat,j<=wd/\iv=.int .i64 j/\xv=.int .u32 (((U.take j).foldl Fw.stepU 0:Nat):Int)/\wr=W) (λ_ iv _=>wd-(intOf iv).toNat)
   case atStart=>exact⟨0,anp _,rfl,rfl,rfl⟩
   case round=>
    obtain⟨j,hj,rfl,rfl,rfl⟩:=hrel;by_cases hlt:j<wd
    ·have hcj:=hUc.out j hlt;obtain⟨y,hy⟩:∃y,(U[j]?.getD 0)=y:=⟨_,rfl⟩;obtain⟨z,hz⟩:∃z:Nat,(U.take j).foldl Fw.stepU 0=z:=⟨_,rfl⟩;rw[hy]at hcj;simp only[hz];clear HX;have hz1:=Tryz.take_fold (U:=U) (by omega) hz;rw[hy]at hz1;have hj64:=Tryz.wrap64_nat (j:=j) (by omega);have HZ:Hid ((U.take (j+1)).foldl Fw.stepU 0=Fw.stepU z y):=hz1;have HJ:Hid (wrap64 ((j:Int)+1)=((j+1:Nat):Int)):=hj64;clear hz1 hj64 hz
     gi_wp2
     refine⟨⟨j+1,hlt,?_,?_,trivial⟩,?_⟩
     ·first|rw[HJ.out]|simp
     ·rw[Tryz.stepU_or,HZ.out]
     ·first|rw[HJ.out]|skip
      simp only[intOf];omega
    ·obtain rfl:j=wd:=(by omega);rw[amR (by omega)];obtain⟨z,hz⟩:∃z:Nat,U.foldl Fw.stepU 0=z:=⟨_,rfl⟩;simp only[hz];have HZ:Hid (U.foldl Fw.stepU 0=z):=hz;have hzu:Hid (Fw.unitAt c j x.val=z):=by
      unfold Fw.unitAt;rw[hU0.out];exact hz
     have hq4:=hq4i.out;have hq5:=hq5i.out;clear hz HX;by_cases hzm:z<=1114111
     ·have hcall:=hR wr (hI.below.mono (by omega)) (z:Int) (by omega) (by omega);have hlen2:=Tryz.accC_len (c:=c) (wd:=j) pre;have hbs:(Tryz.accC c j m pre).length+4<=140737488355328:=(by omega);obtain⟨bs,hbsE⟩:∃bs,Tryz.accC c j m pre=bs:=⟨_,rfl⟩;have hb9:=hI.b9;rw[hbsE]at hb9 hbs;cases hv:has z with
      |true=>
       rw[hv]at hcall
       gi_wp2_with (first
        |(refine⟨trivial,(CallsIn.inRound l (an7.2 hcall)).mono ?_⟩;rintro e W3 ⟨rfl,hb3⟩;have hbl3:=IsBuilderF.kept hb9 (gV.of_below hb3))
        |(refine⟨trivial,?_⟩;gi_at_call 390;refine(CallsIn.inRound l (an7.2 (Tryz.Builder_WriteRune_k n1 (n1+1+1) bs (z:Int) (by omega) (by omega) _ hbl3 hbs (by have:=hb3.size;have:=hI.below.size;omega)))).mono ?_;rintro e W4 ⟨rfl,hbu,hb4,ho4⟩))
       have hb3n:Below n1 wr W3:=hb3.mono (by have:=hI.below.size;omega);have kc:∀(k:Nat) cs (t:TypeId),wr.heap[k]?=some (.cells cs t (0,0))->k≠n1+1+1->t≠5->W4.heap[k]?=some (.cells cs t (0,0)):=λk cs t h1 h2 h3=>
        ho4 k _ (gV.of_below hb3 _ _ _ _ h1) (λe=>h2 (by cases e;rfl)) (λc' fz' e=>h3 (by cases e;rfl))
       have k34:KeepsOthers W3 W4:=KeepsOthers.of_others hb4 ho4 (by
        rcases hbl3 with⟨_,v,h,_⟩|⟨_,v,h,_⟩<;>exact⟨_,_,_,h⟩)
       have hg:=hzu.out;refine⟨((KeepsOthers.of_below hb3).trans k34).from _,⟨hb3n.trans hb4,(kc _ _ _ hI.bx1 (by omega) (by decide)).trans hI.bx1.symm,(kc _ _ _ hI.bx2 (by omega) (by decide)).trans hI.bx2.symm⟩,
        hI.below.trans (hb3n.trans hb4),kc _ _ _ hI.b6 (by omega) (by decide),kc _ _ _ hI.b8 (by omega) (by decide),?_,kc _ _ _ hI.bx1 (by omega) (by decide),kc _ _ _ hI.bx2 (by omega) (by decide),λy hy=> ?_⟩
       ·rw[Tryz.accC_snoc,hbsE,hg];exact .inr hbu
       ·rcases am6.1 hy with h|h
        ·exact hI.good y h
        ·obtain rfl:y=x:=by simpa using h
         unfold Tryz.goodU;rw[hg,hv,ann hzm];rfl
      |false=>
       rw[hv]at hcall
       gi_wp2_with (refine⟨trivial,(CallsIn.inRound l (an7.2 hcall)).mono ?_⟩;rintro e W3 ⟨rfl,hb3⟩;have hk3:=gV.of_below hb3;have hq41:=Tryz.cell_of (hk3 _ _ _ _ hq4) 0;have hq42:=Tryz.cell_of (hk3 _ _ _ _ hq4) 1;have hq43:=Tryz.cell_of (hk3 _ _ _ _ hq5) 0;simp at hq41 hq42 hq43)
       have h3s:=Tryz.three_sets (W:=W3) (n0:=w.heap.size) (by rw[hq41.1];rfl) (by rw[hq42.1];rfl) (by rw[hq43.1];rfl) (.int .i64 0) (.string ⟨#[]⟩) (.int .i64 6);have hBn0:Below w.heap.size w W3:=((hB0.trans (hb.mono (by simp; omega))).trans (hI.below.mono (by omega))).trans (hb3.mono (by have:=hI.below.size;omega));refine⟨((KeepsOthers.of_below hb3).trans (((anX _ _ _).trans (anX _ _ _)).trans (anX _ _ _))).from _,rfl,?_,h3s.1,h3s.2.1,h3s.2.2,x,am6.2 (.inr (anl.2 rfl)),?_⟩
       ·exact((hBn0.setCell (p:=⟨w.heap.size,0,none⟩) (amt _) _).setCell (p:=⟨w.heap.size,1,none⟩) (amt _) _).setCell (p:=⟨w.heap.size+1,0,none⟩) (by simp) _
       ·unfold Tryz.goodU;rw[hzu.out];rw[hv,Bool.and_false]
     ·have hzm2:1114111<z:=(by omega);have hq41:=Tryz.cell_of hq4 0;have hq42:=Tryz.cell_of hq4 1;have hq43:=Tryz.cell_of hq5 0;simp at hq41 hq42 hq43
      gi_wp2
      refine⟨λ_ h=>(by cases h),?_⟩
      gi_wp2
      have h3s:=Tryz.three_sets (W:=wr) (n0:=w.heap.size) (by rw[hq41.1];rfl) (by rw[hq42.1];rfl) (by rw[hq43.1];rfl) (.int .i64 0) (.string ⟨#[]⟩) (.int .i64 6);have hBn0:Below w.heap.size w wr:=(hB0.trans (hb.mono (by simp; omega))).trans (hI.below.mono (by omega));refine⟨((KeepsOthers.refl _).trans (((anX _ _ _).trans (anX _ _ _)).trans (anX _ _ _))).from _,rfl,?_,h3s.1,h3s.2.1,h3s.2.2,x,am6.2 (.inr (anl.2 rfl)),?_⟩
      ·exact((hBn0.setCell (p:=⟨w.heap.size,0,none⟩) (amt _) _).setCell (p:=⟨w.heap.size,1,none⟩) (amt _) _).setCell (p:=⟨w.heap.size+1,0,none⟩) (by simp) _
      ·unfold Tryz.goodU;rw[hzu.out];rw[show Nat.ble z 1114111=false from by rw[<-aqf,Nat.ble_eq];omega,aqr]
  ·rintro D xs W hD rfl hI hK;have hall:((List.finRange m).all λx=>Tryz.goodU c wd has x.val)=true:=by
    rw[amM];exact hI.good
   have hGt:GV=true:=HG.out.symm.trans hall;have hVx:=hV hGt w' hKw;have hbT:Lib.IsBuilderF 259 5 n1 (n1+1+1) (Lib.byteCells T) W:=by rw[hT];exact hI.b9
   have HRt:Hid (Tryz.decV (bif vb then((kind,T),0) else((0,[]),6))=RV):=by
    have:=HR.out;rw[hGt]at this;exact this
   clear hall hGt hV hT HG HR;have hnW:n1<=W.heap.size:=by have:=hI.below.size;omega
   have hb8:=hI.b8;have hIb:=hI.below;obtain⟨TB,hTB⟩:∃TB,(⟨T.toArray⟩:ByteArray)=TB:=⟨_,rfl⟩;have hstr:=Tryz.Builder_String_any_k n1 (n1+1+1) T W hbT hnW;rw[hTB]at hVx hstr;clear hbT;have hnb:∀(k:Nat) o,((w.alloc (.cells #[.int .i64 0,.string ⟨#[]⟩] 391)).alloc (.cells #[.int .i64 0] 40)).heap[k]?=some o->k<w.heap.size+2->W.heap[k]?=some o:=λk o h1 h2=>
    (hI.below.block k (by omega)).trans ((hb.block k (by simp; omega)).trans h1)
   have hq4:W.heap[w.heap.size]?=some (.cells #[.int .i64 0,.string ⟨#[]⟩] 391 (0,0)):=hnb _ _ (by rw[bV,bV,am4 (by simp),amE rfl]) (by omega);have hq5:W.heap[w.heap.size+1]?=some (.cells #[.int .i64 0] 40 (0,0)):=hnb _ _ (by rw[bV,amE (by simp)]) (by omega);clear hnb hI;cases vb
   all_goals (
    gi_wp2_with (first
     |(refine⟨trivial,?_⟩;gi_at_call 151;refine(an7.2 hstr).mono ?_;rintro e W5 ⟨rfl,hs5,hb5,ho5⟩;have h80:=Tryz.cell_of (ho5 _ _ hb8 (λe=>by simp at e) (λc' fz' e=>by cases e)) 0;have h81:=Tryz.cell_of (ho5 _ _ hb8 (λe=>by simp at e) (λc' fz' e=>by cases e)) 1;simp at h80 h81)
     |(refine⟨trivial,?_⟩;gi_at_call 375
       have hXB:Below n1 w' (W5.setCell ⟨n1+1,1,none⟩ (.string TB)):=hIb.trans (hb5.setCell (p:=⟨n1+1,1,none⟩) (Nat.le_succ n1) _);refine(an7.2 (hVx _ (by rw[hn1];exact hXB))).mono ?_;rintro e W6 ⟨rfl,hb6⟩;have hs5:=hb5.size;have hsX:(W5.setCell ⟨n1+1,1,none⟩ (.string TB)).heap.size=W5.heap.size:=by simp
       have hlt1:n1+1<W.heap.size:=(amW.1 hb8).1;have hx0:(W5.setCell ⟨n1+1,1,none⟩ (.string TB)).cell? ⟨n1+1,0,none⟩=some (.int .i64 kind):=by simp[go_sem,h80,h81]
       have hx1:(W5.setCell ⟨n1+1,1,none⟩ (.string TB)).cell? ⟨n1+1,1,none⟩=some (.string TB):=by simp[go_sem,h80,h81]
       have hc80:=(hb6.cell (p:=⟨n1+1,0,none⟩) (by rw[hsX];show n1+1<_;omega)).trans hx0;have hc81:=(hb6.cell (p:=⟨n1+1,1,none⟩) (by rw[hsX];show n1+1<_;omega)).trans hx1;have hblk:∀(k:Nat) o,k<n1->W.heap[k]?=some o->W6.heap[k]?=some o:=λk o h1 h2=>
        (hb6.block k (by rw[hsX];omega)).trans ((Below.heap_setCell _ _ _ k (by show k≠n1+1;omega)).trans ((hb5.block k h1).trans h2))
       have hq41:=Tryz.cell_of (hblk _ _ (by omega) hq4) 0;have hq42:=Tryz.cell_of (hblk _ _ (by omega) hq4) 1;have hq43:=Tryz.cell_of (hblk _ _ (by omega) hq5) 0;have hDl:D<W.heap.size:=(amW.1 hK).1;have hK6:W6.heap[D]?=some (.deferred (some [])):=(hb6.block D (by rw[hsX];omega)).trans ((Below.heap_setCell _ _ _ D (by show D≠n1+1;omega)).trans (ho5 _ _ hK (λe=>by simp at e;omega) (λc' fz' e=>by cases e)));have hB6:Below n1 w' W6:=hXB.trans (hb6.mono (by rw[hsX];omega));clear hx0 hx1 hblk;simp at hq41 hq42 hq43))
    have h3s:=Tryz.three_sets (W:=W6) (n0:=w.heap.size) (by rw[hq41.1];rfl) (by rw[hq42.1];rfl) (by rw[hq43.1];rfl);have hBn0:Below w.heap.size w W6:=(hB0.trans (hb.mono (by simp; omega))).trans (hB6.mono (by omega));have hKs:=λx y z=>(((anX W6 ⟨w.heap.size,0,none⟩ x).trans (anX _ ⟨w.heap.size,1,none⟩ y)).trans (anX _ ⟨w.heap.size+1,0,none⟩ z)).same D _ hK6 rfl;refine Tryz.dec_ret rfl rfl (h3s _ _ _).1 (h3s _ _ _).2.1 (h3s _ _ _).2.2 (hKs _ _ _) (by omega) (((hBn0.setCell (p:=⟨w.heap.size,0,none⟩) (amt _) _).setCell (p:=⟨w.heap.size,1,none⟩) (amt _) _).setCell (p:=⟨w.heap.size+1,0,none⟩) (by simp) _) ?_;have hfin:=HRt.out
    first|exact hfin.symm|(subst hTB;exact hfin.symm))
  ·rintro D cd pre W hD hpre hX hK;obtain⟨rfl,hBX,x40,x41,x50,y,hy,hbad⟩:=hX;have hGf:GV=false:=by
    rw[<-HG.out,<-aqf,amM];intro h;rw[h y (List.mem_finRange y)]at hbad;cases hbad
   have hfin:=HR.out;rw[hGf]at hfin
   gi_wp2
   exact Tryz.dec_ret rfl rfl x40 x41 x50 hK (by omega) hBX hfin.symm)
end Go.Proofs
namespace Go.Proofs
open Go.RowKit Go.Shelf
attribute [local go_sem] Oper.semAt_some
def Tryz.dec_ret0{w X:World}{tmps:Array Value}{k:Int}{S:ByteArray}{a:Int}
 (t4:tmps[4]?.getD undef=.pointer (some ⟨w.heap.size,0,none⟩))(t5:tmps[5]?.getD undef=.pointer (some ⟨w.heap.size+1,0,none⟩))
 (f:X.cell? ⟨w.heap.size,0,none⟩=some (.int .i64 k))(g:X.cell? ⟨w.heap.size,1,none⟩=some (.string S))(h:X.cell? ⟨w.heap.size+1,0,none⟩=some (.int .i64 a))
 (i:Below w.heap.size w X){b:Value}(c:b=.tuple #[.agg #[.int .i64 k,.string S],.int .i64 a]):
 bodyPostM Fence.wide 9 Tryz.prog Tryz.f379 (λe d=>e=.returned b/\Below w.heap.size w d) .ret {tmps:=tmps,defers:=[]} X:=by
 refine⟨b,?_,rfl,i⟩;have j:Tryz.f379.results= #[.cell 4 391,.cell 5 40]:=rfl;subst c;unfold results;rw[j];simp[go_sem,t4,t5,f,g,h]
def Tryz.LooksNo(a:Int)(w:World):Prop:=
 ∀W,Below w.heap.size w W->Calls Tryz.prog 376 #[] W λe b=>∃c,e=.returned (.map (some c))/\Below W.heap.size W b/\
  (Instr.lookup 547 (.map (some c)) (.int .i64 a) true).run Tryz.prog b=.ok (.tuple #[.agg #[.nilFunc,.int .i64 0],.bool false]) b
set_option maxRecDepth 100000 in
set_option maxHeartbeats 8000000 in
def Tryz.dec_none(f:Int)(a:Option Addr)(L l:Nat)(w:World)(s:Tryz.LooksNo f w):
 Calls Tryz.prog 379 #[.int .i64 f,.slice a L l] w λe u=>e=.returned (Tryz.decV ((0,[]),3))/\Below w.heap.size w u:=by
 have mixed:Tryz.prog.follows .mixedOrders=true:=(by kernel_rfl);refine(an7 (n:=9)).1 ?_;refine apq Tryz.func379 rfl trivial ?_ rfl;simp only[Tryz.ntmps379,aoa,amr,amI,Nat.reduceAdd,Nat.reduceSub,aoh,aoi,aoD,aom,anc,anf];have h:Below w.heap.size w ((w.alloc (.cells #[.int .i64 0,.string ⟨#[]⟩] 391)).alloc (.cells #[.int .i64 0] 40)):=((anB _ w).alloc (amt _) _).alloc (by simp) _;have o:=s _ h;have i:((w.alloc (.cells #[.int .i64 0,.string ⟨#[]⟩] 391)).alloc (.cells #[.int .i64 0] 40)).heap[w.heap.size]?=some (.cells #[.int .i64 0,.string ⟨#[]⟩] 391 (0,0)):=by rw[bV,bV,am4 (by simp),amE rfl]
 have r:((w.alloc (.cells #[.int .i64 0,.string ⟨#[]⟩] 391)).alloc (.cells #[.int .i64 0] 40)).heap[w.heap.size+1]?=some (.cells #[.int .i64 0] 40 (0,0)):=by rw[bV,amE (by simp)]
 clear s
 gi_wp2_with (refine⟨trivial,?_⟩;gi_at_call 376;refine(an7.2 o).mono ?_;rintro e t ⟨v,rfl,j,q⟩
              have k:=gV.of_below (j.alloc j.size (.cells #[Value.nilFunc,.int .i64 0] 546));have b:=Tryz.cell_of (k _ _ _ _ i) 0;have c:=Tryz.cell_of (k _ _ _ _ i) 1;have d:=Tryz.cell_of (k _ _ _ _ r) 0;have m:Below w.heap.size w (t.alloc (.cells #[Value.nilFunc,.int .i64 0] 546)):=(h.trans (j.mono (by simp; omega))).alloc (by have:=j.size;simp at this;omega) _;clear k;simp at b c d)
 have g:=Tryz.three_sets (W:=t.alloc (.cells #[Value.nilFunc,.int .i64 0] 546)) (n0:=w.heap.size) (by rw[b.1];rfl) (by rw[c.1];rfl) (by rw[d.1];rfl);exact Tryz.dec_ret0 rfl rfl (g _ _ _).1 (g _ _ _).2.1 (g _ _ _).2.2 (((m.setCell (p:=⟨w.heap.size,0,none⟩) (amt _) _).setCell (p:=⟨w.heap.size,1,none⟩) (amt _) _).setCell (p:=⟨w.heap.size+1,0,none⟩) (by simp) _) rfl
set_option maxRecDepth 100000 in
set_option maxHeartbeats 8000000 in
def Tryz.dec_rem(g:Int)(a:Option Addr)(L q m wd:Nat)(R:Array Value->World->Prop)(w:World)(E:1<wd)(y:¬L % wd=0)(x:Tryz.Looks g m wd R w):
 Calls Tryz.prog 379 #[.int .i64 g,.slice a L q] w λe A=>e=.returned (Tryz.decV ((0,[]),6))/\Below w.heap.size w A:=by
 have mixed:Tryz.prog.follows .mixedOrders=true:=(by kernel_rfl);refine(an7 (n:=9)).1 ?_;refine apq Tryz.func379 rfl trivial ?_ rfl;simp only[Tryz.ntmps379,aoa,amr,amI,Nat.reduceAdd,Nat.reduceSub,aoh,aoi,aoD,aom,anc,anf];have j:Below w.heap.size w ((w.alloc (.cells #[.int .i64 0,.string ⟨#[]⟩] 391)).alloc (.cells #[.int .i64 0] 40)):=((anB _ w).alloc (amt _) _).alloc (by simp) _;have s:=x _ j;have k:((w.alloc (.cells #[.int .i64 0,.string ⟨#[]⟩] 391)).alloc (.cells #[.int .i64 0] 40)).heap[w.heap.size]?=some (.cells #[.int .i64 0,.string ⟨#[]⟩] 391 (0,0)):=by rw[bV,bV,am4 (by simp),amE rfl]
 have u:((w.alloc (.cells #[.int .i64 0,.string ⟨#[]⟩] 391)).alloc (.cells #[.int .i64 0] 40)).heap[w.heap.size+1]?=some (.cells #[.int .i64 0] 40 (0,0)):=by rw[bV,amE (by simp)]
 have C:¬((wd:Int)=0):=(by omega);have i:¬((L:Int) % wd=0):=(by omega);have v:((L:Int) % wd !=0)=true:=by simpa using i
 have B:1<(wd:Int):=(by omega);clear x
 gi_wp2_with (refine⟨trivial,?_⟩;gi_at_call 376;refine(an7.2 s).mono ?_;rintro e z ⟨D,b,rfl,l,t,_⟩
              have o:=gV.of_below (l.alloc l.size (.cells #[.func (.func m) #[] b,.int .i64 wd] 546));have c:=Tryz.cell_of (o _ _ _ _ k) 0;have d:=Tryz.cell_of (o _ _ _ _ k) 1;have f:=Tryz.cell_of (o _ _ _ _ u) 0;have r:Below w.heap.size w (z.alloc (.cells #[.func (.func m) #[] b,.int .i64 wd] 546)):=(j.trans (l.mono (by simp; omega))).alloc (by have:=l.size;simp at this;omega) _;clear o;simp at c d f)
 have h:=Tryz.three_sets (W:=z.alloc (.cells #[.func (.func m) #[] b,.int .i64 wd] 546)) (n0:=w.heap.size) (by rw[c.1];rfl) (by rw[d.1];rfl) (by rw[f.1];rfl);exact Tryz.dec_ret0 rfl rfl (h _ _ _).1 (h _ _ _).2.1 (h _ _ _).2.2 (((r.setCell (p:=⟨w.heap.size,0,none⟩) (amt _) _).setCell (p:=⟨w.heap.size,1,none⟩) (amt _) _).setCell (p:=⟨w.heap.size+1,0,none⟩) (by simp) _) rfl
set_option maxRecDepth 100000 in
set_option maxHeartbeats 8000000 in
def Tryz.dec_utf(b:Int)(a:Option Addr)(u x:Nat)(c:List UInt8)(K:World->Prop)(R:Array Value->World->Prop)(w:World)
 (f:∀W,Below w.heap.size w W->(convert 22 9 (.slice a c.length u)).run Tryz.prog W=.ok (.string ⟨c.toArray⟩) W)
 (Q:Tryz.Looks b x 0 (λd W=>R d W/\K W) w)(A:Bool)
 (J:∀t,K t->∀h,Below t.heap.size t h->Calls Tryz.prog 375 #[.agg #[.int .i64 b,.string ⟨c.toArray⟩]] h λe T=>e=.returned (.bool A)/\Below h.heap.size h T):
 Calls Tryz.prog 379 #[.int .i64 b,.slice a c.length u] w λe t=>e=.returned (Tryz.decV (bif A then((b,c),0) else((0,[]),6)))/\Below w.heap.size w t:=by
 have mixed:Tryz.prog.follows .mixedOrders=true:=(by kernel_rfl);refine(an7 (n:=9)).1 ?_;refine apq Tryz.func379 rfl trivial ?_ rfl;simp only[Tryz.ntmps379,aoa,amr,amI,Nat.reduceAdd,Nat.reduceSub,aoh,aoi,aoD,aom,anc,anf];have q:Below w.heap.size w ((w.alloc (.cells #[.int .i64 0,.string ⟨#[]⟩] 391)).alloc (.cells #[.int .i64 0] 40)):=((anB _ w).alloc (amt _) _).alloc (by simp) _;have H:=Q _ q;have y:((w.alloc (.cells #[.int .i64 0,.string ⟨#[]⟩] 391)).alloc (.cells #[.int .i64 0] 40)).heap[w.heap.size]?=some (.cells #[.int .i64 0,.string ⟨#[]⟩] 391 (0,0)):=by rw[bV,bV,am4 (by simp),amE rfl]
 have N:((w.alloc (.cells #[.int .i64 0,.string ⟨#[]⟩] 391)).alloc (.cells #[.int .i64 0] 40)).heap[w.heap.size+1]?=some (.cells #[.int .i64 0] 40 (0,0)):=by rw[bV,amE (by simp)]
 obtain⟨C,P⟩:∃C,(⟨c.toArray⟩:ByteArray)=C:=⟨_,rfl⟩;obtain⟨D,r⟩:∃D,Tryz.decV (bif A then((b,c),0) else((0,[]),6))=D:=⟨_,rfl⟩;rw[P]at f J;rw[r];have S:Hid (Tryz.decV (bif A then((b,c),0) else((0,[]),6))=D):=r;clear Q r;cases A
 all_goals (
  gi_wp2_with (first
   |(refine⟨trivial,?_⟩;gi_at_call 376;refine(an7.2 H).mono ?_;rintro e s ⟨V,d,rfl,i,M,_,I⟩
     have U:=f (s.alloc (Obj.cells #[Value.func (Fn.func x) #[] d,Value.int IntKind.i64 0] 546)) ((q.trans (i.mono (by simp; omega))).alloc (by have:=i.size;simp at this;omega) _);have L:=J s I ((s.alloc (.cells #[.func (.func x) #[] d,.int .i64 0] 546)).alloc (.cells #[.int .i64 b,.string C] 391)) (((anB _ s).alloc (amt _) _).alloc (by simp) _);have z:((s.alloc (.cells #[.func (.func x) #[] d,.int .i64 0] 546)).alloc (.cells #[.int .i64 b,.string C] 391)).heap[s.heap.size+1]?=some (.cells #[.int .i64 b,.string C] 391 (0,0)):=by rw[bV,amE (by simp)]
     clear J f)
   |(refine⟨trivial,?_⟩;gi_at_call 375;refine(an7.2 L).mono ?_;rintro e O ⟨rfl,v⟩
     have B:=(gV.of_below ((i.alloc i.size (.cells #[.func (.func x) #[] d,.int .i64 0] 546)).alloc (by have:=i.size;simp at this⊢;omega) (.cells #[.int .i64 b,.string C] 391)));have g:=gV.of_below v;have E:=Tryz.cell_of (g _ _ _ _ z) 0;have F:=Tryz.cell_of (g _ _ _ _ z) 1;have k:=Tryz.cell_of (g _ _ _ _ (B _ _ _ _ y)) 0;have l:=Tryz.cell_of (g _ _ _ _ (B _ _ _ _ y)) 1;have m:=Tryz.cell_of (g _ _ _ _ (B _ _ _ _ N)) 0;have G:Below w.heap.size w O:=(((q.trans (i.mono (by simp; omega))).alloc (by have:=i.size;simp at this;omega) _).alloc (by have:=i.size;simp at this;simp;omega) _).trans (v.mono (by have:=i.size;simp at this;simp;omega));clear B g;simp at E F k l m))
  have o:=Tryz.three_sets (W:=O) (n0:=w.heap.size) (by rw[k.1];rfl) (by rw[l.1];rfl) (by rw[m.1];rfl);refine Tryz.dec_ret0 rfl rfl (o _ _ _).1 (o _ _ _).2.1 (o _ _ _).2.2 (((G.setCell (p:=⟨w.heap.size,0,none⟩) (amt _) _).setCell (p:=⟨w.heap.size,1,none⟩) (amt _) _).setCell (p:=⟨w.heap.size+1,0,none⟩) (by simp) _) ?_;have j:=S.out
  first|exact j.symm|(subst P;exact j.symm))
end Go.Proofs
def aoZ:=@Array.toList_inj
namespace Go.Fw
open Go.RowKit
def Mo{P:Program}{G:Gh}{w:World}(F:mw G w){t:TypeId}{lk:LK}{z:D}(J:AL P t=some (lk,z)){ok:Bool}{ks vs:List D}{k d:D}{mv E:Value}(h:xZ lk z ok ks vs k=some d)(B:Rep G (.pmap ks vs) mv)(I:Rep G k E):
 ∃u,(Instr.lookup t mv E ok).run P w=.ok u w/\Rep G d u:=by
 simp only[Rep]at B;obtain⟨b,M,L,rfl,j,r,x,y⟩:=B;obtain⟨H,_⟩:=F.mimm _ _ j;unfold xZ at h;split at h<;>try (cases h;done)
 rename_i e;split at h<;>try (cases h;done)
 split at h<;>try (cases h;done)
 obtain⟨e,o⟩:=G7 e;have A:ks.length=vs.length:=by rw[x.length,y.length];simp
 have g:(ks.zip vs).map (·.1)=ks:=apL omq;have v:(ks.zip vs).map (·.2)=vs:=apM omq;have m:G6 G (ks.zip vs) L:=⟨by rw[g];exact x,by rw[v];exact y⟩;obtain⟨s,p1,p2,K⟩:=OB r m;have C:∀p∈ks.zip vs,kP p.1=true:=λp l=>e _ (by rw[<-g];exact anh.2 ⟨p,l,rfl⟩);have q:∀p∈s,kP p.1=true:=λp l=>C p (p1.subset l);have f:(ks.zip vs).Pairwise λa b=>fA a.1≠fA b.1:=by
  have c:((ks.zip vs).map (·.1)).Pairwise λa b=>fA a≠fA b:=by rw[g];exact o
  rw[List.pairwise_map]at c;exact c
 have i:=vO (z:=z) (ok:=ok) (n:=‹Int›) C;rw[g,v,h]at i;rw[Mm p1.symm f,<-vO q]at i;exact DG J i.symm H p2 K I
def vP{P:Program}{G:Gh}{w c:World}(h:jN P G w)(b:Below w.heap.size w c):jN P G c:=
 ⟨λg a e=>⟨am9 (h.1 g a e).1 b.size,(h.1 g a e).2⟩,h.2.below b rfl⟩
def aai{P:Program}{G G':Gh}{w c:World}(h:jN P G w)(a:GW G G' w c):jN P G' c:=
 ⟨λg b e=>⟨am9 (h.1 g b e).1 a.below.size,Rep.mono a.le _ _ (h.1 g b e).2⟩,h.2.below a.below rfl⟩
def Nf{G G':Gh}{w b:World}(a:GW G G' w b):mw G' b:=⟨a.imm,a.mimm,a.siz⟩
def DH{G:Gh}{w a:World}(h:mw G w)(b:Below w.heap.size w a):mw G a:=Nf (ja h b)
end Go.Fw
namespace Go.Proofs.Tryz
open Go Go.Fw Go.RowKit
def OL:AL prog 547=some (.i,.agg [.nilf,.int .i64 0]):=krq
def tg{f:Nat}{i:Nat}{ds:List D}{G:Gh}{W:World}{a:Array Value}(m:mw G W)(l:jN prog G W)(b:af G ds a.toList)
 (h:∀r:Int,0<=r->r<=1114111->cy prog f (.int .i32 r::ds) (.bool (gN i r))):Tryz.HasOK f (gN i) a W:=by
 intro c d r j k;have:=h r j k G c (.int .i32 r::a.toList) (DH m d) (vP l d) (by simp only[af,Rep];exact⟨_,_,rfl,rfl,b⟩);rw[show(Value.int .i32 r::a.toList).toArray= #[.int .i32 r]++a from by apply aoZ.1;simp]at this;refine this.mono ?_;rintro e p ⟨v,o,rfl,n,g⟩;simp only[Rep]at g;subst g;exact⟨rfl,n.below⟩
def alF(r:Int)(c:0<=r)(d:r<=1114111):dZ r=some (gN 1 r):=by
 have a:tb r=some (inP r):=by
  unfold tb;rw[amq omq,amq omq];rfl
 have:∃y,dZ r=some y:=by
  unfold dZ;simp only[a,amj];cases decide (r>=97)<;>cases decide (r<=122)<;>cases decide (r>=65)<;>cases decide (r<=90)<;>cases decide (r>=48)<;>cases decide (r<=57)<;>exact⟨_,rfl⟩
 obtain⟨y,b⟩:=this;show _=some ((dZ r).getD false);rw[b];rfl
def ail(r a b:Int):bp r a b=some ((bp r a b).getD false):=by
 unfold bp;cases decide (r>=a)<;>rfl
def alG(r:Int):cP r 32 126=some (gN 2 r):=by
 have:∃y,cP r 32 126=some y:=by
  unfold cP;rw[ail];simp only[amj];cases (bp r 32 126).getD false<;>cases decide (r>=160)<;>exact⟨_,rfl⟩
 obtain⟨y,a⟩:=this;show _=some ((cP r 32 126).getD false);rw[a];rfl
def alH(r:Int):GT r=some (gN 5 r):=by
 show _=some ((GT r).getD false);rw[KN];rfl
def alI(r:Int):ec r=some (gN 6 r):=by
 have:∃y,ec r=some y:=by
  unfold ec;rw[KN];simp only[amj];cases Lib.validRune r<;>exact⟨_,rfl⟩
 obtain⟨y,a⟩:=this;show _=some ((ec r).getD false);rw[a];rfl
def p1(r:Int)(a:0<=r)(b:r<=1114111):cy prog 383 (.int .i32 r::[]) (.bool (gN 1 r)):=by
 obtain⟨_,_,_,h⟩:=ge;obtain⟨v,e,_,c⟩:=h r (gN 1 r) (alF r a b);have e:some ((SV.bool (gN 1 r),([]:List DV)))=some (v,[]):=e;cases e;exact c [.int .i32 r] rfl _ (by simp only[VRs,VR];exact⟨_,_,rfl,rfl,rfl⟩)
def pB(a b:Int)(i:Nat)(d:∀r,gN i r=(bp r a b).getD false)(r:Int)(_:0<=r)(_:r<=1114111):cy prog 395 (.int .i32 r::[.rptr [.int .i32 a] 0,.rptr [.int .i32 b] 0]) (.bool (gN i r)):=by
 obtain⟨_,_,_,h⟩:=cT;obtain⟨v,e,_,c⟩:=h (r,a,b) (gN i r) (by rw[d];exact ail r a b);have e:some ((SV.bool (gN i r),([]:List DV)))=some (v,[]):=e;cases e;exact c [.int .i32 r,.rc [.int .i32 a] 0,.rc [.int .i32 b] 0] rfl _ (by simp only[VRs,VR];exact⟨_,_,rfl,rfl,_,_,rfl,⟨_,rfl,⟨_,_,rfl,rfl,rfl⟩⟩,_,_,rfl,⟨_,rfl,⟨_,_,rfl,rfl,rfl⟩⟩,rfl⟩)
def p2(r:Int)(_:0<=r)(_:r<=1114111):cy prog 386 (.int .i32 r::[.rptr [dB] 0]) (.bool (gN 2 r)):=by
 obtain⟨_,_,_,h⟩:=eS;obtain⟨v,e,_,a⟩:=h ((r,32,126):Int×Int×Int) (gN 2 r) (alG r);have e:some ((SV.bool (gN 2 r),([]:List DV)))=some (v,[]):=e;cases e;exact a [.int .i32 r,.rc [.func (.func 395) [] [.rc [.int .i32 32] 0,.rc [.int .i32 126] 0]] 0] rfl _ (by simp only[VRs,VR,dB,btw];exact⟨_,_,rfl,rfl,_,_,rfl,⟨_,rfl,_,_,rfl,⟨_,_,rfl,rfl,_,_,rfl,⟨_,rfl,_,_,rfl,rfl,rfl⟩,_,_,rfl,⟨_,rfl,_,_,rfl,rfl,rfl⟩,rfl⟩,rfl⟩,rfl⟩)
def p5(r:Int)(_:0<=r)(_:r<=1114111):cy prog 387 (.int .i32 r::[]) (.bool (gN 5 r)):=by
 obtain⟨_,_,_,h⟩:=JZ;obtain⟨v,e,_,a⟩:=h r (gN 5 r) (alH r);have e:some ((SV.bool (gN 5 r),([]:List DV)))=some (v,[]):=e;cases e;exact a [.int .i32 r] rfl _ (by simp only[VRs,VR];exact⟨_,_,rfl,rfl,rfl⟩)
def p6(r:Int)(_:0<=r)(_:r<=1114111):cy prog 388 (.int .i32 r::[]) (.bool (gN 6 r)):=by
 obtain⟨_,_,_,h⟩:=gg;obtain⟨v,e,_,a⟩:=h r (gN 6 r) (alI r);have e:some ((SV.bool (gN 6 r),([]:List DV)))=some (v,[]):=e;cases e;exact a [.int .i32 r] rfl _ (by simp only[VRs,VR];exact⟨_,_,rfl,rfl,rfl⟩)
def KV(W:World):Prop:=∃G,mw G W/\jN prog G W
variable{Z:Int}
def th{G:Gh}{w:World}(C:mw G w)(o:jN prog G w){h wd i:Nat}{ds:List D}
 (E:xZ .i (.agg [.nilf,.int .i64 0]) true lL lM (.int .i64 Z)=some (.tuple [.agg [.func (.func h) [] ds,.int .i64 (wd:Int)],.bool true]))
 (F:∀W a d,mw d W->jN prog d W->af d ds a.toList->Tryz.HasOK h (gN i) a W):Tryz.Looks Z h wd (λa W=>Tryz.HasOK h (gN i) a W/\KV W) w:=by
 intro W l;refine(Nh G W [] (DH C l) (vP o l) rfl).mono ?_;rintro e I ⟨v,d,rfl,m,p⟩;have b:=Nf m;have g:=aai (vP o l) m;obtain⟨u,H,k⟩:=Mo b OL E p (show Rep d (.int .i64 Z) (.int .i64 Z) by simp only[Rep]);simp only[Rep,af]at k;obtain⟨q,rfl,M,J,s,⟨n,rfl,N,K,t,⟨f,c,rfl,x,y⟩,O,L,rfl,rfl,rfl⟩,P,r4,rfl,rfl,rfl⟩:=k;have j:=p;simp only[Rep]at j;obtain⟨r,_,_,rfl,_⟩:=j;have z:q= #[.agg n,.bool true]:=aoZ.1 s;have A:n= #[.func (.func h) f c,.int .i64 wd]:=aoZ.1 t;have B:f= #[]:=aoZ.1 x;subst z A B;exact⟨r,c,rfl,m.below,H,F _ _ _ b g y,d,b,g⟩
def acV{G:Gh}{w:World}(q:mw G w)(p:jN prog G w)
 (r:xZ .i (.agg [.nilf,.int .i64 0]) true lL lM (.int .i64 Z)=some (.tuple [.agg [.nilf,.int .i64 0],.bool false])):Tryz.LooksNo Z w:=by
 intro W f;refine(Nh G W [] (DH q f) (vP p f) rfl).mono ?_;rintro e t ⟨v,i,rfl,g,h⟩;have c:=Nf g;obtain⟨u,s,b⟩:=Mo c OL r h (show Rep i (.int .i64 Z) (.int .i64 Z) by simp only[Rep]);simp only[Rep,af]at b;obtain⟨j,rfl,A,x,l,⟨d,rfl,B,y,m,rfl,C,z,rfl,rfl,rfl⟩,D,r4,rfl,rfl,rfl⟩:=b;have a:=h;simp only[Rep]at a;obtain⟨k,_,_,rfl,_⟩:=a;have n:j= #[.agg d,.bool false]:=aoZ.1 l;have o:d= #[.nilFunc,.int .i64 0]:=aoZ.1 m;subst n o;exact⟨k,rfl,g.below,s⟩
def aaj(h:Z≠12/\Z≠19/\Z≠20/\Z≠22/\Z≠26/\Z≠28/\Z≠30):
 xZ .i (.agg [.nilf,.int .i64 0]) true lL lM (.int .i64 Z)=some (.tuple [.agg [.nilf,.int .i64 0],.bool false]):=by
 have k:∀p∈lL.zip lM,kP p.1=true:=by intro p a;simp[lL,lM]at a;rcases a with rfl|rfl|rfl|rfl|rfl|rfl|rfl<;>rfl
 have b:xZ .i (.agg [.nilf,.int .i64 0]) true lL lM (.int .i64 Z)=ny .i (.agg [.nilf,.int .i64 0]) true ((lL.zip lM).map (·.1)) ((lL.zip lM).map (·.2)) (.int .i64 Z):=rfl;rw[b,vO k];obtain⟨c,d,e,f,g,i,j⟩:=h;have:kD Z (lL.zip lM)=none:=by
  simp[lL,lM,kD,fA,c.symm,d.symm,e.symm,f.symm,g.symm,i.symm,j.symm]
 rw[this];rfl
def Mp(N:Nat)(a:Int)(T:List UInt8)(d:Bool)(h:iE N (a,T)=some d):∀c,KV c->∀b,Below c.heap.size c b->
 Calls prog 375 #[.agg #[.int .i64 a,.string ⟨T.toArray⟩]] b λe i=>e=.returned (.bool d)/\Below b.heap.size b i:=by
 rintro c ⟨G,l,k⟩ b f;obtain⟨_,_,_,m⟩:=pm N;obtain⟨v,e,_,j⟩:=m ((a,T):Int×Bs) d h;have e:some ((SV.bool d,([]:List DV)))=some (v,[]):=e;cases e;have o:=j [.agg [.int .i64 a,.str T]] rfl [.agg [.int .i64 a,.str T]] (by simp only[VRs,VR];exact⟨_,_,rfl,⟨_,rfl,_,_,rfl,rfl,_,_,rfl,rfl,rfl⟩,rfl⟩);refine(o G b [.agg #[.int .i64 a,.string ⟨T.toArray⟩]] (DH l f) (vP k f) (by simp only[af,Rep];exact⟨_,_,rfl,⟨_,rfl,_,_,rfl,rfl,_,_,rfl,rfl,rfl⟩,rfl⟩)).mono ?_;rintro e q ⟨v,p,rfl,n,g⟩;simp only[SV.can,Rep]at g;subst g;exact⟨rfl,n.below⟩
end Go.Proofs.Tryz
namespace Go.Proofs.Tryz
open Go Go.Fw Go.RowKit
def Uq{G:Gh}{w:World}(e:mw G w){b:Nat}:∀{xs:List UInt8}{o:Nat},Cells G b o (bN mP xs)->∀(j:Nat) x,xs[j]?=some x->w.cell? ⟨b,o+j,none⟩=some (.int .u8 (x.toNat:Int))
 |[],_,_,j,x,a=>by simp at a
 |y::c,o,h,j,x,a=>by
  rw[show bN mP (y::c)=.int .u8 (y.toNat:Int)::bN mP c from mP.fcons y c]at h;simp only[Cells]at h;obtain⟨⟨v,f,d⟩,g⟩:=h;cases j with
  |zero=>
   simp at a;subst a;simp only[Rep]at d;rw[aoQ,e.imm _ _ _ f,d]
  |succ j=>
   have:=Uq e g j x (by simpa using a);rw[show o+(j+1)=o+1+j from omq];exact this
variable{Z:Nat}
def Hd{a:Option Addr}{c:List UInt8}{w:World}
 (h:(∃b o,a=some ⟨b,o,none⟩/\∀j x,c[j]?=some x->w.cell? ⟨b,o+j,none⟩=some (.int .u8 (x.toNat:Int)))∨c=[])(W:World)(l:Below w.heap.size w W):
 (convert 22 9 (.slice a c.length Z)).run prog W=.ok (.string ⟨c.toArray⟩) W:=by
 have g:∀x:Addr,(∀j (d:j<c.length),W.cell? (x.add j)=some (.int .u8 (c[j].toNat:Int)))->(convert 22 9 (.slice (some x) c.length Z)).run prog W=.ok (.string ⟨c.toArray⟩) W:=λx f=>
  run_convert_bytes_back W 22 9 5 x Z c krq krq krq f
 rcases h with⟨b,o,rfl,f⟩|rfl
 ·refine g _ λj d=> ?_;have i:=f j _ (aml d);have k:=(l.cell (p:=⟨b,o+j,none⟩) (eO i)).trans i;have e:(⟨b,o,none⟩:Addr).add j=⟨b,o+j,none⟩:=by cases j<;>simp[Addr.add]
  rw[e];exact k
 ·cases a with
  |none=>exact Lib.run_convert_nil_bytes W 22 9 5 Z krq krq krq
  |some x=>exact g x λj d=>absurd d (aps _)
def OM(c:List UInt8)(wd m:Nat):Lib.byteCells (wi c wd m)=Tryz.accC c wd m (List.finRange m):=by
 unfold wi Tryz.accC;induction List.finRange m with
 |nil=>rfl
 |cons x b a=>
  rw[apF,apF,<-a,<-Lib.byteCells_encodeRune];simp[Lib.byteCells]
structure Arg(w:World)(a:Option Addr)(c:List UInt8)(cap:Nat):Prop where
 le:c.length<=cap
 max:cap<=9223372036854775807
 cells:(∃b o,a=some ⟨b,o,none⟩/\∀j x,c[j]?=some x->w.cell? ⟨b,o+j,none⟩=some (.int .u8 (x.toNat:Int)))∨c=[]
def ud{N i wd p:Nat}{d:Int}{c:List UInt8}{a:Option Addr}{w:World}{y:(Int×List UInt8)×Int}(n:Arg w a c Z)(u:c.length<=35184372088831)(B:1<=wd)
 (H:∀l w,(callFunc p l).run prog w=.ok (.enter p l) w)
 (E:Tryz.Looks d p wd (λq W=>Tryz.HasOK p (gN i) q W/\KV W) w)(k:Er N i wd d c=some y):
 Calls prog 379 #[.int .i64 d,.slice a c.length Z] w λe K=>e=.returned (Tryz.decV y)/\Below w.heap.size w K:=by
 unfold Er at k;cases z:Nat.beq (c.length % wd) 0 with
 |false=>
  rw[z]at k;cases k;have C:¬c.length % wd=0:=λh=>by rw[h]at z;cases z
  exact Tryz.dec_rem d a c.length Z p wd _ w (by
   rcases amB 1 wd with h|h
   ·exact h
   ·exfalso;obtain rfl:wd=1:=omq;exact C (Nat.mod_one _)) C E
 |true=>
  rw[z]at k;have C:c.length % wd=0:=anL z;obtain⟨m,D⟩:∃m,c.length / wd=m:=⟨_,rfl⟩;have g:c.length=m*wd:=by rw[<-D,Nat.mul_comm];exact(Nat.mul_div_cancel' (Nat.dvd_of_mod_eq_zero C)).symm
  rw[D]at k;have v:m<=35184372088831:=anI (by rw[<-D];exact Nat.div_le_self _ _) u;obtain⟨b,o,A,s,f⟩:∃b o,(m=0∨a=some ⟨b,o,none⟩)/\(0<m->b<w.heap.size)/\∀(j:Nat) x,c[j]?=some x->w.cell? ⟨b,o+j,none⟩=some (.int .u8 (x.toNat:Int)):=by
   rcases n.cells with⟨b,o,rfl,I⟩|rfl
   ·refine⟨b,o,.inr rfl,λh=> ?_,I⟩;have L:0<c.length:=by rw[g];exact aqo h omq
    exact eO (I 0 _ (aml L))
   ·have:m=0:=by rw[<-D];simp
    exact⟨0,0,.inl this,λh=>omq,λj x h=>by simp at h⟩
  have r:((List.finRange m).all λx=>ae4 i c wd x.val)=((List.finRange m).all λx=>Tryz.goodU c wd (gN i) x.val):=rfl;rw[r]at k;cases t:((List.finRange m).all λx=>Tryz.goodU c wd (gN i) x.val) with
  |true=>
   rw[t]at k;obtain⟨J,F,G⟩:=an3.1 k;have:=Tryz.dec_try d a b o Z m wd c p KV (gN i) w B g (g▸n.le) n.max v A s f (Hd n.cells) H E (wi c wd m) (OM c wd m) J (λ_=>Mp N d _ J F);rw[t]at this;rw[<-G];exact this
  |false=>
   rw[t]at k;have:=Tryz.dec_try d a b o Z m wd c p KV (gN i) w B g (g▸n.le) n.max v A s f (Hd n.cells) H E (wi c wd m) (OM c wd m) true (λh=>by rw[t]at h;cases h);rw[t]at this;cases k;exact this
def aak(N:Nat)(b:Int)(c:List UInt8)(y:(Int×List UInt8)×Int)(d:aK N b c=some y){G:Gh}{w:World}(m:mw G w)(l:jN prog G w){a:Option Addr}(n:Arg w a c Z):
 Calls prog 379 #[.int .i64 b,.slice a c.length Z] w λe B=>e=.returned (Tryz.decV y)/\Below w.heap.size w B:=by
 rw[xi]at d;unfold Zf at d;cases x:Nat.ble c.length 35184372088831 with
 |false=>rw[x]at d;cases d
 |true=>
  have g:=amx x;rw[x]at d;simp only[amw]at d;by_cases o:b=12
  ·subst o;rw[amE rfl]at d;obtain⟨A,z,rfl⟩:=an3.1 d;exact Tryz.dec_utf 12 a Z 387 c KV (λf W=>Tryz.HasOK 387 (gN 5) f W) w (Hd n.cells) (th (i:=5) (ds:=[]) (wd:=0) m l rfl λW f v h j k=>tg h j k p5) A (Mp N 12 c A z)
  rw[am4 o]at d;by_cases p:b=19
  ·subst p;rw[amE rfl]at d;exact ud n g deq (aoM Tryz.func383 krq rfl) (th (i:=1) (ds:=[]) (wd:=1) m l rfl λW f v h j k=>tg h j k p1) d
  rw[am4 p]at d;by_cases q:b=20
  ·subst q;rw[amE rfl]at d;exact ud n g deq (aoM Tryz.func386 krq rfl) (th (i:=2) (ds:=[.rptr [dB] 0]) (wd:=1) m l rfl λW f v h j k=>tg h j k p2) d
  rw[am4 q]at d;by_cases r:b=22
  ·subst r;rw[amE rfl]at d;exact ud n g deq (aoM Tryz.func395 krq rfl) (th (i:=3) (ds:=[.rptr [.int .i32 0] 0,.rptr [.int .i32 127] 0]) (wd:=1) m l rfl λW f v h j k=>tg h j k (pB 0 127 3 λ_=>rfl)) d
  rw[am4 r]at d;by_cases s:b=26
  ·subst s;rw[amE rfl]at d;exact ud n g deq (aoM Tryz.func395 krq rfl) (th (i:=4) (ds:=[.rptr [.int .i32 32] 0,.rptr [.int .i32 126] 0]) (wd:=1) m l rfl λW f v h j k=>tg h j k (pB 32 126 4 λ_=>rfl)) d
  rw[am4 s]at d;by_cases t:b=28
  ·subst t;rw[amE rfl]at d;exact ud n g deq (aoM Tryz.func387 krq rfl) (th (i:=5) (ds:=[]) (wd:=4) m l rfl λW f v h j k=>tg h j k p5) d
  rw[am4 t]at d;by_cases u:b=30
  ·subst u;rw[amE rfl]at d;exact ud n g deq (aoM Tryz.func388 krq rfl) (th (i:=6) (ds:=[]) (wd:=2) m l rfl λW f v h j k=>tg h j k p6) d
  rw[am4 u]at d;cases d;exact Tryz.dec_none b a c.length Z w (acV m l (aaj ⟨o,p,q,r,s,t,u⟩))
def afD:fX prog 379:=(fD (f:=379) (fn:=f379) krq).2
def Ng(N:Nat):cI prog 379 (CG N):=by
 refine⟨afD,rfl,rfl,λ(x:Int×List UInt8)(y:(Int×List UInt8)×Int) n=> ?_⟩;obtain⟨d,c⟩:=x;have n:aK N d c=some y:=n;obtain⟨⟨D,E⟩,v⟩:=y;refine⟨.tup [.agg [.int .i64 D,.str E],.int .i64 v],rfl,λ_ _=>by simp only[SV.can,SV.cans,VR,VRs];exact⟨_,rfl,_,_,rfl,⟨_,rfl,_,_,rfl,rfl,_,_,rfl,rfl,rfl⟩,_,_,rfl,rfl,rfl⟩,?_⟩;intro K m F g;cases m;simp only[VRs]at g;obtain⟨z,_,rfl,i,d2,_,rfl,q,rfl⟩:=g;intro G w u j A r;have i:z=.int .i64 d:=by simpa only[lh,VR] using i
 simp only[lh,VR]at q;obtain⟨H,rfl,_⟩:=q;subst i;simp only[af]at r;obtain⟨I,_,rfl,s,J,_,rfl,t,rfl⟩:=r;simp only[Rep]at s t;subst s;obtain⟨a,h,rfl,k,l,_,f⟩:=t;have B:Arg w a c h:=⟨k,l,by
  rcases f with⟨b,o,rfl,f⟩|f
  ·exact .inl ⟨b,o,rfl,Uq j f⟩
  ·refine .inr ?_;cases c with
   |nil=>rfl
   |cons y p=>rw[show TC.flat .byte (y::p)=.int .u8 (y.toNat:Int)::bN mP p from mP.fcons y p]at f;cases f⟩
 refine(aak N d c _ n j A B).mono ?_;rintro e L ⟨rfl,C⟩;refine⟨_,G,rfl,ja j C,?_⟩;simp only[SV.can,SV.cans,Tryz.decV,Rep,af];exact⟨_,rfl,_,_,rfl,⟨_,rfl,_,_,rfl,rfl,_,_,rfl,rfl,rfl⟩,_,_,rfl,rfl,rfl⟩
end Go.Proofs.Tryz
namespace Go.Proofs.Tryz
open Go Go.Fw
def Cq:List D:=((D.int IntKind.i64 0)::((D.int IntKind.i64 9)::((D.int IntKind.i64 14)::((D.int IntKind.i64 15)::((D.int IntKind.i64 17)::((D.int IntKind.i64 18)::((D.int IntKind.i64 19)::((D.int IntKind.i64 20)::((D.int IntKind.i64 21)::((D.int IntKind.i64 24)::((D.int IntKind.i64 27)::((D.int IntKind.i64 28)::((D.int IntKind.i64 29)::((D.int IntKind.i64 30)::((D.int IntKind.i64 31)::((D.int IntKind.i64 32)::((D.int IntKind.i64 33)::((D.int IntKind.i64 35)::((D.int IntKind.i64 36)::((D.int IntKind.i64 37)::((D.int IntKind.i64 46)::((D.int IntKind.i64 54)::((D.int IntKind.i64 101)::((D.int IntKind.i64 111)::[]))))))))))))))))))))))))
def Cr:List D:=((D.agg ((D.str [])::((D.str (111::(112::(97::(113::(117::(101::[])))))))::((D.iface 301 (D.agg ((D.func (Fn.func 171) [] [])::((D.func (Fn.func 184) [] [])::((D.func (Fn.func 185) [] [])::[])))))::[]))))::((D.agg ((D.str (50::(46::(53::(46::(50::(57::(46::(57::[])))))))))::((D.str (83::(117::(98::(106::(101::(99::(116::(68::(105::(114::(101::(99::(116::(111::(114::(121::(65::(116::(116::(114::(105::(98::(117::(116::(101::(115::[])))))))))))))))))))))))))))::((D.iface 319 (D.agg ((D.func (Fn.func 186) [] [])::((D.func (Fn.func 187) [] [])::((D.func (Fn.func 188) [] [])::[])))))::[]))))::((D.agg ((D.str (50::(46::(53::(46::(50::(57::(46::(49::(52::[]))))))))))::((D.str (83::(117::(98::(106::(101::(99::(116::(75::(101::(121::(73::(100::(101::(110::(116::(105::(102::(105::(101::(114::[])))))))))))))))))))))::((D.iface 301 (D.agg ((D.func (Fn.func 171) [] [])::((D.func (Fn.func 189) [] [])::((D.func (Fn.func 190) [] [])::[])))))::[]))))::((D.agg ((D.str (50::(46::(53::(46::(50::(57::(46::(49::(53::[]))))))))))::((D.str (75::(101::(121::(85::(115::(97::(103::(101::[])))))))))::((D.iface 321 (D.agg ((D.func (Fn.func 172) [] [])::((D.func (Fn.func 191) [] [])::((D.func (Fn.func 192) [] [])::[])))))::[]))))::((D.agg ((D.str (50::(46::(53::(46::(50::(57::(46::(49::(55::[]))))))))))::((D.str (83::(117::(98::(106::(101::(99::(116::(65::(108::(116::(78::(97::(109::(101::[])))))))))))))))::((D.iface 299 (D.agg ((D.func (Fn.func 173) [] [])::((D.func (Fn.func 174) [] [])::((D.func (Fn.func 175) [] [])::[])))))::[]))))::((D.agg ((D.str (50::(46::(53::(46::(50::(57::(46::(49::(56::[]))))))))))::((D.str (73::(115::(115::(117::(101::(114::(65::(108::(116::(78::(97::(109::(101::[]))))))))))))))::((D.iface 299 (D.agg ((D.func (Fn.func 173) [] [])::((D.func (Fn.func 174) [] [])::((D.func (Fn.func 175) [] [])::[])))))::[]))))::((D.agg ((D.str (50::(46::(53::(46::(50::(57::(46::(49::(57::[]))))))))))::((D.str (66::(97::(115::(105::(99::(67::(111::(110::(115::(116::(114::(97::(105::(110::(116::(115::[])))))))))))))))))::((D.iface 327 (D.agg ((D.func (Fn.func 193) [] [])::((D.func (Fn.func 194) [] [])::((D.func (Fn.func 195) [] [])::[])))))::[]))))::((D.agg ((D.str (50::(46::(53::(46::(50::(57::(46::(50::(48::[]))))))))))::((D.str (67::(82::(76::(78::(117::(109::(98::(101::(114::[]))))))))))::((D.iface 301 (D.agg ((D.func (Fn.func 171) [] [])::((D.func (Fn.func 176) [] [])::((D.func (Fn.func 177) [] [])::[])))))::[]))))::((D.agg ((D.str (50::(46::(53::(46::(50::(57::(46::(50::(49::[]))))))))))::((D.str (67::(82::(76::(82::(101::(97::(115::(111::(110::[]))))))))))::((D.iface 321 (D.agg ((D.func (Fn.func 172) [] [])::((D.func (Fn.func 196) [] [])::((D.func (Fn.func 197) [] [])::[])))))::[]))))::((D.agg ((D.str (50::(46::(53::(46::(50::(57::(46::(50::(52::[]))))))))))::((D.str (73::(110::(118::(97::(108::(105::(100::(105::(116::(121::(68::(97::(116::(101::[])))))))))))))))::((D.iface 331 (D.agg ((D.func (Fn.func 198) [] [])::((D.func (Fn.func 199) [] [])::((D.func (Fn.func 200) [] [])::[])))))::[]))))::((D.agg ((D.str (50::(46::(53::(46::(50::(57::(46::(50::(55::[]))))))))))::((D.str (66::(97::(115::(101::(67::(82::(76::(78::(117::(109::(98::(101::(114::[]))))))))))))))::((D.iface 301 (D.agg ((D.func (Fn.func 171) [] [])::((D.func (Fn.func 176) [] [])::((D.func (Fn.func 177) [] [])::[])))))::[]))))::((D.agg ((D.str (50::(46::(53::(46::(50::(57::(46::(50::(56::[]))))))))))::((D.str (73::(115::(115::(117::(105::(110::(103::(68::(105::(115::(116::(114::(105::(98::(117::(116::(105::(111::(110::(80::(111::(105::(110::(116::[])))))))))))))))))))))))))::((D.iface 337 (D.agg ((D.func (Fn.func 201) [] [])::((D.func (Fn.func 202) [] [])::((D.func (Fn.func 203) [] [])::[])))))::[]))))::((D.agg ((D.str (50::(46::(53::(46::(50::(57::(46::(50::(57::[]))))))))))::((D.str (67::(101::(114::(116::(105::(102::(105::(99::(97::(116::(101::(73::(115::(115::(117::(101::(114::[]))))))))))))))))))::((D.iface 299 (D.agg ((D.func (Fn.func 173) [] [])::((D.func (Fn.func 174) [] [])::((D.func (Fn.func 175) [] [])::[])))))::[]))))::((D.agg ((D.str (50::(46::(53::(46::(50::(57::(46::(51::(48::[]))))))))))::((D.str (78::(97::(109::(101::(67::(111::(110::(115::(116::(114::(97::(105::(110::(116::(115::[]))))))))))))))))::((D.iface 343 (D.agg ((D.func (Fn.func 204) [] [])::((D.func (Fn.func 205) [] [])::((D.func (Fn.func 206) [] [])::[])))))::[]))))::((D.agg ((D.str (50::(46::(53::(46::(50::(57::(46::(51::(49::[]))))))))))::((D.str (67::(82::(76::(68::(105::(115::(116::(114::(105::(98::(117::(116::(105::(111::(110::(80::(111::(105::(110::(116::(115::[]))))))))))))))))))))))::((D.iface 307 (D.agg ((D.func (Fn.func 178) [] [])::((D.func (Fn.func 179) [] [])::((D.func (Fn.func 180) [] [])::[])))))::[]))))::((D.agg ((D.str (50::(46::(53::(46::(50::(57::(46::(51::(50::[]))))))))))::((D.str (67::(101::(114::(116::(105::(102::(105::(99::(97::(116::(101::(80::(111::(108::(105::(99::(105::(101::(115::[]))))))))))))))))))))::((D.iface 349 (D.agg ((D.func (Fn.func 207) [] [])::((D.func (Fn.func 208) [] [])::((D.func (Fn.func 209) [] [])::[])))))::[]))))::((D.agg ((D.str (50::(46::(53::(46::(50::(57::(46::(51::(51::[]))))))))))::((D.str (80::(111::(108::(105::(99::(121::(77::(97::(112::(112::(105::(110::(103::(115::[])))))))))))))))::((D.iface 355 (D.agg ((D.func (Fn.func 210) [] [])::((D.func (Fn.func 211) [] [])::((D.func (Fn.func 212) [] [])::[])))))::[]))))::((D.agg ((D.str (50::(46::(53::(46::(50::(57::(46::(51::(53::[]))))))))))::((D.str (65::(117::(116::(104::(111::(114::(105::(116::(121::(75::(101::(121::(73::(100::(101::(110::(116::(105::(102::(105::(101::(114::[])))))))))))))))))))))))::((D.iface 361 (D.agg ((D.func (Fn.func 213) [] [])::((D.func (Fn.func 214) [] [])::((D.func (Fn.func 215) [] [])::[])))))::[]))))::((D.agg ((D.str (50::(46::(53::(46::(50::(57::(46::(51::(54::[]))))))))))::((D.str (80::(111::(108::(105::(99::(121::(67::(111::(110::(115::(116::(114::(97::(105::(110::(116::(115::[]))))))))))))))))))::((D.iface 367 (D.agg ((D.func (Fn.func 216) [] [])::((D.func (Fn.func 217) [] [])::((D.func (Fn.func 218) [] [])::[])))))::[]))))::((D.agg ((D.str (50::(46::(53::(46::(50::(57::(46::(51::(55::[]))))))))))::((D.str (69::(120::(116::(75::(101::(121::(85::(115::(97::(103::(101::[]))))))))))))::((D.iface 373 (D.agg ((D.func (Fn.func 219) [] [])::((D.func (Fn.func 220) [] [])::((D.func (Fn.func 221) [] [])::[])))))::[]))))::((D.agg ((D.str (50::(46::(53::(46::(50::(57::(46::(52::(54::[]))))))))))::((D.str (70::(114::(101::(115::(104::(101::(115::(116::(67::(82::(76::[]))))))))))))::((D.iface 307 (D.agg ((D.func (Fn.func 178) [] [])::((D.func (Fn.func 179) [] [])::((D.func (Fn.func 180) [] [])::[])))))::[]))))::((D.agg ((D.str (50::(46::(53::(46::(50::(57::(46::(53::(52::[]))))))))))::((D.str (73::(110::(104::(105::(98::(105::(116::(65::(110::(121::(80::(111::(108::(105::(99::(121::[])))))))))))))))))::((D.iface 321 (D.agg ((D.func (Fn.func 172) [] [])::((D.func (Fn.func 222) [] [])::((D.func (Fn.func 223) [] [])::[])))))::[]))))::((D.agg ((D.str (49::(46::(51::(46::(54::(46::(49::(46::(53::(46::(53::(46::(55::(46::(49::(46::(49::[]))))))))))))))))))::((D.str (65::(117::(116::(104::(111::(114::(105::(116::(121::(73::(110::(102::(111::(65::(99::(99::(101::(115::(115::[]))))))))))))))))))))::((D.iface 313 (D.agg ((D.func (Fn.func 181) [] [])::((D.func (Fn.func 182) [] [])::((D.func (Fn.func 183) [] [])::[])))))::[]))))::((D.agg ((D.str (49::(46::(51::(46::(54::(46::(49::(46::(53::(46::(53::(46::(55::(46::(49::(46::(49::(49::[])))))))))))))))))))::((D.str (83::(117::(98::(106::(101::(99::(116::(73::(110::(102::(111::(65::(99::(99::(101::(115::(115::[]))))))))))))))))))::((D.iface 313 (D.agg ((D.func (Fn.func 181) [] [])::((D.func (Fn.func 182) [] [])::((D.func (Fn.func 183) [] [])::[])))))::[]))))::[]))))))))))))))))))))))))
def lN(P:Program):KOk P noK:=bU P
def acY:cy prog 157 [] (.cmap Cq Cr):=Ei (n:=20) tok (bU _) mixed rfl krq krq krq
end Go.Proofs.Tryz
namespace Go.Fw
open Go.RowKit
section
variable {P:Program}{N:Nat}{all:Array Oper}{o:Oper}{r:List Oper}{τ τ' :Env}{σ σ' :Sto}{Kt:Env→Sto→Prop}
variable{Z:Operand}{Y:List Nat}
def ac1{t l:Nat}{ks vs:List D}{f:Option Nat}(c:bA all τ o=some true)(n:o.op=.next Z false)(hit:ev τ Z=some (.ptr l 0 0))(m:σ[l]?=some (.miter ks vs Y f))
 (hd:o.dst=some t)(p:Nat.blt t N=true)(e:Y=[]->fu P N all r ((t,.tuple [.bool false])::τ) σ Kt)
 (g:∀i a b,i∈Y->ks[i]?=some a->vs[i]?=some b->fu P N all r ((t,.tuple [.bool true,a,b])::τ) (σ.set l (.miter ks vs (Y.filter (· !=i)) (some i))) Kt):fu P N all (o::r) τ σ Kt:=by
 have h:∀d,eR N o.dst d τ=some ((t,d)::τ):=λd=>by
  unfold eR;rw[hd];simp only;exact amE (amx p)
 refine .inl ⟨c,(aay n hit m).mono ?_⟩;rintro d s (⟨c,rfl,rfl⟩|⟨i,a,b,c,j,k,rfl,rfl⟩)
 ·exact⟨_,h _,e c⟩
 ·exact⟨_,h _,g i a b c j k⟩
def afH{T:Tys}{K:FuncId->List D->Option D}{l i:Nat}{ks vs:List D}{a b:D}(hit:ev τ Z=some (.ptr l 0 0))(e:σ[l]?=some (.miter ks vs Y (some i)))
 (c:ks[i]?=some a)(d:vs[i]?=some b):opE T K τ σ (.entry Z)=some (.tuple [a,b],σ):=by
 simp[opE,aop,Tg,hit,Ov,e,c,d]
def goC{T:Tys}(tok:TOk T P){c:Call}{f:FuncId}{ds a:List D}{d:D}(b:bA all τ o=some true)(k:o.op=.call c)(i:lO T τ c=some (f,ds))(l:xW σ ds=some (a,σ'))
 (j:fX P f)(h:cy P f a d)(e:eR N o.dst d τ=some τ')(g:fu P N all r τ' σ' Kt):fu P N all (o::r) τ σ Kt:=
 .inl ⟨b,(Ut tok k i l j (h.acall _)).mono (by rintro m s ⟨rfl,rfl⟩;exact⟨τ',e,g⟩)⟩
end
end Go.Fw
namespace Go.Proofs.Tryz
open Go Go.Fw
set_option maxHeartbeats 1000000
def ait:fX prog 157:=(fD (f:=157) (fn:=f157) krq).2
def nA:List (List UInt8):=Cr.map λd=>match d with|.agg (.str s::_)=>s|_=>[]
def ue:List Int:=Cq.map λd=>match d with|.int _ n=>n|_=>0
def vQ(s:List UInt8):List (List UInt8)->List Int->Int
 |i::a,n::b=>if i=s then n else vQ s a b
 |_,_=>0
def Cs(s:List UInt8):Int:=if s=[] then 0 else vQ s nA ue
def hit(s:List UInt8)(i:Nat):Bool:=decide (nA[i]?=some s)&&decide (s≠[])
def KI(s:List UInt8)(n:Nat)(τ:Env)(σ:Sto):Prop:=∃l a b,get τ 0=some (.str s)/\get τ 6=some (.ptr l 0 0)/\σ[l]?=some (.miter Cq Cr a b)/\
 a.length=n/\(∀i,i<24->i ∉ a->hit s i=false)/\(∀i∈a,i<24)
def aao(i:Nat):Bool:=
 match Cq[i]?,Cr[i]?,nA[i]?,ue[i]? with
 |some (.int .i64 k),some (.agg [.str id,.str _,.iface _ _]),some a,some b=>decide (id=a)&&decide (k=b)&&decide (vQ id nA ue=k)
 |_,_,_,_=>false
def ac2:(List.range 24).all aao=true:=krq
def afI{i:Nat}(q:i<24){a b:D}(n:Cq[i]?=some a)(p:Cr[i]?=some b):
 ∃k id e c d,a=.int .i64 k/\b=.agg [.str id,.str e,.iface c d]/\nA[i]?=some id/\ue[i]?=some k/\vQ id nA ue=k:=by
 have h:=amM.1 ac2 i (aoW.2 q);unfold aao at h;rw[n,p]at h;split at h
 ·rename_i k id e c d s t f g j l;cases f;cases g;simp only[amk,amX]at h;obtain⟨⟨rfl,rfl⟩,m⟩:=h;exact⟨_,_,_,_,_,rfl,rfl,j,l,m⟩
 ·cases h
def WH(s:List UInt8):∀(a:List (List UInt8))(b:List Int),(∀(i:Nat),a[i]?≠some s)->vQ s a b=0
 |[],_,_=>rfl
 |i::a,[],_=>rfl
 |i::a,n::b,h=>by
  have c:i≠s:=λe=>h 0 (by simp[e]);simp only[vQ,c,ani];exact WH s a b λj d=>h (j+1) (by simpa using d)
def afJ:nA.length=24:=krq
def aap{s id:List UInt8}{n i:Nat}{a:List Nat}{τ:Env}{σ:Sto}(t:a.length=n)(f:∀i,i<24->i ∉ a->hit s i=false)(c:∀i∈a,i<24)(l:i∈a)
 (hid:nA[i]?=some id)(k:hit s i=false)(g:Go.Fw.get τ 0=some (.str s))(h:Go.Fw.get τ 6=some (.ptr 0 0 0))(p:σ[0]?=some (.miter Cq Cr (a.filter (· !=i)) (some i))):
 ∃m,m<n/\KI s m τ σ:=by
 refine⟨(a.filter (· !=i)).length,?_,0,_,_,g,h,p,rfl,λj b d=> ?_,λj b=>c j (ao7.1 b).1⟩
 ·rw[<-t];exact List.length_filter_lt_length_iff_exists.2 ⟨i,l,by simp⟩
 ·by_cases e:j=i
  ·subst e;exact k
  ·exact f j b λq=>d (ao7.2 ⟨q,by simpa using e⟩)
def afK(s:List UInt8):cy prog 156 [.str s] (.int .i64 (Cs s)):=by
 refine aeV (i:=0) tok func156 rfl rfl rfl ?_
 repeat first|refine du ?_|refine bS ?_
 refine go1 tok (lN _) rfl rfl rfl ?_
 repeat first|refine du ?_|refine bS ?_
 refine goC tok rfl rfl rfl rfl ait acY rfl ?_;refine go1 tok (lN _) rfl rfl rfl ?_
 repeat first|refine du ?_|refine bS ?_|refine C0 ?_
 refine ab7 (KI s) (n:=24) ⟨0,List.range 24,none,rfl,rfl,rfl,rfl,λi c y=>absurd (aoW.2 c) y,λi c=>aoW.1 c⟩ ?_;rintro n τ σ ⟨l,E,z,A,M,Q,y,p,m⟩;refine AWp.gc [l] (λ_ h=>absurd h (aps _)) siq (σ':=[.miter Cq Cr E z]) (τ':=[(6,.ptr 0 0 0),(0,.str s)]) rfl ?_ ?_ ?_
 ·intro j S T u f
  match j,u,f with
  |0,u,f=>
   simp at u f;subst u f;exact⟨Q,krq⟩
  |j+1,u,_=>simp at u
 ·intro t d q;simp only[Go.Fw.get]at q;split at q
  ·rename_i e;subst e;cases q;exact⟨M,rfl⟩
  ·split at q
   ·rename_i e;subst e;cases q;exact⟨A,rfl⟩
   ·cases q
 repeat first|refine du ?_|refine bS ?_
 refine ac1 rfl rfl rfl rfl rfl rfl (λx=> ?_) (λi a b c H I=> ?_)
 ·refine go1 tok (lN _) rfl rfl rfl ?_;refine du (kg rfl (MA ?_))
  repeat first|refine du ?_|refine bS ?_
  refine go1 tok (lN _) rfl rfl rfl ?_;subst x;have A:Cs s=0:=by
   unfold Cs;split
   ·rfl
   ·rename_i R;refine WH s _ _ λi c=> ?_;have w:i<24:=by rw[<-afJ];exact ai c
    have:=p i w siq;simp[hit,c,R]at this
  rw[A];exact oy (FM rfl rfl rfl)
 ·have v:=m i c;refine go1 tok (lN _) rfl rfl rfl ?_;refine du (qg rfl (nJ ?_));refine C0 ?_;have g:∃k id L F G,a=.int .i64 k/\b=.agg [.str id,.str L,.iface F G]/\nA[i]?=some id/\ue[i]?=some k/\vQ id nA ue=k:=afI v H I;obtain⟨k,id,L,F,G,rfl,rfl,hid,K,D⟩:=g
  repeat first|refine du ?_|refine bS ?_
  refine go1 tok (lN _) rfl (afH rfl rfl H I) rfl ?_
  repeat refine go1 tok (lN _) rfl rfl rfl ?_
  repeat first|refine du ?_|refine bS ?_
  iterate 5 refine go1 tok (lN _) rfl rfl rfl ?_
  cases J:(id==s)
  ·have B:id≠s:=by simpa using J
   refine no1 rfl rfl ?_;refine no1 rfl rfl ?_;refine go1 tok (lN _) rfl rfl rfl ?_;refine kg rfl (nJ ?_);exact aap y p m c hid (by simp[hit,hid,B]) rfl rfl rfl
  ·refine go1 tok (lN _) rfl rfl rfl ?_;refine go1 tok (lN _) rfl rfl rfl ?_;cases C:(s==(⟨#[]⟩:ByteArray).data.toList)
   ·refine go1 tok (lN _) rfl rfl rfl ?_;refine qg rfl ?_
    repeat first|refine du ?_|refine bS ?_
    repeat refine go1 tok (lN _) rfl rfl rfl ?_
    have O:Cs s=k:=by
     have e:id=s:=by simpa using J
     subst e;unfold Cs;rw[am4 (λh=>by subst h;cases C),D]
    rw[O];exact oy (FM rfl rfl rfl)
   ·refine go1 tok (lN _) rfl rfl rfl ?_;refine kg rfl (nJ ?_);exact aap y p m c hid (by simp at C;simp[hit,C]) rfl rfl rfl
end Go.Proofs.Tryz
namespace Go.Fw
def Vg:List (List UInt8):=[[],[50,46,53,46,50,57,46,57],[50,46,53,46,50,57,46,49,52],[50,46,53,46,50,57,46,49,53],[50,46,53,46,50,57,46,49,55],[50,46,53,46,50,57,46,49,56],[50,46,53,46,50,57,46,49,57],[50,46,53,46,50,57,46,50,48],[50,46,53,46,50,57,46,50,49],[50,46,53,46,50,57,46,50,52],[50,46,53,46,50,57,46,50,55],[50,46,53,46,50,57,46,50,56],[50,46,53,46,50,57,46,50,57],[50,46,53,46,50,57,46,51,48],[50,46,53,46,50,57,46,51,49],[50,46,53,46,50,57,46,51,50],[50,46,53,46,50,57,46,51,51],[50,46,53,46,50,57,46,51,53],[50,46,53,46,50,57,46,51,54],[50,46,53,46,50,57,46,51,55],[50,46,53,46,50,57,46,52,54],[50,46,53,46,50,57,46,53,52],[49,46,51,46,54,46,49,46,53,46,53,46,55,46,49,46,49],[49,46,51,46,54,46,49,46,53,46,53,46,55,46,49,46,49,49]]
def HF:List Int:=[0,9,14,15,17,18,19,20,21,24,27,28,29,30,31,32,33,35,36,37,46,54,101,111]
def uk(s:List UInt8):List (List UInt8)->List Int->Int
 |i::a,n::b=>if i=s then n else uk s a b
 |_,_=>0
def DQ(s:List UInt8):Int:=if s=[] then 0 else uk s Vg HF
def Xf:∃f:List UInt8->Option Int,f=λs=>some (DQ s):=⟨_,rfl⟩
noncomputable def aX:List UInt8->Option Int:=Classical.choose Xf
def zk(s:List UInt8):aX s=some (DQ s):=aoX (anz Xf) s
noncomputable def DR:Ctr:=⟨[.hole .str],.hole (.int .i64),λ(x:List UInt8)=>aX x⟩
end Go.Fw
namespace Go.Proofs.Tryz
open Go Go.Fw Go.RowKit
def acZ:nA=Vg:=krq
def ac0:ue=HF:=krq
def WG(s:List UInt8):∀(a:List (List UInt8))(b:List Int),vQ s a b=uk s a b
 |[],_=>rfl
 |_::_,[]=>rfl
 |i::a,n::b=>by
  unfold vQ uk;rw[WG s a b]
def Yn(s:List UInt8):Cs s=DQ s:=by
 unfold Cs DQ;rw[acZ,ac0,WG]
def ais:fX prog 156:=(fD (f:=156) (fn:=f156) krq).2
def OQ:cI prog 156 DR:=by
 refine⟨ais,rfl,rfl,λ(x:List UInt8)(y:Int) b=> ?_⟩;have b:aX x=some y:=b;rw[zk]at b;cases b;refine⟨.int .i64 (DQ x),rfl,λ_ _=>by simp only[SV.can,VR],?_⟩;intro g d f a;cases d;simp only[VRs]at a;obtain⟨e,_,rfl,c,rfl⟩:=a;have c:e=.str x:=by simpa only[lh,VR] using c
 subst c;have:=afK x;rw[Yn]at this;exact this
end Go.Proofs.Tryz
namespace Go.Fw
open Go Go.Proofs.Tryz
noncomputable section
set_option maxRecDepth 100000
set_option maxHeartbeats 0
attribute [local irreducible] ix app slc cC toB agree fU fW fT jB dR aK aV aX
abbrev Y0:=Bs×Bs
abbrev Y1:=Bs×Int
abbrev Y2:=List Bs
abbrev Y3:=List Int
abbrev Y4:=Int×Int
abbrev Y5:=Option (Fw.Spot×Y4)
abbrev Y6:=Int×Int×Int×Y4
abbrev Y7:=Int×Int×Int×Int×Bool×List Fw.Spot×Int×Int×List Fw.Node×List Fw.Spot×Int×Int×Int×Int×Bool
abbrev Y8:=Int×Bs
abbrev Y9:=Int×Y8
abbrev Y10:=Option Y1
abbrev Y11:=List Y0
abbrev Y12:=List Y11
abbrev Y13:=Int×Y6
abbrev Y14:=Bs×Bool×Bs
abbrev Y15:=Option (Bs×Y4)
abbrev Y16:=Int×Int×Bool×Int×Y4
abbrev Y17:=List Y16
abbrev Y18:=Int×Int×Y2
abbrev Y19:=List (Bs×Y2)
abbrev Y20:=Option (Int×Y4)
abbrev Y21:=Option (Bs×Bool)
abbrev Y22:=Int×Bs×Bs×Bs×Y12×Y8×Y8
abbrev Y23:=Option (Y22×Bool)
abbrev Y24:=Option (Y0×Y4)
abbrev Y25:=List Y22
abbrev Y26:=Option (Int×Bool)
abbrev Y27:=Bool×Bool×Int
abbrev Y28:=Option (Bs×Int×Int×Int×Int×Int×Int×Int×Y13)
abbrev Y29:=Y25×Y11×Bool×Bool×Y27
abbrev Y30:=Int×Int×Bool×Int×Int×Int×Y25
abbrev Y31:=Y25×Y11×Int×Y25
abbrev Y32:=List (Bs×Y11)
abbrev Y33:=Int×Int×Bool×Int×Int×Int×Y0
abbrev Y34:=Y32×Int×Int×Bool×Int×Int×Int×Bs×Y11×Int×Int×Bool×Int×Int×Int×Y33
abbrev Y35:=Int×Int×Bool×Int×Int×Int×Bs×Bs×Y4
abbrev Y36:=Y32×Int×Int×Bool×Int×Int×Int×Bs×Y11×Y16
abbrev Y37:=Y32×Int×Int×Bool×Int×Int×Int×Bs×Y11
abbrev Y38:=Bool×Bs×Y25×Bs
abbrev Y39:=Bool×Int×Bool×Int
abbrev Y40:=List (Bs×Y22)
abbrev Y41:=Int×Bs×Bool×Bs×Int×Y2×Y25×Y38×Y27×Y39×Y32×Y11×(Y25×Y25)×List Y31×Y29×Y40×Y19×Y13
abbrev Y42:=Bool×Bool×Bool×Int×Y4
abbrev Y43:=List Y14
abbrev Y44:=Bs×Y13×Y43
abbrev Y45:=List Y44
abbrev Y46:=Int×Bs×Bs×Y12×Int×Int×Int×Int×Int×Int×Bool×Int×Int×Int×Int×Int×Int×Y45×Y43
abbrev Y47:=Int×Y0×Y12×Y13×Bool×Y13×Y45×Y43
abbrev Y48:=Y47×Y0×Y1
abbrev Y49:=Y3×Int×Int×Int×Int×Int×Int×Y9
abbrev Y50:=Option (Int×Int×Int×Int×Y9)
abbrev Y51:=Int×Bs×Bs×Y12×Int×Int×Int×Int×Int×Int×Bool×Int×Int×Int×Int×Int×Int×Y45×Y43×Int×Y2×Int×Y2
abbrev Y52:=Int×Bs×Y17×Y4
abbrev Y53:=Bs×Y17×Int×Int×Bs×Y13
abbrev Y54:=Option Y53
abbrev Y55:=Bs×Y17×Int×Int×Int×Bs×Bs×Y12×Y13
abbrev Y56:=Bs×Y17×Int×Int×Int×Bs×Bs×Y12×Int×Int×Int×Int×Int×Int×Bool×Y13
abbrev tc0:TC:=.sl .byte
abbrev tc1:TC:=.pair .str tc0
abbrev tc2:TC:=.sl tc1
abbrev tc3:TC:=.int .i64
abbrev tc4:TC:=.pair tc3 tc3
abbrev tc5:TC:=.pair tc3 tc4
abbrev tc6:TC:=.pair tc3 (.pair tc3 (.pair tc3 tc5))
abbrev tc7:TC:=.pair .bool tc0
abbrev tc8:TC:=.pair .str tc7
abbrev tc9:TC:=.sl tc8
abbrev alb:TC:=.pair tc6 tc9
abbrev Bo:TC:=.pair tc0 alb
abbrev alc:TC:=.pair .bool tc5
abbrev ald:TC:=.pair tc3 alc
abbrev PL:TC:=.pair tc3 ald
abbrev MG:TC:=.int .u64
abbrev Gl:TC:=.int .u32
abbrev ahx:TC:=.sl .str
abbrev acb:TC:=.sl tc2
abbrev TE:TC:=.pair tc3 .str
abbrev ale:TC:=.pair TE TE
abbrev alf:TC:=.pair acb ale
abbrev alg:TC:=.pair tc0 alf
abbrev alh:TC:=.pair .str alg
abbrev ali:TC:=.pair .str alh
abbrev D4:TC:=.pair tc3 ali
abbrev Gm:TC:=.sl D4
abbrev ahy:TC:=.pair .bool (.pair tc0 (.pair Gm tc0))
abbrev ahz:TC:=.pair .bool tc3
abbrev acd:TC:=.pair .bool ahz
abbrev ahA:TC:=.pair .bool (.pair tc3 ahz)
abbrev sK:TC:=.pair .str tc2
abbrev ahB:TC:=.sl sK
abbrev Gn:TC:=.pair .str .str
abbrev ahC:TC:=.sl Gn
abbrev ahD:TC:=.pair Gm Gm
abbrev alj:TC:=.pair tc3 Gm
abbrev alk:TC:=.pair tc2 alj
abbrev PM:TC:=.pair Gm alk
abbrev ahE:TC:=.sl PM
abbrev ahF:TC:=.pair Gm (.pair tc2 (.pair .bool (.pair .bool acd)))
abbrev PN:TC:=.pair .str D4
abbrev ahG:TC:=.sl PN
abbrev ahH:TC:=.sl tc0
abbrev PP:TC:=.pair .str ahH
abbrev ahI:TC:=.sl PP
abbrev alm:TC:=.pair ahI tc6
abbrev aln:TC:=.pair ahG alm
abbrev alo:TC:=.pair ahF aln
abbrev alp:TC:=.pair ahE alo
abbrev alq:TC:=.pair ahD alp
abbrev alr:TC:=.pair ahC alq
abbrev als:TC:=.pair ahB alr
abbrev alu:TC:=.pair ahA als
abbrev alv:TC:=.pair acd alu
abbrev alw:TC:=.pair ahy alv
abbrev alx:TC:=.pair Gm alw
abbrev aly:TC:=.pair ahx alx
abbrev alz:TC:=.pair tc3 aly
abbrev alA:TC:=.pair tc0 alz
abbrev alB:TC:=.pair .bool alA
abbrev alC:TC:=.pair .str alB
abbrev PQ:TC:=.pair tc3 alC
abbrev hc0:PV:=.hole tc0
abbrev au:PV:=.hole .bool
abbrev hc1:PV:=.hole tc1
abbrev ace:TC:=.pair tc0 tc3
abbrev I5:PV:=.hole ace
abbrev TF:PV:=.hole MG
abbrev bO:PV:=.hole .str
abbrev TG:PV:=.hole (.sl Gl)
abbrev acf:PV:=.hole ahx
abbrev hc3:PV:=.hole tc3
abbrev Sv:PV:=.hole .spot
abbrev hc4:PV:=.hole tc4
abbrev Az:PV:=.hole (.int .u8)
abbrev ahJ:PV:=.hole Gl
abbrev jw:PV:=.hole ahH
abbrev hc2:PV:=.hole tc2
abbrev iQ:PV:=.hole acb
abbrev hc6:PV:=.hole tc6
abbrev hc8:PV:=.hole tc8
abbrev XT:PV:=.hole PL
abbrev eL:PV:=.hole (.sl PL)
abbrev ahK:PV:=.hole PP
abbrev acg:PV:=.hole ahI
abbrev KM:PV:=.hole (.pair tc3 tc0)
abbrev Bp:PV:=.hole D4
abbrev ach:PV:=.hole TE
abbrev kW:PV:=.hole Gm
abbrev aeH:PV:=.hole (.pair Gm tc2)
abbrev ahL:PV:=.hole ahF
abbrev ahM:PV:=.hole PM
abbrev ahN:PV:=.hole ahE
abbrev PR:PV:=.hole ahB
abbrev XU:PV:=.hole ahC
abbrev ahO:PV:=.hole ahy
abbrev ahP:PV:=.hole PN
abbrev aci:PV:=.hole ahG
abbrev hc9:PV:=.hole tc9
abbrev XV:PV:=.hole Bo
abbrev ahQ:TC:=.sl Bo
abbrev sL:PV:=.hole ahQ
abbrev acj:TC:=.pair tc3 (.pair tc1 (.pair acb (.pair tc6 (.pair .bool (.pair tc6 (.pair ahQ tc9))))))
abbrev PT:PV:=.hole acj
abbrev Gp:PV:=.hole (.pair acj (.pair tc1 ace))
abbrev N5:PV:=.hole (.sl tc3)
abbrev vZ:PV:=.ilit .i64 0
abbrev vN:PV:=.nils
abbrev vE:PV:=.slit []
abbrev vF:PV:=.blit false
abbrev vT:PV:=.blit true
abbrev oo0:PO:=.cells [hc3,hc3] false
abbrev oo1:PO:=.cells [hc3,hc3,hc3,hc3,au,vN,vN,.own 1] false
abbrev oo2:PO:=.cells [hc3,hc3,hc3,hc3,au,vN,.own 5,.own 6] false
abbrev oo3:PO:=.cells [.own 1] false
abbrev oo4:PO:=.cells [hc3,au] false
abbrev oo5:PO:=.cells [vZ,vZ] false
abbrev oo6:PO:=.cells [.ilit .i64 6,hc3] false
abbrev oo7:PO:=.cells [hc0,hc3] false
abbrev oo8:PO:=.cells [vZ,vE,vE,vN,vN,vZ,vE,vZ,vE] false
abbrev oo9:PO:=.cells [vF,vF,vZ] false
abbrev TH:PO:=.cells [hc0] false
abbrev kl:PO:=.cells [hc3,hc3,hc3,hc3,hc3,hc3] false
abbrev TI:PO:=.cells [hc3] false
abbrev PU:PO:=.cells [vN,vN,vZ,vN,vF,vF,vF,vF,vF,vF] false
abbrev TJ:PO:=.cells [kW,hc2,hc3,kW,au,au,au,au,au,au] false
abbrev il:PO:=.cells [hc3,hc3,au,hc3,hc3,hc3] false
abbrev ack:PO:=.cells [hc3,bO,bO,hc0,iQ,hc3,bO,hc3,bO] false
abbrev XW:PO:=.cells [vN,vN] false
abbrev acl:PO:=.cells [kW,kW] false
abbrev oD:PO:=.cells [.own 2] false
abbrev Gq:PO:=.cells [bO,.own 7] false
abbrev MH:PO:=.cells [bO,hc0] false
abbrev acm:PO:=.cells [bO,bO] false
abbrev XX:PO:=.cells [vF,vZ,vF,vZ] false
abbrev acn:PO:=.cells [au,hc3,au,hc3] false
abbrev uy:PO:=.cells [bO,au,hc0] false
abbrev uz:PO:=.cells [vZ,vE,vF,vN,vZ,vN,vN,vF,vN,vN,vN,vF,vF,vZ,vF,vZ,vF,vZ,vN,vN,vN,vN,vN,vN,vN,vF,vF,vF,vF,vZ,vN,vN,vZ,vZ,vZ,vZ,vZ,vZ] false
abbrev ahR:PO:=.cells [hc3,bO,au,vN,vZ,vN,vN,vF,vN,vN,vN,au,au,hc3,vF,vZ,vF,vZ,vN,vN,vN,vN,vN,vN,vN,vF,vF,vF,vF,vZ,vN,vN,vZ,vZ,vZ,vZ,vZ,vZ] false
abbrev ahS:PO:=.cells [hc3,bO,au,vN,vZ,vN,vN,vF,vN,vN,vN,vF,vF,vZ,vF,vZ,vF,vZ,vN,vN,vN,vN,vN,vN,vN,vF,vF,vF,vF,vZ,vN,vN,hc3,hc3,hc3,hc3,hc3,hc3] false
abbrev ahT:PO:=.cells [hc3,bO,au,vN,vZ,vN,vN,vF,vN,vN,vN,vF,vF,vZ,vF,vZ,vF,vZ,vN,vN,vN,vN,vN,kW,hc2,au,au,au,au,hc3,vN,vN,vZ,vZ,vZ,vZ,vZ,vZ] false
abbrev ahU:PO:=.cells [hc3,bO,au,vN,vZ,vN,vN,vF,vN,vN,vN,vF,vF,vZ,vF,vZ,vF,vZ,vN,vN,kW,kW,vN,vN,vN,vF,vF,vF,vF,vZ,vN,vN,vZ,vZ,vZ,vZ,vZ,vZ] false
abbrev ahV:PO:=.cells [hc3,bO,au,vN,vZ,vN,vN,au,hc0,kW,hc0,vF,vF,vZ,vF,vZ,vF,vZ,vN,vN,vN,vN,vN,vN,vN,vF,vF,vF,vF,vZ,vN,vN,vZ,vZ,vZ,vZ,vZ,vZ] false
abbrev ahW:PO:=.cells [hc3,bO,au,vN,vZ,vN,vN,vF,vN,vN,vN,vF,vF,vZ,au,hc3,au,hc3,vN,vN,vN,vN,vN,vN,vN,vF,vF,vF,vF,vZ,vN,vN,vZ,vZ,vZ,vZ,vZ,vZ] false
abbrev pt:PO:=.cells [hc3,bO,hc0,iQ,hc3,hc3,hc3,hc3,hc3,hc3,au,hc3,hc3,hc3,hc3,hc3,hc3,sL,hc9] false
abbrev MJ:PO:=.cells [.own 2,hc3] false
abbrev aco:PO:=.cells [bO,au,vN] false
abbrev uA:PO:=.cells [vN,vZ,vZ,vZ,vZ,vZ,vZ,vN] false
abbrev bJ:PO:=.cells [hc0,eL,hc3,hc3] false
abbrev acp:PO:=.cells [hc0,hc3,hc3,hc3,hc3,hc3,hc3,vN] false
abbrev acq:PO:=.cells [hc0,vZ,vZ,vZ,vZ,vZ,vZ,vN] false
abbrev Gr:PO:=.cells [vZ,vZ,vZ,vZ,vZ,vZ] false
abbrev XY:PO:=.cells [hc0,hc3,hc3,hc3,hc3,hc3,hc3,hc9] false
abbrev dC:PO:=.cells [vZ,vE,vN,vN,vZ,vZ,vZ,vZ,vZ,vZ,vF,vZ,vZ,vZ,vZ,vZ,vZ,vN,vN] false
abbrev XZ:PO:=.cells [hc3,vE,vN,vN,vZ,vZ,vZ,vZ,vZ,vZ,vF,vZ,vZ,vZ,vZ,vZ,vZ,vN,vN] false
abbrev MK:PO:=.cells [hc3,bO,hc0,iQ,hc3,hc3,hc3,hc3,hc3,hc3,au,hc3,hc3,hc3,hc3,hc3,hc3,vN,vN] false
abbrev acr:PO:=.cells [hc3,bO,hc0,iQ,hc3,hc3,hc3,hc3,hc3,hc3,au,hc3,hc3,hc3,hc3,hc3,hc3,sL,vN] false
abbrev TK:PO:=.cells [vE,vN] false
abbrev acs:PO:=.cells [hc3,bO,hc0,iQ,vZ,vZ,vZ,vZ,vZ,vZ,vF,vZ,vZ,vZ,vZ,vZ,vZ,vN,vN] false
abbrev ML:PO:=.cells [hc3,bO,hc0,iQ,hc3,hc3,hc3,hc3,hc3,hc3,vF,vZ,vZ,vZ,vZ,vZ,vZ,vN,vN] false
abbrev ahX:PO:=.cells [hc3,bO,hc0,vN,vZ,vZ,vZ,vZ,vZ,vZ,vF,vZ,vZ,vZ,vZ,vZ,vZ,vN,vN] false
abbrev sM:PO:=.cells [vZ,vE,vN,vN,vZ,vZ,vZ,vZ,vZ,vZ,vF,vZ,vZ,vZ,vZ,vZ,vZ,vN,vN,vE,vN,vN,vZ] false
abbrev ahY:PO:=.cells [hc3,bO,hc0,iQ,hc3,hc3,hc3,hc3,hc3,hc3,au,hc3,hc3,hc3,hc3,hc3,hc3,sL,hc9,vE,vN,vN,vZ] false
abbrev acu:PO:=.cells [hc3,bO,hc0,iQ,hc3,hc3,hc3,hc3,hc3,hc3,au,hc3,hc3,hc3,hc3,hc3,hc3,sL,hc9,bO,hc0,vN,vZ] false
abbrev acv:PO:=.cells [vN,vZ] false
abbrev acw:PO:=.cells [hc3,bO,hc0,iQ,hc3,hc3,hc3,hc3,hc3,hc3,au,hc3,hc3,hc3,hc3,hc3,hc3,sL,hc9,bO,hc0,hc0,hc3] false
def hHt:Tr TC:=(.node (.node (.node (.node (.node .nil 22 .byte .nil) 26 tc2 .nil) 29 Bo (.node (.node .nil 30 tc8 .nil) 55 tc1 .nil)) 58 tc0 (.node (.node (.node .nil 99 PL .nil) 127 .node .nil) 154 tc3 (.node (.node .nil 171 MG .nil) 175 Gl .nil))) 177 .spot (.node (.node (.node (.node .nil 185 PQ .nil) 214 .str .nil) 224 D4 (.node (.node .nil 231 sK .nil) 232 Gn .nil)) 235 PM (.node (.node (.node .nil 238 PN .nil) 239 PP .nil) 450 tc1 (.node .nil 526 TE .nil))))
def hOt:Tr OH:=(.node (.node (.node (.node (.node (.node (.node .nil 458756 (.cells [(0,tc0)]) .nil) 1048580 (.cells [(0,tc0)]) .nil) 1048581 (.cells [(0,tc0)]) (.node .nil 1638409 (.cells [(4,.node)]) .nil)) 1769477 .frz (.node (.node (.node .nil 2555907 (.val .byte) .nil) 2621450 .frz .nil) 2752516 (.cells [(0,tc0)]) (.node .nil 2818052 (.val tc0) .nil))) 3080216 .res (.node (.node (.node (.node .nil 3145765 .res .nil) 3342359 .frz .nil) 3473413 .frz (.node .nil 3670022 (.val tc2) .nil)) 3932165 (.val Bo) (.node (.node .nil 4259844 (.val MG) .nil) 4259905 (.build Gl) (.node .nil 4390914 (.cells [(4,.node)]) .nil)))) 4390916 (.cells [(7,.spot)]) (.node (.node (.node (.node (.node .nil 5242888 (.val tc0) .nil) 5373965 .frz .nil) 5636102 (.cells [(0,tc0)]) (.node .nil 5767171 (.cells [(4,.node)]) .nil)) 5832710 (.cells [(0,.byte)]) (.node (.node .nil 6029333 (.build .byte) .nil) 6094856 (.val PL) (.node .nil 6422534 (.val tc1) .nil))) 6422535 (.val tc0) (.node (.node (.node (.node .nil 6750214 (.val tc8) .nil) 6815748 (.val .str) .nil) 6881282 (.cells [(7,.spot)]) (.node .nil 6881284 (.cells [(7,.spot)]) .nil)) 7208964 (.val PQ) (.node (.node .nil 7602205 (.val .byte) .nil) 7667727 (.val .byte) (.node .nil 7929860 (.val Gl) .nil))))) 7995399 (.build .byte) (.node (.node (.node (.node (.node (.node .nil 8126470 (.build .byte) .nil) 8257546 (.cells [(4,.node)]) .nil) 8454149 .frz (.node .nil 8847368 (.cells [(7,.spot)]) .nil)) 8847374 (.cells [(7,.spot),(6,.node)]) (.node (.node (.node .nil 8847375 (.cells [(7,.spot)]) .nil) 8847433 (.agg [(6,.node),(7,.spot)]) .nil) 9240579 (.cells [(4,.node)]) (.node .nil 9961476 (.cells [(7,.spot)]) .nil))) 11403268 (.val tc0) (.node (.node (.node (.node .nil 11468806 (.val D4) .nil) 11796486 (.val PM) .nil) 13500479 .frzv (.node .nil 13500481 .frzv .nil)) 13697028 (.cells [(0,sK)]) (.node (.node .nil 13893636 (.cells [(0,Gn)]) .nil) 14090322 .frzv (.node .nil 14483462 (.val .str) .nil)))) 16580616 (.val PN) (.node (.node (.node (.node (.node .nil 16777224 (.val PP) .nil) 18153480 (.val D4) .nil) 18219013 (.cells [(1,tc1)]) (.node .nil 18481158 (.cells [(1,tc1)]) .nil)) 18743302 .frz (.node (.node .nil 20250632 (.val .byte) .nil) 21037060 (.cells [(1,tc0)]) (.node .nil 21037062 (.cells [(1,tc0)]) .nil))) 21037068 (.agg [(1,tc0)]) (.node (.node (.node (.node .nil 21233668 (.cells [(1,tc0)]) .nil) 21233670 (.cells [(1,tc0)]) .nil) 21757988 .frzv (.node .nil 21758012 .frzv .nil)) 22216707 (.cells [(4,.node)]) (.node (.node .nil 23134211 (.cells [(4,.node)]) .nil) 23986179 (.cells [(4,.node)]) (.node .nil 24707077 (.val tc0) .nil))))))
def B0:Bse:=⟨prog,T,hHt,hOt,tok,mixed⟩
def u2{a b c:Type}(f:a->b->c)(x:a×b):c:=f x.1 x.2
abbrev c1(l:List (KC B0)):Ctx B0:=⟨l,[],[],[],.nil⟩
def u3{a b c d:Type}(f:a->b->c->d)(x:a×b×c):d:=f x.1 x.2.1 x.2.2
def u4{a b c d e:Type}(f:a->b->c->d->e)(x:a×b×c×d):e:=f x.1 x.2.1 x.2.2.1 x.2.2.2
def u9{a b c d e g h i j k:Type}(f:a->b->c->d->e->g->h->i->j->k)(x:a×b×c×d×e×g×h×i×j):k:=f x.1 x.2.1 x.2.2.1 x.2.2.2.1 x.2.2.2.2.1 x.2.2.2.2.2.1 x.2.2.2.2.2.2.1 x.2.2.2.2.2.2.2.1 x.2.2.2.2.2.2.2.2
def ahZ:KC B0:=⟨(148,TX),aiv⟩
def afu:KC B0:=⟨(142,Qa),afR⟩
def alD:KX B0:=⟨(143,TY),alL⟩
def jm:KC B0:=⟨(66,Qv),agj⟩
def ZT:KO B0:=⟨(90,UO),aiN⟩
def ah0:KC B0:=⟨(134,TW),aiu⟩
def Bq:KC B0:=⟨(379,CG NN),Ng NN⟩
def X0:KC B0:=⟨(311,Pb),YY⟩
def Br:KC B0:=⟨(355,CF NN),Nz NN⟩
def N6:KC B0:=⟨(156,DR),OQ⟩
def X1:KC B0:=⟨(157,Pa),YW⟩
def H9:AD B0:=⟨70,(c1 []),[hc0,hc0],au⟩
@[irreducible] def si(a:Bs)(a2:Bs):Option Bool:=syv NN (H9.go (a,a2))
def RY:=gA H9 (u2 si)
def zC:AD B0:=⟨30,(c1 [RY]),[hc1,hc1],au⟩
@[irreducible] def my(a:Y0)(a2:Y0):Option Bool:=syv NN (zC.go (a,a2))
def zD:=gA zC (u2 my)
def zE:AD B0:=⟨34,(c1 []),[I5],au⟩
@[irreducible] def eZ(a:Y1):Option Bool:=syv NN (zE.go (a))
def mz:=gA zE eZ
def qL:AD B0:=⟨133,(c1 [ahZ]),[TF,.ilit .i64 10],bO⟩
@[local irreducible] def eJ(a:Int):Option Bs:=syv NN (qL.go (a))
def qM:=gA qL eJ
def Mb:AD B0:=⟨132,(c1 []),[TG],au⟩
@[irreducible] def lX(a:List Int):Option Bool:=syv NN (Mb.go (a))
def Mc:=gA Mb lX
def Gs(L:List (KL B0)):Ctx B0:=⟨[afu,qM,Mc],[],[alD],L,.nil⟩
def Ia:LD:=⟨121,3,0,⟨[(4,.own 0),(10,acf),(11,hc3),(12,hc3)],[.arr Gl false false]⟩,[(.ret,⟨[(2,vN),(3,hc3)],[.junk]⟩),(.exit 0,⟨[(4,.own 0)],[.arr Gl false false]⟩)]⟩
@[local irreducible] def Ib(N n:Nat):(Y2×Int×Int×Y3)->Option ((Int)⊕(List Int)):=Nat.rec (λ_=>none) (λ_ L x=>syv N (Ia.round (Gs []).cxs L x)) n
def RZ:=gL (Gs []) Ia (Ib NN)
def N7:AD B0:=⟨121,(Gs [RZ]),[bO],(.tup [TG,hc3])⟩
@[irreducible] def Gt(N:Nat)(a:Bs):Option (Y3×Int):=syv N (N7.go (a))
def N8:=gA N7 (Gt NN)
def Md:AD B0:=⟨87,(c1 [N8]),[bO],au⟩
@[irreducible] def xX(N:Nat)(a:Bs):Option Bool:=syv N (Md.go (a))
def oC:=gA Md (xX NN)
def Ic:AD B0:=⟨152,(c1 []),[hc3,hc3],(.tup [Sv,hc4])⟩
@[local irreducible] def iI(a:Int)(a2:Int):Y5:=syv NN (Ic.go (a,a2))
def R0:=gA Ic (u2 iI)
def uB:AD B0:=⟨153,(c1 []),[Az],(.tup [hc3,au,hc3,hc3])⟩
@[irreducible] def dH(a:Int):Option (Int×Bool×Y4):=syv NN (uB.go (a))
def Gu:=gA uB dH
def yl:AD B0:=⟨170,(c1 []),[hc3,hc3],(.tup [hc3,hc3,hc4])⟩
@[local irreducible] def lu(a:Int)(a2:Int):Option (Int×Int×Y4):=syv NN (yl.go (a,a2))
def I6:=gA yl (u2 lu)
def sN(L:List (KL B0)):Ctx B0:=⟨[I6],[],[],L,.nil⟩
def wv:LD:=⟨154,14,0,⟨[(0,hc0),(4,.ptr 0 0),(5,.func (.func 170) [] []),(6,hc3),(7,hc3),(8,hc3)],[oo0]⟩,[(.exit 0,⟨[(0,hc0),(4,.ptr 0 0),(5,.func (.func 170) [] []),(6,hc3),(7,hc3)],[oo0]⟩)]⟩
@[local irreducible] def ff(N n:Nat):(Bs×Y6)->Option (Bs×Int×Int×Y4):=Nat.rec (λ_=>none) (λ_ L x=>syv N (wv.round (sN []).cxs L x)) n
def IF:=gL (sN []) wv (ff NN)
def Bt:AD B0:=⟨154,(sN [IF]),[hc0],(.tup [hc3,hc3,hc4])⟩
@[irreducible] def dK(N:Nat)(a:Bs):Option (Int×Int×Y4):=syv N (Bt.go (a))
def MM:=gA Bt (dK NN)
def Bu:AD B0:=⟨136,(c1 [Gu,MM]),[hc0],(.tup [.hole (.pair tc3 (.pair tc3 (.pair .bool tc4))),hc4])⟩
@[irreducible] def cb(N:Nat)(a:Bs):Option ((Int×Int×Bool×Y4)×Y4):=syv N (Bu.go (a))
def Bv:=gA Bu (cb NN)
def ep(N:Nat)(R:Bs->Int->Int->Int->Y5)(n:Nat):(Bs×Int×Int×Y7)->Option ((Int×Int×Int×Int×Bool×Y4)⊕Y7):=Nat.rec (λ_=>none) (λ_ L (q,e,f,g,h,i,j,c,r,k,l,s,t,m,b,o,p,d)=>
 bif decide (f<b) then(
 (R q f b (aC .i64 e 1)).bind λ(a,u)=>
 bif (u.1 !=0) then(
 some (Sum.inl (0,0,0,0,false,u)))
 else
 (app 112 t [Fw.Spot.mk a.at' a.stop (Fw.Node.mk a.nd.cls a.nd.num a.nd.cons a.nd.body a.nd.kids) a.kids]).bind λv=>
 (app 72 s [Fw.Node.mk a.nd.cls a.nd.num a.nd.cons a.nd.body a.nd.kids]).bind λw=>
 L (q,e,a.stop,g,h,i,j,c,r,k,l,w,v,m,b,o,p,d))
 else
 some (Sum.inr (g,h,i,j,c,r,k,l,s,t,m,b,o,p,d))) n
def cR(N n:Nat):Bs->Int->Int->Int->Y5:=Nat.rec (λ_ _ _ _=>none) (λ_ R g b f A=>
 bif (A==0) then(
 (iI 5 b).bind λ(c,K)=>
 some (Fw.Spot.mk c.at' c.stop (Fw.Node.mk c.nd.cls c.nd.num c.nd.cons c.nd.body c.nd.kids) c.kids,K))
 else
 bif (decide (f<=f)&&decide (f<=g.length)) then(
 (slc g b f).bind λJ=>
 (cb N J).bind λ(a,y)=>
 bif (y.1 !=0) then(
 (iI y.1 (az .i64 b y.2)).bind λ(d,L)=>
 some (Fw.Spot.mk d.at' d.stop (Fw.Node.mk d.nd.cls d.nd.num d.nd.cons d.nd.body d.nd.kids) d.kids,L))
 else
 bif decide (aC .i64 f (az .i64 b a.2.2.2.2)<a.2.2.2.1) then(
 (iI 1 f).bind λ(e,M)=>
 some (Fw.Spot.mk e.at' e.stop (Fw.Node.mk e.nd.cls e.nd.num e.nd.cons e.nd.body e.nd.kids) e.kids,M))
 else
 bif (!a.2.2.1) then(
 (slc g (az .i64 b a.2.2.2.2) (az .i64 (az .i64 b a.2.2.2.2) a.2.2.2.1)).bind λx=>
 (cC x).bind λu=>
 some (Fw.Spot.mk b (az .i64 (az .i64 b a.2.2.2.2) a.2.2.2.1) (Fw.Node.mk a.1 a.2.1 a.2.2.1 u []) [],0,0))
 else
 (ep N R N (g,A,az .i64 b a.2.2.2.2,0,0,0,0,false,[],0,0,[],[],b,az .i64 (az .i64 b a.2.2.2.2) a.2.2.2.1,a.1,a.2.1,a.2.2.1)).bind λz=>(match z with
 |Sum.inl (j,k,l,m,h,o,p)=>some (Fw.Spot.mk j k (Fw.Node.mk l m h [] []) [],o,p)
 |Sum.inr ((C,D,E,F,B,I,G,H,v,w,q,r,s,t,i))=>some (Fw.Spot.mk q r (Fw.Node.mk s t i [] v) w,0,0)))
 else
 none) n
def D5(m:Nat):Ctr:=⟨[hc0,hc3,hc3,hc3],(.tup [Sv,hc4]),λ(x:Bs×Int×Y4)=>cR NN m x.1 x.2.1 x.2.2.1 x.2.2.2⟩
def Me(m:Nat)(h:cI prog 135 (D5 m))(L:List (KL B0)):Ctx B0:=⟨[R0,Bv,jm,⟨(135,D5 m),h⟩],[],[],L,.nil⟩
def PW:LD:=⟨135,14,0,⟨[(0,hc0),(3,hc3),(8,.ptr 0 0),(9,.ptr 2 0),(13,hc3),(14,.ptr 7 0)],[oo1,.arr .spot false false,oo0,.junk,.junk,.arr .node false false,.arr .spot false false,oo2,.junk,.junk]⟩,[(.ret,⟨[(8,.ptr 0 0),(9,.ptr 2 0)],[.cells [hc3,hc3,hc3,hc3,au,vN,vN,vN] false,.junk,oo0,.junk,.junk,.junk,.junk,.junk,.junk,.junk]⟩),(.exit 0,⟨[(8,.ptr 0 0),(9,.ptr 2 0),(14,.ptr 7 0)],[oo1,.arr .spot false false,oo0,.junk,.junk,.arr .node false false,.arr .spot false false,oo2,.junk,.junk]⟩)]⟩
def PX(m:Nat)(h:cI prog 135 (D5 m)):KL B0:=gL (Me m h []) PW (ep NN (cR NN m)) krq
def V1:Nat->KC B0:=fR 135 [hc0,hc3,hc3,hc3] (.tup [Sv,hc4]) (λm (x:Bs×Int×Y4)=>cR NN m x.1 x.2.1 x.2.2.1 x.2.2.2) (λm h=>Me m h [PX m h]) krq (λ_=>rfl) (by intro m h x;kernel_rfl)
attribute [local irreducible] ep cR
end
end Go.Fw
