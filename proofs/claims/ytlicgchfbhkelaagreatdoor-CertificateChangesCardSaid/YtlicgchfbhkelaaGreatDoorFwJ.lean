/- A framework for proofs about Go programs in this model: part J. Everything is proved; no condition is added. -/
import Derived.RangeFuncNested
import Derived.RangeFuncBound
import Derived.RangeFuncCalls
import Derived.RangeFuncLeaves
import Derived.Shelf.Abstract
import Derived.Shelf.RegionOpen
import Derived.WalkKit
import Derived.OwnWalkIn
import Derived.TacticsInMore
import Derived.LoopNIn
import Derived.LoopIn
import Derived.RegionIn
import Derived.BigRegionIn
import Derived.TacticsIn
import Derived.Test.YtlicgchfbhkelaaGreatDoorProg
set_option linter.unusedVariables false
set_option linter.unusedSimpArgs false
set_option linter.defProp false
def al8:=@List.take_add_one
def amW:=@Array.replicate_succ
def amX:=@Array.replicate_zero
def am1:=@List.append_toArray
def anj:=@List.push_toArray
namespace Go.Proofs
open Go.RowKit Go.Shelf
attribute [local go_sem] Oper.semAt_some
structure pH(n₀ p1 p2:Nat)(W W':World):Prop where
 below:Below n₀ W W'
 b1:W'.heap[p1]?=W.heap[p1]?
 b2:W'.heap[p2]?=W.heap[p2]?
variable{Z Y X:Nat}
def pH.trans{A B C:World}(h:pH Y X Z A B)(k:pH Y X Z B C):pH Y X Z A C:=⟨h.below.trans k.below,k.b1.trans h.b1,k.b2.trans h.b2⟩
def pH.cell1{A B:World}(h:pH Y X Z A B)(o:Nat):B.cell? ⟨X,o,none⟩=A.cell? ⟨X,o,none⟩:=World.cell?_of_block h.b1
def pH.cell2{A B:World}(h:pH Y X Z A B)(o:Nat):B.cell? ⟨Z,o,none⟩=A.cell? ⟨Z,o,none⟩:=World.cell?_of_block h.b2
def xl(m k:Nat):List (Fin m):=(List.finRange m).take k
def NA{m k:Nat}(h:k<m):xl m (k+1)=xl m k++[⟨k,h⟩]:=by
 unfold xl;rw[al8];congr 1;rw[List.getElem?_eq_getElem (by simpa using h)];simp
def Tf{m k:Nat}(h:k<=m):(xl m k).length=k:=by
 unfold xl;rw[List.length_take,List.length_finRange];omega
def YW(m:Nat):xl m m=List.finRange m:=by
 unfold xl;exact List.take_of_length_le (by simp)
set_option maxRecDepth 100000 in
set_option maxHeartbeats 2000000 in
def Tryz.chunk1_in(F:Fence)(n:Nat)(h552:F.fn 391)(hro:F.round=none)(hn:1<=n)(l p1 p2 n₀ b off cap wd m:Nat)(hwd:1<=wd)(hcap:m*wd<=cap)(hmax:cap<=9223372036854775807)(J Jx:List (Fin m)->World->Prop)
 (hY:∀pre (x:Fin m) W,J pre W->pre.length<m->YieldAt F (n-1) Tryz.prog l #[.slice (some ⟨b,off+x.val*wd,none⟩) wd wd] W λe W'=>
   (e=.returned (.bool true)/\J (pre++[x]) W'/\pH n₀ p1 p2 W W')∨(e=.returned (.bool false)/\Jx (pre++[x]) W'))
 (W:World)(h1:W.cell? ⟨p1,0,none⟩=some (.slice (some ⟨b,off,none⟩) (m*wd) cap))(h2:W.cell? ⟨p2,0,none⟩=some (.int .i64 wd))(h0:J [] W)
 (hJd:∀l W,J l W->J l W.drew):
 CallsIn F n Tryz.prog 391 #[.func (.yield l) #[] #[],.pointer (some ⟨p1,0,none⟩),.pointer (some ⟨p2,0,none⟩)] W λe W'=>(∃v,e=.returned v)/\
  ((∃ys,ys=List.finRange m/\J ys W')∨(∃pre,(∃k,k<=m/\pre=xl m k)/\Jx pre W')):=by
 have mixed:Tryz.prog.follows .mixedOrders=true:=by kernel_rfl
 refine callsIn_of_wp Tryz.func391 rfl h552 ?_ hro;simp only[Tryz.ntmps391,List.size_toArray,List.length_cons,List.length_nil,Nat.reduceAdd,Nat.reduceSub,amW,amX,anj,am1,List.nil_append,List.cons_append]
 gi_wp2
 obtain⟨L,hL⟩:∃L,m*wd=L:=⟨_,rfl⟩;rw[hL]at h1 hcap;have hwi:1<=(wd:Int):=by omega
 gi_loopw [4] (λi wr=>∃k x:Nat,k<=m/\k*wd=x/\i=.int .i64 (x:Int)/\J (xl m k) wr/\wr.cell? ⟨p1,0,none⟩=some (.slice (some ⟨b,off,none⟩) L cap)/\wr.cell? ⟨p2,0,none⟩=some (.int .i64 wd))
  (λi _=>L-(intOf i).toNat)
 case atStart=>exact⟨0,0,Nat.zero_le _,by simp,rfl,h0,h1,h2⟩
 case round=>
  obtain⟨k,x,hk,hx,rfl,hJs,hc1,hc2⟩:=hrel;by_cases hlt:k<m
  ·obtain⟨fn,tmps,assign,body,hy,hR⟩:=hY _ ⟨k,hlt⟩ wr.drew (hJd _ _ hJs) (by rw[Tf (Nat.le_of_lt hlt)];exact hlt);dsimp only at hy;rw[hx]at hy;have hxl:x+wd<=L:=by
    have:(k+1)*wd<=m*wd:=Nat.mul_le_mul_right _ hlt;rw[Nat.succ_mul,hx,hL]at this;exact this
   have hxl2:x<L:=by omega
   have hnl:¬(L-x<wd):=by omega
   clear hY
   gi_wp2
   gi_region
   all_goals gi_wp2
   all_goals refine hR.mono ?_
   all_goals rintro e W3 (⟨rfl,hJ3,hk3⟩|⟨rfl,hJx3⟩)
   all_goals first
    |(have hd1:W3.cell? ⟨p1,0,none⟩=some (.slice (some ⟨b,off,none⟩) L cap):=(hk3.cell1 0).trans hc1
      have hd2:W3.cell? ⟨p2,0,none⟩=some (.int .i64 wd):=(hk3.cell2 0).trans hc2
      gi_wp2
      go_roundw
      case rel=>exact⟨k+1,x+wd,hlt,by rw[Nat.succ_mul,hx],by simp,by rw[NA hlt];exact hJ3,hd1,hd2⟩
      case measure=>simp[intOf];omega)
    |(gi_wp2
      refine bodyPost_ret (results_none rfl _ _ _) rfl ?_;exact⟨⟨_,rfl⟩,.inr ⟨_,⟨k+1,hlt,rfl⟩,by rw[NA hlt];exact hJx3⟩⟩)
  ·obtain rfl:k=m:=by omega
   have hxL:x=L:=by rw[<-hx,hL]
   subst hxL
   gi_wp2
   go_end0
   exact⟨⟨_,rfl⟩,.inl ⟨_,rfl,by rw[YW]at hJs;exact hJs⟩⟩
set_option maxRecDepth 100000 in
set_option maxHeartbeats 1000000 in
def Tryz.chunk0_in(F:Fence)(n:Nat)(h552:F.fn 391)(hro:F.round=none)(l p1 p2:Nat)(a:Option Addr)(cap m:Nat)(J:List (Fin m)->World->Prop)(W:World)
 (h1:W.cell? ⟨p1,0,none⟩=some (.slice a 0 cap))(h0:J [] W):
 CallsIn F n Tryz.prog 391 #[.func (.yield l) #[] #[],.pointer (some ⟨p1,0,none⟩),.pointer (some ⟨p2,0,none⟩)] W λe W'=>(∃v,e=.returned v)/\J [] W':=by
 have mixed:Tryz.prog.follows .mixedOrders=true:=by kernel_rfl
 refine callsIn_of_wp Tryz.func391 rfl h552 ?_ hro;simp only[Tryz.ntmps391,List.size_toArray,List.length_cons,List.length_nil,Nat.reduceAdd,Nat.reduceSub,amW,amX,anj,am1,List.nil_append,List.cons_append]
 gi_wp2
 gi_loopw [4] (λi wr=>i=.int .i64 0/\J [] wr/\wr.cell? ⟨p1,0,none⟩=some (.slice a 0 cap)) (λ_ _=>0)
 case atStart=>exact⟨rfl,h0,h1⟩
 case round=>
  obtain⟨rfl,hJs,hc1⟩:=hrel
  gi_wp2
  go_end0
  exact⟨⟨_,rfl⟩,hJs⟩
set_option maxRecDepth 100000 in
set_option maxHeartbeats 1000000 in
def Tryz.chunk_in(F:Fence)(n:Nat)(c:F.fn 384)(d:F.round=none)(a:Option Addr)(len b wd:Nat)(g:1<=wd)(w:World):
 CallsIn F n Tryz.prog 384 #[.slice a len b,.int .i64 wd] w λe h=>e=.returned (.func (.func 391) #[] #[.pointer (some ⟨w.heap.size,0,none⟩),.pointer (some ⟨w.heap.size+1,0,none⟩)])/\h=(w.alloc (.cells #[.slice a len b] 22)).alloc (.cells #[.int .i64 wd] 3):=by
 refine callsIn_of_wp Tryz.func384 rfl c ?_ d;simp only[Tryz.ntmps384,List.size_toArray,List.length_cons,List.length_nil,Nat.reduceAdd,Nat.reduceSub,amW,amX,anj,am1,List.nil_append,List.cons_append];have f:¬((wd:Int)<1):=by omega
 gi_wp2
 go_ret
 exact⟨rfl,rfl⟩
def Tryz.chunk_stops(F:Fence)(n:Nat)(f:F.fn 391)(i:F.round=none)(K:1<=n)(p1 p2 g b off d wd m:Nat)(y:Value)(u:1<=wd)(w:World)(o:p1<w.heap.size)(q:p2<w.heap.size)
 (hc1:w.cell? ⟨p1,0,none⟩=some y)(hc2:w.cell? ⟨p2,0,none⟩=some (.int .i64 wd))
 (t:(m=0/\∃a c,y=.slice a 0 c)∨(y=.slice (some ⟨b,off,none⟩) (m*wd) d/\m*wd<=d/\d<=9223372036854775807)):
 SeqStopsK F n Tryz.prog 391 #[.pointer (some ⟨p1,0,none⟩),.pointer (some ⟨p2,0,none⟩)] (λx:Fin m=> #[Value.slice (some ⟨b,off+x.val*wd,none⟩) wd wd]) (pH g p1 p2) (λM=>M=List.finRange m)
  (λv=>∃k,k<=m/\v=xl m k) m w:=λl J B W A E _ G z=>by
 have h:=(A.cell (p:=⟨p1,0,none⟩) o).trans hc1;have j:=(A.cell (p:=⟨p2,0,none⟩) q).trans hc2;rcases t with⟨rfl,a,c,rfl⟩|⟨rfl,C,D⟩
 ·exact(Tryz.chunk0_in F n f i l p1 p2 a c 0 J W h z).mono λe N ⟨H,I⟩=>⟨H,.inl ⟨_,rfl,I⟩⟩
 ·exact Tryz.chunk1_in F n f i K l p1 p2 g b off d wd m u C D J B G W h j z λs W L=>E s W _ none L ⟨rfl,rfl,rfl,Nat.le_refl _,λ_ _ _=>rfl⟩ (λr e=>by cases e)
end Go.Proofs
