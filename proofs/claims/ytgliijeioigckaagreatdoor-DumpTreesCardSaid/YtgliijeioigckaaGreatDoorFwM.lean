/- A framework for proofs about Go programs in this model: part M. Everything is proved; no condition is added. -/
import Derived.Test.YtgliijeioigckaaGreatDoorFwI
import Derived.Test.YtgliijeioigckaaGreatDoorFwK
import Derived.Test.YtgliijeioigckaaGreatDoorFwC
import Derived.Test.YtgliijeioigckaaGreatDoorFwJ
import Derived.Test.YtgliijeioigckaaGreatDoorFwL
set_option linter.unusedVariables false
set_option linter.unusedSimpArgs false
namespace Go.Fw
open Go
noncomputable section
def F_internal_stringslite_IndexByte_v1(a1:Int):Option Int:=
 some (extIndex ([48,49,50,51,52,53,54,55,56,57,97,98,99,100,101,102]:Bs) a1)
def F_strings_IndexByte_v1(a1:Int):Option Int:=
 (F_internal_stringslite_IndexByte_v1 a1).bind fun i1=>
 some i1
def F_dump_ParseHex_l0(N n:Nat):(Bs×Int×Bs)→Option ((Int)⊕(Bs)):=Nat.rec (fun _=>none) (fun _ L (s1,i2,l3)=>
 bif decide (i2<(s1.length:Int)) then(
 bif (wadd .i64 i2 1==(s1.length:Int)) then(
 some (Sum.inl i2))
 else
 (ix s1 i2).bind fun b4=>
 (F_strings_IndexByte_v1 (b4.toNat:Int)).bind fun i5=>
 (ix s1 (wadd .i64 i2 1)).bind fun b6=>
 (F_strings_IndexByte_v1 (b6.toNat:Int)).bind fun i7=>
 bif decide (i5<0) then(
 some (Sum.inl i2))
 else
 bif decide (i7<0) then(
 some (Sum.inl i2))
 else
 (toB (IntKind.wrap .u8 (bits .or .i64 (wshl .i64 i5 4) i7))).bind fun b8=>
 (app 1 l3 [b8]).bind fun l9=>
 L (s1,wadd .i64 i2 2,l9))
 else
 some (Sum.inr l3)) n
def F_dump_ParseHex(N:Nat) (a1:Bs):Option (Bs×(Int×Int)):=
 (F_dump_ParseHex_l0 N N (a1,0,[])).bind fun y10=>(match y10 with
 |Sum.inl i11=>some ([],11,i11)
 |Sum.inr l12=>some (l12,0,0))
def F_cbase_Bytes(a1:Bs) (a2:Bs):Option Bool:=
 some (a1==a2)
def F_slices_Concat_byte_byte_l0(N n:Nat):(List Bs×Int×List Bs×Int×Int)→Option (List Bs×Int):=Nat.rec (fun _=>none) (fun _ L (l1,i2,l3,i4,i5)=>
 bif decide (i5<i4) then(
 (ix l3 i5).bind fun e6=>
 ((
 bif decide (wadd .i64 i2 (e6.length:Int)<0) then(
 none)
 else
 some (l1,wadd .i64 i2 (e6.length:Int),l3,i4,i5):Option (List Bs×Int×List Bs×Int×Int))).bind fun(l7,i8,l9,i10,i11)=>
 L (l7,i8,l9,i10,wadd .i64 i11 1))
 else
 some (l1,i2)) n
def F_slices_Concat_byte_byte_l1(N n:Nat):(List Bs×Int×Int×Bs)→Option Bs:=Nat.rec (fun _=>none) (fun _ L (l15,i16,i17,l18)=>
 bif decide (i17<i16) then(
 (ix l15 i17).bind fun e19=>
 (app 1 l18 e19).bind fun l20=>
 L (l15,i16,wadd .i64 i17 1,l20))
 else
 some l18) n
def F_slices_Concat_byte_byte(N:Nat) (a1:List Bs):Option Bs:=
 (F_slices_Concat_byte_byte_l0 N N (a1,0,a1,(a1.length:Int),0)).bind fun(l12,i13)=>
 (F_Grow i13).bind fun l14=>
 (F_slices_Concat_byte_byte_l1 N N (l12,(l12.length:Int),0,l14)).bind fun l21=>
 some l21
end
end Go.Fw
namespace Go.Proofs.Tryz
open Go Go.Fw
theorem mixed:prog.follows .mixedOrders=true:=by kernel_rfl
noncomputable def hH:Tr TC:=(.node .nil 27 .byte .nil)
noncomputable def hO:Tr OH:=(.node (.node .nil 720900 (.val .byte) .nil) 786436 (.val .byte) (.node .nil 13959192 .res .nil))
theorem us_cl:prog.underlying 27=some (.slice 5):=by kernel_rfl
def noK:FuncId→List D→Option D:=fun _ _=>none
theorem noK_ok'(P:Program):KOk P noK:=fun _ _ _ h=>by cases h
set_option maxHeartbeats 1000000
theorem cloneK{cs:List D}{n:Nat}{f:Bool}(hl:cs.length=n*1) (hc:cs.all D.isCell=true) (hp:pureL cs=true) (hb:n*1≤limit):PureOK prog 133 [.list cs n f] (.list cs n (Nat.beq n 0)):=by
 have hp1:(D.list cs n f).pure=true:=by simp only[D.pure];exact hp
 have hz:∀b:Bool,n=0→cs=[]:=fun b h=>by subst h;simpa using hl
 refine body1 (i:=0) tok func133 rfl rfl (by simp only[pureL,hp1];rfl) ?_
 repeat first|refine awp_seq ?_|refine awp_region ?_
 refine go1 tok (noK_ok' _) rfl rfl rfl ?_
 repeat first|refine awp_seq ?_|refine awp_region ?_
 refine go1 tok (noK_ok' _) rfl rfl rfl ?_
 refine go_nilEq rfl rfl us_cl rfl rfl rfl (fun b hb0=> ?_)
 by_cases hn:n=0
 ·have hcs:=hz true hn
  subst hn hcs
  cases b
  ·refine awp_condF rfl (awp_skip ?_)
   repeat first|refine awp_seq ?_|refine awp_region ?_
   repeat refine go1 tok (noK_ok' _) rfl rfl rfl ?_
   exact awp_ret (end_ret rfl rfl rfl)
  ·refine awp_condT rfl ?_
   repeat first|refine awp_seq ?_|refine awp_region ?_
   repeat refine go1 tok (noK_ok' _) rfl rfl rfl ?_
   exact awp_ret (end_ret rfl rfl rfl)
 ·have hb1:b=false:=by
   cases b with
   |false=>rfl
   |true=>have:=hb0 rfl;subst this;simp at hl;omega
  subst hb1
  have hnb:Nat.beq n 0=false:=by cases n with|zero=>exact absurd rfl hn|succ=>rfl
  refine awp_condF rfl (awp_skip ?_)
  repeat first|refine awp_seq ?_|refine awp_region ?_
  iterate 2 refine go1 tok (noK_ok' _) rfl rfl rfl ?_
  refine goA tok rfl (app_new rfl rfl rfl (by omega) hl hc hb (by omega)) rfl ?_
  repeat refine go1 tok (noK_ok' _) rfl rfl rfl ?_
  rw[hnb]
  exact awp_ret (end_ret rfl (frz_own rfl hl) (by simp only[D.pure];exact hp))
theorem c_Clone:CtrOk prog 133 k_Clone:=clone_ctr (fok_of (f:=133) (fn:=f133) (by kernel_rfl)).2 cloneK
theorem us_gr:prog.underlying 27=some (.slice 5):=by kernel_rfl
theorem ui_gr:prog.underlying 3=some (.int .i64):=by kernel_rfl
theorem ua_gr:tyApp prog 27 27=some (1,1):=by kernel_rfl
theorem ul_gr:tySl prog 27=some (1,1):=by kernel_rfl
set_option maxRecDepth 20000 in
theorem growK{n:Nat}(hn:n≤limit):OwnOK prog 315 [.list [] 0 true,.int .i64 n] [] 0 1:=by
 have hn' :n≤1099511627776:=hn
 refine own_of_callG rfl rfl ?_
 refine acall_gho tok func315 rfl (Nat.le_of_ble_eq_true rfl) ?_
 repeat first|refine awp_seq ?_|refine awp_region ?_
 refine go1 tok (noK_ok' _) rfl rfl rfl ?_
 repeat first|refine awp_seq ?_|refine awp_region ?_
 refine go1 tok (noK_ok' _) rfl rfl rfl ?_
 refine go1 tok (noK_ok' _) rfl rfl rfl ?_
 rw[show decide ((n:Int)<0)=false from by simp]
 refine awp_condF rfl (awp_skip ?_)
 repeat first|refine awp_seq ?_|refine awp_region ?_
 refine go1 tok (noK_ok' _) rfl rfl rfl ?_
 refine go1 tok (noK_ok' _) rfl rfl rfl ?_
 refine goP rfl (aop_cap rfl us_gr rfl) rfl ?_
 refine go1 tok (noK_ok' _) rfl rfl rfl ?_
 refine go1 tok (noK_ok' _) rfl rfl rfl ?_
 refine go1 tok (noK_ok' _) rfl rfl rfl ?_
 refine go1 (d:= .int .i64 n) tok (noK_ok' _) rfl (by
  show some (D.int .i64 (IntKind.i64.wrap ((n:Int)-0)),([]:Sto))=_
  rw[Int.sub_zero,Go.IntWalk.i64_in _ (by omega)]) rfl ?_
 refine go1 tok (noK_ok' _) rfl rfl rfl ?_
 repeat first|refine awp_seq ?_|refine awp_region ?_
 refine go1 tok (noK_ok' _) rfl rfl rfl ?_
 refine go1 (d:= .bool (decide ((n:Int)>0))) tok (noK_ok' _) rfl rfl rfl ?_
 by_cases h0:0<n
 ·rw[show decide ((n:Int)>0)=true from by simpa using h0]
  refine awp_condT rfl ?_
  repeat first|refine awp_seq ?_|refine awp_region ?_
  refine go1 tok (noK_ok' _) rfl rfl rfl ?_
  refine go1 tok (noK_ok' _) rfl rfl rfl ?_
  refine goP rfl (aop_cap rfl us_gr rfl) rfl ?_
  refine go1 tok (noK_ok' _) rfl rfl rfl ?_
  refine go1 tok (noK_ok' _) rfl rfl rfl ?_
  refine goP rfl (aop_growNil rfl ua_gr ui_gr rfl rfl h0 hn (by omega)) rfl ?_
  refine go1 tok (noK_ok' _) rfl rfl rfl ?_
  refine go1 tok (noK_ok' _) rfl rfl rfl ?_
  refine goP (d:= .sl 0 0 0 0 1 false) (σ' :=[.cells [] 0 0]) (by rfl) ?_ (by rfl) ?_
  ·refine aop_cut0 (t:=27) (e:=5) (x:= .tmp 22) (y:= .tmp 24) (l:=0) (u:=0) (n:=n) (sz:=1) (by' :=1) ?_ us_gr ul_gr ?_ ?_
   ·rfl
   ·rfl
   ·rfl
  refine go1 tok (noK_ok' _) rfl rfl rfl ?_
  repeat first|refine awp_seq ?_|refine awp_region ?_
  refine go1 tok (noK_ok' _) rfl rfl rfl ?_
  refine go1 tok (noK_ok' _) rfl rfl rfl ?_
  exact awp_ret ⟨.inr rfl,_,rfl,_,_,⟨0,0,rfl,rfl⟩,.refl _ _⟩
 ·have:n=0:=Nat.eq_zero_of_not_pos h0
  subst this
  clear hn hn' h0
  refine awp_condF rfl (awp_skip ?_)
  repeat first|refine awp_seq ?_|refine awp_region ?_
  refine go1 tok (noK_ok' _) rfl rfl rfl ?_
  refine go1 tok (noK_ok' _) rfl rfl rfl ?_
  exact awp_ret ⟨.inr rfl,_,rfl,.sl 0 0 0 0 1 false,[.cells [] 0 0],⟨0,0,rfl,rfl⟩,fun B G w x hR hx=>⟨G,.refl G,hR.newObj,nil_own hx⟩⟩
theorem c_Grow:CtrOOk prog 315 k_Grow:=grow_ctr (fok_of (f:=315) (fn:=f315) (by kernel_rfl)).2 growK
noncomputable def j_slices_Concat_byte_byte:Tr Exits:=(.node .nil 14294194176 [(.normal,⟨[(0,.hole (.sl (.sl .byte))),(3,.hole (.int .i64)),(9,.hole (.sl (.sl .byte))),(10,.hole (.int .i64)),(11,.hole (.int .i64))],[]⟩)] .nil)
noncomputable def k_slices_Concat_byte_byte(N:Nat):Ctr:=⟨[.hole (.sl (.sl .byte))],.hole (.sl .byte),fun(x:List Bs)=>F_slices_Concat_byte_byte N x⟩
noncomputable def x_slices_Concat_byte_byte(N:Nat) (L:List LoopC):Cx:=⟨prog,T,hH,hO,[],[(315,k_Grow)],[],L,j_slices_Concat_byte_byte⟩
noncomputable def h_slices_Concat_byte_byte_l0:Pat:=⟨[(0,.hole (.sl (.sl .byte))),(3,.hole (.int .i64)),(9,.hole (.sl (.sl .byte))),(10,.hole (.int .i64)),(11,.hole (.int .i64))],[]⟩
noncomputable def q_slices_Concat_byte_byte_l0:Exits:=[(.exit 0,⟨[(0,.hole (.sl (.sl .byte))),(3,.hole (.int .i64))],[]⟩)]
noncomputable def e_slices_Concat_byte_byte_l0(N n:Nat):LoopC:=⟨213,3,0,h_slices_Concat_byte_byte_l0,q_slices_Concat_byte_byte_l0,fun x=>F_slices_Concat_byte_byte_l0 N n x⟩
theorem l_slices_Concat_byte_byte_l0(N:Nat):∀n,LOk prog (e_slices_Concat_byte_byte_l0 N n):=loopc_ok (cx:=x_slices_Concat_byte_byte N []) tok mixed trivial ⟨c_Grow,trivial⟩ trivial trivial 213 3 0 h_slices_Concat_byte_byte_l0 q_slices_Concat_byte_byte_l0 (fun n x=>F_slices_Concat_byte_byte_l0 N n x) (by kernel_rfl) (by kernel_rfl) (fun _=>rfl) (by intro n x;kernel_rfl)
noncomputable def h_slices_Concat_byte_byte_l1:Pat:=⟨[(6,.own 0),(25,.hole (.sl (.sl .byte))),(26,.hole (.int .i64)),(27,.hole (.int .i64))],[.arr .byte false false]⟩
noncomputable def q_slices_Concat_byte_byte_l1:Exits:=[(.exit 2,⟨[(6,.own 0)],[.arr .byte false false]⟩)]
noncomputable def e_slices_Concat_byte_byte_l1(N n:Nat):LoopC:=⟨213,11,0,h_slices_Concat_byte_byte_l1,q_slices_Concat_byte_byte_l1,fun x=>F_slices_Concat_byte_byte_l1 N n x⟩
theorem l_slices_Concat_byte_byte_l1(N:Nat):∀n,LOk prog (e_slices_Concat_byte_byte_l1 N n):=loopc_ok (cx:=x_slices_Concat_byte_byte N [e_slices_Concat_byte_byte_l0 N N]) tok mixed trivial ⟨c_Grow,trivial⟩ trivial ⟨l_slices_Concat_byte_byte_l0 N N,trivial⟩ 213 11 0 h_slices_Concat_byte_byte_l1 q_slices_Concat_byte_byte_l1 (fun n x=>F_slices_Concat_byte_byte_l1 N n x) (by kernel_rfl) (by kernel_rfl) (fun _=>rfl) (by intro n x;kernel_rfl)
theorem c_slices_Concat_byte_byte(N:Nat):CtrOk prog 213 (k_slices_Concat_byte_byte N):=fun_ok (cx:=x_slices_Concat_byte_byte N [e_slices_Concat_byte_byte_l0 N N,e_slices_Concat_byte_byte_l1 N N]) tok mixed trivial ⟨c_Grow,trivial⟩ trivial ⟨l_slices_Concat_byte_byte_l0 N N,l_slices_Concat_byte_byte_l1 N N,trivial⟩ 213 _ (by kernel_rfl) (by kernel_rfl) (by intro x;kernel_rfl)
end Go.Proofs.Tryz
namespace Go.Proofs.Tryz
open Go Go.Fw
set_option maxHeartbeats 1000000
def labK:List D:=[.str [67],.str [67,78],.str [68,67],.str [71,78],.str [76],.str [79],.str [79,85],.str [83,78],.str [83,84],.str [84]]
def labI:List (List UInt8):=[[50,46,53,46,52,46,54],[50,46,53,46,52,46,51],[48,46,57,46,50,51,52,50,46,49,57,50,48,48,51,48,48,46,49,48,48,46,49,46,50,53],[50,46,53,46,52,46,52,50],[50,46,53,46,52,46,55],[50,46,53,46,52,46,49,48],[50,46,53,46,52,46,49,49],[50,46,53,46,52,46,52],[50,46,53,46,52,46,56],[50,46,53,46,52,46,49,50]]
def labN:List (List UInt8):=[[67],[67,78],[68,67],[71,78],[76],[79],[79,85],[83,78],[83,84],[84]]
def labV:List D:=labI.map .str
theorem labels_ok:PureOK prog 245 [] (.cmap labK labV):=pure_of_run (n:=20) tok (noK_ok' _) mixed rfl (by kernel_rfl) (by kernel_rfl) (by kernel_rfl)
theorem fnok245:FnOk prog 245:=(fok_of (f:=245) (fn:=f245) (by kernel_rfl)).2
def labGo(s:List UInt8):List (List UInt8)→List (List UInt8)→List UInt8
 |i::is,n::ns=>bif i==s then n else labGo s is ns
 |_,_=>[]
def labOf(s:List UInt8):List UInt8:=labGo s labI labN
def LI(s:List UInt8) (n:Nat) (τ:Env) (σ:Sto):Prop:=∃l rem cur,get τ 0=some (.str s)∧get τ 6=some (.ptr l 0 0)∧σ[l]? =some (.miter labK labV rem cur)∧
 rem.length=n∧(∀i,i<10→i ∉ rem→labI[i]?≠some s)∧(∀i ∈ rem,i<10)
theorem lab_form:∀i:Fin 10,∃n s,labK[i.val]? =some (.str n)∧labV[i.val]? =some (.str s)∧labI[i.val]? =some s∧labOf s=n:=by
 have h:((List.range 10).all fun i=>match labK[i]?,labV[i]?,labI[i]? with|some (.str n),some (.str s),some s' =>(s==s')&&(labOf s==n)|_,_,_=>false)=true:=by decide
 intro i
 have h1:=List.all_eq_true.1 h i.val (List.mem_range.2 i.isLt)
 split at h1
 ·rename_i n s s' e1 e2 e3
  simp only[Bool.and_eq_true,beq_iff_eq]at h1
  exact⟨n,s,e1,e2,by rw[e3,h1.1],h1.2⟩
 ·cases h1
theorem lab_none(s:List UInt8) (h:∀i,i<10→labI[i]?≠some s):labOf s=[]:=by
 have f:∀(is ns:List (List UInt8)),(∀i:Nat,is[i]?≠some s)→labGo s is ns=[]:=by
  intro is
  induction is with
  |nil=>intro ns _;rfl
  |cons i is ih=>
   intro ns h
   cases ns with
   |nil=>rfl
   |cons n ns=>
    have h0:i≠s:=fun e=>h 0 (by simp[e])
    show(bif i==s then n else labGo s is ns)=[]
    rw[beq_eq_false_iff_ne.2 h0]
    exact ih ns fun j hj=>h (j+1) (by simpa using hj)
 refine f labI labN fun i hi=> ?_
 rcases Nat.lt_or_ge i 10 with h1|h1
 ·exact h i h1 hi
 ·rw[List.getElem?_eq_none h1]at hi;cases hi
theorem label_ok(s:List UInt8):PureOK prog 184 [.str s] (.str (labOf s)):=by
 refine body1 (i:=0) tok func184 rfl rfl rfl ?_
 repeat first|refine awp_seq ?_|refine awp_region ?_
 refine go1 tok (noK_ok' _) rfl rfl rfl ?_
 repeat first|refine awp_seq ?_|refine awp_region ?_
 refine goC tok rfl rfl rfl rfl fnok245 labels_ok rfl ?_
 refine go1 tok (noK_ok' _) rfl rfl rfl ?_
 repeat first|refine awp_seq ?_|refine awp_region ?_|refine awp_block ?_
 refine awp_loop (LI s) (n:=10) ⟨0,List.range 10,none,rfl,rfl,rfl,rfl,fun i hi hn=>absurd (List.mem_range.2 hi) hn,fun i hi=>List.mem_range.1 hi⟩ ?_
 rintro n τ σ ⟨l,rem,cur,h0,h6,hl,hn,hno,hlt⟩
 refine AWp.gc [l] (fun _ h=>absurd h (Nat.not_lt_zero _)) (by simp) (σ' :=[.miter labK labV rem cur]) (τ' :=[(6,.ptr 0 0 0),(0,.str s)]) rfl ?_ ?_ ?_
 ·intro j l' ob hj hob
  match j,hj,hob with
  |0,hj,hob=>
   simp at hj hob
   subst hj hob
   exact⟨hl,by kernel_rfl⟩
  |j+1,hj,_=>simp at hj
 ·intro t d hg
  simp only[Go.Fw.get]at hg
  split at hg
  ·rename_i e;subst e;cases hg;exact⟨h6,rfl⟩
  ·split at hg
   ·rename_i e;subst e;cases hg;exact⟨h0,rfl⟩
   ·cases hg
 repeat first|refine awp_seq ?_|refine awp_region ?_
 refine go_nextM rfl rfl rfl rfl rfl rfl (fun hrem=> ?_) (fun i a b hi ha hb=> ?_)
 ·refine go1 tok (noK_ok' _) rfl rfl rfl ?_
  refine awp_seq (awp_condF rfl (awp_exit ?_))
  repeat first|refine awp_seq ?_|refine awp_region ?_
  refine go1 tok (noK_ok' _) rfl rfl rfl ?_
  subst hrem
  rw[lab_none s fun i hi=>hno i hi (by simp)]
  exact awp_ret (end_ret rfl rfl rfl)
 ·have hi10:=hlt i hi
  refine go1 tok (noK_ok' _) rfl rfl rfl ?_
  refine awp_seq (awp_condT rfl (awp_skip ?_))
  refine awp_block ?_
  obtain⟨nm,id,e1,e2,e3,e4⟩:=lab_form ⟨i,hi10⟩
  dsimp only at e1 e2 e3
  obtain rfl:a= .str nm:=Option.some.inj (ha.symm.trans e1)
  obtain rfl:b= .str id:=Option.some.inj (hb.symm.trans e2)
  repeat first|refine awp_seq ?_|refine awp_region ?_
  refine go1 tok (noK_ok' _) rfl (entry_E rfl rfl ha hb) rfl ?_
  repeat refine go1 tok (noK_ok' _) rfl rfl rfl ?_
  repeat first|refine awp_seq ?_|refine awp_region ?_
  iterate 3 refine go1 tok (noK_ok' _) rfl rfl rfl ?_
  cases hc:(id==s)
  ·refine awp_condF rfl (awp_skip ?_)
   have hc' :id≠s:=by simpa using hc
   refine⟨(rem.filter (· !=i)).length,?_,0,_,_,rfl,rfl,rfl,rfl,fun j hj hnj=> ?_,fun j hj=>hlt j (List.mem_filter.1 hj).1⟩
   ·rw[←hn]
    exact List.length_filter_lt_length_iff_exists.2 ⟨i,hi,by simp⟩
   ·by_cases e:j=i
    ·subst e;rw[e3];exact fun h=>hc' (Option.some.inj h)
    ·exact hno j hj fun hm=>hnj (List.mem_filter.2 ⟨hm,by simpa using e⟩)
  ·refine awp_condT rfl ?_
   repeat first|refine awp_seq ?_|refine awp_region ?_
   repeat refine go1 tok (noK_ok' _) rfl rfl rfl ?_
   have e:id=s:=by simpa using hc
   subst e
   rw[e4]
   exact awp_ret (end_ret rfl rfl rfl)
end Go.Proofs.Tryz
namespace Go.Proofs.Tryz
open Go Go.Fw
set_option maxHeartbeats 1000000
theorem cloneO{cs:List D}{n:Nat}{f:Bool}(hl:cs.length=n*1) (hc:cs.all D.isCell=true) (hp:pureL cs=true) (hb:n*1≤limit) (hn:0<n):OwnOK prog 133 [.list cs n f] cs n 1:=by
 have hp1:(D.list cs n f).pure=true:=by simp only[D.pure];exact hp
 refine own_of_callG (by simp only[pureL,hp1];rfl) hp ?_
 refine acall_body tok func133 rfl (Nat.le_of_ble_eq_true rfl) ?_
 repeat first|refine awp_seq ?_|refine awp_region ?_
 refine go1 tok (noK_ok' _) rfl rfl rfl ?_
 repeat first|refine awp_seq ?_|refine awp_region ?_
 refine go1 tok (noK_ok' _) rfl rfl rfl ?_
 refine go_nilEq rfl rfl us_cl rfl rfl rfl (fun b hb0=> ?_)
 have hb1:b=false:=by
  cases b with
  |false=>rfl
  |true=>have:=hb0 rfl;subst this;simp at hl;omega
 subst hb1
 refine awp_condF rfl (awp_skip ?_)
 repeat first|refine awp_seq ?_|refine awp_region ?_
 iterate 2 refine go1 tok (noK_ok' _) rfl rfl rfl ?_
 refine goA tok rfl (app_new rfl rfl rfl (by omega) hl hc hb (by omega)) rfl ?_
 repeat refine go1 tok (noK_ok' _) rfl rfl rfl ?_
 exact awp_ret ⟨.inr rfl,_,rfl,_,_,rfl,rfl⟩
theorem fnok133:FnOk prog 133:=(fok_of (f:=133) (fn:=f133) (by kernel_rfl)).2
noncomputable def callC(O:FuncId→Bool) (K:FuncId→List D→Option D) (n:Nat):CallF:=fun f ds σ=>match Nat.beq f 133,ds with
 |true,[.list cs m _]=>(match Nat.beq cs.length (m*1)&&(cs.all D.isCell&&(pureL cs&&(Nat.ble (m*1) limit&&Nat.blt 0 m))) with
  |true=>some (.sl σ.length cs.length 0 m 1 false,σ++[.cells cs 0 cs.length])
  |false=>none)
 |true,_=>none
 |false,ds=>xcallO O K prog T n f ds σ
theorem callC_ok{O:FuncId→Bool}{K:FuncId→List D→Option D}(hK:KOk prog K) (n:Nat):CallsOk prog (callC O K n):=by
 intro f ds σ d σ' h
 unfold callC at h
 split at h
 ·rename_i cs m f' hf
  obtain rfl:f=133:=Nat.eq_of_beq_eq_true hf
  split at h<;>try (cases h;done)
  rename_i hc
  simp only[Bool.and_eq_true]at hc
  obtain⟨h1,h2,h3,h4,h5⟩:=hc
  cases h
  exact⟨fnok133,cloneO (Nat.eq_of_beq_eq_true h1) h2 h3 (Nat.le_of_ble_eq_true h4) (Nat.le_of_ble_eq_true h5) σ⟩
 ·cases h
 ·exact xcallO_ok tok hK mixed n _ _ _ _ _ h
def ODec:FuncId→Bool:=fun f=>Nat.beq f 181||Nat.beq f 182
theorem dec_ok:PureOK prog 108 [.list [.int .u8 1] 1 false] (.str [49]):=by
 have h:(xfn (callC ODec noK 40) T f108 [.list [.int .u8 1] 1 false] []).map (·.1)=some (.str [49]):=by kernel_rfl
 obtain⟨⟨d,σ'⟩,h1,h2⟩:=Option.map_eq_some_iff.1 h
 have h2:d= .str [49]:=h2
 subst h2
 exact pure_of_call rfl ((xfn_ok tok (callC_ok (noK_ok' _) 40) mixed func108 h1).mono (by rintro d' s ⟨rfl,rfl⟩;exact⟨_,rfl,rfl⟩))
end Go.Proofs.Tryz
namespace Go.Fw
open Go.RowKit
noncomputable def scodes(cx:Cx) (n fid N i lr:Nat):List Code→SEnv→SSto→Option (SEnv×SSto)
 |[],τ,S=>some (τ,S)
 |c::cs,τ,S=>scode cx n fid N i lr c τ S fun e τ' S' =>match e with
  | .normal=>scodes cx n fid N i lr cs τ' S'
  |_=>none
theorem scodes_ok{cx:Cx}(hcx:CxOk cx) (hL:∀e ∈ cx.L,LOk cx.P e) {n fid i lr:Nat}{fn:Func}{body rest:Code}{Q:AEx→Env→Sto→Prop}{r:SEnv×SSto}(hf:cx.P.funcs[fid]? =some fn) (hb:fn.body=some body)
 :∀(cs:List Code) (τ:SEnv) (S:SSto) (τ' :Env) (σ:Sto),(∀c ∈ cs,SubL c body)→scodes cx n fid fn.ntmps i lr cs τ S=some r→ER S σ τ τ'→StR S σ→
  (∀τ2 σ2,ER r.2 σ2 r.1 τ2→StR r.2 σ2→PresI i S σ r.2 σ2→AWp i cx.P fn.ntmps rest τ2 σ2 Q)→AWp i cx.P fn.ntmps (cs.foldr .seq rest) τ' σ Q
 |[],τ,S,τ',σ,_,h,hE,hS,hr=>by
  simp only[scodes,Option.some.injEq]at h
  subst h
  exact hr τ' σ hE hS (.refl _ _ _)
 |c::cs,τ,S,τ',σ,hsub,h,hE,hS,hr=>by
  simp only[scodes]at h
  refine awp_seq (((scode_ok hcx hL n) _ fid i lr c τ S _ r fn body hf hb (hsub c (List.mem_cons_self ..)) h τ' σ hE hS).1.mono ?_)
  rintro e τ2 σ2 ⟨τs,S2,h1,h2,hp,h3⟩
  cases e with
  |normal=>exact scodes_ok hcx hL hf hb cs τs S2 τ2 σ2 (fun c hc=>hsub c (List.mem_cons_of_mem _ hc)) h3 h1 h2 fun τ3 σ3 a1 a2 a3=>hr τ3 σ3 a1 a2 (hp.trans a3)
  |exit id=>cases h3
  |goto l=>cases h3
  |ret=>cases h3
def fstC:Code→Code
 | .seq a _=>a
 |c=>c
def sndC:Code→Code
 | .seq _ b=>b
 |c=>c
def bodyOf(P:Program) (f:FuncId):Code:=((P.funcs[f]?).bind (·.body)).getD .skip
def opsOf:Code→Array Oper
 | .region _ ops _=>ops
 |_=> #[]
theorem get_mem:∀{τ:Env}{t:Nat}{d:D},get τ t=some d→(t,d) ∈ τ
 |[],_,_,h=>by simp[get]at h
 |(i,x)::r,t,d,h=>by
  simp only[get]at h
  split at h
  ·rename_i e;subst e;cases h;exact List.mem_cons_self ..
  ·exact List.mem_cons_of_mem _ (get_mem h)
def dstsOf(ops:Array Oper):List Nat:=ops.toList.filterMap (·.dst)
def envB(ops:Array Oper) (τ0:Env) (row:Nat→SRow) (o:Oper):Env→Bool
 |[]=>true
 |(t,v)::r=>((o.after.toList.any fun e=>Region.binds .any e&&match ops[e.on]? with
    |some oj=>(match oj.dst with|some t' =>Nat.beq t' t|none=>false)&&D.beq (row e.on).d v
    |none=>false)||(match get τ0 t with|some d=>D.beq d v|none=>false)&& !(hasN t (dstsOf ops)))&&envB ops τ0 row o r
theorem envB_ok{ops:Array Oper}{τ0:Env}{row:Nat→SRow}{o:Oper}:∀{e:Env},envB ops τ0 row o e=true→∀t v,(t,v) ∈ e→(∃(e:Edge) (oj:Oper),e ∈ o.after∧Region.binds .any e=true∧ops[e.on]? =some oj∧oj.dst=some t∧(row e.on).d=v)∨(get τ0 t=some v∧∀(j:Nat) oj,ops[j]? =some oj→oj.dst≠some t)
 |[],_,_,_,h=>by simp at h
 |(t0,v0)::r,hb,t,v,h=>by
  simp only[envB,Bool.and_eq_true]at hb
  rcases List.mem_cons.1 h with e|h
  ·cases e
   simp only[Bool.or_eq_true,List.any_eq_true,Bool.and_eq_true]at hb
   rcases hb.1 with⟨e,h1,h2,h3⟩|⟨h1,h2⟩
   ·split at h3<;>try (cases h3;done)
    rename_i oj ho
    simp only[Bool.and_eq_true]at h3
    obtain⟨h3,h4⟩:=h3
    split at h3<;>try (cases h3;done)
    rename_i t' ht
    have:=nbeq' h3
    subst this
    exact .inl ⟨e,oj,by simpa using h1,h2,ho,ht,D.beq_eq _ _ h4⟩
   ·split at h1<;>try (cases h1;done)
    rename_i d hd
    rw[D.beq_eq _ _ h1]at hd
    refine .inr ⟨hd,fun j oj hj ht=> ?_⟩
    have:hasN _ (dstsOf ops)=true:=hasN_iff.2 (List.mem_filterMap.2 ⟨oj,List.mem_of_getElem? (by rw[Array.getElem?_toList];exact hj),ht⟩)
    rw[this]at h2;cases h2
  ·exact envB_ok hb.2 t v h
def allI(n:Nat) (f:Nat→Bool):Bool:=(List.range n).all f
theorem allI_ok{n:Nat}{f:Nat→Bool}(h:allI n f=true) {i:Nat}(hi:i<n):f i=true:=List.all_eq_true.1 h i (List.mem_range.2 hi)
def soupB(N:Nat) (ops:Array Oper) (τ0:Env) (row:Nat→SRow) (m0:Nat):Bool:=
 noGuard ops&&(planOk ops (masks ops.toList [])&&(Nat.blt m0 ops.size&&(allI ops.size fun i=>(match (row i).k with| .mk=>Nat.beq i m0|_=> !(Nat.beq i m0))&&(match ops[i]? with
  |some o=>(match o.dst with|some t=>Nat.blt t N|none=>true)&&(envB ops τ0 row o (row i).e&&(match (row i).k with
   | .ins k _=>(o.after.toList.any fun e=>Region.binds .any e&&Nat.beq e.on m0)&&isI64 k
   |_=>true)&&(allI ops.size fun j=>match ops[j]? with
    |some oj=>(Nat.beq i j||(match o.dst,oj.dst with|some t,some t' => !(Nat.beq t t')|_,_=>true))&&(Nat.beq i j||(!(isIns (row i).k&&isIns (row j).k)|| !(decide (keyN (row i).key=keyN (row j).key))))
    |none=>false))
  |none=>false))))
theorem soup_ok{P:Program}{N:Nat}{ops:Array Oper}{τ0:Env}{σ0:Sto}{row:Nat→SRow}{m0:Nat}(hb:soupB N ops τ0 row m0=true)
 (hp:∀(i:Nat) o,ops[i]? =some o→match (row i).k with
   | .pure=>AOp P N o (row i).e σ0 (fun d s=>d=(row i).d∧s=σ0)∧∀ks vs,AOp P N o (row i).e (σ0++[.map ks vs]) (fun d s=>d=(row i).d∧s=σ0++[.map ks vs])
   | .mk=>AOp P N o (row i).e σ0 fun d s=>d=(row i).d∧s=σ0++[.map [] []]
   | .ins k v=>∀ks vs,(∀k' ∈ ks,isI64 k' =true∧keyN k'≠keyN k)→AOp P N o (row i).e (σ0++[.map ks vs]) fun d s=>d=(row i).d∧s=σ0++[.map (ks++[k]) (vs++[v])]):SoupOk P N ops τ0 σ0 row m0:=by
 unfold soupB at hb
 simp only[Bool.and_eq_true]at hb
 obtain⟨h1,h2,h3,h4⟩:=hb
 have at' :∀(i:Nat) o,ops[i]? =some o→i<ops.size:=fun i o h=>(Array.getElem?_eq_some_iff.1 h).1
 have ro:∀(i:Nat) o,ops[i]? =some o→_:=fun i o ho=>allI_ok h4 (at' i o ho)
 refine⟨h1,h2,Nat.le_of_ble_eq_true h3,fun i hi=> ?_,fun i o t ho ht=> ?_,fun i j oi oj t hi hj ht ht' => ?_,fun i o ho t v hg=> ?_,fun i o ho hk=> ?_,fun o ho=> ?_,fun i o k v ho hk=> ?_,fun i j hi hj k1 k2 k3=> ?_⟩
 ·have:=(allI_ok h4 hi)
  simp only[Bool.and_eq_true]at this
  have:=this.1
  constructor
  ·intro hk;rw[hk]at this;exact nbeq' this
  ·intro e
   subst e
   cases hk:(row i).k<;>rw[hk]at this<;>simp at this⊢
 ·have:=ro i o ho
  simp only[Bool.and_eq_true]at this
  have:=this.2
  rw[ho]at this
  simp only[Bool.and_eq_true]at this
  have:=this.1
  rw[ht]at this
  exact Nat.le_of_ble_eq_true this
 ·have:=ro i oi hi
  simp only[Bool.and_eq_true]at this
  have:=this.2
  rw[hi]at this
  simp only[Bool.and_eq_true]at this
  have:=allI_ok this.2.2 (at' j oj hj)
  rw[hj]at this
  simp only[Bool.and_eq_true,Bool.or_eq_true]at this
  rcases this.1 with e|e
  ·exact nbeq' e
  ·rw[ht,ht']at e
   simp at e
 ·have:=ro i o ho
  simp only[Bool.and_eq_true]at this
  have:=this.2
  rw[ho]at this
  simp only[Bool.and_eq_true]at this
  exact envB_ok this.2.1.1 t v (get_mem hg)
 ·have:=hp i o ho
  rw[hk]at this
  exact this
 ·have:=hp m0 o ho
  have hk:(row m0).k= .mk:=by
   have h5:=allI_ok h4 (at' m0 o ho)
   simp only[Bool.and_eq_true]at h5
   have h5:=h5.1
   cases hk:(row m0).k<;>rw[hk]at h5<;>simp at h5⊢
  rw[hk]at this
  exact this
 ·have hp:=hp i o ho
  rw[hk]at hp
  have:=ro i o ho
  simp only[Bool.and_eq_true]at this
  have:=this.2
  rw[ho]at this
  simp only[Bool.and_eq_true]at this
  have:=this.2.1.2
  rw[hk]at this
  simp only[Bool.and_eq_true,List.any_eq_true]at this
  obtain⟨⟨e,g1,g2,g3⟩,g4⟩:=this
  exact⟨⟨e,by simpa using g1,g2,nbeq' g3⟩,g4,hp⟩
 ·have:=allI_ok h4 hi
  simp only[Bool.and_eq_true]at this
  have:=this.2
  rw[Array.getElem?_eq_getElem hi]at this
  simp only[Bool.and_eq_true]at this
  have:=allI_ok this.2.2 hj
  rw[Array.getElem?_eq_getElem hj]at this
  simp only[Bool.and_eq_true,Bool.or_eq_true]at this
  rcases this.2 with e|e|e
  ·exact nbeq' e
  ·rw[k1,k2]at e;cases e
  ·simp[k3]at e
end Go.Fw
namespace Go.Proofs.Tryz
open Go Go.Fw Go.RowKit
noncomputable def hFm:Tr OH:= .node (.node .nil 30736389 .frz .nil) 36569093 .frz .nil
noncomputable def k_btw:Ctr:=⟨[.hole (.int .i32),.hole (.int .i32)],.func (.func 603) [] [.rc [.hole (.int .i32)] 0,.rc [.hole (.int .i32)] 0],fun(x:Int×Int)=>some (x.1,x.2)⟩
theorem mixedF:prog.follows .mixedOrders=true:=by kernel_rfl
theorem c_btw:CtrOk prog 558 k_btw:=fun_ok (cx:=⟨prog,T,.nil,hFm,[],[],[],[],.nil⟩) tok mixedF trivial trivial trivial trivial 558 _ (by kernel_rfl) (by kernel_rfl) (by intro x;kernel_rfl)
def btw(a b:Int):D:= .func (.func 603) [] [.rptr [.int .i32 a] 0,.rptr [.int .i32 b] 0]
theorem btw_ok(a b:Int):PureOK prog 558 [.int .i32 a,.int .i32 b] (btw a b):=by
 obtain⟨_,_,_,h⟩:=c_btw
 obtain⟨v,h1,_,h3⟩:=h (a,b) (a,b) rfl
 have e:v= .func (.func 603) [] [.rc [.int .i32 a] 0,.rc [.int .i32 b] 0]:=by
  have h1:some ((SV.func (.func 603) [] [.rc [.int .i32 a] 0,.rc [.int .i32 b] 0],([]:List DV)))=some (v,[]):=h1
  cases h1;rfl
 subst e
 exact h3 [.int .i32 a,.int .i32 b] rfl _ (by simp only[VRs,VR];exact⟨_,_,rfl,rfl,_,_,rfl,rfl,rfl⟩)
noncomputable def cxFm:Cx:=⟨prog,T,.nil,hFm,[(558,k_btw)],[],[],[],.nil⟩
theorem cxFm_ok:CxOk cxFm:=⟨tok,mixedF,fun f c h=>(by
 rcases List.mem_cons.1 h with e|h
 ·cases e;exact c_btw
 ·cases h),fun f c h=>(by cases h),fun f c h=>(by cases h)⟩
noncomputable def b469:Code:=bodyOf prog 469
noncomputable def r4:Code:=fstC (sndC (sndC (sndC (sndC b469))))
noncomputable def ops4:Array Oper:=opsOf r4
def dB:D:=btw 32 126
def q3:D:= .func (.func 559) [] [.rptr [dB] 0]
def q1:D:= .func (.func 556) [] []
def vd:D:= .func (.func 560) [] []
def fm(f:D) (n:Int):D:= .agg [f,.int .i64 n]
def env4:Env:=[(1,q1),(2,.ptr 0 0 0),(3,q3)]
def rows4:List SRow:=[⟨[],.map 1,.mk⟩,⟨[],fm vd 0,.pure⟩,⟨[(6,.map 1),(7,fm vd 0)],.junk,.ins (.int .i64 12) (fm vd 0)⟩,
 ⟨[(1,q1)],q1,.pure⟩,⟨[(8,q1)],fm q1 1,.pure⟩,⟨[(6,.map 1),(9,fm q1 1)],.junk,.ins (.int .i64 19) (fm q1 1)⟩,
 ⟨[(3,q3)],q3,.pure⟩,⟨[(10,q3)],fm q3 1,.pure⟩,⟨[(6,.map 1),(11,fm q3 1)],.junk,.ins (.int .i64 20) (fm q3 1)⟩,
 ⟨[],btw 0 127,.pure⟩,⟨[(12,btw 0 127)],fm (btw 0 127) 1,.pure⟩,⟨[(6,.map 1),(13,fm (btw 0 127) 1)],.junk,.ins (.int .i64 22) (fm (btw 0 127) 1)⟩,
 ⟨[(2,.ptr 0 0 0)],dB,.pure⟩,⟨[(14,dB)],fm dB 1,.pure⟩,⟨[(6,.map 1),(15,fm dB 1)],.junk,.ins (.int .i64 26) (fm dB 1)⟩,
 ⟨[],fm vd 4,.pure⟩,⟨[(6,.map 1),(16,fm vd 4)],.junk,.ins (.int .i64 28) (fm vd 4)⟩,
 ⟨[],fm (.func (.func 561) [] []) 2,.pure⟩,⟨[(6,.map 1),(17,fm (.func (.func 561) [] []) 2)],.junk,.ins (.int .i64 30) (fm (.func (.func 561) [] []) 2)⟩,
 ⟨[(6,.map 1)],.map 1,.pure⟩,⟨[(18,.map 1)],.map 1,.pure⟩]
def row4(i:Nat):SRow:=rows4.getD i ⟨[],.junk,.pure⟩
def formsK:List D:=[.int .i64 12,.int .i64 19,.int .i64 20,.int .i64 22,.int .i64 26,.int .i64 28,.int .i64 30]
def formsV:List D:=[fm vd 0,fm q1 1,fm q3 1,fm (btw 0 127) 1,fm dB 1,fm vd 4,fm (.func (.func 561) [] []) 2]
theorem soupB4:soupB 19 ops4 env4 row4 0=true:=by kernel_rfl
theorem size4:ops4.size=21:=by kernel_rfl
theorem findD_none{k:D}(hk:isI64 k=true):∀(ks:List D) (i:Nat),(∀k' ∈ ks,isI64 k' =true∧keyN k'≠keyN k)→findD .i k ks i=some none
 |[],_,_=>rfl
 |k' ::ks,i,h=>by
  obtain⟨h1,h2⟩:=h k' (List.mem_cons_self ..)
  cases k<;>try (cases hk;done)
  rename_i a n
  cases a<;>try (cases hk;done)
  cases k' <;>try (cases h1;done)
  rename_i a m
  cases a<;>try (cases h1;done)
  have h2:n≠m:=fun e=>h2 e.symm
  simp only[findD,cellEq,if_true,beq_eq_false_iff_ne.2 h2]
  exact findD_none hk ks (i+1) fun k hk=>h k (List.mem_cons_of_mem _ hk)
theorem ins_aop{N:Nat}{o:Oper}{e:Env}{σ0:Sto}{ks vs:List D}{k v:D}{t:TypeId}{m x y:Operand}{z:D}(ho:o.op= .insert t m x y) (ht:lk T.map t=some (.i,z)) (hm:ev e m=some (.map σ0.length)) (hx:ev e x=some k) (hy:ev e y=some v)
 (hk:isI64 k=true) (hks:∀k' ∈ ks,isI64 k' =true∧keyN k'≠keyN k):AOp prog N o e (σ0++[.map ks vs]) fun d s=>d= .junk∧s=σ0++[.map (ks++[k]) (vs++[v])]:=by
 refine aop_aop tok ?_
 rw[ho]
 have hc:k.isCell=true:=by cases k<;>first|rfl|cases hk
 simp only[aop,oUpd,ht,hm,hx,hy,updD]
 have:(σ0++[AObj.map ks vs])[σ0.length]? =some (.map ks vs):=by simp
 rw[this]
 simp only[findD_none hk ks 0 hks,if_pos hc,Option.map_some]
 congr 2
 refine List.ext_getElem? fun x=> ?_
 rw[List.getElem?_set]
 by_cases e:σ0.length=x
 ·subst e;simp
 ·rw[if_neg e]
  rcases Nat.lt_or_ge x σ0.length with h|h
  ·rw[List.getElem?_append_left h,List.getElem?_append_left h]
  ·rw[List.getElem?_eq_none (by simp;omega),List.getElem?_eq_none (by simp;omega)]
end Go.Proofs.Tryz
namespace Go.Proofs.Tryz
open Go Go.Fw Go.RowKit
set_option maxRecDepth 100000
noncomputable def oAt(i:Nat):Oper:=(ops4[i]?).getD default
theorem oAt_ok{i:Nat}{o:Oper}(h:ops4[i]? =some o):o=oAt i:=by unfold oAt;rw[h];rfl
theorem callT(σ:Sto):AOp prog 19 (oAt 9) (row4 9).e σ fun d s=>d=(row4 9).d∧s=σ:=by
 obtain⟨fn,hfn⟩:=Option.isSome_iff_exists.1 (by kernel_rfl:(okF prog 558).isSome=true)
 exact aop_callG tok (c:=⟨.value (.func 558),#[.const (.int .i32 0),.const (.int .i32 127)],#[21,21]⟩) (f:=558) (ds:=[.int .i32 0,.int .i32 127]) (by kernel_rfl) (by kernel_rfl) (Ghos.weak (Weaks.refl _)) (fok_of hfn).2 ((btw_ok 0 127).acall σ)
theorem rows_ok(fr:Nat):∀(i:Nat) o,ops4[i]? =some o→match (row4 i).k with
 | .pure=>AOp prog 19 o (row4 i).e [.cells [dB] fr 0] (fun d s=>d=(row4 i).d∧s=[.cells [dB] fr 0])∧∀ks vs,AOp prog 19 o (row4 i).e ([.cells [dB] fr 0]++[.map ks vs]) (fun d s=>d=(row4 i).d∧s=[.cells [dB] fr 0]++[.map ks vs])
 | .mk=>AOp prog 19 o (row4 i).e [.cells [dB] fr 0] fun d s=>d=(row4 i).d∧s=[.cells [dB] fr 0]++[.map [] []]
 | .ins k v=>∀ks vs,(∀k' ∈ ks,isI64 k' =true∧keyN k'≠keyN k)→AOp prog 19 o (row4 i).e ([.cells [dB] fr 0]++[.map ks vs]) fun d s=>d=(row4 i).d∧s=[.cells [dB] fr 0]++[.map (ks++[k]) (vs++[v])]:=by
 intro i o ho
 have hi:i<21:=by rw[←size4];exact(Array.getElem?_eq_some_iff.1 ho).1
 have e:=oAt_ok ho
 subst e
 clear ho
 have:i=0∨i=1∨i=2∨i=3∨i=4∨i=5∨i=6∨i=7∨i=8∨i=9∨i=10∨i=11∨i=12∨i=13∨i=14∨i=15∨i=16∨i=17∨i=18∨i=19∨i=20:=by omega
 rcases this with rfl|rfl|rfl|rfl|rfl|rfl|rfl|rfl|rfl|rfl|rfl|rfl|rfl|rfl|rfl|rfl|rfl|rfl|rfl|rfl|rfl
 ·exact aop_aop tok (by kernel_rfl)
 ·exact⟨aop_aop tok (by kernel_rfl),fun ks vs=>aop_aop tok (by kernel_rfl)⟩
 ·exact fun ks vs hks=>ins_aop (N:=19) (t:=610) (m:= .tmp 6) (x:= .const (.int .i64 12)) (y:= .tmp 7) (z:=fm .nilf 0) (by kernel_rfl) (by kernel_rfl) rfl rfl rfl rfl hks
 ·exact⟨aop_aop tok (by kernel_rfl),fun ks vs=>aop_aop tok (by kernel_rfl)⟩
 ·exact⟨aop_aop tok (by kernel_rfl),fun ks vs=>aop_aop tok (by kernel_rfl)⟩
 ·exact fun ks vs hks=>ins_aop (N:=19) (t:=610) (m:= .tmp 6) (x:= .const (.int .i64 19)) (y:= .tmp 9) (z:=fm .nilf 0) (by kernel_rfl) (by kernel_rfl) rfl rfl rfl rfl hks
 ·exact⟨aop_aop tok (by kernel_rfl),fun ks vs=>aop_aop tok (by kernel_rfl)⟩
 ·exact⟨aop_aop tok (by kernel_rfl),fun ks vs=>aop_aop tok (by kernel_rfl)⟩
 ·exact fun ks vs hks=>ins_aop (N:=19) (t:=610) (m:= .tmp 6) (x:= .const (.int .i64 20)) (y:= .tmp 11) (z:=fm .nilf 0) (by kernel_rfl) (by kernel_rfl) rfl rfl rfl rfl hks
 ·exact⟨callT _,fun ks vs=>callT _⟩
 ·exact⟨aop_aop tok (by kernel_rfl),fun ks vs=>aop_aop tok (by kernel_rfl)⟩
 ·exact fun ks vs hks=>ins_aop (N:=19) (t:=610) (m:= .tmp 6) (x:= .const (.int .i64 22)) (y:= .tmp 13) (z:=fm .nilf 0) (by kernel_rfl) (by kernel_rfl) rfl rfl rfl rfl hks
 ·exact⟨aop_aop tok (by kernel_rfl),fun ks vs=>aop_aop tok (by kernel_rfl)⟩
 ·exact⟨aop_aop tok (by kernel_rfl),fun ks vs=>aop_aop tok (by kernel_rfl)⟩
 ·exact fun ks vs hks=>ins_aop (N:=19) (t:=610) (m:= .tmp 6) (x:= .const (.int .i64 26)) (y:= .tmp 15) (z:=fm .nilf 0) (by kernel_rfl) (by kernel_rfl) rfl rfl rfl rfl hks
 ·exact⟨aop_aop tok (by kernel_rfl),fun ks vs=>aop_aop tok (by kernel_rfl)⟩
 ·exact fun ks vs hks=>ins_aop (N:=19) (t:=610) (m:= .tmp 6) (x:= .const (.int .i64 28)) (y:= .tmp 16) (z:=fm .nilf 0) (by kernel_rfl) (by kernel_rfl) rfl rfl rfl rfl hks
 ·exact⟨aop_aop tok (by kernel_rfl),fun ks vs=>aop_aop tok (by kernel_rfl)⟩
 ·exact fun ks vs hks=>ins_aop (N:=19) (t:=610) (m:= .tmp 6) (x:= .const (.int .i64 30)) (y:= .tmp 17) (z:=fm .nilf 0) (by kernel_rfl) (by kernel_rfl) rfl rfl rfl rfl hks
 ·exact⟨aop_aop tok (by kernel_rfl),fun ks vs=>aop_aop tok (by kernel_rfl)⟩
 ·exact⟨aop_aop tok (by kernel_rfl),fun ks vs=>aop_aop tok (by kernel_rfl)⟩
theorem soup4(fr:Nat):SoupOk prog 19 ops4 env4 [.cells [dB] fr 0] row4 0:=soup_ok soupB4 (rows_ok fr)
theorem perm4{ord:List Nat}(h1:ord.Nodup) (h2:∀i,i ∈ ord↔(i<ops4.size∧isIns (row4 i).k=true)):((ord.map fun i=>(row4 i).key).zip (ord.map fun i=>(row4 i).val)).Perm (formsK.zip formsV):=by
 have hp:ord.Perm [2,5,8,11,14,16,18]:=by
  refine(List.perm_ext_iff_of_nodup h1 (by decide)).2 fun i=> ?_
  rw[h2,size4]
  constructor
  ·rintro⟨hi,hk⟩
   have:i=0∨i=1∨i=2∨i=3∨i=4∨i=5∨i=6∨i=7∨i=8∨i=9∨i=10∨i=11∨i=12∨i=13∨i=14∨i=15∨i=16∨i=17∨i=18∨i=19∨i=20:=by omega
   rcases this with rfl|rfl|rfl|rfl|rfl|rfl|rfl|rfl|rfl|rfl|rfl|rfl|rfl|rfl|rfl|rfl|rfl|rfl|rfl|rfl|rfl<;>first|(cases hk;done)|simp
  ·intro hi
   simp at hi
   rcases hi with rfl|rfl|rfl|rfl|rfl|rfl|rfl<;>exact⟨by omega,rfl⟩
 have e:∀l:List Nat,(l.map fun i=>(row4 i).key).zip (l.map fun i=>(row4 i).val)=l.map fun i=>((row4 i).key,(row4 i).val):=fun l=>by
  induction l with
  |nil=>rfl
  |cons x l ih=>simp[ih]
 rw[e]
 exact hp.map _
theorem body4:b469=[fstC b469,fstC (sndC b469),fstC (sndC (sndC b469)),fstC (sndC (sndC (sndC b469)))].foldr .seq (.seq r4 .ret):=by kernel_rfl
theorem r4_eq:r4= .region 4 ops4 true:=by kernel_rfl
def st4:SEnv×SSto:=([(3,.func (.func 559) [] [.rc [.func (.func 603) [] [.rc [.int .i32 32] 0,.rc [.int .i32 126] 0]] 0]),(5,.func (.func 559) [] [.rc [.func (.func 603) [] [.rc [.int .i32 32] 0,.rc [.int .i32 126] 0]] 0]),(2,.raw (.ptr 0 0 0)),(4,.func (.func 603) [] [.rc [.int .i32 32] 0,.rc [.int .i32 126] 0]),(1,.func (.func 556) [] []),(0,.raw .nilmap)],[.cells [.func (.func 603) [] [.rc [.int .i32 32] 0,.rc [.int .i32 126] 0]] true])
theorem pre4:scodes cxFm 100 469 19 0 65535 [fstC b469,fstC (sndC b469),fstC (sndC (sndC b469)),fstC (sndC (sndC (sndC b469)))] [] []=some st4:=by kernel_rfl
end Go.Proofs.Tryz
namespace Go.Proofs.Tryz
open Go Go.Fw Go.RowKit
set_option maxRecDepth 100000
theorem btw_vr{S:SSto}{σ:Sto}{a b:Int}{d:D}(h:VR S σ (.func (.func 603) [] [.rc [.int .i32 a] 0,.rc [.int .i32 b] 0]) d):d=btw a b:=by
 simp only[VR,VRs]at h
 obtain⟨da,db,rfl,rfl,e,es,rfl,⟨ds,rfl,x,xs,rfl,rfl,rfl⟩,e2,es2,rfl,⟨ds2,rfl,x2,xs2,rfl,rfl,rfl⟩,rfl⟩:=h
 rfl
theorem last4:ops4[20]? =some (oAt 20)∧(oAt 20).dst=some 0:=⟨by kernel_rfl,by kernel_rfl⟩
theorem forms_ok:PureOK prog 469 [] (.pmap formsK formsV):=by
 obtain⟨fn,hfn⟩:=Option.isSome_iff_exists.1 (by kernel_rfl:(okF prog 469).isSome=true)
 obtain⟨g1,_⟩:=fok_of hfn
 have hN:fn.ntmps=19:=by
  have:((okF prog 469).map (·.ntmps))=some 19:=by kernel_rfl
  rw[hfn]at this;simpa using this
 have hb:fn.body=some b469:=by
  have:((okF prog 469).bind (·.body))=some b469:=by kernel_rfl
  rw[hfn]at this;simpa using this
 have hr:fn.results.toList=[.tmp 0]:=by
  have:((okF prog 469).map fun f=>f.results.toList)=some [.tmp 0]:=by kernel_rfl
  rw[hfn]at this;simpa using this
 refine pure_of_callG (i:=0) rfl (by kernel_rfl) (acall_gho (R:=fun d' _=>d' = .pmap formsK formsV) tok g1 hb (by simp) ?_)
 rw[body4]
 refine scodes_ok (cx:=cxFm) (n:=100) (fid:=469) (lr:=65535) (fn:=fn) (body:=b469) (r:=st4) cxFm_ok (fun e h=>by cases h) g1 hb _ [] [] (env0 0 []) [] (fun c hc=> ?_) (by rw[hN];exact pre4) (fun t v hv=>by cases hv) ⟨rfl,fun l o hl=>by simp at hl⟩ ?_
 ·have:∀k:Nat,loopsOf k c=[]:=by
   simp only[List.mem_cons,List.not_mem_nil,or_false]at hc
   have r0:fstC b469= .region 0 (opsOf (fstC b469)) false:=by kernel_rfl
   have r1:fstC (sndC b469)= .region 1 (opsOf (fstC (sndC b469))) false:=by kernel_rfl
   have r2:fstC (sndC (sndC b469))= .region 2 (opsOf (fstC (sndC (sndC b469)))) false:=by kernel_rfl
   have r3:fstC (sndC (sndC (sndC b469)))= .region 3 (opsOf (fstC (sndC (sndC (sndC b469))))) false:=by kernel_rfl
   intro k
   rcases hc with rfl|rfl|rfl|rfl
   ·rw[r0];rfl
   ·rw[r1];rfl
   ·rw[r2];rfl
   ·rw[r3];rfl
  intro k b hb
  rw[this]at hb;cases hb
 intro τ2 σ2 hE hS _
 obtain⟨a1,h1,v1⟩:=hE 1 (.func (.func 556) [] []) rfl
 obtain⟨a2,h2,v2⟩:=hE 2 (.raw (.ptr 0 0 0)) rfl
 obtain⟨a3,h3,v3⟩:=hE 3 (.func (.func 559) [] [.rc [.func (.func 603) [] [.rc [.int .i32 32] 0,.rc [.int .i32 126] 0]] 0]) rfl
 have e1:a1=q1:=by
  simp only[VR,VRs]at v1
  obtain⟨_,_,rfl,rfl,rfl⟩:=v1
  rfl
 have e2:a2= .ptr 0 0 0:=by simpa only[VR] using v2
 have e3:a3=q3:=by
  rw[VR]at v3
  obtain⟨da,db,rfl,w1,w2⟩:=v3
  rw[VRs]at w1
  subst w1
  rw[VRs]at w2
  obtain⟨e,es,rfl,w3,w4⟩:=w2
  rw[VRs]at w4
  subst w4
  rw[VR]at w3
  obtain⟨ds,rfl,w5⟩:=w3
  rw[VRs]at w5
  obtain⟨e',es',rfl,w6,w7⟩:=w5
  rw[VRs]at w7
  subst w7
  rw[btw_vr w6]
  rfl
 subst e1 e2 e3
 obtain⟨ob,hob,x⟩:=hS.obj 0 _ rfl
 obtain⟨ds,fr,rfl,_,w⟩:=x
 rw[VRs]at w
 obtain⟨e,es,rfl,w1,w2⟩:=w
 rw[VRs]at w2
 subst w2
 have:=btw_vr w1
 subst this
 have hσ:σ2=[.cells [dB] fr 0]:=by
  have hl:=hS.len
  match σ2,hl,hob with
  |[y],_,hob=>simp at hob;rw[hob];rfl
  |[],hl,_=>cases hl
  |_::_::_,hl,_=>simp[st4]at hl
 subst hσ
 refine awp_seq (AWp.mono ?_ (fun e τ σ (x:e= .normal∧∃ord:List Nat,ord.Nodup∧(∀i,i ∈ ord↔(i<ops4.size∧isIns (row4 i).k=true))∧τ=[(0,D.map 1)]∧σ=[.cells [dB] fr 0]++[mapOf row4 ord])=> ?_))
 ·rw[r4_eq,hN]
  refine AWp.sub (τ' :=env4) ((soup_any (soup4 fr) (τf:=[(0,D.map 1)]) (fun ord o1 o2=>⟨rfl,ord,o1,o2,rfl,rfl⟩) (fun t d hg=> ?_)).awp mixedF) fun t d hg=> ?_
  ·simp only[Fw.get]at hg
   split at hg
   ·rename_i e;subst e;cases hg
    exact .inl ⟨20,_,last4.1,last4.2,rfl⟩
   ·cases hg
  ·simp only[env4,Fw.get]at hg
   split at hg
   ·rename_i e;subst e;cases hg;exact h1
   ·split at hg
    ·rename_i e;subst e;cases hg;exact h2
    ·split at hg
     ·rename_i e;subst e;cases hg;exact h3
     ·cases hg
 ·obtain⟨rfl,ord,o1,o2,rfl,rfl⟩:=x
  refine awp_ret ⟨.inr rfl,.map 1,by rw[hr];rfl,.pmap formsK formsV,([AObj.cells [dB] fr 0]++[mapOf row4 ord]).set 1 .gone,rfl,fun B G w v hR hv=> ?_⟩
  obtain⟨G',l1,R1,r1⟩:=freezeMap_ok (l:=1) (ks:=ord.map fun i=>(row4 i).key) (vs:=ord.map fun i=>(row4 i).val) hR rfl hv
  exact⟨G',l1,R1,pmap_of_cmap r1 rfl (perm4 o1 o2)⟩
end Go.Proofs.Tryz
namespace Go.Fw
def Ksp:List (FuncId×List D×D)→(FuncId→List D→Option D)→FuncId→List D→Option D
 |[],K=>K
 |(g,ds,d)::r,K=>fun f es=>match Nat.beq g f&&wkBs es ds with
  |true=>some d
  |false=>Ksp r K f es
def SpOk(P:Program):List (FuncId×List D×D)→Prop
 |[]=>True
 |(g,ds,d)::r=>(FnOk P g∧PureOK P g ds d)∧SpOk P r
theorem Ksp_ok{P:Program}{K:FuncId→List D→Option D}(hK:KOk P K):∀(L:List (FuncId×List D×D)),SpOk P L→KOk P (Ksp L K)
 |[],_=>hK
 |(g,ds,d)::r,h=>by
  intro f es d' hd
  unfold Ksp at hd
  split at hd
  ·rename_i hb
   simp only[Bool.and_eq_true]at hb
   obtain rfl:=Nat.eq_of_beq_eq_true hb.1
   cases hd
   exact⟨h.1.1,h.1.2.weaks (wkBs_ok _ _ hb.2)⟩
  ·exact Ksp_ok hK r h.2 f es d' hd
def runB(call:CallF) (f:FuncId) (ds:List D) (e:D):Bool:=pureL ds&&match call f ds [] with
 |some (d,σ)=>(match frzR σ d with
  |some (d',_)=>d'.pure&&wkB d' e
  |none=>false)
 |none=>false
theorem runB_ok{P:Program}{call:CallF}(hC:CallsOk P call) {f:FuncId}{ds:List D}{e:D}(h:runB call f ds e=true):FnOk P f∧PureOK P f ds e:=by
 unfold runB at h
 rw[Bool.and_eq_true]at h
 obtain⟨h0,h⟩:=h
 split at h<;>try (cases h;done)
 rename_i d σ h1
 split at h<;>try (cases h;done)
 rename_i d' σ' h2
 rw[Bool.and_eq_true]at h
 obtain⟨h3,h4⟩:=hC _ _ _ _ _ h1
 exact⟨h3,(pure_of_call h0 (h4.mono (by rintro d'' s ⟨rfl,rfl⟩;exact⟨_,h2,h.1⟩))).weak (wkB_ok _ _ h.2)⟩
end Go.Fw
namespace Go.Proofs.Tryz
open Go Go.Fw
set_option maxRecDepth 100000
set_option maxHeartbeats 1000000
noncomputable def KB:List (FuncId×Ctr):=[(10,k_Hex),(63,k_Join),(38,k_Rep),(40,k_Itoa),(213,k_slices_Concat_byte_byte 300)]
theorem KB_ok:CtrsOk prog KB:=⟨c_Hex,c_Join,c_Rep,c_Itoa,c_slices_Concat_byte_byte 300,trivial⟩
noncomputable def KF:FuncId→List D→Option D:=fun f ds=>match Nat.beq f 133,ds with
 |true,[.list cs m _]=>(match Nat.beq cs.length (m*1)&&(cs.all D.isCell&&(pureL cs&&Nat.ble (m*1) limit)) with
  |true=>some (.list cs m (Nat.beq m 0))
  |false=>none)
 |_,_=>Kof KB f ds
theorem KF_ok:KOk prog KF:=by
 intro f ds d h
 unfold KF at h
 split at h
 ·rename_i cs m f' hf
  obtain rfl:f=133:=Nat.eq_of_beq_eq_true hf
  split at h<;>try (cases h;done)
  rename_i hc
  simp only[Bool.and_eq_true]at hc
  cases h
  exact⟨fnok133,cloneK (Nat.eq_of_beq_eq_true hc.1) hc.2.1 hc.2.2.1 (Nat.le_of_ble_eq_true hc.2.2.2)⟩
 ·exact Kof_ok KB KB_ok _ _ _ h
def bs7:List UInt8:=[48,5,2,1,5,49,0]
def nd1:Fw.Node:= .mk 0 2 false [5] []
def nd2:Fw.Node:= .mk 0 17 true [] []
def nd0:Fw.Node:= .mk 0 16 true [] [nd1,nd2]
def noO:FuncId→Bool:=fun _=>false
theorem runKB{f:FuncId}{ds:List D}{e:D}(h:runB (xcallO noO KF prog T 60) f ds e=true):PureOK prog f ds e:=(runB_ok (xcallO_ok tok KF_ok mixed 60) h).2
theorem parse7:PureOK prog 33 [.list (flatE byteE bs7) bs7.length false] (.tuple [.agg (nodeCells nd0),.agg [.int .i64 0,.int .i64 0]]):=runKB (by kernel_rfl)
def isN(n:Fw.Node) (k:Int):Bool:=match n with
 | .mk _ m _ _ _=>decide (m=k)
def encE(n:Fw.Node):List UInt8:=bif isN n 2 then [2,1,5] else [49,0]
def idbE(n:Fw.Node):UInt8:=bif isN n 2 then 2 else bif isN n 17 then 49 else 48
def E7:NodeFn:=⟨encE,idbE⟩
def Q7(d:Int) (x:Fw.Node):Prop:=(d=0∧x=nd0)∨(d=1∧(x=nd1∨x=nd2))
theorem enc1:PureOK prog 37 [.agg (nodeCells nd1)] (.tuple [.list (flatE byteE (encE nd1)) (encE nd1).length false,.int .i64 0]):=runKB (by kernel_rfl)
theorem enc2:PureOK prog 37 [.agg (nodeCells nd2)] (.tuple [.list (flatE byteE (encE nd2)) (encE nd2).length false,.int .i64 0]):=runKB (by kernel_rfl)
theorem idb0:PureOK prog 39 [.agg (nodeCells nd0)] (.int .u8 ((idbE nd0).toNat:Int)):=runKB (by kernel_rfl)
theorem idb1:PureOK prog 39 [.agg (nodeCells nd1)] (.int .u8 ((idbE nd1).toNat:Int)):=runKB (by kernel_rfl)
theorem idb2:PureOK prog 39 [.agg (nodeCells nd2)] (.int .u8 ((idbE nd2).toNat:Int)):=runKB (by kernel_rfl)
theorem E7_good:E7.Good Q7:=by
 refine⟨?_,?_,?_,?_,?_⟩
 ·rintro d x (⟨rfl,rfl⟩|⟨rfl,rfl|rfl⟩) k hk
  ·simp only[nd0,Fw.Node.kids,List.mem_cons,List.not_mem_nil,or_false]at hk
   exact .inr ⟨rfl,hk⟩
  ·simp[nd1,Fw.Node.kids]at hk
  ·simp[nd2,Fw.Node.kids]at hk
 ·rintro d x (⟨rfl,rfl⟩|⟨rfl,_⟩)<;>decide
 ·rintro d x (⟨rfl,rfl⟩|⟨rfl,rfl|rfl⟩) k hk
  ·simp only[nd0,Fw.Node.kids,List.mem_cons,List.not_mem_nil,or_false]at hk
   rcases hk with rfl|rfl
   ·exact⟨_,_,enc1⟩
   ·exact⟨_,_,enc2⟩
  ·simp[nd1,Fw.Node.kids]at hk
  ·simp[nd2,Fw.Node.kids]at hk
 ·rintro d x (⟨rfl,rfl⟩|⟨rfl,rfl|rfl⟩)
  ·exact idb0
  ·exact idb1
  ·exact idb2
 ·rintro d x (⟨rfl,rfl⟩|⟨rfl,rfl|rfl⟩)<;>decide
theorem lines7:PureOK prog 17 [.list (flatE byteE bs7) bs7.length false] (.tuple [.list (flatE strEk ((preN 0 nd0).map E7.line)) (preN 0 nd0).length false,.agg [.int .i64 0,.int .i64 0]]):=
 lines_ok E7 Q7 E7_good bs7 false nd0 (.inl ⟨rfl,rfl⟩) (by decide) parse7
def ln3:D:= .tuple [.list [.str [51,48,32,53],.str [32,32,48,50,32,49],.str [32,32,51,49,32,48]] 3 false,.agg [.int .i64 0,.int .i64 0]]
theorem lines7' :PureOK prog 17 [.list (flatE byteE bs7) bs7.length false] ln3:=by
 have h:((.tuple [.list (flatE strEk ((preN 0 nd0).map E7.line)) (preN 0 nd0).length false,.agg [.int .i64 0,.int .i64 0]]):D)=ln3:=by kernel_rfl
 rw[←h];exact lines7
end Go.Proofs.Tryz
namespace Go.Proofs.Tryz
open Go Go.Fw
set_option maxRecDepth 100000
set_option maxHeartbeats 1000000
theorem fnokW(f:FuncId) (h:(okF prog f).isSome=true):FnOk prog f:=by
 obtain⟨fn,hfn⟩:=Option.isSome_iff_exists.1 h
 exact(fok_of hfn).2
def cnId:List UInt8:=[50,46,53,46,52,46,51]
def spL:List (FuncId×List D×D):=[(17,[.list (flatE byteE bs7) bs7.length false],ln3),(184,[.str cnId],.str [67,78]),(469,[],.pmap formsK formsV),(108,[.list [.int .u8 1] 1 false],.str [49])]
theorem spL_ok:SpOk prog spL:=⟨⟨fnokW 17 (by kernel_rfl),lines7'⟩,⟨fnokW 184 (by kernel_rfl),label_ok cnId⟩,⟨fnokW 469 (by kernel_rfl),forms_ok⟩,⟨fnokW 108 (by kernel_rfl),dec_ok⟩,trivial⟩
def OAw:FuncId→Bool:=fun f=>Nat.beq f 98
theorem awake_ok:PureOK prog 7 [] (.bool true):=(runB_ok (xcallO_ok (O:=OAw) tok (Ksp_ok KF_ok spL spL_ok) mixed 60) (by kernel_rfl)).2
theorem c_awakeD:CtrOk prog 7 k_awakeD:=by
 refine⟨fnokW 7 (by kernel_rfl),rfl,rfl,?_⟩
 intro x y hy
 have hy:F_awakeD=some y:=hy
 unfold F_awakeD at hy
 cases hy
 refine⟨.bool true,rfl,fun _ _=>by simp only[SV.can,VR],?_⟩
 intro vs hvs ds hds
 cases hvs
 simp only[VRs]at hds
 subst hds
 exact awake_ok
end Go.Proofs.Tryz
