/- A framework for proofs about Go programs in this model: part N. Everything is proved; no condition is added. -/
import Derived.Test.YtgliijeioigckaaGreatDoorFwM
import Derived.Test.YtgliijeioigckaaGreatDoorFwF
set_option linter.unusedVariables false
set_option linter.unusedSimpArgs false
namespace Go.Proofs.Tryz
open Go Go.Fw
set_option maxHeartbeats 1000000
noncomputable def k_internal_stringslite_IndexByte_v1:Ctr:=⟨[.slit [48,49,50,51,52,53,54,55,56,57,97,98,99,100,101,102],.hole (.int .u8)],.hole (.int .i64),fun(x:Int)=>F_internal_stringslite_IndexByte_v1 x⟩
noncomputable def x_internal_stringslite_IndexByte_v1(L:List LoopC):Cx:=⟨prog,T,hH,hO,[],[],[],L,.nil⟩
theorem c_internal_stringslite_IndexByte_v1:CtrOk prog 61 (k_internal_stringslite_IndexByte_v1):=fun_ok (cx:=x_internal_stringslite_IndexByte_v1 []) tok mixed trivial trivial trivial trivial 61 _ (by kernel_rfl) (by kernel_rfl) (by intro x;kernel_rfl)
noncomputable def k_strings_IndexByte_v1:Ctr:=⟨[.slit [48,49,50,51,52,53,54,55,56,57,97,98,99,100,101,102],.hole (.int .u8)],.hole (.int .i64),fun(x:Int)=>F_strings_IndexByte_v1 x⟩
noncomputable def x_strings_IndexByte_v1(L:List LoopC):Cx:=⟨prog,T,hH,hO,[(61,k_internal_stringslite_IndexByte_v1)],[],[],L,.nil⟩
theorem c_strings_IndexByte_v1:CtrOk prog 31 (k_strings_IndexByte_v1):=fun_ok (cx:=x_strings_IndexByte_v1 []) tok mixed ⟨c_internal_stringslite_IndexByte_v1,trivial⟩ trivial trivial trivial 31 _ (by kernel_rfl) (by kernel_rfl) (by intro x;kernel_rfl)
noncomputable def k_dump_ParseHex(N:Nat):Ctr:=⟨[.hole .str],.tup [.hole (.sl .byte),.hole (.pair (.int .i64) (.int .i64))],fun(x:Bs)=>F_dump_ParseHex N x⟩
noncomputable def x_dump_ParseHex(N:Nat) (L:List LoopC):Cx:=⟨prog,T,hH,hO,[(31,k_strings_IndexByte_v1)],[],[],L,.nil⟩
noncomputable def h_dump_ParseHex_l0:Pat:=⟨[(0,.hole .str),(3,.ptr 0 0),(4,.own 1),(5,.hole (.int .i64))],[.cells [.ilit .i64 0,.ilit .i64 0] false,.arr .byte false false]⟩
noncomputable def q_dump_ParseHex_l0:Exits:=[(.ret,⟨[(2,.nils),(3,.ptr 0 0)],[.cells [.ilit .i64 11,.hole (.int .i64)] false,.junk]⟩),(.exit 0,⟨[(3,.ptr 0 0),(4,.own 1)],[.cells [.ilit .i64 0,.ilit .i64 0] false,.arr .byte false false]⟩)]
noncomputable def e_dump_ParseHex_l0(N n:Nat):LoopC:=⟨11,3,0,h_dump_ParseHex_l0,q_dump_ParseHex_l0,fun x=>F_dump_ParseHex_l0 N n x⟩
theorem l_dump_ParseHex_l0(N:Nat):∀n,LOk prog (e_dump_ParseHex_l0 N n):=loopc_ok (cx:=x_dump_ParseHex N []) tok mixed ⟨c_strings_IndexByte_v1,trivial⟩ trivial trivial trivial 11 3 0 h_dump_ParseHex_l0 q_dump_ParseHex_l0 (fun n x=>F_dump_ParseHex_l0 N n x) (by kernel_rfl) (by kernel_rfl) (fun _=>rfl) (by intro n x;kernel_rfl)
theorem c_dump_ParseHex(N:Nat):CtrOk prog 11 (k_dump_ParseHex N):=fun_ok (cx:=x_dump_ParseHex N [e_dump_ParseHex_l0 N N]) tok mixed ⟨c_strings_IndexByte_v1,trivial⟩ trivial trivial ⟨l_dump_ParseHex_l0 N N,trivial⟩ 11 _ (by kernel_rfl) (by kernel_rfl) (by intro x;kernel_rfl)
noncomputable def k_cbase_Bytes:Ctr:=⟨[.hole (.sl .byte),.hole (.sl .byte)],.hole .bool,fun(x:Bs×Bs)=>F_cbase_Bytes x.1 x.2⟩
noncomputable def x_cbase_Bytes(L:List LoopC):Cx:=⟨prog,T,hH,hO,[],[],[],L,.nil⟩
theorem c_cbase_Bytes:CtrOk prog 13 (k_cbase_Bytes):=fun_ok (cx:=x_cbase_Bytes []) tok mixed trivial trivial trivial trivial 13 _ (by kernel_rfl) (by kernel_rfl) (by intro x;kernel_rfl)
end Go.Proofs.Tryz
namespace Go.Fw
open Go Go.RowKit
theorem wadd_n{a b:Nat}(h:a+b<9223372036854775808):wadd .i64 (a:Int) (b:Int)=((a+b:Nat):Int):=by
 show IntKind.i64.wrap ((a:Int)+(b:Int))=_
 rw[Go.IntWalk.i64_in _ (by omega)]
 omega
theorem ix_n{α:Type}{l:List α}{i:Nat}{x:α}(h:l[i]? =some x):ix l (i:Int)=some x:=by
 unfold ix
 rw[if_pos (Int.natCast_nonneg i)]
 exact h
def hv(b:UInt8):Int:=extIndex ([48,49,50,51,52,53,54,55,56,57,97,98,99,100,101,102]:Bs) (b.toNat:Int)
def oiEq(o:Option Int) (i:Int):Bool:=match o with|some x=>(match x,i with| .ofNat a,.ofNat b=>Nat.beq a b| .negSucc a,.negSucc b=>Nat.beq a b|_,_=>false)|none=>false
theorem oiEq_eq{o:Option Int}{i:Int}(h:oiEq o i=true):o=some i:=by
 unfold oiEq at h
 split at h
 ·split at h
  ·rw[Nat.eq_of_beq_eq_true h]
  ·rw[Nat.eq_of_beq_eq_true h]
  ·cases h
 ·cases h
def hvN(n:Nat):Int:=extIndex ([48,49,50,51,52,53,54,55,56,57,97,98,99,100,101,102]:Bs) (Int.ofNat n)
set_option maxRecDepth 100000 in
theorem hv_all:((List.range 256).all fun n=>match hvN n with| .ofNat k=>Nat.blt k 16&&Nat.beq (hexAt k).toNat n| .negSucc _=>true)=true:=by kernel_rfl
theorem hv_lt{b:UInt8}{k:Nat}(h:hv b=(k:Int)):k<16∧hexAt k=b:=by
 have:=List.all_eq_true.1 hv_all b.toNat (List.mem_range.2 b.toNat_lt)
 rw[show hvN b.toNat=Int.ofNat k from h]at this
 simp only[Bool.and_eq_true]at this
 have h1:k+1≤16:=Nat.le_of_ble_eq_true this.1
 exact⟨by omega,UInt8.toNat_inj.1 (Nat.eq_of_beq_eq_true this.2)⟩
theorem hv_hex{k:Nat}(h:k<16):hv (hexAt k)=(k:Int):=by
 have:∀k:Fin 16,hv (hexAt k.val)=(k.val:Int):=by
  have h2:((List.range 16).all fun k=>oiEq (some (hv (hexAt k))) (Int.ofNat k))=true:=by kernel_rfl
  intro k
  have:=oiEq_eq (List.all_eq_true.1 h2 k.val (List.mem_range.2 k.isLt))
  exact Option.some.inj this
 exact this ⟨k,h⟩
def byH(a b:Int):UInt8:=UInt8.ofNat (16*a.toNat+b.toNat)
def pr(acc:Bs) (i:Int):Bs→Int⊕Bs
 |[]=> .inr acc
 |[_]=> .inl i
 |x::y::r=>if hv x<0 then .inl i else if hv y<0 then .inl i else pr (acc++[byH (hv x) (hv y)]) (i+2) r
def rr(acc:Bs):Bs→Unit⊕Bs
 |[]=> .inr acc
 |[_]=> .inr acc
 |x::y::r=>if hv x<0 then .inl () else if hv y<0 then .inl () else rr (acc++[byH (hv x) (hv y)]) r
theorem byte_pr_all:((List.range 16).all fun a=>(List.range 16).all fun b=>match toB (IntKind.wrap .u8 (bits .or .i64 (wshl .i64 (Int.ofNat a) 4) (Int.ofNat b))),toB (IntKind.wrap .u8 (wadd .i64 (wmul .i64 16 (Int.ofNat a)) (Int.ofNat b))) with
 |some x,some y=>Nat.beq x.toNat (16*a+b)&&Nat.beq y.toNat (16*a+b)|_,_=>false)=true:=by kernel_rfl
theorem byte_pr{a b:Nat}(ha:a<16) (hb:b<16):toB (IntKind.wrap .u8 (bits .or .i64 (wshl .i64 (a:Int) 4) (b:Int)))=some (byH a b)∧toB (IntKind.wrap .u8 (wadd .i64 (wmul .i64 16 (a:Int)) (b:Int)))=some (byH a b):=by
 have:=List.all_eq_true.1 (List.all_eq_true.1 byte_pr_all a (List.mem_range.2 ha)) b (List.mem_range.2 hb)
 have e:∀x:UInt8,Nat.beq x.toNat (16*a+b)=true→x=byH a b:=fun x h=>by
  have h:=Nat.eq_of_beq_eq_true h
  apply UInt8.toNat_inj.1
  rw[h,show byH a b=UInt8.ofNat (16*a+b) from rfl,UInt8.toNat_ofNat_of_lt' (by show _<256;omega)]
 split at this
 ·rename_i x y h1 h2
  simp only[Bool.and_eq_true]at this
  constructor
  ·rw[show(a:Int)=Int.ofNat a from rfl,show(b:Int)=Int.ofNat b from rfl,h1,e x this.1];rfl
  ·rw[show(a:Int)=Int.ofNat a from rfl,show(b:Int)=Int.ofNat b from rfl,h2,e y this.2];rfl
 ·cases this
theorem app1(l:Bs) (b:UInt8) (h:l.length<1000000):app 1 l [b]=some (l++[b]):=by
 unfold app
 rw[if_pos]
 have:(1000001:Nat)≤limit:=by decide
 simp only[List.length_singleton]
 omega
theorem hv_cases(b:UInt8):hv b<0∨∃k:Nat,hv b=(k:Int)∧k<16:=by
 cases h:hv b with
 |negSucc n=>exact .inl (by omega)
 |ofNat k=>exact .inr ⟨k,rfl,(hv_lt (b:=b) (k:=k) h).1⟩
theorem pr_loop(N:Nat):∀(n:Nat) (s acc:Bs) (i:Nat),s.length+1<n+i→acc.length+s.length<1000000+i→s.length<1000000→i≤s.length→F_dump_ParseHex_l0 N n (s,(i:Int),acc)=some (pr acc (i:Int) (s.drop i))
 |0,s,acc,i,h1,h2,h3,h4=>by omega
 |n+1,s,acc,i,h1,h2,h3,h4=>by
  have step:F_dump_ParseHex_l0 N (n+1) (s,(i:Int),acc)=
   (bif decide ((i:Int)<(s.length:Int)) then(
     bif (wadd .i64 (i:Int) 1==(s.length:Int)) then(
     some (Sum.inl (i:Int)))
     else
     (ix s (i:Int)).bind fun b4=>
     (F_strings_IndexByte_v1 (b4.toNat:Int)).bind fun i5=>
     (ix s (wadd .i64 (i:Int) 1)).bind fun b6=>
     (F_strings_IndexByte_v1 (b6.toNat:Int)).bind fun i7=>
     bif decide (i5<0) then(
     some (Sum.inl (i:Int)))
     else
     bif decide (i7<0) then(
     some (Sum.inl (i:Int)))
     else
     (toB (IntKind.wrap .u8 (bits .or .i64 (wshl .i64 i5 4) i7))).bind fun b8=>
     (app 1 acc [b8]).bind fun l9=>
     F_dump_ParseHex_l0 N n (s,wadd .i64 (i:Int) 2,l9))
     else
     some (Sum.inr acc)):=rfl
  rw[step]
  rw[show wadd .i64 (i:Int) 1=((i+1:Nat):Int) from wadd_n (b:=1) (by omega),show wadd .i64 (i:Int) 2=((i+2:Nat):Int) from wadd_n (b:=2) (by omega)]
  rcases Nat.lt_or_ge i s.length with hi|hi
  ·rw[decide_eq_true (show(i:Int)<(s.length:Int) by omega)]
   rcases Nat.lt_or_ge (i+1) s.length with hj|hj
   ·rw[beq_eq_false_iff_ne.2 (show((i+1:Nat):Int)≠(s.length:Int) by omega)]
    have g0:=List.getElem?_eq_getElem hi
    have g1:=List.getElem?_eq_getElem hj
    have hd:s.drop i=s[i]::s[i+1]::s.drop (i+2):=by
     rw[List.drop_eq_getElem_cons hi,List.drop_eq_getElem_cons hj]
    rw[ix_n g0,ix_n g1,hd]
    generalize s[i]=x at*
    generalize s[i+1]=y at*
    simp only[cond_true,cond_false,Option.bind_some]
    rw[show F_strings_IndexByte_v1 (x.toNat:Int)=some (hv x) from rfl,show F_strings_IndexByte_v1 (y.toNat:Int)=some (hv y) from rfl]
    simp only[Option.bind_some,pr]
    rcases hv_cases x with hx|⟨a,hx,ha⟩
    ·rw[decide_eq_true hx,if_pos hx];rfl
    ·rw[hx,decide_eq_false (show ¬(a:Int)<0 by omega),if_neg (show ¬(a:Int)<0 by omega)]
     rcases hv_cases y with hy|⟨b,hy,hb⟩
     ·rw[decide_eq_true hy,if_pos hy];rfl
     ·rw[hy,decide_eq_false (show ¬(b:Int)<0 by omega),if_neg (show ¬(b:Int)<0 by omega),(byte_pr ha hb).1]
      simp only[cond_false,Option.bind_some]
      rw[app1 _ _ (by omega)]
      simp only[Option.bind_some]
      rw[pr_loop N n s _ (i+2) (by omega) (by rw[List.length_append,List.length_singleton];omega) h3 (by omega)]
      rfl
   ·rw[show((i+1:Nat):Int)=(s.length:Int) from by omega,beq_self_eq_true,List.drop_eq_getElem_cons hi,List.drop_eq_nil_of_le (by omega)]
    rfl
  ·rw[decide_eq_false (show ¬(i:Int)<(s.length:Int) by omega),List.drop_eq_nil_of_le (by omega)]
   rfl
theorem pr_rr:∀(n:Nat) (r acc:Bs) (i:Int),r.length<n→0≤i→
 (∃m,pr acc i r= .inr (acc++m)∧rr acc r= .inr (acc++m)∧hexL m=r)∨(∃j,pr acc i r= .inl j∧i≤j∧j≤i+r.length∧(rr acc r= .inl ()∨r.length % 2=1))
 |0,_,_,_,h,_=>by omega
 |n+1,[],acc,i,_,_=> .inl ⟨[],by rw[List.append_nil];rfl,by rw[List.append_nil];rfl,rfl⟩
 |n+1,[x],acc,i,_,_=> .inr ⟨i,rfl,Int.le_refl i,by simp;omega,.inr rfl⟩
 |n+1,x::y::r,acc,i,h,h0=>by
  simp only[pr,rr,List.length_cons]at h⊢
  rcases hv_cases x with hx|⟨a,hx,ha⟩
  ·rw[if_pos hx,if_pos hx]
   exact .inr ⟨i,rfl,Int.le_refl i,by omega,.inl rfl⟩
  ·rw[if_neg (show ¬hv x<0 by omega),if_neg (show ¬hv x<0 by omega)]
   rcases hv_cases y with hy|⟨b,hy,hb⟩
   ·rw[if_pos hy,if_pos hy]
    exact .inr ⟨i,rfl,Int.le_refl i,by omega,.inl rfl⟩
   ·rw[if_neg (show ¬hv y<0 by omega),if_neg (show ¬hv y<0 by omega)]
    rcases pr_rr n r (acc++[byH (hv x) (hv y)]) (i+2) (by omega) (by omega) with⟨m,h1,h2,h3⟩|⟨j,h1,h2,h3,h4⟩
    ·refine .inl ⟨byH (hv x) (hv y)::m,by rw[h1,List.append_assoc];rfl,by rw[h2,List.append_assoc];rfl,?_⟩
     rw[show hexL (byH (hv x) (hv y)::m)=[hexAt ((byH (hv x) (hv y)).toNat / 16),hexAt ((byH (hv x) (hv y)).toNat % 16)]++hexL m from by simp[hexL],h3,hx,hy]
     have e:(byH (a:Int) (b:Int)).toNat=16*a+b:=by
      rw[show byH (a:Int) (b:Int)=UInt8.ofNat (16*a+b) from rfl,UInt8.toNat_ofNat_of_lt' (by show _<256;omega)]
     rw[e,show(16*a+b) / 16=a from by omega,show(16*a+b) % 16=b from by omega,(hv_lt hx).2,(hv_lt hy).2]
     rfl
    ·exact .inr ⟨j,h1,by omega,by omega,h4.imp id (by omega)⟩
theorem pr_hex:∀(m acc:Bs) (i:Int),pr acc i (hexL m)= .inr (acc++m)
 |[],acc,i=>by rw[List.append_nil];rfl
 |x::m,acc,i=>by
  have hx:x.toNat<256:=x.toNat_lt
  rw[show hexL (x::m)=hexAt (x.toNat / 16)::hexAt (x.toNat % 16)::hexL m from by simp[hexL]]
  simp only[pr]
  rw[hv_hex (show x.toNat / 16<16 by omega),hv_hex (show x.toNat % 16<16 by omega),if_neg (by omega),if_neg (by omega),pr_hex m]
  have e:byH ((x.toNat / 16:Nat):Int) ((x.toNat % 16:Nat):Int)=x:=by
   apply UInt8.toNat_inj.1
   rw[show byH ((x.toNat / 16:Nat):Int) ((x.toNat % 16:Nat):Int)=UInt8.ofNat (16*(x.toNat / 16)+x.toNat % 16) from rfl,UInt8.toNat_ofNat_of_lt' (by show _<256;omega)]
   omega
  rw[e,List.append_assoc]
  rfl
theorem hexL_length:∀(l:Bs),(hexL l).length=2*l.length
 |[]=>rfl
 |x::l=>by
  have:=hexL_length l
  rw[show hexL (x::l)=hexAt (x.toNat / 16)::hexAt (x.toNat % 16)::hexL l from by simp[hexL]]
  simp only[List.length_cons,this]
  omega
def res1:Int⊕Bs→Bs×(Int×Int)
 | .inl i=>([],11,i)
 | .inr l=>(l,0,0)
theorem parse_val{N:Nat}{s:Bs}(hN:s.length+2<N) (hs:s.length<1000000):F_dump_ParseHex N s=some (res1 (pr [] 0 s)):=by
 unfold F_dump_ParseHex
 rw[show F_dump_ParseHex_l0 N N (s,0,[])=some (pr [] 0 s) from pr_loop N N s [] 0 (by omega) (by simp;omega) hs (by omega)]
 cases pr [] 0 s<;>rfl
theorem hexF_val{l:Bs}(h:l.length<1000000):F_Hex l=some (hexL l):=by
 unfold F_Hex
 rw[show Nat.ble l.length 70368744177664=true from Nat.ble_eq_true_of_le (by omega)]
 rfl
end Go.Fw
namespace Go.Fw
def F_CloneO(x:Bs):Option Bs:=app 1 [] x
noncomputable def k_CloneO:CtrO:=⟨[.hole (.sl .byte)],.byte,fun(x:Bs)=>F_CloneO x⟩
theorem cloneO_ctr{P:Program}{f:FuncId}(hf:FnOk P f) (h:∀{cs:List D}{n:Nat}{f' :Bool},cs.length=n*1→cs.all D.isCell=true→pureL cs=true→n*1≤limit→OwnOK P f [.list cs n f'] cs n 1):CtrOOk P f k_CloneO:=by
 refine⟨hf,rfl,fun(x:Bs) (y:Bs) hy=> ?_⟩
 have hy:F_CloneO x=some y:=hy
 unfold F_CloneO app at hy
 split at hy<;>cases hy
 rename_i hl
 intro vs hvs ds hds
 have:vs=[.sl .byte x false]:=by
  have h2:some ([SV.sl .byte x false],([]:List DV))=some (vs,[]):=hvs
  cases h2
  rfl
 subst this
 simp only[VRs,VR]at hds
 obtain⟨e,es,rfl,⟨f',rfl,_⟩,rfl⟩:=hds
 have h1:(TC.flat .byte x).length=x.length*1:=flatE_len (TC.enc .byte) x
 exact h h1 (flat_cell (TC.enc .byte) x) (TC.flat_pure .byte x) (by simp at hl;omega)
end Go.Fw
namespace Go.Proofs.Tryz
open Go Go.Fw
set_option maxHeartbeats 1000000
theorem cloneOwn{cs:List D}{n:Nat}{f:Bool}(hl:cs.length=n*1) (hc:cs.all D.isCell=true) (hp:pureL cs=true) (hb:n*1≤limit):OwnOK prog 133 [.list cs n f] cs n 1:=by
 have hp1:(D.list cs n f).pure=true:=by simp only[D.pure];exact hp
 refine own_of_callG (by simp only[pureL,hp1];rfl) hp ?_
 refine acall_gho tok func133 rfl (Nat.le_of_ble_eq_true rfl) ?_
 repeat first|refine awp_seq ?_|refine awp_region ?_
 refine go1 tok (noK_ok' _) rfl rfl rfl ?_
 repeat first|refine awp_seq ?_|refine awp_region ?_
 refine go1 tok (noK_ok' _) rfl rfl rfl ?_
 refine go_nilEq rfl rfl us_cl rfl rfl rfl (fun b hb0=> ?_)
 by_cases hn:n=0
 ·have hcs:cs=[]:=by subst hn;simpa using hl
  subst hn hcs
  cases b
  ·refine awp_condF rfl (awp_skip ?_)
   repeat first|refine awp_seq ?_|refine awp_region ?_
   repeat refine go1 tok (noK_ok' _) rfl rfl rfl ?_
   exact awp_ret ⟨.inr rfl,_,rfl,.sl 0 0 0 0 1 false,[.cells [] 0 0],⟨0,0,rfl,rfl⟩,fun B G w x hR hx=>⟨G,.refl G,hR.newObj,nil_own hx⟩⟩
  ·refine awp_condT rfl ?_
   repeat first|refine awp_seq ?_|refine awp_region ?_
   repeat refine go1 tok (noK_ok' _) rfl rfl rfl ?_
   exact awp_ret ⟨.inr rfl,_,rfl,.sl 0 0 0 0 1 false,[.cells [] 0 0],⟨0,0,rfl,rfl⟩,fun B G w x hR hx=>⟨G,.refl G,hR.newObj,nil_own hx⟩⟩
 ·have hb1:b=false:=by
   cases b with
   |false=>rfl
   |true=>have:=hb0 rfl;subst this;simp at hl;omega
  subst hb1
  refine awp_condF rfl (awp_skip ?_)
  repeat first|refine awp_seq ?_|refine awp_region ?_
  iterate 2 refine go1 tok (noK_ok' _) rfl rfl rfl ?_
  refine goA tok rfl (app_new rfl rfl rfl (by omega) hl hc hb (by omega)) rfl ?_
  repeat refine go1 tok (noK_ok' _) rfl rfl rfl ?_
  exact awp_ret ⟨.inr rfl,_,rfl,_,_,⟨_,_,rfl,rfl⟩,.refl _ _⟩
theorem c_CloneO:CtrOOk prog 133 k_CloneO:=cloneO_ctr (fok_of (f:=133) (fn:=f133) (by kernel_rfl)).2 cloneOwn
end Go.Proofs.Tryz
namespace Go.Fw
open Go
noncomputable section
def F_tlv_Identifier(a1:Int) (a2:Bool) (a3:Int):Option (Int×Int):=
 bif decide (a1<0) then(
 some (0,9))
 else
 bif decide (a1>3) then(
 some (0,9))
 else
 bif decide (a3<0) then(
 some (0,9))
 else
 bif decide (a3≥31) then(
 some (0,9))
 else
 ((
 bif a2 then(
 some (bits .or .u8 (IntKind.wrap .u8 (bits .or .i64 (wshl .i64 a1 6) a3)) 32))
 else
 some (IntKind.wrap .u8 (bits .or .i64 (wshl .i64 a1 6) a3)):Option (Int))).bind fun i1=>
 some (i1,0)
def F_tree_valid_l0(N:Nat) (R:Fw.Node→Int→Option Bool) (n:Nat):(List Fw.Node×Int×Int×Int×Int×Int×Bool×Bs×List Fw.Node×Int)→Option ((Int×Int×Int×Bool×Bs×List Fw.Node×Int)⊕(Int×Int×Bool×Bs×List Fw.Node×Int)):=Nat.rec (fun _=>none) (fun _ L (l3,i4,i5,i6,i7,i8,c9,l10,l11,i12)=>
 bif decide (i6<i5) then(
 (ix l3 i6).bind fun e13=>
 (R (Fw.Node.mk e13.cls e13.num e13.cons e13.body e13.kids) (wsub .i64 i4 1)).bind fun c14=>
 bif (!c14) then(
 some (Sum.inl (i6,i7,i8,c9,l10,l11,i12)))
 else
 L (l3,i4,i5,wadd .i64 i6 1,i7,i8,c9,l10,l11,i12))
 else
 some (Sum.inr (i7,i8,c9,l10,l11,i12))) n
def F_tree_valid(N n:Nat):Fw.Node→Int→Option Bool:=Nat.rec (fun _ _=>none) (fun _ R a1 a2=>
 (F_tlv_Identifier a1.cls a1.cons a1.num).bind fun(i1,i2)=>
 bif (i2 !=0) then(
 some false)
 else
 bif (a2==0) then(
 some false)
 else
 bif a1.cons then(
 bif decide ((a1.body.length:Int)>0) then(
 some false)
 else
 bif (!a1.cons) then(
 bif decide ((a1.kids.length:Int)>0) then(
 some false)
 else
 (F_tree_valid_l0 N R N (a1.kids,a2,(a1.kids.length:Int),0,a1.cls,a1.num,a1.cons,a1.body,a1.kids,a2)).bind fun y15=>(match y15 with
 |Sum.inl (i16,i17,i18,c19,l20,l21,i22)=>some (!(decide (i16≥0)))
 |Sum.inr ((i23,i24,c25,l26,l27,i28))=>some true))
 else
 (F_tree_valid_l0 N R N (a1.kids,a2,(a1.kids.length:Int),0,a1.cls,a1.num,a1.cons,a1.body,a1.kids,a2)).bind fun y29=>(match y29 with
 |Sum.inl (i30,i31,i32,c33,l34,l35,i36)=>some (!(decide (i30≥0)))
 |Sum.inr ((i37,i38,c39,l40,l41,i42))=>some true))
 else
 bif (!a1.cons) then(
 bif decide ((a1.kids.length:Int)>0) then(
 some false)
 else
 (F_tree_valid_l0 N R N (a1.kids,a2,(a1.kids.length:Int),0,a1.cls,a1.num,a1.cons,a1.body,a1.kids,a2)).bind fun y43=>(match y43 with
 |Sum.inl (i44,i45,i46,c47,l48,l49,i50)=>some (!(decide (i44≥0)))
 |Sum.inr ((i51,i52,c53,l54,l55,i56))=>some true))
 else
 (F_tree_valid_l0 N R N (a1.kids,a2,(a1.kids.length:Int),0,a1.cls,a1.num,a1.cons,a1.body,a1.kids,a2)).bind fun y57=>(match y57 with
 |Sum.inl (i58,i59,i60,c61,l62,l63,i64)=>some (!(decide (i58≥0)))
 |Sum.inr ((i65,i66,c67,l68,l69,i70))=>some true)) n
def F_tree_Valid(N:Nat) (a1:Fw.Node):Option Bool:=
 (F_tree_valid N N (Fw.Node.mk a1.cls a1.num a1.cons a1.body a1.kids) 16).bind fun c1=>
 some c1
def F_cursor_Minimal_l0(N n:Nat):(Int×Bs)→Option Bs:=Nat.rec (fun _=>none) (fun _ L (i2,l3)=>
 bif decide (i2>0) then(
 (toB (IntKind.wrap .u8 i2)).bind fun b4=>
 (app 1 l3 [b4]).bind fun l5=>
 L (wshr .u64 i2 8,l5))
 else
 some l3) n
def F_cursor_Minimal_l1(N n:Nat):(Int×Int×Bs)→Option Bs:=Nat.rec (fun _=>none) (fun _ L (i7,i8,l9)=>
 bif decide (i7<i8) then(
 bif inb i8 l9.length then(
 (ix l9 i8).bind fun b10=>
 bif inb i7 l9.length then(
 (ix l9 i7).bind fun b11=>
 bif inb i7 l9.length then(
 bif inb i7 l9.length then(
 (toB (b10.toNat:Int)).bind fun b12=>
 bif inb i8 (l9.set (Int.toNat i7) b12).length then(
 bif inb i8 (l9.set (Int.toNat i7) b12).length then(
 (toB (b11.toNat:Int)).bind fun b13=>
 L (wadd .i64 i7 1,wsub .i64 i8 1,(l9.set (Int.toNat i7) b12).set (Int.toNat i8) b13))
 else
 none)
 else
 none)
 else
 none)
 else
 none)
 else
 none)
 else
 none)
 else
 some l9) n
def F_cursor_Minimal(N:Nat) (a1:Int):Option Bs:=
 (toB (IntKind.wrap .u8 a1)).bind fun b1=>
 (F_cursor_Minimal_l0 N N (wshr .u64 a1 8,[b1])).bind fun l6=>
 (F_cursor_Minimal_l1 N N (0,wsub .i64 (l6.length:Int) 1,l6)).bind fun l14=>
 some l14
def F_tlv_Length(N:Nat) (a1:Int):Option (Bs×Int):=
 bif decide (a1<0) then(
 some ([],9))
 else
 bif decide (a1>2147483647) then(
 some ([],9))
 else
 (F_cursor_Minimal N (IntKind.wrap .u64 a1)).bind fun l1=>
 bif decide (a1<128) then(
 some (l1,0))
 else
 (toB (IntKind.wrap .u8 (wadd .i64 128 (l1.length:Int)))).bind fun b2=>
 (app 1 [b2] l1).bind fun l3=>
 some (l3,0)
def F_tlv_Encode(N:Nat) (a1:Int) (a2:Bool) (a3:Int) (a4:Bs):Option (Bs×Int):=
 (F_tlv_Identifier a1 a2 a3).bind fun(i1,i2)=>
 bif (i2 !=0) then(
 some ([],i2))
 else
 (F_tlv_Length N (a4.length:Int)).bind fun(l3,i4)=>
 bif (i4 !=0) then(
 some ([],i4))
 else
 (toB i1).bind fun b5=>
 (F_slices_Concat_byte_byte N ([[b5],l3,a4])).bind fun l6=>
 some (l6,0)
def F_tree_encode_l0(N:Nat) (R:Fw.Node→Option (Bs×Int)) (n:Nat):(List Fw.Node×Int×Int×Int×Int×Bool×Bs×List Fw.Node×Bs)→Option ((Int)⊕(Int×Int×Bool×Bs×List Fw.Node×Bs)):=Nat.rec (fun _=>none) (fun _ L (l2,i3,i4,i5,i6,c7,l8,l9,l10)=>
 bif decide (i4<i3) then(
 (ix l2 i4).bind fun e11=>
 (R (Fw.Node.mk e11.cls e11.num e11.cons e11.body e11.kids)).bind fun(l12,i13)=>
 bif (i13 !=0) then(
 some (Sum.inl i13))
 else
 (app 1 l10 l12).bind fun l14=>
 L (l2,i3,wadd .i64 i4 1,i5,i6,c7,l8,l9,l14))
 else
 some (Sum.inr (i5,i6,c7,l8,l9,l10))) n
def F_tree_encode(N n:Nat):Fw.Node→Option (Bs×Int):=Nat.rec (fun _=>none) (fun _ R a1=>
 (F_CloneO a1.body).bind fun l1=>
 (F_tree_encode_l0 N R N (a1.kids,(a1.kids.length:Int),0,a1.cls,a1.num,a1.cons,a1.body,a1.kids,l1)).bind fun y15=>(match y15 with
 |Sum.inl i16=>some ([],i16)
 |Sum.inr ((i17,i18,c19,l20,l21,l22))=>(F_tlv_Encode N i17 c19 i18 l22).bind fun(l23,i24)=>
 some (l23,i24))) n
def F_tree_Encode(N:Nat) (a1:Fw.Node):Option (Bs×Int):=
 (F_tree_Valid N (Fw.Node.mk a1.cls a1.num a1.cons a1.body a1.kids)).bind fun c1=>
 bif (!c1) then(
 some ([],8))
 else
 (F_tree_encode N N (Fw.Node.mk a1.cls a1.num a1.cons a1.body a1.kids)).bind fun(l2,i3)=>
 some (l2,i3)
end
end Go.Fw
namespace Go.Proofs.Tryz
open Go Go.Fw
set_option maxHeartbeats 1000000
noncomputable def hHb:Tr TC:=(.node (.node .nil 27 .byte .nil) 108 (.sl .byte) .nil)
noncomputable def hOb:Tr OH:=(.node (.node (.node .nil 4456454 (.cells [(4,.node)]) .nil) 4456459 .res (.node .nil 8650796 .frz .nil)) 13893653 (.build .byte) (.node (.node .nil 13959192 .res .nil) 20578310 (.build .byte) .nil))
noncomputable def j_tlv_Identifier:Tr Exits:=(.node .nil 4966060032 [(.normal,⟨[(8,.hole (.int .u8))],[]⟩)] .nil)
noncomputable def k_tlv_Identifier:Ctr:=⟨[.hole (.int .i64),.hole .bool,.hole (.int .i64)],.tup [.hole (.int .u8),.hole (.int .i64)],fun(x:Int×Bool×Int)=>F_tlv_Identifier x.1 x.2.1 x.2.2⟩
noncomputable def x_tlv_Identifier(L:List LoopC):Cx:=⟨prog,T,hHb,hOb,[],[],[],L,j_tlv_Identifier⟩
theorem c_tlv_Identifier:CtrOk prog 74 (k_tlv_Identifier):=fun_ok (cx:=x_tlv_Identifier []) tok mixed trivial trivial trivial trivial 74 _ (by kernel_rfl) (by kernel_rfl) (by intro x;kernel_rfl)
noncomputable def k_tree_valid(N m:Nat):Ctr:=⟨[.hole .node,.hole (.int .i64)],.hole .bool,fun(x:Fw.Node×Int)=>F_tree_valid N m x.1 x.2⟩
noncomputable def x_tree_valid(N m:Nat) (L:List LoopC):Cx:=⟨prog,T,hHb,hOb,[(74,k_tlv_Identifier),(132,k_tree_valid N m)],[],[],L,.nil⟩
noncomputable def h_tree_valid_l0:Pat:=⟨[(0,.hole (.sl .node)),(1,.func (.func 211) [] [.rc [.hole (.int .i64)] 0]),(7,.hole (.int .i64)),(8,.hole (.int .i64))],[.cells [.hole (.int .i64),.hole (.int .i64),.hole .bool,.hole (.sl .byte),.hole (.sl .node)] false,.cells [.hole (.int .i64)] true]⟩
noncomputable def q_tree_valid_l0:Exits:=[(.ret,⟨[(4,.hole (.int .i64))],[.cells [.hole (.int .i64),.hole (.int .i64),.hole .bool,.hole (.sl .byte),.hole (.sl .node)] false,.cells [.hole (.int .i64)] true]⟩),(.exit 0,⟨[],[.cells [.hole (.int .i64),.hole (.int .i64),.hole .bool,.hole (.sl .byte),.hole (.sl .node)] false,.cells [.hole (.int .i64)] true]⟩)]
noncomputable def e_tree_valid_l0(N m n:Nat):LoopC:=⟨313,2,2,h_tree_valid_l0,q_tree_valid_l0,fun x=>F_tree_valid_l0 N (F_tree_valid N m) n x⟩
theorem l_tree_valid_l0(N m:Nat) (hR:CtrOk prog 132 (k_tree_valid N m)):∀n,LOk prog (e_tree_valid_l0 N m n):=loopc_ok (cx:=x_tree_valid N m []) tok mixed ⟨c_tlv_Identifier,hR,trivial⟩ trivial trivial trivial 313 2 2 h_tree_valid_l0 q_tree_valid_l0 (fun n x=>F_tree_valid_l0 N (F_tree_valid N m) n x) (by kernel_rfl) (by kernel_rfl) (fun _=>rfl) (by intro n x;kernel_rfl)
theorem c_tree_valid(N:Nat):∀m,CtrOk prog 132 (k_tree_valid N m):=fun m=>Nat.rec (motive:=fun m=>CtrOk prog 132 (k_tree_valid N m)) (ctr0 132 _ (by kernel_rfl) (by kernel_rfl) (by intro x;kernel_rfl)) (fun m hR=>fun_ok (cx:=x_tree_valid N m [e_tree_valid_l0 N m N]) tok mixed ⟨c_tlv_Identifier,hR,trivial⟩ trivial trivial ⟨l_tree_valid_l0 N m hR N,trivial⟩ 132 (k_tree_valid N (m+1)) (by kernel_rfl) (by kernel_rfl) (by intro x;kernel_rfl)) m
noncomputable def k_tree_Valid(N:Nat):Ctr:=⟨[.hole .node],.hole .bool,fun(x:Fw.Node)=>F_tree_Valid N x⟩
noncomputable def x_tree_Valid(N:Nat) (L:List LoopC):Cx:=⟨prog,T,hHb,hOb,[(132,k_tree_valid N N)],[],[],L,.nil⟩
theorem c_tree_Valid(N:Nat):CtrOk prog 67 (k_tree_Valid N):=fun_ok (cx:=x_tree_Valid N []) tok mixed ⟨c_tree_valid N N,trivial⟩ trivial trivial trivial 67 _ (by kernel_rfl) (by kernel_rfl) (by intro x;kernel_rfl)
noncomputable def k_cursor_Minimal(N:Nat):Ctr:=⟨[.hole (.int .u64)],.hole (.sl .byte),fun(x:Int)=>F_cursor_Minimal N x⟩
noncomputable def x_cursor_Minimal(N:Nat) (L:List LoopC):Cx:=⟨prog,T,hHb,hOb,[],[],[],L,.nil⟩
noncomputable def h_cursor_Minimal_l0:Pat:=⟨[(0,.hole (.int .u64)),(3,.own 0)],[.arr .byte false false]⟩
noncomputable def q_cursor_Minimal_l0:Exits:=[(.exit 0,⟨[(3,.own 0)],[.arr .byte false false]⟩)]
noncomputable def e_cursor_Minimal_l0(N n:Nat):LoopC:=⟨314,3,0,h_cursor_Minimal_l0,q_cursor_Minimal_l0,fun x=>F_cursor_Minimal_l0 N n x⟩
theorem l_cursor_Minimal_l0(N:Nat):∀n,LOk prog (e_cursor_Minimal_l0 N n):=loopc_ok (cx:=x_cursor_Minimal N []) tok mixed trivial trivial trivial trivial 314 3 0 h_cursor_Minimal_l0 q_cursor_Minimal_l0 (fun n x=>F_cursor_Minimal_l0 N n x) (by kernel_rfl) (by kernel_rfl) (fun _=>rfl) (by intro n x;kernel_rfl)
noncomputable def h_cursor_Minimal_l1:Pat:=⟨[(0,.own 0),(2,.hole (.int .i64)),(3,.hole (.int .i64))],[.arr .byte false true]⟩
noncomputable def q_cursor_Minimal_l1:Exits:=[(.exit 0,⟨[],[.arr .byte false true]⟩)]
noncomputable def e_cursor_Minimal_l1(N n:Nat):LoopC:=⟨182,1,1,h_cursor_Minimal_l1,q_cursor_Minimal_l1,fun x=>F_cursor_Minimal_l1 N n x⟩
theorem l_cursor_Minimal_l1(N:Nat):∀n,LOk prog (e_cursor_Minimal_l1 N n):=loopc_ok (cx:=x_cursor_Minimal N [e_cursor_Minimal_l0 N N]) tok mixed trivial trivial trivial ⟨l_cursor_Minimal_l0 N N,trivial⟩ 182 1 1 h_cursor_Minimal_l1 q_cursor_Minimal_l1 (fun n x=>F_cursor_Minimal_l1 N n x) (by kernel_rfl) (by kernel_rfl) (fun _=>rfl) (by intro n x;kernel_rfl)
theorem c_cursor_Minimal(N:Nat):CtrOk prog 314 (k_cursor_Minimal N):=fun_ok (cx:=x_cursor_Minimal N [e_cursor_Minimal_l0 N N,e_cursor_Minimal_l1 N N]) tok mixed trivial trivial trivial ⟨l_cursor_Minimal_l0 N N,l_cursor_Minimal_l1 N N,trivial⟩ 314 _ (by kernel_rfl) (by kernel_rfl) (by intro x;kernel_rfl)
noncomputable def k_tlv_Length(N:Nat):Ctr:=⟨[.hole (.int .i64)],.tup [.hole (.sl .byte),.hole (.int .i64)],fun(x:Int)=>F_tlv_Length N x⟩
noncomputable def x_tlv_Length(N:Nat) (L:List LoopC):Cx:=⟨prog,T,hHb,hOb,[(314,k_cursor_Minimal N)],[],[],L,.nil⟩
theorem c_tlv_Length(N:Nat):CtrOk prog 212 (k_tlv_Length N):=fun_ok (cx:=x_tlv_Length N []) tok mixed ⟨c_cursor_Minimal N,trivial⟩ trivial trivial trivial 212 _ (by kernel_rfl) (by kernel_rfl) (by intro x;kernel_rfl)
noncomputable def k_tlv_Encode(N:Nat):Ctr:=⟨[.hole (.int .i64),.hole .bool,.hole (.int .i64),.hole (.sl .byte)],.tup [.hole (.sl .byte),.hole (.int .i64)],fun(x:Int×Bool×Int×Bs)=>F_tlv_Encode N x.1 x.2.1 x.2.2.1 x.2.2.2⟩
noncomputable def x_tlv_Encode(N:Nat) (L:List LoopC):Cx:=⟨prog,T,hHb,hOb,[(74,k_tlv_Identifier),(212,k_tlv_Length N),(213,k_slices_Concat_byte_byte N)],[],[],L,.nil⟩
theorem c_tlv_Encode(N:Nat):CtrOk prog 134 (k_tlv_Encode N):=fun_ok (cx:=x_tlv_Encode N []) tok mixed ⟨c_tlv_Identifier,c_tlv_Length N,c_slices_Concat_byte_byte N,trivial⟩ trivial trivial trivial 134 _ (by kernel_rfl) (by kernel_rfl) (by intro x;kernel_rfl)
noncomputable def k_tree_encode(N m:Nat):Ctr:=⟨[.hole .node],.tup [.hole (.sl .byte),.hole (.int .i64)],fun(x:Fw.Node)=>F_tree_encode N m x⟩
noncomputable def x_tree_encode(N m:Nat) (L:List LoopC):Cx:=⟨prog,T,hHb,hOb,[(134,k_tlv_Encode N),(68,k_tree_encode N m)],[(133,k_CloneO)],[],L,.nil⟩
noncomputable def h_tree_encode_l0:Pat:=⟨[(1,.ptr 0 0),(4,.own 1),(13,.hole (.sl .node)),(14,.hole (.int .i64)),(15,.hole (.int .i64))],[.cells [.hole (.int .i64),.hole (.int .i64),.hole .bool,.hole (.sl .byte),.hole (.sl .node)] false,.arr .byte false false]⟩
noncomputable def q_tree_encode_l0:Exits:=[(.ret,⟨[(2,.nils),(3,.hole (.int .i64))],[.junk,.junk]⟩),(.exit 0,⟨[(1,.ptr 0 0),(4,.own 1)],[.cells [.hole (.int .i64),.hole (.int .i64),.hole .bool,.hole (.sl .byte),.hole (.sl .node)] false,.arr .byte false false]⟩)]
noncomputable def e_tree_encode_l0(N m n:Nat):LoopC:=⟨68,3,0,h_tree_encode_l0,q_tree_encode_l0,fun x=>F_tree_encode_l0 N (F_tree_encode N m) n x⟩
theorem l_tree_encode_l0(N m:Nat) (hR:CtrOk prog 68 (k_tree_encode N m)):∀n,LOk prog (e_tree_encode_l0 N m n):=loopc_ok (cx:=x_tree_encode N m []) tok mixed ⟨c_tlv_Encode N,hR,trivial⟩ ⟨c_CloneO,trivial⟩ trivial trivial 68 3 0 h_tree_encode_l0 q_tree_encode_l0 (fun n x=>F_tree_encode_l0 N (F_tree_encode N m) n x) (by kernel_rfl) (by kernel_rfl) (fun _=>rfl) (by intro n x;kernel_rfl)
theorem c_tree_encode(N:Nat):∀m,CtrOk prog 68 (k_tree_encode N m):=fun m=>Nat.rec (motive:=fun m=>CtrOk prog 68 (k_tree_encode N m)) (ctr0 68 _ (by kernel_rfl) (by kernel_rfl) (by intro x;kernel_rfl)) (fun m hR=>fun_ok (cx:=x_tree_encode N m [e_tree_encode_l0 N m N]) tok mixed ⟨c_tlv_Encode N,hR,trivial⟩ ⟨c_CloneO,trivial⟩ trivial ⟨l_tree_encode_l0 N m hR N,trivial⟩ 68 (k_tree_encode N (m+1)) (by kernel_rfl) (by kernel_rfl) (by intro x;kernel_rfl)) m
noncomputable def k_tree_Encode(N:Nat):Ctr:=⟨[.hole .node],.tup [.hole (.sl .byte),.hole (.int .i64)],fun(x:Fw.Node)=>F_tree_Encode N x⟩
noncomputable def x_tree_Encode(N:Nat) (L:List LoopC):Cx:=⟨prog,T,hHb,hOb,[(67,k_tree_Valid N),(68,k_tree_encode N N)],[],[],L,.nil⟩
theorem c_tree_Encode(N:Nat):CtrOk prog 37 (k_tree_Encode N):=fun_ok (cx:=x_tree_Encode N []) tok mixed ⟨c_tree_Valid N,c_tree_encode N N,trivial⟩ trivial trivial trivial 37 _ (by kernel_rfl) (by kernel_rfl) (by intro x;kernel_rfl)
end Go.Proofs.Tryz
namespace Go.Fw
open Go
def isHex(b:UInt8):Bool:=decide (0≤hv b)
def hexRun:Bs→Nat
 |[]=>0
 |x::r=>bif isHex x then hexRun r+1 else 0
def rdB(s:Bs) (at' most:Nat):(Bs×Bool)×Nat:=
 let k:=min most (hexRun (s.drop at'))
 ((match pr [] 0 ((s.drop at').take k) with| .inr l=>(l,true)| .inl _=>([],false)),at' +k)
def rdI(x:UInt8):(Int×Bool×Int)×Bool:=if x.toNat % 32=31 then((0,false,0),false) else(((x.toNat / 64:Nat),decide (x.toNat / 32 % 2=1),(x.toNat % 32:Nat)),true)
def nd0' :Node:= .mk 0 0 false [] []
def rdK(s:Bs) (R:Nat→(Node×Bool)×Nat) (mkN:List Node→Node):Nat→List Node→Nat→(Node×Bool)×Nat
 |0,ks,a=>((mkN ks,false),a)
 |f+1,ks,a=>
  if s[a]? =some 41 then((mkN ks,true),a+1)
  else if ks≠[]∧s[a]?≠some 32 then((mkN ks,false),a)
  else
   let r:=R (if ks=[] then a else a+1)
   if r.1.2 then rdK s R mkN f (ks++[r.1.1]) r.2 else((mkN ks,false),r.2)
def rdN(s:Bs):Nat→Nat→(Node×Bool)×Nat
 |0,a=>((nd0',false),(rdB s a 2).2)
 |d+1,a=>
  let r:=rdB s a 2
  match r.1.1,r.1.2 with
  |[x],true=>
   let i:=rdI x
   if i.2=false then((.mk i.1.1 i.1.2.2 i.1.2.1 [] [],false),r.2)
   else if i.1.2.1=false then
    if s[r.2]? =some 58 then
     let q:=rdB s (r.2+1) s.length
     ((.mk i.1.1 i.1.2.2 i.1.2.1 q.1.1 [],q.1.2),q.2)
    else((.mk i.1.1 i.1.2.2 i.1.2.1 [] [],false),r.2)
   else if s[r.2]? =some 40 then rdK s (rdN s d) (fun ks=> .mk i.1.1 i.1.2.2 i.1.2.1 [] ks) (s.length+1) [] (r.2+1)
   else((.mk i.1.1 i.1.2.2 i.1.2.1 [] [],false),r.2)
  |_,_=>((nd0',false),r.2)
end Go.Fw
namespace Go.Fw
open Go
def idO(c:Int) (k:Bool) (m:Int):UInt8:=UInt8.ofNat (64*c.toNat+(if k then 32 else 0)+m.toNat)
mutual
def txN:Node→Bs
 | .mk c m k b ks=>hexL [idO c k m]++(if k then [40]++(txL ks++[41]) else [58]++hexL b)
def txL:List Node→Bs
 |[]=>[]
 |n::r=>txN n++txR r
def txR:List Node→Bs
 |[]=>[]
 |n::r=>[32]++(txN n++txR r)
end
mutual
def okN:Nat→Node→Prop
 |0,_=>False
 |d+1,.mk c m k b ks=>(0≤c∧c≤3)∧(0≤m∧m≤30)∧(k=true→b=[])∧(k=false→ks=[])∧okL d ks
def okL:Nat→List Node→Prop
 |_,[]=>True
 |d,n::r=>okN d n∧okL d r
end
theorem isHex_hex{k:Nat}(h:k<16):isHex (hexAt k)=true:=by
 unfold isHex
 rw[hv_hex h]
 exact decide_eq_true (by omega)
def noHex:Bs→Prop
 |[]=>True
 |x::_=>isHex x=false
theorem hexRun_app:∀(b r:Bs),hexRun (hexL b++r)=2*b.length+hexRun r
 |[],r=>by simp[hexL]
 |x::b,r=>by
  have hx:x.toNat<256:=x.toNat_lt
  rw[show hexL (x::b)=hexAt (x.toNat / 16)::hexAt (x.toNat % 16)::hexL b from by simp[hexL]]
  simp only[List.cons_append,hexRun,isHex_hex (show x.toNat / 16<16 by omega),isHex_hex (show x.toNat % 16<16 by omega),cond_true,List.length_cons,hexRun_app b r]
  omega
theorem hexRun_no{r:Bs}(h:noHex r):hexRun r=0:=by
 cases r with
 |nil=>rfl
 |cons x r=>
  have h:isHex x=false:=h
  simp[hexRun,h]
theorem hexRun_le:∀r:Bs,hexRun r≤r.length
 |[]=>Nat.le_refl _
 |x::r=>by
  have:=hexRun_le r
  simp only[hexRun,List.length_cons]
  cases isHex x<;>simp<;>omega
theorem rdB_ok{s b r:Bs}{a most:Nat}(hs:s.drop a=hexL b++r) (h:2*b.length≤most) (h2:2*b.length=most∨noHex r):rdB s a most=((b,true),a+2*b.length):=by
 have hk:min most (hexRun (s.drop a))=2*b.length:=by
  rw[hs,hexRun_app]
  rcases h2 with h2|h2
  ·omega
  ·rw[hexRun_no h2];omega
 unfold rdB
 simp only[hk]
 rw[hs,←hexL_length b,List.take_left,pr_hex]
 rfl
theorem noHex_run:∀l:Bs,noHex (l.drop (hexRun l))
 |[]=>trivial
 |x::l=>by
  cases hx:isHex x with
  |false=>simp[hexRun,hx,noHex]
  |true=>simpa[hexRun,hx] using noHex_run l
theorem rdB_inv{s m:Bs}{a a' most:Nat}(h:rdB s a most=((m,true),a')):s.drop a=hexL m++s.drop a'∧a' =a+2*m.length∧2*m.length≤most∧(2*m.length=most∨noHex (s.drop a')):=by
 unfold rdB at h
 simp only[Prod.mk.injEq]at h
 obtain⟨h1,h2⟩:=h
 obtain⟨k,hk⟩:∃k,min most (hexRun (s.drop a))=k:=⟨_,rfl⟩
 rw[hk]at h1 h2
 have hle:=hexRun_le (s.drop a)
 have hl:((s.drop a).take k).length=k:=by rw[List.length_take];omega
 rcases pr_rr (((s.drop a).take k).length+1) ((s.drop a).take k) [] 0 (by omega) (by omega) with⟨m',e1,_,e3⟩|⟨j,e1,_⟩
 ·rw[e1]at h1
  have h1:(([]++m',true):Bs×Bool)=(m,true):=h1
  rw[List.nil_append]at h1
  cases h1
  have e4:=hexL_length m
  rw[e3,hl]at e4
  refine⟨?_,by omega,by omega,?_⟩
  ·rw[e3,←h2,←List.drop_drop,List.take_append_drop]
  ·rcases Nat.lt_or_ge k most with h5|h5
   ·refine .inr ?_
    rw[←h2,←List.drop_drop,show k=hexRun (s.drop a) from by omega]
    exact noHex_run _
   ·exact .inl (by omega)
 ·rw[e1]at h1
  have h1:(([],false):Bs×Bool)=(m,true):=h1
  cases h1
theorem rdB_le{s:Bs}{a most:Nat}(h:a≤s.length):a≤(rdB s a most).2∧(rdB s a most).2≤s.length:=by
 have:=hexRun_le (s.drop a)
 rw[List.length_drop]at this
 unfold rdB
 simp only
 omega
end Go.Fw
namespace Go.Fw
open Go
theorem id_all:((List.range 4).all fun c=>(List.range 31).all fun m=>[true,false].all fun k=>decide (rdI (idO (c:Nat) k (m:Nat))=((((c:Nat):Int),k,((m:Nat):Int)),true)))=true:=by decide+kernel
theorem rdI_id{c m:Int}{k:Bool}(hc:0≤c∧c≤3) (hm:0≤m∧m≤30):rdI (idO c k m)=((c,k,m),true):=by
 obtain⟨c,rfl⟩:∃n:Nat,c=n:=⟨c.toNat,by omega⟩
 obtain⟨m,rfl⟩:∃n:Nat,m=n:=⟨m.toNat,by omega⟩
 have h1:=List.all_eq_true.1 (List.all_eq_true.1 (List.all_eq_true.1 id_all c (List.mem_range.2 (by omega))) m (List.mem_range.2 (by omega))) k (by cases k<;>simp)
 exact of_decide_eq_true h1
theorem idv_all:((List.range 256).all fun x=>decide ((rdI (UInt8.ofNat x)).2=true→(0≤(rdI (UInt8.ofNat x)).1.1∧(rdI (UInt8.ofNat x)).1.1≤3)∧(0≤(rdI (UInt8.ofNat x)).1.2.2∧(rdI (UInt8.ofNat x)).1.2.2≤30)∧idO (rdI (UInt8.ofNat x)).1.1 (rdI (UInt8.ofNat x)).1.2.1 (rdI (UInt8.ofNat x)).1.2.2=UInt8.ofNat x))=true:=by decide+kernel
theorem rdI_inv{x:UInt8}{c m:Int}{k:Bool}(h:rdI x=((c,k,m),true)):(0≤c∧c≤3)∧(0≤m∧m≤30)∧idO c k m=x:=by
 have h1:=of_decide_eq_true (List.all_eq_true.1 idv_all x.toNat (List.mem_range.2 x.toNat_lt))
 rw[show UInt8.ofNat x.toNat=x from UInt8.ofNat_toNat,h]at h1
 exact h1 rfl
theorem hexAt_ne{k:Nat}(hk:k<16) (b:UInt8) (hb:isHex b=false):hexAt k≠b:=fun h=>by
 rw[←h,isHex_hex hk]at hb;cases hb
theorem get_drop{s r:Bs}{a:Nat}{x:UInt8}(h:s.drop a=x::r):s[a]? =some x:=by
 have:=List.getElem?_drop (xs:=s) (i:=a) (j:=0)
 rw[h]at this
 simpa using this.symm
theorem drop_get{s:Bs}{a:Nat}{x:UInt8}(h:s[a]? =some x):s.drop a=x::s.drop (a+1):=by
 obtain⟨h1,h2⟩:=List.getElem?_eq_some_iff.1 h
 rw[←h2]
 exact List.drop_eq_getElem_cons h1
theorem drop_add{s p r:Bs}{a:Nat}(h:s.drop a=p++r):s.drop (a+p.length)=r:=by
 rw[←List.drop_drop,h,List.drop_left]
theorem txN_hd(n:Node):∃k r,k<16∧txN n=hexAt k::r:=by
 obtain⟨c,m,k,b,ks⟩:=n
 have:=(idO c k m).toNat_lt
 exact⟨(idO c k m).toNat / 16,_,by omega,show hexL [idO c k m]++(if k then [40]++(txL ks++[41]) else [58]++hexL b)=_ from rfl⟩
theorem txN_ne(n:Node):txN n≠[]:=by obtain⟨k,r,_,h⟩:=txN_hd n;rw[h];simp
theorem nh41:isHex 41=false:=by decide+kernel
theorem nh32:isHex 32=false:=by decide+kernel
theorem noHex_R(ks:List Node) (r:Bs):noHex (txR ks++41::r):=by
 cases ks with
 |nil=>exact nh41
 |cons n ks=>exact nh32
theorem rdK_tx{s:Bs}{d:Nat}{mk:List Node→Node}(IH:∀(n:Node) (a:Nat) (r:Bs),okN d n→s.drop a=txN n++r→noHex r→rdN s d a=((n,true),a+(txN n).length)):
 ∀(ks acc:List Node) (f a:Nat) (r:Bs),ks.length<f→okL d ks→s.drop a=(if acc=[] then txL ks else txR ks)++41::r→rdK s (rdN s d) mk f acc a=((mk (acc++ks),true),a+(if acc=[] then txL ks else txR ks).length+1)
 |[],acc,f+1,a,r,_,_,h=>by
  have e:(if acc=[] then txL [] else txR [])=([]:Bs):=by split<;>rfl
  rw[e,List.nil_append]at h
  rw[rdK,if_pos (get_drop h),e,List.append_nil]
  rfl
 |n::ks,acc,f+1,a,r,hf,hok,h=>by
  have hok:okN d n∧okL d ks:=hok
  by_cases ha:acc=[]
  ·subst ha
   rw[if_pos rfl]at h⊢
   rw[txL,List.append_assoc]at h
   obtain⟨k,q,hk,hq⟩:=txN_hd n
   have h0:s[a]? =some (hexAt k):=by rw[hq]at h;exact get_drop h
   rw[rdK,if_neg (by rw[h0];intro e;exact hexAt_ne hk 41 nh41 (Option.some.inj e)),if_neg (by simp),if_pos rfl,IH n a _ hok.1 h (noHex_R ks r)]
   dsimp only
   rw[if_pos rfl,List.nil_append,rdK_tx IH ks [n] f _ r (by simpa using hf) hok.2 (by rw[if_neg (by simp)];exact drop_add h),if_neg (by simp),txL,List.length_append]
   simp only[List.nil_append,List.singleton_append,Prod.mk.injEq,true_and]
   omega
  ·rw[if_neg ha]at h⊢
   rw[txR,List.append_assoc,List.append_assoc]at h
   have h0:s[a]? =some 32:=get_drop h
   have h1:s.drop (a+1)=txN n++(txR ks++41::r):=drop_add h
   rw[rdK,if_neg (by rw[h0];decide),if_neg (by simp[h0]),if_neg ha,IH n (a+1) _ hok.1 h1 (noHex_R ks r)]
   dsimp only
   rw[if_pos rfl,rdK_tx IH ks (acc++[n]) f _ r (by simpa using hf) hok.2 (by rw[if_neg (by simp)];exact drop_add h1),if_neg (by simp),txR]
   simp only[List.append_assoc,List.singleton_append,Prod.mk.injEq,true_and,List.length_append,List.length_cons]
   omega
theorem txL_len:∀ks:List Node,ks.length≤(txR ks).length
 |[]=>Nat.zero_le _
 |n::ks=>by
  have:=txL_len ks
  simp only[txR,List.length_append,List.length_cons]
  omega
theorem txL_len'(ks:List Node):ks.length≤(txL ks).length:=by
 cases ks with
 |nil=>exact Nat.zero_le _
 |cons n ks=>
  have:=txL_len ks
  have:=List.length_pos_iff.2 (txN_ne n)
  simp only[txL,List.length_append,List.length_cons]
  omega
theorem rdN_tx(s:Bs):∀(d:Nat) (n:Node) (a:Nat) (r:Bs),okN d n→s.drop a=txN n++r→noHex r→rdN s d a=((n,true),a+(txN n).length)
 |0,n,_,_,h,_,_=>by cases n;exact False.elim h
 |d+1,.mk c m k b ks,a,r,hok,h,hr=>by
  obtain⟨hc,hm,hb,hks,hL⟩:=hok
  have h0:=h
  rw[txN,List.append_assoc]at h
  have h1:rdB s a 2=(([idO c k m],true),a+2):=rdB_ok h (Nat.le_refl _) (.inl rfl)
  have h2:=drop_add h
  rw[hexL_length]at h2
  have h2:s.drop (a+2)=_:=h2
  unfold rdN
  rw[h1]
  dsimp only
  rw[rdI_id hc hm]
  dsimp only
  rw[if_neg (by simp)]
  cases k with
  |false=>
   have hk0:=hks rfl
   subst hk0
   rw[if_pos rfl]
   rw[if_neg (by simp),List.append_assoc]at h2
   rw[if_pos (get_drop h2)]
   have h3:s.drop (a+2+1)=hexL b++r:=drop_add h2
   have hl:2*b.length≤s.length:=by
    have:=congrArg List.length h3
    rw[List.length_drop,List.length_append,hexL_length]at this
    omega
   rw[rdB_ok h3 hl (.inr hr),txN]
   simp only[hexL_length,if_neg (show ¬(false=true) from by simp),List.length_append,List.length_cons,List.length_nil,Prod.mk.injEq,true_and]
   omega
  |true=>
   have hb0:=hb rfl
   subst hb0
   rw[if_neg (by simp)]
   rw[if_pos rfl,List.append_assoc,List.append_assoc]at h2
   rw[if_pos (get_drop h2)]
   have h3:s.drop (a+2+1)=txL ks++([41]++r):=drop_add h2
   have hl:ks.length<s.length+1:=by
    have:=congrArg List.length h3
    rw[List.length_drop,List.length_append]at this
    have:=txL_len' ks
    omega
   rw[rdK_tx (rdN_tx s d) ks [] _ _ r hl hL (by rw[if_pos rfl];exact h3),if_pos rfl,txN]
   simp only[hexL_length,if_true,List.length_append,List.length_cons,List.length_nil,Prod.mk.injEq,true_and,List.nil_append]
   omega
theorem rdK_inv{s:Bs}{d:Nat}{mk:List Node→Node}(IH:∀(n:Node) (a a' :Nat),rdN s d a=((n,true),a')→okN d n∧s.drop a=txN n++s.drop a'):
 ∀(f:Nat) (acc:List Node) (a a' :Nat) (n:Node),rdK s (rdN s d) mk f acc a=((n,true),a')→∃ks,n=mk (acc++ks)∧okL d ks∧s.drop a=(if acc=[] then txL ks else txR ks)++41::s.drop a'
 |0,acc,a,a',n,h=>by simp[rdK]at h
 |f+1,acc,a,a',n,h=>by
  rw[rdK]at h
  by_cases h1:s[a]? =some 41
  ·rw[if_pos h1]at h
   cases h
   refine⟨[],by rw[List.append_nil],trivial,?_⟩
   rw[show(if acc=[] then txL [] else txR [])=([]:Bs) by split<;>rfl]
   exact drop_get h1
  ·rw[if_neg h1]at h
   by_cases h2:acc≠[]∧s[a]?≠some 32
   ·rw[if_pos h2]at h;cases h
   ·rw[if_neg h2]at h
    obtain⟨⟨⟨nd,ok⟩,a1⟩,hq⟩:∃r,rdN s d (if acc=[] then a else a+1)=r:=⟨_,rfl⟩
    rw[hq]at h
    dsimp only at h
    cases ok with
    |false=>simp at h
    |true=>
     rw[if_pos rfl]at h
     obtain⟨i1,i2⟩:=IH nd _ a1 hq
     obtain⟨ks,e1,e2,e3⟩:=rdK_inv IH f (acc++[nd]) a1 a' n h
     rw[if_neg (by simp)]at e3
     refine⟨nd::ks,by rw[e1];simp,⟨i1,e2⟩,?_⟩
     by_cases ha:acc=[]
     ·rw[if_pos ha]at i2⊢
      rw[i2,e3,txL,List.append_assoc]
     ·rw[if_neg ha]at i2⊢
      have h3:s[a]? =some 32:=Decidable.not_not.1 fun h=>h2 ⟨ha,h⟩
      rw[drop_get h3,i2,e3,txR]
      simp
theorem rdN_inv(s:Bs):∀(d:Nat) (n:Node) (a a' :Nat),rdN s d a=((n,true),a')→okN d n∧s.drop a=txN n++s.drop a'
 |0,_,_,_,h=>by simp[rdN]at h
 |d+1,n,a,a',h=>by
  unfold rdN at h
  obtain⟨⟨⟨m,ok⟩,a1⟩,hq⟩:∃r,rdB s a 2=r:=⟨_,rfl⟩
  rw[hq]at h
  match m,ok,hq,h with
  |[],ok,hq,h=>simp at h
  |x::y::m,ok,hq,h=>simp at h
  |[x],false,hq,h=>simp at h
  |[x],true,hq,h=>
   dsimp only at h
   obtain⟨b1,b2,_,_⟩:=rdB_inv hq
   obtain⟨⟨⟨c,k,num⟩,okI⟩,hi⟩:∃r,rdI x=r:=⟨_,rfl⟩
   rw[hi]at h
   dsimp only at h
   cases okI with
   |false=>simp at h
   |true=>
    obtain⟨i1,i2,i3⟩:=rdI_inv hi
    rw[if_neg (by simp)]at h
    cases k with
    |false=>
     rw[if_pos rfl]at h
     by_cases h3:s[a1]? =some 58
     ·rw[if_pos h3]at h
      obtain⟨⟨⟨m2,ok2⟩,a2⟩,hq2⟩:∃r,rdB s (a1+1) s.length=r:=⟨_,rfl⟩
      rw[hq2]at h
      cases h
      obtain⟨c1,c2,_,_⟩:=rdB_inv hq2
      refine⟨⟨i1,i2,(by simp),fun _=>rfl,trivial⟩,?_⟩
      rw[b1,drop_get h3,c1,txN,i3]
      simp
     ·rw[if_neg h3]at h;cases h
    |true=>
     rw[if_neg (by simp)]at h
     by_cases h3:s[a1]? =some 40
     ·rw[if_pos h3]at h
      obtain⟨ks,e1,e2,e3⟩:=rdK_inv (rdN_inv s d) _ [] _ _ _ h
      rw[if_pos rfl]at e3
      rw[List.nil_append]at e1
      subst e1
      refine⟨⟨i1,i2,fun _=>rfl,(by simp),e2⟩,?_⟩
      rw[b1,drop_get h3,e3,txN,i3]
      simp
     ·rw[if_neg h3]at h;cases h
theorem rdK_le{s:Bs}{R:Nat→(Node×Bool)×Nat}{mk:List Node→Node}(hR:∀a,a≤s.length→(R a).2≤s.length):∀(f:Nat) (ks:List Node) (a:Nat),a≤s.length→(rdK s R mk f ks a).2≤s.length
 |0,ks,a,h=>h
 |f+1,ks,a,h=>by
  rw[rdK]
  split
  ·rename_i h1;exact(List.getElem?_eq_some_iff.1 h1).1
  ·split
   ·exact h
   ·rename_i h1 h2
    have h3:(R (if ks=[] then a else a+1)).2≤s.length:=by
     refine hR _ ?_
     split
     ·exact h
     ·rename_i h4
      have h5:s[a]? =some 32:=Decidable.not_not.1 fun h=>h2 ⟨h4,h⟩
      exact(List.getElem?_eq_some_iff.1 h5).1
    obtain⟨r,hr⟩:∃r,R (if ks=[] then a else a+1)=r:=⟨_,rfl⟩
    rw[hr]at h3⊢
    dsimp only
    cases r.1.2 with
    |true=>exact rdK_le hR f _ _ h3
    |false=>exact h3
theorem rdN_le(s:Bs):∀(d a:Nat),a≤s.length→(rdN s d a).2≤s.length
 |0,a,h=>(rdB_le h).2
 |d+1,a,h=>by
  have hb:=(rdB_le (s:=s) (most:=2) h).2
  unfold rdN
  dsimp only
  split
  ·split
   ·exact hb
   ·split
    ·split
     ·rename_i h1;exact(rdB_le (List.getElem?_eq_some_iff.1 h1).1).2
     ·exact hb
    ·split
     ·rename_i h1;exact rdK_le (rdN_le s d) _ _ _ (List.getElem?_eq_some_iff.1 h1).1
     ·exact hb
  ·exact hb
theorem rdN_lt{s:Bs}{d a a' :Nat}{n:Node}(h:rdN s d a=((n,true),a')) (ha:a≤s.length):a<a' :=by
 have h1:=congrArg List.length (rdN_inv s d n a a' h).2
 rw[List.length_append,List.length_drop,List.length_drop]at h1
 have h2:=List.length_pos_iff.2 (txN_ne n)
 have h3:=rdN_le s d a ha
 rw[h]at h3
 dsimp only at h3
 omega
end Go.Fw
