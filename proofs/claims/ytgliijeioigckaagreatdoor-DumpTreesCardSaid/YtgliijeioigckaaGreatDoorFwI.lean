/- A framework for proofs about Go programs in this model: part I. Everything is proved; no condition is added. -/
import Derived.IntWalk
import Derived.ChangeArms
import GoSem.ClaimJoined
import Derived.Lib.Join
import Derived.Lib.ParseIntB
import Derived.ChangeSame
import Derived.Lib.ItoaMem
import Derived.Lib.AppendIntMem
import Derived.Test.YtgliijeioigckaaGreatDoorFwH
import Derived.Test.YtgliijeioigckaaGreatDoorFwE
import Derived.Test.YtgliijeioigckaaGreatDoorFwC
set_option linter.unusedVariables false
set_option linter.unusedSimpArgs false
namespace Go.Fw
open Go.RowKit
theorem fromTup_t:∀(ts:List TC) (x:Tup ts),(fromTup ts x).map (·.t)=ts
 |[],_=>rfl
 |[_],_=>rfl
 |t::u::ts,x=>by simp only[fromTup,List.map_cons,fromTup_t (u::ts) x.2]
mutual
theorem PV.put_some(G:Nat→Nat):∀(p:PV) (l r:List DV),l.map (·.t)=p.tcs→∃v,p.put G (l++r)=some (v,r)
 | .hole t,l,r,h=>by
   match l,h with
   |[x],_=>exact⟨svOf x,rfl⟩
   |[],h=>simp[PV.tcs]at h
   |_::_::_,h=>simp[PV.tcs]at h
 | .raw d,l,r,h=>by
   have:l=[]:=by simpa[PV.tcs] using h
   subst this;exact⟨_,rfl⟩
 | .ptr i o,l,r,h=>by
   have:l=[]:=by simpa[PV.tcs] using h
   subst this;exact⟨_,rfl⟩
 | .nils,l,r,h=>by
   have:l=[]:=by simpa[PV.tcs] using h
   subst this;exact⟨_,rfl⟩
 | .own i,l,r,h=>by
   have:l=[]:=by simpa[PV.tcs] using h
   subst this;exact⟨_,rfl⟩
 | .junk,l,r,h=>by
   have:l=[]:=by simpa[PV.tcs] using h
   subst this;exact⟨_,rfl⟩
 | .ilit _ _,l,r,h=>by
   have:l=[]:=by simpa[PV.tcs] using h
   subst this;exact⟨_,rfl⟩
 | .slit _,l,r,h=>by
   have:l=[]:=by simpa[PV.tcs] using h
   subst this;exact⟨_,rfl⟩
 | .blit _,l,r,h=>by
   have:l=[]:=by simpa[PV.tcs] using h
   subst this;exact⟨_,rfl⟩
 | .mp _,l,r,h=>by
   have:l=[]:=by simpa[PV.tcs] using h
   subst this;exact⟨_,rfl⟩
 | .rp t o,l,r,h=>by
   match l,h with
   |[x],_=>exact⟨.rp x.t x.x o,rfl⟩
   |[],h=>simp[PV.tcs]at h
   |_::_::_,h=>simp[PV.tcs]at h
 | .agg ps,l,r,h=>by
   obtain⟨vs,hv⟩:=PV.puts_some G ps l r h
   exact⟨.agg vs,by simp only[PV.put,hv]⟩
 | .tup ps,l,r,h=>by
   obtain⟨vs,hv⟩:=PV.puts_some G ps l r h
   exact⟨.tup vs,by simp only[PV.put,hv]⟩
 | .func fn a b,l,r,h=>by
   simp only[PV.tcs]at h
   obtain⟨l1,l2,rfl,h1,h2⟩:=List.map_eq_append_iff.1 h
   obtain⟨va,ha⟩:=PV.puts_some G a l1 (l2++r) h1
   obtain⟨vb,hb⟩:=PV.puts_some G b l2 r h2
   exact⟨.func fn va vb,by simp only[PV.put,List.append_assoc,ha,hb]⟩
 | .iface t p,l,r,h=>by
   obtain⟨v,hv⟩:=PV.put_some G p l r h
   exact⟨.iface t v,by simp only[PV.put,hv]⟩
 | .rc ps o,l,r,h=>by
   obtain⟨vs,hv⟩:=PV.puts_some G ps l r h
   exact⟨.rc vs o,by simp only[PV.put,hv]⟩
theorem PV.puts_some(G:Nat→Nat):∀(ps:List PV) (l r:List DV),l.map (·.t)=PV.tcss ps→∃vs,PV.puts G ps (l++r)=some (vs,r)
 |[],l,r,h=>by
  have:l=[]:=by simpa[PV.tcss] using h
  subst this;exact⟨[],rfl⟩
 |p::ps,l,r,h=>by
  simp only[PV.tcss]at h
  obtain⟨l1,l2,rfl,h1,h2⟩:=List.map_eq_append_iff.1 h
  obtain⟨v,hv⟩:=PV.put_some G p l1 (l2++r) h1
  obtain⟨vs,hs⟩:=PV.puts_some G ps l2 r h2
  exact⟨v::vs,by simp only[PV.puts,List.append_assoc,hv,hs]⟩
end
mutual
def PV.pure:PV→Bool
 | .raw d=>d.pure
 | .ptr _ _=>false
 | .own _=>false
 | .rp _ _=>false
 | .mp _=>false
 | .agg ps=>PV.pures ps
 | .tup ps=>PV.pures ps
 | .func _ a b=>PV.pures a&&PV.pures b
 | .iface _ p=>p.pure
 | .rc ps _=>PV.pures ps
 |_=>true
def PV.pures:List PV→Bool
 |[]=>true
 |p::ps=>p.pure&&PV.pures ps
end
theorem scells_pure:∀(t:TC) (x:t.Den),SV.pures (t.scells x)=true
 | .byte,_=>rfl
 | .int _,_=>rfl
 | .bool,_=>rfl
 | .str,_=>rfl
 | .sl _,_=>rfl
 | .pair a b,x=>by
   have app:∀{l m:List SV},SV.pures l=true→SV.pures m=true→SV.pures (l++m)=true:=by
    intro l
    induction l with
    |nil=>intro m _ h;exact h
    |cons v l ih=>intro m h1 h2;simp only[SV.pures,List.cons_append,Bool.and_eq_true]at h1⊢;exact⟨h1.1,ih h1.2 h2⟩
   exact app (scells_pure a x.1) (scells_pure b x.2)
 | .unit,_=>rfl
 | .node,.mk _ _ _ _ _=>rfl
 | .spot,.mk _ _ (.mk _ _ _ _ _) _=>rfl
theorem svOf_pure(x:DV):(svOf x).pure=true:=by
 unfold svOf
 split<;>first|rfl|exact scells_pure _ _
mutual
theorem PV.put_pure{G:Nat→Nat}:∀(p:PV) {l r:List DV}{v:SV},p.put G l=some (v,r)→p.pure=true→v.pure=true
 | .hole t,l,r,v,h,_=>by
   simp only[PV.put]at h
   split at h<;>cases h
   exact svOf_pure _
 | .raw d,l,r,v,h,hp=>by cases h;exact hp
 | .ptr i o,l,r,v,h,hp=>by cases hp
 | .nils,l,r,v,h,hp=>by cases h;rfl
 | .own i,l,r,v,h,hp=>by cases hp
 | .junk,l,r,v,h,hp=>by cases h;rfl
 | .ilit _ _,l,r,v,h,hp=>by cases h;rfl
 | .slit _,l,r,v,h,hp=>by cases h;rfl
 | .blit _,l,r,v,h,hp=>by cases h;rfl
 | .rp _ _,l,r,v,h,hp=>by cases hp
 | .mp _,l,r,v,h,hp=>by cases hp
 | .agg ps,l,r,v,h,hp=>by
   simp only[PV.put]at h
   split at h<;>cases h
   rename_i hs
   exact PV.puts_pure ps hs hp
 | .tup ps,l,r,v,h,hp=>by
   simp only[PV.put]at h
   split at h<;>cases h
   rename_i hs
   exact PV.puts_pure ps hs hp
 | .func fn a b,l,r,v,h,hp=>by
   simp only[PV.put]at h
   split at h<;>try (cases h;done)
   rename_i ha
   split at h<;>cases h
   rename_i hb
   simp only[PV.pure,Bool.and_eq_true]at hp
   simp only[SV.pure,PV.puts_pure a ha hp.1,PV.puts_pure b hb hp.2,Bool.and_self]
 | .iface t p,l,r,v,h,hp=>by
   simp only[PV.put]at h
   split at h<;>cases h
   rename_i hs
   have:=PV.put_pure p hs hp
   exact this
 | .rc ps o,l,r,v,h,hp=>by
   simp only[PV.put]at h
   split at h<;>cases h
   rename_i hs
   exact PV.puts_pure ps hs hp
theorem PV.puts_pure{G:Nat→Nat}:∀(ps:List PV) {l r:List DV}{vs:List SV},PV.puts G ps l=some (vs,r)→PV.pures ps=true→SV.pures vs=true
 |[],l,r,vs,h,_=>by
  simp only[PV.puts,Option.some.injEq,Prod.mk.injEq]at h
  rw[←h.1];rfl
 |p::ps,l,r,vs,h,hp=>by
  simp only[PV.puts]at h
  split at h<;>try (cases h;done)
  rename_i h1
  split at h<;>cases h
  rename_i h2
  simp only[PV.pures,Bool.and_eq_true]at hp
  simp only[SV.pures,PV.put_pure p h1 hp.1,PV.puts_pure ps h2 hp.2,Bool.and_self]
end
theorem pure_of_callG{P:Program}{i:Nat}{f:FuncId}{ds:List D}{d:D}(hp:pureL ds=true) (hpd:d.pure=true) (h:ACallB i P f ds [] fun d' _=>d' =d):PureOK P f ds d:=by
 intro G w vals hI hg hv
 let B0:Base P:=⟨w,G,hg,fun b o v h=>lt_of_cell (hI.imm b o v h),fun b es h=>lt_of_some (hI.mimm b es h).1⟩
 have hR:Rel B0 G.strip [] w:=by
  refine⟨Below.refl _ _,hI.imm,hI.mimm,hI.siz,?_,?_,?_,?_,?_,?_,?_,fun _ _ _=>rfl,fun _ _=>rfl⟩
  ·intro l u b hb;cases hb
  ·intro l u l' u' b hb;cases hb
  ·intro l ob b ho;simp at ho
  ·intro l cs frz u b ho;simp at ho
  ·intro l ks vs b ho;simp at ho
  ·intro l ob ho;simp at ho
  ·intro l ob ho;simp at ho
 refine(h B0 G.strip w vals hR (Reps.pure (G:=G) (G' :=G.strip) (fun _ _ _ x=>x) (fun _ _ x=>x) ds vals hp hv)).mono ?_
 rintro e w' ⟨v,G2,d',σ',rfl,hle,R2,r2,rfl⟩
 let G3:Gh:={G2 with blk:=G.blk}
 refine⟨v,G3,rfl,?_,Rep.pure (G:=G2) (G' :=G3) (fun _ _ _ x=>x) (fun _ _ x=>x) d' v hpd r2⟩
 exact {
  le:=⟨hle.imm,hle.mimm,fun _ _ _ x=>x,hle.siz⟩
  below:=R2.below
  blk:=rfl
  imm:=R2.imm
  mimm:=R2.mimm
  siz:=R2.siz
  imm_new:=R2.bimm
  mimm_new:=R2.bmimm}
mutual
theorem can_self'(S:SSto) (σ:Sto):∀(v:SV),v.pure=true→VR S σ v v.can
 | .int _ _,_=>by simp only[SV.can,VR]
 | .bool _,_=>by simp only[SV.can,VR]
 | .str _,_=>by simp only[SV.can,VR]
 | .sl t xs f,_=>by simp only[SV.can,VR];exact⟨f,rfl,id⟩
 | .nils,_=>by simp only[SV.can,VR]
 | .lst cs n f,p=>by simp only[SV.can,VR];exact⟨_,f,rfl,id,cans_self' S σ cs p⟩
 | .agg cs,p=>by simp only[SV.can,VR];exact⟨_,rfl,cans_self' S σ cs p⟩
 | .tup cs,p=>by simp only[SV.can,VR];exact⟨_,rfl,cans_self' S σ cs p⟩
 | .func _ a b,p=>by
   simp only[SV.pure,Bool.and_eq_true]at p
   simp only[SV.can,VR];exact⟨_,_,rfl,cans_self' S σ a p.1,cans_self' S σ b p.2⟩
 | .iface _ v,p=>by simp only[SV.can,VR];exact⟨_,rfl,can_self' S σ v p⟩
 | .own _ _,p=>by cases p
 | .ap _ _ _ _,p=>by cases p
 | .rp _ _ _,p=>by cases p
 | .rc cs _,p=>by simp only[SV.can,VR];exact⟨_,rfl,cans_self' S σ cs p⟩
 | .raw _,_=>by simp only[SV.can,VR]
theorem cans_self'(S:SSto) (σ:Sto):∀(vs:List SV),SV.pures vs=true→VRs S σ vs (SV.cans vs)
 |[],_=>by simp only[SV.cans,VRs]
 |v::vs,p=>by
  simp only[SV.pures,Bool.and_eq_true]at p
  simp only[SV.cans,VRs];exact⟨_,_,rfl,can_self' S σ v p.1,cans_self' S σ vs p.2⟩
end
theorem can_self{v:SV}(p:v.pure=true) (S:SSto) (σ:Sto):VR S σ v v.can:=can_self' S σ v p
noncomputable def sfun(cx:Cx) (f:FuncId) (ap:List PV) (rp:PV) (x:Tup (PV.tcss ap)):Option (Tup rp.tcs):=
 (okF cx.P f).bind fun fn=>fn.body.bind fun c=>(PV.puts (fun _=>0) ap (fromTup _ x)).bind fun q=>match Nat.ble q.1.length fn.ntmps with
   |true=>scode cx 100000 f fn.ntmps 0 65535 c (senv0 0 q.1) [] fun e τ S=>match isEnd e with
    |true=>sres cx.T τ S fn.results.toList fun v=>(sFrz S v).bind fun w=>(PV.get w.2 rp w.1).bind (toTup _)
    |false=>none
   |false=>none
theorem sfun_ok{cx:Cx}(hcx:CxOk cx) (hL:∀e ∈ cx.L,LOk cx.P e) {f:FuncId}{c:Ctr}{fn:Func}(hf:okF cx.P f=some fn) (hap:PV.chks [] c.ap=true) (hrp:PV.chk [] c.rp=true) (hpa:PV.pures c.ap=true) (hpr:c.rp.pure=true)
 (h:∀x,sfun cx f c.ap c.rp x=c.fn x):CtrOk cx.P f c:=by
 obtain⟨g1,g2⟩:=fok_of hf
 refine⟨g2,hap,hrp,fun x y hy=> ?_⟩
 obtain⟨v,hv⟩:=PV.put_some (fun _=>0) c.rp (fromTup _ y) [] (fromTup_t _ y)
 rw[List.append_nil]at hv
 have hvp:=PV.put_pure _ hv hpr
 rw[←h x]at hy
 unfold sfun at hy
 rw[hf]at hy
 obtain⟨fn',hfn',hy⟩:=bind_inv hy
 cases hfn'
 obtain⟨body,hb,hy⟩:=bind_inv hy
 obtain⟨q,hq,hy⟩:=bind_inv hy
 split at hy<;>try (cases hy;done)
 rename_i hn
 have hn:=Nat.le_of_ble_eq_true hn
 obtain⟨vs0,r0⟩:=q
 obtain⟨vs1,hvs1⟩:=PV.puts_some (fun _=>0) c.ap (fromTup _ x) [] (fromTup_t _ x)
 rw[List.append_nil]at hvs1
 rw[hvs1]at hq
 cases hq
 have hpv:=PV.puts_pure _ hvs1 hpa
 have main:∀ds,VRs [] [] vs0 ds→ACallB 0 cx.P f ds [] fun d' _=>d' =v.can∧VR [] [] v v.can:=by
  intro ds hds
  have hw:=(scode_ok hcx hL 100000 _ f 0 65535 body (senv0 0 vs0) [] _ y fn body g1 hb (fun _ _ hx=>hx) hy (env0 0 ds) [] (ER.env0 hds) ⟨rfl,fun l o hl=>by simp at hl⟩).1
  refine acall_gho hcx.tok g1 hb (by rw[hds.length];exact hn) (hw.mono ?_)
  rintro e τ2 σ2 ⟨τs,S2,h1,h2,hp,h3⟩
  simp only at h3
  split at h3<;>try (cases h3;done)
  rename_i he
  refine⟨by cases e<;>first|exact .inl rfl|exact .inr rfl|(simp[isEnd]at he),?_⟩
  obtain⟨v0,d0,d,k1,k2,k3,k4⟩:=sres_ok h2 h1 h3
  obtain⟨⟨v1,S1⟩,hw,k5⟩:=bind_inv k1
  obtain⟨l,hl,k6⟩:=bind_inv k5
  obtain⟨d1,σ1,m1,m2,m3,m4⟩:=sFrz_ok v0 hw h2 k2
  obtain⟨d2,n1,n2,nG⟩:=PV.get_ok (objs:=[]) _ v1 l d1 hl hrp m1
  obtain⟨v',n3,n4⟩:=nG fun _=>0
  have hfrom:=toTup_from _ k6
  have n3:=n3 []
  rw[List.append_nil,←hfrom,hv]at n3
  cases n3
  obtain⟨a1,a2,a3⟩:=SV.can_ok (S2:=[]) (σ2:=[]) v d2 hvp (n4 [] [] (HO_nil _ _ _ _ _))
  exact⟨d0,k4,v.can,σ1,⟨rfl,a2⟩,(Gho.weak k3).trans (m4.trans (Gho.weak (n1.trans a1)))⟩
 refine⟨v,hv,?_,fun vs hvs ds hds=> ?_⟩
 ·intro S σ
  exact(SV.can_ok (S:=S) (σ:=σ) (S2:=S) (σ2:=σ) v v.can hvp (can_self hvp S σ)).2.1
 ·rw[hvs1]at hvs
  cases hvs
  obtain⟨_,hpd⟩:=VRs.pure (S' :=[]) (σ' :=[]) vs0 ds hpv hds
  refine pure_of_callG hpd ?_ ((main ds hds).mono fun d s x=>x.1)
  exact(SV.can_ok (S:=[]) (σ:=[]) (S2:=[]) (σ2:=[]) v v.can hvp (can_self hvp [] [])).2.2
def sownR(t:TC) (v:SV) (S:SSto):Option (List t.Den):=match v with
 | .own l g=>match S[l]? with
   |some (.arr t' xs fz g')=>match decEq t' t,Nat.beq g g' && !fz with
    |isTrue h,true=>some (h▸xs)
    |_,_=>none
   |_=>none
 |_=>none
noncomputable def sfunO(cx:Cx) (f:FuncId) (ap:List PV) (t:TC) (x:Tup (PV.tcss ap)):Option (List t.Den):=
 (okF cx.P f).bind fun fn=>fn.body.bind fun c=>(PV.puts (fun _=>0) ap (fromTup _ x)).bind fun q=>match Nat.ble q.1.length fn.ntmps with
   |true=>scode cx 100000 f fn.ntmps 0 65535 c (senv0 0 q.1) [] fun e τ S=>match isEnd e with
    |true=>sres cx.T τ S fn.results.toList fun v=>sownR t v S
    |false=>none
   |false=>none
theorem sfunO_ok{cx:Cx}(hcx:CxOk cx) (hL:∀e ∈ cx.L,LOk cx.P e) {f:FuncId}{c:CtrO}{fn:Func}(hf:okF cx.P f=some fn) (hap:PV.chks [] c.ap=true) (hpa:PV.pures c.ap=true)
 (h:∀x,sfunO cx f c.ap c.t x=c.fn x):CtrOOk cx.P f c:=by
 obtain⟨g1,g2⟩:=fok_of hf
 refine⟨g2,hap,fun x y hy=> ?_⟩
 rw[←h x]at hy
 unfold sfunO at hy
 rw[hf]at hy
 obtain⟨fn',hfn',hy⟩:=bind_inv hy
 cases hfn'
 obtain⟨body,hb,hy⟩:=bind_inv hy
 obtain⟨q,hq,hy⟩:=bind_inv hy
 split at hy<;>try (cases hy;done)
 rename_i hn
 have hn:=Nat.le_of_ble_eq_true hn
 obtain⟨vs0,r0⟩:=q
 obtain⟨vs1,hvs1⟩:=PV.puts_some (fun _=>0) c.ap (fromTup _ x) [] (fromTup_t _ x)
 rw[List.append_nil]at hvs1
 rw[hvs1]at hq
 cases hq
 have hpv:=PV.puts_pure _ hvs1 hpa
 intro vs hvs ds hds
 rw[hvs1]at hvs
 cases hvs
 obtain⟨_,hpd⟩:=VRs.pure (S' :=[]) (σ' :=[]) vs0 ds hpv hds
 refine own_of_callG hpd (TC.flat_pure _ _) ?_
 have hw:=(scode_ok hcx hL 100000 _ f 0 65535 body (senv0 0 vs0) [] _ y fn body g1 hb (fun _ _ hx=>hx) hy (env0 0 ds) [] (ER.env0 hds) ⟨rfl,fun l o hl=>by simp at hl⟩).1
 refine acall_gho hcx.tok g1 hb (by rw[hds.length];exact hn) (hw.mono ?_)
 rintro e τ2 σ2 ⟨τs,S2,h1,h2,hp,h3⟩
 simp only at h3
 split at h3<;>try (cases h3;done)
 rename_i he
 refine⟨by cases e<;>first|exact .inl rfl|exact .inr rfl|(simp[isEnd]at he),?_⟩
 obtain⟨v0,d0,d,k1,k2,k3,k4⟩:=sres_ok h2 h1 h3
 unfold sownR at k1
 split at k1<;>try (cases k1;done)
 rename_i l g
 split at k1<;>try (cases k1;done)
 rename_i t' xs fz g' hl
 split at k1<;>try (cases k1;done)
 rename_i ht _ hg
 obtain⟨ca,ct,cf⟩:=c
 simp only at ht k1 y⊢
 subst ht
 cases k1
 simp only[Bool.and_eq_true,Bool.not_eq_true']at hg
 obtain⟨hg,rfl⟩:=hg
 have hg:=nbeq hg
 subst hg
 simp only[VR]at k2
 obtain⟨fr,u,m1,rfl⟩:=(k2.2 _ _ _ _ hl).2 rfl
 obtain⟨a,ha,fr',u',rfl,hfr⟩:=h2.obj _ _ hl
 rw[m1]at ha
 cases ha
 have:=hfr rfl
 subst this
 exact⟨d0,k4,_,σ2,⟨l,u,rfl,m1⟩,Gho.weak k3⟩
noncomputable def sround(cx:Cx) (fid N i:Nat) (head:Pat) (exits:Exits) (b:Code) (rec:Tup head.tcs→Option (XS exits.tcs)) (x:Tup head.tcs):Option (XS exits.tcs):=
 (head.put (fun _=>0) (fromTup _ x)).bind fun q=>scode cx 100000 fid N i 65535 b q.1 q.2 fun e τ S=>match e with
   | .normal=>((head.get i q.2 τ S).bind (toTup _)).bind rec
   |e=>sleave exits i q.2 e τ S
theorem subL_of{key:Nat}{b:Code}:∀{c:Code},b ∈ loopsOf key c→SubL b c:=by
 intro c
 induction c with
 |loop c ih=>
  intro h k x hx
  simp only[loopsOf,List.mem_append]at h⊢
  rcases h with h|h
  ·split at h
   ·simp at h;subst h;exact .inr hx
   ·simp at h
  ·exact .inr (ih h k x hx)
 |seq a c iha ihc=>
  intro h k x hx
  simp only[loopsOf,List.mem_append]at h⊢
  exact h.imp (fun h=>iha h k x hx) (fun h=>ihc h k x hx)
 |cond o a c iha ihc=>
  intro h k x hx
  simp only[loopsOf,List.mem_append]at h⊢
  exact h.imp (fun h=>iha h k x hx) (fun h=>ihc h k x hx)
 |block id c ih=>intro h k x hx;exact ih h k x hx
 |scope c ih=>intro h k x hx;exact ih h k x hx
 |_=>intro h;simp[loopsOf]at h
theorem XPost.round{i:Nat}{x:Exits}{y:XS x.tcs}{head:Pat}{S S1 S2:SSto}{σ σ1 σ2:Sto}{e:AEx}{τ' :Env}{σ' :Sto}(h:XPost i x y S2 σ2 e τ' σ') (hP:PresI i S σ S1 σ1) (hK:KpR head S S1 σ1 σ2)
 (hx:∀q ∈ x,kpSub head.objs q.2.objs=true) (hlo:kpLo i 0 head.objs=true)
 (hG:∀(j:Nat) t0 f0,head.objs[j]? =some (.arr t0 f0 true)→∀t xs fz g,S1[j]? =some (.arr t xs fz g)→∃fz',S2[j]? =some (.arr t xs fz' 0)):XPost i x y S σ e τ' σ' :=by
 obtain⟨m,p,l,h1,h2,h3⟩:=h
 refine⟨m,p,l,h1,h2,fun G=> ?_⟩
 obtain⟨τ,S3,k1,k2,k3,k4,k5⟩:=h3 G
 refine⟨τ,S3,k1,k2,k3,k4,fun j t0 f0 hj g t1 x1 f1 hs=> ?_⟩
 obtain⟨t2,f2,hh⟩:=kpSub_ok (hx _ (List.mem_of_getElem? h1)) j t0 f0 hj
 obtain⟨t3,x3,f3,g3,a1,a2,a3⟩:=hK j t2 f2 hh
 unfold sameGen at a2
 rw[hs]at a2
 have a2:=nbeq a2
 subst a2
 have hji:j<i:=by have:=kpLo_ok hlo j t2 f2 hh;omega
 obtain⟨fz',b1⟩:=hG j t2 f2 hh _ _ _ _ a1
 obtain⟨t4,x4,f4,g4,c1,c2,c3⟩:=k5 j t0 f0 hj 0 _ _ _ b1
 refine⟨t4,x4,f4,g4,c1,fun d hr=>c2 d ?_,fun k o d hr=>c3 k o d ?_⟩
 ·obtain⟨fr,u,h6,h7⟩:=((hP.1 j g3 d hji hr).2 _ _ _ _ a1).2 rfl
  exact .mk b1 (by rw[a3];exact h6) h7
 ·obtain⟨fr,u,h6,h7⟩:=((hP.2 j g3 k o d hji hr).2 _ _ _ _ a1).2 rfl
  exact .mk b1 (by rw[a3];exact h6) h7
theorem loop_ok{cx:Cx}(hcx:CxOk cx) (hL:∀e ∈ cx.L,LOk cx.P e) {fid key i:Nat}{head:Pat}{exits:Exits}{L:Nat→Tup head.tcs→Option (XS exits.tcs)}{fn:Func}{body b:Code}(hfn:cx.P.funcs[fid]? =some fn) (hb:fn.body=some body)
 (hl:loopsOf key body=[b]) (hkp:(kpLo i 0 head.objs&&exits.all fun q=>kpLo i 0 q.2.objs&&kpSub head.objs q.2.objs)=true) (h0:∀x,L 0 x=none) (hS:∀n x,sround cx fid fn.ntmps i head exits b (L n) x=L (n+1) x):∀n,LOk cx.P ⟨fid,key,i,head,exits,L n⟩:=by
 simp only[Bool.and_eq_true,List.all_eq_true]at hkp
 obtain⟨hlo,hkx⟩:=hkp
 have hx1:∀q ∈ exits,kpLo i 0 q.2.objs=true:=fun q hq=>(hkx q hq).1
 have hx2:∀q ∈ exits,kpSub head.objs q.2.objs=true:=fun q hq=>(hkx q hq).2
 intro n
 induction n with
 |zero=>
  intro fn' c' _ _ b' _ x y hy
  simp only[h0]at hy
  cases hy
 |succ n ih=>
  intro fn' c' hfn' hc' b' hb' x y hy τ S hput τ' σ hE hSt
  simp only at hfn' hb' hy hput
  rw[hfn]at hfn'
  cases hfn'
  rw[hb]at hc'
  cases hc'
  rw[hl]at hb'
  simp at hb'
  subst hb'
  rw[←hS]at hy
  unfold sround at hy
  obtain⟨q,hq,hy⟩:=bind_inv hy
  rw[hput]at hq
  cases hq
  have hw:=(scode_ok hcx hL 100000 _ fid i 65535 b' τ S _ y fn body hfn hb (subL_of (by rw[hl];simp)) hy τ' σ hE hSt).1
  refine lwp_round (AWp.post (hw.mono ?_))
  rintro e τ2 σ2 ⟨τs,S2,h1,h2,hp,h3⟩
  cases e with
  |normal=>
   simp only at h3
   obtain⟨x',hx',h3⟩:=bind_inv h3
   obtain⟨l,hl',hx'⟩:=bind_inv hx'
   have hfrom:=toTup_from _ hx'
   obtain⟨τ3,σ3,k1,hK,kG⟩:=Pat.norm (N:=fn.ntmps) hl' h1 h2
   obtain⟨τs3,S3,k2,k3,k4,k5,k6⟩:=kG fun _=>0
   refine⟨τ3,σ3,k1,(ih fn body hfn hb b' (by simp only[hl];simp) x' y h3 τs3 S3 (by simp only;rw[hfrom];exact k2) τ3 σ3 k4 k5).mono ?_⟩
   exact fun e τ σ hx=>XPost.round hx hp hK hx2 hlo k6
  |exit id=>
   obtain⟨τ3,σ3,k1,k2⟩:=sleave_ok (N:=fn.ntmps) h3 h1 h2 hp hx1
   exact⟨τ3,σ3,k1,k2⟩
  |goto l=>
   obtain⟨τ3,σ3,k1,k2⟩:=sleave_ok (N:=fn.ntmps) h3 h1 h2 hp hx1
   exact⟨τ3,σ3,k1,k2⟩
  |ret=>
   obtain⟨τ3,σ3,k1,k2⟩:=sleave_ok (N:=fn.ntmps) h3 h1 h2 hp hx1
   exact⟨τ3,σ3,k1,k2⟩
end Go.Fw
namespace Go.Fw
open Go.RowKit
def CtrsOk(P:Program):List (FuncId×Ctr)→Prop
 |[]=>True
 |(f,c)::r=>CtrOk P f c∧CtrsOk P r
def CtrsOOk(P:Program):List (FuncId×CtrO)→Prop
 |[]=>True
 |(f,c)::r=>CtrOOk P f c∧CtrsOOk P r
theorem CtrsOOk.mem{P:Program}:∀{l:List (FuncId×CtrO)},CtrsOOk P l→∀f c,(f,c) ∈ l→CtrOOk P f c
 |[],_,_,_,h=>by simp at h
 |(g,d)::r,h,f,c,hm=>by
  rcases List.mem_cons.1 hm with e|hm
  ·cases e;exact h.1
  ·exact CtrsOOk.mem h.2 f c hm
def CtrsXOk(P:Program):List (FuncId×CtrX)→Prop
 |[]=>True
 |(f,c)::r=>CtrXOk P f c∧CtrsXOk P r
theorem CtrsXOk.mem{P:Program}:∀{l:List (FuncId×CtrX)},CtrsXOk P l→∀f c,(f,c) ∈ l→CtrXOk P f c
 |[],_,_,_,h=>by simp at h
 |(g,d)::r,h,f,c,hm=>by
  rcases List.mem_cons.1 hm with e|hm
  ·cases e;exact h.1
  ·exact CtrsXOk.mem h.2 f c hm
def LsOk(P:Program):List LoopC→Prop
 |[]=>True
 |e::r=>LOk P e∧LsOk P r
theorem CtrsOk.mem{P:Program}:∀{l:List (FuncId×Ctr)},CtrsOk P l→∀f c,(f,c) ∈ l→CtrOk P f c
 |[],_,_,_,h=>by simp at h
 |(g,d)::r,h,f,c,hm=>by
  rcases List.mem_cons.1 hm with e|hm
  ·cases e;exact h.1
  ·exact CtrsOk.mem h.2 f c hm
theorem LsOk.mem{P:Program}:∀{l:List LoopC},LsOk P l→∀e ∈ l,LOk P e
 |[],_,_,h=>by simp at h
 |d::r,h,e,hm=>by
  rcases List.mem_cons.1 hm with rfl|hm
  ·exact h.1
  ·exact LsOk.mem h.2 e hm
theorem fun_ok{cx:Cx}(tok:TOk cx.T cx.P) (mix:cx.P.follows .mixedOrders=true) (hC:CtrsOk cx.P cx.C) (hO:CtrsOOk cx.P cx.CO) (hX:CtrsXOk cx.P cx.CX) (hL:LsOk cx.P cx.L) (f:FuncId) (c:Ctr) (hf:(okF cx.P f).isSome=true)
 (hp:(PV.chks [] c.ap&&(PV.chk [] c.rp&&(PV.pures c.ap&&c.rp.pure)))=true) (h:∀x,sfun cx f c.ap c.rp x=c.fn x):CtrOk cx.P f c:=by
 simp only[Bool.and_eq_true]at hp
 obtain⟨h1,h2,h3,h4⟩:=hp
 obtain⟨fn,hfn⟩:=Option.isSome_iff_exists.1 hf
 exact sfun_ok ⟨tok,mix,hC.mem,hO.mem,hX.mem⟩ hL.mem hfn h1 h2 h3 h4 h
theorem funO_ok{cx:Cx}(tok:TOk cx.T cx.P) (mix:cx.P.follows .mixedOrders=true) (hC:CtrsOk cx.P cx.C) (hO:CtrsOOk cx.P cx.CO) (hX:CtrsXOk cx.P cx.CX) (hL:LsOk cx.P cx.L) (f:FuncId) (c:CtrO) (hf:(okF cx.P f).isSome=true)
 (hp:(PV.chks [] c.ap&&PV.pures c.ap)=true) (h:∀x,sfunO cx f c.ap c.t x=c.fn x):CtrOOk cx.P f c:=by
 simp only[Bool.and_eq_true]at hp
 obtain⟨fn,hfn⟩:=Option.isSome_iff_exists.1 hf
 exact sfunO_ok ⟨tok,mix,hC.mem,hO.mem,hX.mem⟩ hL.mem hfn hp.1 hp.2 h
theorem ctr0{P:Program}(f:FuncId) (c:Ctr) (hf:(okF P f).isSome=true) (hp:(PV.chks [] c.ap&&PV.chk [] c.rp)=true) (h:∀x,c.fn x=none):CtrOk P f c:=by
 simp only[Bool.and_eq_true]at hp
 obtain⟨fn,hfn⟩:=Option.isSome_iff_exists.1 hf
 exact⟨(fok_of hfn).2,hp.1,hp.2,fun x y hy=>by rw[h]at hy;cases hy⟩
theorem ctrO0{P:Program}(f:FuncId) (c:CtrO) (hf:(okF P f).isSome=true) (hp:PV.chks [] c.ap=true) (h:∀x,c.fn x=none):CtrOOk P f c:=by
 obtain⟨fn,hfn⟩:=Option.isSome_iff_exists.1 hf
 exact⟨(fok_of hfn).2,hp,fun x y hy=>by rw[h]at hy;cases hy⟩
def lFind(P:Program) (fid key:Nat):Option (Func×Code×Code):=(P.funcs[fid]?).bind fun fn=>fn.body.bind fun c=>match loopsOf key c with
 |[b]=>some (fn,c,b)
 |_=>none
noncomputable def lRound(cx:Cx) (fid key i:Nat) (head:Pat) (exits:Exits) (rec:Tup head.tcs→Option (XS exits.tcs)) (x:Tup head.tcs):Option (XS exits.tcs):=match lFind cx.P fid key with
 |some (fn,_,b)=>sround cx fid fn.ntmps i head exits b rec x
 |none=>none
theorem loopc_ok{cx:Cx}(tok:TOk cx.T cx.P) (mix:cx.P.follows .mixedOrders=true) (hC:CtrsOk cx.P cx.C) (hO:CtrsOOk cx.P cx.CO) (hX:CtrsXOk cx.P cx.CX) (hL:LsOk cx.P cx.L) (fid key i:Nat) (head:Pat) (exits:Exits) (L:Nat→Tup head.tcs→Option (XS exits.tcs))
 (hf:(lFind cx.P fid key).isSome=true) (hkp:(kpLo i 0 head.objs&&exits.all fun q=>kpLo i 0 q.2.objs&&kpSub head.objs q.2.objs)=true) (h0:∀x,L 0 x=none) (hS:∀n x,lRound cx fid key i head exits (L n) x=L (n+1) x):
 ∀n,LOk cx.P ⟨fid,key,i,head,exits,L n⟩:=by
 obtain⟨⟨fn,c,b⟩,hq⟩:=Option.isSome_iff_exists.1 hf
 unfold lRound at hS
 rw[hq]at hS
 unfold lFind at hq
 obtain⟨fn',h1,hq⟩:=bind_inv hq
 obtain⟨c',h2,hq⟩:=bind_inv hq
 split at hq<;>cases hq
 rename_i h3
 exact loop_ok ⟨tok,mix,hC.mem,hO.mem,hX.mem⟩ hL.mem h1 h2 h3 hkp h0 hS
end Go.Fw
namespace Go.Fw
open Go.RowKit
def F_Clone(x:Bs):Option Bs:=app 1 [] x
noncomputable def k_Clone:Ctr:=⟨[.hole (.sl .byte)],.hole (.sl .byte),fun(x:Bs)=>F_Clone x⟩
theorem clone_ctr{P:Program}{f:FuncId}(hf:FnOk P f) (h:∀{cs:List D}{n:Nat}{f' :Bool},cs.length=n*1→cs.all D.isCell=true→pureL cs=true→n*1≤limit→PureOK P f [.list cs n f'] (.list cs n (Nat.beq n 0))):CtrOk P f k_Clone:=by
 refine⟨hf,rfl,rfl,fun(x:Bs) (y:Bs) hy=> ?_⟩
 have hy:F_Clone x=some y:=hy
 unfold F_Clone app at hy
 split at hy<;>cases hy
 rename_i hl
 refine⟨.sl .byte x false,rfl,fun S σ=>by simp only[SV.can,VR];exact⟨false,rfl,id⟩,fun vs hvs ds hds=> ?_⟩
 have:vs=[.sl .byte x false]:=by
  have h2:some ([SV.sl .byte x false],([]:List DV))=some (vs,[]):=hvs
  cases h2
  rfl
 subst this
 simp only[VRs,VR]at hds
 obtain⟨e,es,rfl,⟨f',rfl,_⟩,rfl⟩:=hds
 have h1:(TC.flat .byte x).length=x.length*1:=flatE_len (TC.enc .byte) x
 exact(h h1 (flat_cell (TC.enc .byte) x) (TC.flat_pure .byte x) (by simp at hl;omega)).weak (Weak.listF (by intro h;cases h))
end Go.Fw
namespace Go.Fw
open Go.RowKit
theorem run_append_zeros{P:Program}(w:World) {t tx ty e:TypeId}{i:TypeInfo}{z:Value}{k:IntKind}(ht:P.underlying t=some (.slice e)) (hk:P.underlying tx=some (.int k)) (hi:P.info? e=some i) (hz:i.zero=some z) {n:Nat}(h0:0<n) (hs:0<i.size) (hn:n≤limit) (hb:n*i.bytes≤limit) (ad:Option Addr):
 (Builtin.append_ #[t,tx] ty #[.slice ad 0 0,.int .i64 n]).run P w= .ok (.slice (some ⟨w.heap.size,0,none⟩) n (grownCap w n 0 e)) (w.drew.alloc (.cells (Builtin.zeroCells z.cells n++Builtin.zeroCells z.cells (grownCap w n 0 e-n)) e)):=by
 unfold limit at hn hb
 have h1:IntKind.i64.wrap (n:Int)=n:=Go.IntWalk.i64_in _ (by omega)
 have h2:¬((n:Int)<0):=by omega
 have hb' :((n:Int)*(i.bytes:Int))≤1099511627776:=by have:=Int.ofNat_le.2 hb;rwa[Int.natCast_mul]at this
 have h3:¬((281474976710656:Int)<(n:Int)*(i.bytes:Int)):=by omega
 have hn0:n≠0:=by omega
 have h4:n*i.size≠0:=Nat.ne_of_gt (Nat.mul_pos h0 hs)
 have hold:∀w' :World,(Builtin.firstCells i.size 0 (.slice ad 0 0)).run P w' = .ok #[] w' :=by
  intro w'
  cases ad with
  |none=>simp[Builtin.firstCells]
  |some a=>simp only[Builtin.firstCells,Nat.zero_mul];rfl
 have h63' :¬(9223372036854775807<(n:Int)):=by omega
 have h48' :¬(281474976710656<Builtin.nextslicecap n 0*i.bytes):=by rw[nextslicecap_zero h0];omega
 simp[Builtin.append_,run_underlying ht,run_underlying hk,sizeOf,typeInfo,zeroValue,hi,hz,asInt,asIntOf,h1,h2,h3,hn0,h63',h48',Question.forced,hold,newRow,grownCap]
 intro h;exact absurd h h4
theorem growNil_ok{P:Program}{B:Base P}{G:Gh}{σ:Sto}{w:World}(hR:Rel B G σ w) {t tx ty:TypeId}{sz by' n:Nat}{k:IntKind}(ht:tyApp P t t=some (sz,by')) (hk:P.underlying tx=some (.int k)) (h0:0<n) (hn:n≤limit) (hb:n*by'≤limit) (ad:Option Addr):
 ∃u w' G',(Builtin.append_ #[t,tx] ty #[.slice ad 0 0,.int .i64 n]).run P w= .ok u w'∧G.Le G'∧Rel B G' (σ++[.cells [] 0 0]) w'∧Rep G' (.sl σ.length 0 0 n sz false) u:=by
 obtain⟨e,i,zv,z,hu,hi,rfl,rfl,hpos,hz,hcd,hzl,_⟩:=tyApp_inv ht
 have hrun:=run_append_zeros (P:=P) w (ty:=ty) hu hk hi hz h0 hpos hn hb ad
 have hge:=grownCap_ge w n 0 e
 have hle:=grownCap_le_maxLen w n 0 e (by unfold maxLen;unfold limit at hn;omega)
 generalize grownCap w n 0 e=gc at hrun hge hle
 generalize hc:Builtin.zeroCells zv.cells n++Builtin.zeroCells zv.cells (gc-n)=c at hrun
 obtain⟨h1,h2⟩:=hR.drew.bindCells (l:=σ.length) (u:=0) (frz:=0) (cs:=[]) (σ' :=σ++[.cells [] 0 0]) (hd:=[]) (tl:=c.toList) (c:=c) e (by simp) (fun l' hl' =>by
  rcases Nat.lt_or_ge l' σ.length with h|h
  ·rw[List.getElem?_append_left h]
  ·rw[List.getElem?_append_right h,List.getElem?_eq_none h]
   have:l' -σ.length≠0:=by omega
   cases hk:l' -σ.length with
   |zero=>exact absurd hk this
   |succ k=>simp) (by simp) (by
    cases h:G.blk σ.length 0 with
    |none=>rfl
    |some b=>exact absurd (hR.blk _ _ _ h).1 (Nat.lt_irrefl _)) ⟨Nat.zero_le _,fun u' b h=>absurd (hR.blk _ _ _ h).1 (Nat.lt_irrefl _)⟩ (Nat.zero_le _) (by simp) (by simp[Reps])
 refine⟨_,_,_,hrun,h1,h2,?_⟩
 simp only[Rep]
 have hzs:zv.cells.size=i.size:=by rw[←hzl,(cDs_rep G hcd).length];simp
 refine .inl ⟨w.heap.size,gc,_,by simp[Gh.bind],rfl,hge,by unfold maxLen at hle;exact hle,by simp,by simp[Gh.bind];rfl,?_⟩
 rw[←hc,Array.size_append,size_zeroCells,size_zeroCells,hzs,Nat.zero_add,←Nat.add_mul]
 exact Nat.mul_le_mul_right _ (by omega)
section
variable {P:Program}{T:Tys}{N:Nat}{all:Array Oper}{o:Oper}{r:List Oper}{τ τ' :Env}{σ σ' :Sto}{Kt:Env→Sto→Prop}
theorem aop_growNil{t tx:TypeId}{x y:Operand}{sz by' n:Nat}{k:IntKind}(ho:o.op= .call {callee:= .builtin .append,args:= #[x,y],argTypes:= #[t,tx]}) (ht:tyApp P t t=some (sz,by')) (hk:P.underlying tx=some (.int k)) (hx:ev τ x=some (.list [] 0 true)) (hy:ev τ y=some (.int .i64 n)) (h0:0<n) (hn:n≤limit) (hb:n*by'≤limit):
 AOp P N o τ σ (fun d s=>d= .sl σ.length 0 0 n sz false∧s=σ++[.cells [] 0 0]):=by
 intro B G w a hR hT next Q hnx
 have hxr:=ev_ok hT hx
 have hyr:=ev_ok hT hy
 simp only[Rep]at hxr hyr
 obtain⟨ad,cap,hv,h1,h2,h3,h4⟩:=hxr
 have hc:cap=0:=h3 trivial
 subst hc
 obtain⟨u,w',G',hrun,g1,g2,g3⟩:=growNil_ok hR (ty:=o.type) ht hk h0 hn hb ad
 have hex:(execOp a.eval o).run P w= .ok (.value u) w' :=by
  obtain⟨dst,op,ty,pos,after,guard⟩:=o
  simp only at ho hrun
  subst ho
  unfold execOp
  simp only[resolve,Sem.run_bind,Sem.run_pure,Result.andThen_ok,invoke,builtin,List.map_toArray,List.map_cons,List.map_nil,hv,hyr,hrun]
 unfold Oper.wp
 rw[hex]
 exact hnx u w' G' _ _ g1 g2 g3 ⟨rfl,rfl⟩
theorem aop_cap{t e:TypeId}{x:Operand}{cs:List D}{n:Nat}(ho:o.op= .call {callee:= .builtin .cap,args:= #[x],argTypes:= #[t]}) (ht:P.underlying t=some (.slice e)) (hx:ev τ x=some (.list cs n true)):
 AOp P N o τ σ (fun d s=>d= .int .i64 n∧s=σ):=by
 intro B G w a hR hT next Q hnx
 have hxr:=ev_ok hT hx
 simp only[Rep]at hxr
 obtain⟨ad,cap,hv,h1,h2,h3,h4⟩:=hxr
 have hc:cap=n:=h3 trivial
 subst hc
 have hrun:(Builtin.cap_ #[t] o.type #[.slice ad cap cap]).run P w= .ok (goInt cap) w:=by
  simp[Builtin.cap_,run_underlying ht]
 have hex:(execOp a.eval o).run P w= .ok (.value (goInt cap)) w:=by
  obtain⟨dst,op,ty,pos,after,guard⟩:=o
  simp only at ho hrun
  subst ho
  unfold execOp
  simp only[resolve,Sem.run_bind,Sem.run_pure,Result.andThen_ok,invoke,builtin,List.map_toArray,List.map_cons,List.map_nil,hv,hrun]
 unfold Oper.wp
 rw[hex]
 exact hnx _ w G _ _ (.refl G) hR (by simp only[Rep];rfl) ⟨rfl,rfl⟩
theorem aop_cut0{t e:TypeId}{x y:Operand}{l u n sz by' :Nat}(ho:o.op= .slice t x none (some y) none) (ht:P.underlying t=some (.slice e)) (hs:tySl P t=some (sz,by')) (hx:ev τ x=some (.sl l u 0 n sz false)) (hy:ev τ y=some (.int .i64 0)):
 AOp P N o τ σ (fun d s=>d= .sl l u 0 0 sz false∧s=σ):=by
 intro B G w a hR hT next Q hnx
 have hxr:=ev_ok hT hx
 have hyr:=ev_ok hT hy
 obtain⟨e',i,hu,hi,rfl,_⟩:=tySl_inv hs
 simp only[Rep]at hxr hyr
 have key:∃v,(Instr.sliceAt t (a.eval x) none (some (.int .i64 0)) none).run P w= .ok v w∧Rep G (.sl l u 0 0 i.size false) v:=by
  rcases hxr with⟨b,cap,tot,g1,g2,g3,g4,g5,g6,g7⟩|⟨rfl,ad,g2⟩
  ·have hb:bnds n false none (some 0) none=some (0,0,false):=by simp[bnds,oget]
   obtain⟨m,hrun,b1,b2,b3,b4,b5⟩:=bounds_run (P:=P) (w:=w) true hb .none (.some .i64 0) .none g3 (fun h=>by cases h)
   rw[g2]
   refine⟨.slice (if m=0 then some ⟨b,0,none⟩ else some ⟨b,0,none⟩) 0 m,?_,?_⟩
   ·unfold Instr.sliceAt Instr.slice
    simp[run_underlying hu,hrun,sizeOf,typeInfo,hi,addr_add]
   ·simp only[Rep,ite_self]
    refine .inl ⟨b,m,tot,g1,rfl,Nat.zero_le _,by omega,fun h=>(by cases h),g6,?_⟩
    exact Nat.le_trans (Nat.add_le_add_left (Nat.mul_le_mul_right _ b4) _) g7
  ·have hb:bnds 0 true none (some 0) none=some (0,0,true):=by simp[bnds,oget]
   obtain⟨m,hrun,b1,b2,b3,b4,b5⟩:=bounds_run (P:=P) (w:=w) true hb .none (.some .i64 0) .none (Nat.le_refl 0) (fun _=>rfl)
   have hm0:m=0:=by omega
   subst hm0
   rw[g2]
   refine⟨.slice ad 0 0,?_,by simp only[Rep];exact .inr ⟨trivial,ad,rfl⟩⟩
   unfold Instr.sliceAt Instr.slice
   simp[run_underlying hu,hrun,sizeOf,typeInfo,hi]
 obtain⟨v,hrun,hrep⟩:=key
 have hex:(execOp a.eval o).run P w= .ok (.value v) w:=by
  obtain⟨dst,op,ty,pos,after,guard⟩:=o
  simp only at ho
  subst ho
  unfold execOp
  simp only[Sem.run_bind,Sem.run_pure,Result.andThen_ok,Option.map_none,Option.map_some,hyr,hrun]
 unfold Oper.wp
 rw[hex]
 exact hnx _ w G _ _ (.refl G) hR hrep ⟨rfl,rfl⟩
end
def F_Grow(n:Int):Option Bs:=bif decide (0≤n)&&decide (n≤limit) then some [] else none
noncomputable def k_Grow:CtrO:=⟨[.nils,.hole (.int .i64)],.byte,fun(n:Int)=>F_Grow n⟩
theorem grow_ctr{P:Program}{f:FuncId}(hf:FnOk P f) (h:∀{n:Nat},n≤limit→OwnOK P f [.list [] 0 true,.int .i64 n] [] 0 1):CtrOOk P f k_Grow:=by
 refine⟨hf,rfl,fun(x:Int) (y:Bs) hy=> ?_⟩
 have hy:F_Grow x=some y:=hy
 unfold F_Grow at hy
 rcases cond_inv hy with⟨hc,hy⟩|⟨_,hy⟩<;>try (cases hy;done)
 cases hy
 simp only[Bool.and_eq_true,decide_eq_true_eq]at hc
 obtain⟨n,rfl⟩:=Int.eq_ofNat_of_zero_le hc.1
 intro vs hvs ds hds
 have:vs=[.nils,.int .i64 n]:=by
  have h2:some ([SV.nils,SV.int .i64 n],([]:List DV))=some (vs,[]):=hvs
  cases h2
  rfl
 subst this
 simp only[VRs,VR]at hds
 obtain⟨e,es,rfl,rfl,e2,es2,rfl,rfl,rfl⟩:=hds
 exact h (by have:=hc.2;omega)
end Go.Fw
namespace Go.Fw
open Go.RowKit
def byteOf:D→Option UInt8
 | .int .u8 n=>match decide (0≤n)&&decide (n<256) with
   |true=>some (UInt8.ofNat n.toNat)
   |false=>none
 |_=>none
def decN{α:Type}(f:List D→Option (α×List D)) (n:Nat):List D→Option (List α×List D):=
 Nat.rec (fun l=>some ([],l)) (fun _ ih l=>match f l with
  |some (x,r)=>match ih r with
   |some (xs,r')=>some (x::xs,r')
   |none=>none
  |none=>none) n
def nodeDec(fuel:Nat):List D→Option (Node×List D):=Nat.rec (fun _=>none) (fun _ ih l=>match l with
 | .int .i64 c:: .int .i64 m:: .bool k:: .list b n _:: .list ks q _::r=>match decN (fun l=>match l with
  |d::r=>match byteOf d with
   |some x=>some (x,r)
   |none=>none
  |[]=>none) n b,decN ih q ks with
   |some (b',[]),some (ks',[])=>some (.mk c m k b' ks',r)
   |_,_=>none
 |_=>none) fuel
def TC.dec:(t:TC)→List D→Option (t.Den×List D)
 | .byte=>fun l=>match l with
   |d::r=>match byteOf d with
    |some x=>some (x,r)
    |none=>none
   |[]=>none
 | .int k=>fun l=>match l with
   | .int k' n::r=>match decEq k' k with
     |isTrue _=>some (n,r)
     |isFalse _=>none
   |_=>none
 | .bool=>fun l=>match l with
   | .bool b::r=>some (b,r)
   |_=>none
 | .str=>fun l=>match l with
   | .str s::r=>some (s,r)
   |_=>none
 | .sl t=>fun l=>match l with
   | .list cs n _::r=>match decN t.dec n cs with
     |some (xs,[])=>some (xs,r)
     |_=>none
   |_=>none
 | .pair a b=>fun l=>match a.dec l with
   |some (x,r)=>match b.dec r with
    |some (y,r')=>some ((x,y),r')
    |none=>none
   |none=>none
 | .unit=>fun l=>some ((),l)
 | .node=>nodeDec 20
 | .spot=>fun _=>none
def TC.val(t:TC) (d:D):Option DV:=match (match d with
    | .agg cs=>t.dec cs
    |d=>t.dec [d]) with
 |some (x,[])=>some ⟨t,x⟩
 |_=>none
mutual
def PV.dget:PV→D→Option (List DV)
 | .hole t,d=>match t.val d with
   |some x=>some [x]
   |none=>none
 | .agg ps,d=>match d with
   | .agg cs=>PV.dgets ps cs
   |_=>none
 | .tup ps,d=>match d with
   | .tuple cs=>PV.dgets ps cs
   |_=>none
 | .func _ a b,d=>match d with
   | .func _ da db=>match PV.dgets a da with
     |some x=>match PV.dgets b db with
      |some y=>some (x++y)
      |none=>none
     |none=>none
   |_=>none
 | .iface _ p,d=>match d with
   | .iface _ e=>PV.dget p e
   |_=>none
 | .rc ps _,d=>match d with
   | .rptr cs _=>PV.dgets ps cs
   |_=>none
 | .rp _ _,_=>none
 | .ptr _ _,_=>none
 | .own _,_=>none
 | .mp _,_=>none
 | .junk,_=>none
 | .raw _,_=>some []
 | .nils,_=>some []
 | .ilit _ _,_=>some []
 | .slit _,_=>some []
 | .blit _,_=>some []
def PV.dgets:List PV→List D→Option (List DV)
 |[],l=>match l with
  |[]=>some []
  |_=>none
 |p::ps,l=>match l with
  |d::ds=>match PV.dget p d with
   |some x=>match PV.dgets ps ds with
    |some y=>some (x++y)
    |none=>none
   |none=>none
  |[]=>none
end
mutual
def vrB:SV→D→Bool
 | .int k n,d=>D.beq d (.int k n)
 | .bool b,d=>D.beq d (.bool b)
 | .str s,d=>D.beq d (.str s)
 | .sl t xs f,d=>match d with
   | .list cs n f' =>D.beqs cs (t.flat xs)&&(Nat.beq n xs.length&&(!f||f'))
   |_=>false
 | .nils,d=>D.beq d (.list [] 0 true)
 | .lst cs n f,d=>match d with
   | .list ds m f' =>vrBs cs ds&&(Nat.beq m n&&(!f||f'))
   |_=>false
 | .agg cs,d=>match d with
   | .agg ds=>vrBs cs ds
   |_=>false
 | .tup cs,d=>match d with
   | .tuple ds=>vrBs cs ds
   |_=>false
 | .func fn a b,d=>match d with
   | .func fn' da db=>decide (fn' =fn)&&(vrBs a da&&vrBs b db)
   |_=>false
 | .iface t v,d=>match d with
   | .iface t' e=>Nat.beq t' t&&vrB v e
   |_=>false
 | .rc cs o,d=>match d with
   | .rptr ds o' =>Nat.beq o' o&&vrBs cs ds
   |_=>false
 | .raw e,d=>D.beq d e
 | .own _ _,_=>false
 | .ap _ _ _ _,_=>false
 | .rp _ _ _,_=>false
def vrBs:List SV→List D→Bool
 |[],l=>match l with
  |[]=>true
  |_=>false
 |v::vs,l=>match l with
  |d::ds=>vrB v d&&vrBs vs ds
  |[]=>false
end
mutual
theorem vrB_ok:∀(v:SV) (d:D),vrB v d=true→VR [] [] v d
 | .int _ _,_,h=>by simp only[vrB]at h;simp only[VR];exact D.beq_eq _ _ h
 | .bool _,_,h=>by simp only[vrB]at h;simp only[VR];exact D.beq_eq _ _ h
 | .str _,_,h=>by simp only[vrB]at h;simp only[VR];exact D.beq_eq _ _ h
 | .sl t xs f,d,h=>by
   simp only[vrB]at h
   split at h<;>try (cases h;done)
   simp only[Bool.and_eq_true,Bool.or_eq_true,Bool.not_eq_true']at h
   obtain⟨h1,h2,h3⟩:=h
   simp only[VR]
   refine⟨_,by rw[D.beqs_eq _ _ h1,nbeq h2],fun e=> ?_⟩
   rcases h3 with h3|h3
   ·rw[e]at h3;cases h3
   ·exact h3
 | .nils,_,h=>by simp only[vrB]at h;simp only[VR];exact D.beq_eq _ _ h
 | .lst cs n f,d,h=>by
   simp only[vrB]at h
   split at h<;>try (cases h;done)
   simp only[Bool.and_eq_true,Bool.or_eq_true,Bool.not_eq_true']at h
   obtain⟨h1,h2,h3⟩:=h
   simp only[VR]
   refine⟨_,_,by rw[nbeq h2],fun e=> ?_,vrBs_ok cs _ h1⟩
   rcases h3 with h3|h3
   ·rw[e]at h3;cases h3
   ·exact h3
 | .agg cs,d,h=>by
   simp only[vrB]at h
   split at h<;>try (cases h;done)
   simp only[VR]
   exact⟨_,rfl,vrBs_ok cs _ h⟩
 | .tup cs,d,h=>by
   simp only[vrB]at h
   split at h<;>try (cases h;done)
   simp only[VR]
   exact⟨_,rfl,vrBs_ok cs _ h⟩
 | .func fn a b,d,h=>by
   simp only[vrB]at h
   split at h<;>try (cases h;done)
   simp only[Bool.and_eq_true,decide_eq_true_eq]at h
   simp only[VR]
   exact⟨_,_,by rw[h.1],vrBs_ok a _ h.2.1,vrBs_ok b _ h.2.2⟩
 | .iface t v,d,h=>by
   simp only[vrB]at h
   split at h<;>try (cases h;done)
   simp only[Bool.and_eq_true]at h
   simp only[VR]
   exact⟨_,by rw[nbeq h.1],vrB_ok v _ h.2⟩
 | .rc cs o,d,h=>by
   simp only[vrB]at h
   split at h<;>try (cases h;done)
   simp only[Bool.and_eq_true]at h
   simp only[VR]
   exact⟨_,by rw[nbeq h.1],vrBs_ok cs _ h.2⟩
 | .raw e,_,h=>by simp only[vrB]at h;simp only[VR];exact D.beq_eq _ _ h
 | .own _ _,_,h=>by simp[vrB]at h
 | .ap _ _ _ _,_,h=>by simp[vrB]at h
 | .rp _ _ _,_,h=>by simp[vrB]at h
theorem vrBs_ok:∀(vs:List SV) (ds:List D),vrBs vs ds=true→VRs [] [] vs ds
 |[],ds,h=>by
  simp only[vrBs]at h
  split at h<;>try (cases h;done)
  simp only[VRs]
 |v::vs,ds,h=>by
  simp only[vrBs]at h
  split at h<;>try (cases h;done)
  simp only[Bool.and_eq_true]at h
  simp only[VRs]
  exact⟨_,_,rfl,vrB_ok v _ h.1,vrBs_ok vs _ h.2⟩
end
mutual
def wkB:D→D→Bool
 | .list cs n f,e=>match e with
   | .list cs' n' f' =>wkBs cs cs' &&(Nat.beq n n' &&(f|| !f'))
   |_=>false
 | .agg cs,e=>match e with
   | .agg cs' =>wkBs cs cs'
   |_=>false
 | .tuple cs,e=>match e with
   | .tuple cs' =>wkBs cs cs'
   |_=>false
 | .iface t d,e=>match e with
   | .iface t' d' =>Nat.beq t t' &&wkB d d'
   |_=>false
 | .rptr cs o,e=>match e with
   | .rptr cs' o' =>wkBs cs cs' &&Nat.beq o o'
   |_=>false
 | .func fn a b,e=>match e with
   | .func fn' a' b' =>decide (fn=fn')&&(wkBs a a' &&wkBs b b')
   |_=>false
 |d,e=>D.beq d e
def wkBs:List D→List D→Bool
 |[],l=>match l with
  |[]=>true
  |_=>false
 |d::ds,l=>match l with
  |e::es=>wkB d e&&wkBs ds es
  |[]=>false
end
theorem wkB_eq{d e:D}(h:D.beq d e=true):Weak d e:=by rw[D.beq_eq _ _ h];exact Weak.refl _
mutual
theorem wkB_ok:∀(d e:D),wkB d e=true→Weak d e
 | .list cs n f,e,h=>by
   simp only[wkB]at h
   split at h<;>try (cases h;done)
   simp only[Bool.and_eq_true,Bool.or_eq_true,Bool.not_eq_true']at h
   obtain⟨h1,h2,h3⟩:=h
   rw[←nbeq h2]
   exact(Weak.listF (fun e=>by rcases h3 with h3|h3;exact h3;rw[e]at h3;cases h3)).trans (Weak.cellsList (wkBs_ok _ _ h1))
 | .agg cs,e,h=>by
   simp only[wkB]at h
   split at h<;>try (cases h;done)
   exact Weak.agg (wkBs_ok _ _ h)
 | .tuple cs,e,h=>by
   simp only[wkB]at h
   split at h<;>try (cases h;done)
   exact Weak.tuple (wkBs_ok _ _ h)
 | .iface t d,e,h=>by
   simp only[wkB]at h
   split at h<;>try (cases h;done)
   simp only[Bool.and_eq_true]at h
   rw[←nbeq h.1]
   exact Weak.iface (wkB_ok _ _ h.2)
 | .rptr cs o,e,h=>by
   simp only[wkB]at h
   split at h<;>try (cases h;done)
   simp only[Bool.and_eq_true]at h
   rw[←nbeq h.2]
   exact Weak.rptr (wkBs_ok _ _ h.1)
 | .func fn a b,e,h=>by
   simp only[wkB]at h
   split at h<;>try (cases h;done)
   simp only[Bool.and_eq_true,decide_eq_true_eq]at h
   rw[←h.1]
   exact Weak.func (wkBs_ok _ _ h.2.1) (wkBs_ok _ _ h.2.2)
 | .bool _,e,h=>wkB_eq h
 | .int _ _,e,h=>wkB_eq h
 | .str _,e,h=>wkB_eq h
 | .nilp,e,h=>wkB_eq h
 | .ptr _ _ _,e,h=>wkB_eq h
 | .sl _ _ _ _ _ _,e,h=>wkB_eq h
 | .map _,e,h=>wkB_eq h
 | .nilmap,e,h=>wkB_eq h
 | .cmap _ _,e,h=>wkB_eq h
 | .pmap _ _,e,h=>wkB_eq h
 | .nilf,e,h=>wkB_eq h
 | .nili,e,h=>wkB_eq h
 | .anyi,e,h=>wkB_eq h
 | .junk,e,h=>wkB_eq h
theorem wkBs_ok:∀(ds es:List D),wkBs ds es=true→Weaks ds es
 |[],es,h=>by
  simp only[wkBs]at h
  split at h<;>try (cases h;done)
  exact Weaks.refl _
 |d::ds,es,h=>by
  simp only[wkBs]at h
  split at h<;>try (cases h;done)
  simp only[Bool.and_eq_true]at h
  exact⟨wkB_ok _ _ h.1,wkBs_ok _ _ h.2⟩
end
theorem PureOK.weaks{P:Program}{f:FuncId}{ds es:List D}{d:D}(h:PureOK P f es d) (hw:Weaks ds es):PureOK P f ds d:=
 fun G w vals h1 h2 h3=>h G w vals h1 h2 (hw.reps h3)
def Ctr.ap'(c:Ctr) (ds:List D):Option D:=match (PV.dgets c.ap ds).bind (toTup _) with
 |some x=>match PV.puts (fun _=>0) c.ap (fromTup _ x) with
  |some (vs,[])=>match vrBs vs (SV.cans vs)&&wkBs ds (SV.cans vs) with
   |true=>match c.fn x with
    |some y=>match c.rp.put (fun _=>0) (fromTup _ y) with
     |some (v,[])=>some v.can
     |_=>none
    |none=>none
   |false=>none
  |_=>none
 |none=>none
theorem Ctr.ap'_ok{P:Program}{f:FuncId}{c:Ctr}(h:CtrOk P f c) {ds:List D}{d:D}(e:c.ap' ds=some d):FnOk P f∧PureOK P f ds d:=by
 unfold Ctr.ap' at e
 split at e<;>try (cases e;done)
 rename_i x _
 split at e<;>try (cases e;done)
 rename_i vs hvs
 split at e<;>try (cases e;done)
 rename_i hv
 split at e<;>try (cases e;done)
 rename_i y hy
 split at e<;>try (cases e;done)
 rename_i v hp
 cases e
 obtain⟨hf,_,_,hC⟩:=h
 obtain⟨v',h1,_,h3⟩:=hC x y hy
 rw[hp]at h1
 cases h1
 simp only[Bool.and_eq_true]at hv
 exact⟨hf,(h3 vs hvs _ (vrBs_ok vs _ hv.1)).weaks (wkBs_ok _ _ hv.2)⟩
def Kof:List (FuncId×Ctr)→FuncId→List D→Option D
 |[],_,_=>none
 |(g,c)::r,f,ds=>match Nat.beq g f with
  |true=>match c.ap' ds with
   |some d=>some d
   |none=>Kof r f ds
  |false=>Kof r f ds
theorem Kof_ok{P:Program}:∀(C:List (FuncId×Ctr)),CtrsOk P C→KOk P (Kof C)
 |[],_,_,_,_,h=>by simp[Kof]at h
 |(g,c)::r,hC,f,ds,d,h=>by
  simp only[Kof]at h
  split at h
  ·rename_i hg
   have hg:=nbeq hg
   subst hg
   split at h
   ·rename_i d' hd
    cases h
    exact Ctr.ap'_ok hC.1 hd
   ·exact Kof_ok r hC.2 _ _ _ h
  ·exact Kof_ok r hC.2 _ _ _ h
end Go.Fw
namespace Go.Fw
open Go.RowKit
mutual
def tcOk(P:Program):Nat→TC→TypeId→Bool
 |0,_,_=>false
 |n+1,c,t=>match c with
  | .byte=>match P.underlying t with
    |some (.int k)=>decide (k= .u8)
    |_=>false
  | .int k=>match P.underlying t with
    |some (.int k')=>decide (k' =k)
    |_=>false
  | .bool=>match P.underlying t with
    |some .bool=>true
    |_=>false
  | .str=>match P.underlying t with
    |some .string=>true
    |_=>false
  | .sl c=>match P.underlying t with
    |some (.slice e)=>tcOk P n c e&&(Nat.beq (P.cellsOf e) c.sz&&(Nat.blt 0 c.sz&&Nat.blt 0 (P.bytesOf e)))
    |_=>false
  | .node=>false
  | .spot=>false
  |c=>match P.underlying t with
   |some (.struct fs)=>tcFs P n c 0 fs.toList&&Nat.beq (P.cellsOf t) c.sz
   |_=>false
def tcFs(P:Program):Nat→TC→Nat→List Field→Bool
 |0,_,_,_=>false
 |n+1,c,off,fs=>match fs with
  |[]=>match c with
   | .unit=>true
   |_=>false
  |f::r=>match r with
   |[]=>Nat.beq f.offset off&&(Nat.beq (P.cellsOf f.type) c.sz&&tcOk P n c f.type)
   |_::_=>match c with
    | .pair a b=>Nat.beq f.offset off&&(Nat.beq (P.cellsOf f.type) a.sz&&(tcOk P n a f.type&&tcFs P n b (off+a.sz) r))
    |_=>false
end
def TC.ok:(t:TC)→t.Den→Prop
 | .byte,_=>True
 | .int k,n=>k.min≤n∧n≤k.max
 | .bool,_=>True
 | .str,s=>s.length≤maxLen
 | .sl t,xs=>xs.length≤maxLen∧∀x ∈ xs,t.ok x
 | .pair a b,x=>a.ok x.1∧b.ok x.2
 | .unit,_=>True
 | .node,_=>True
 | .spot,_=>True
def TC.sm:(t:TC)→t.Den→Prop
 | .byte,_=>True
 | .int _,_=>True
 | .bool,_=>True
 | .str,s=>s.length≤reachBytes
 | .sl t,xs=>xs.length≤reachBytes∧∀x ∈ xs,t.sm x
 | .pair a b,x=>a.sm x.1∧b.sm x.2
 | .unit,_=>True
 | .node,_=>True
 | .spot,_=>True
theorem weightsAll_mem{H:Type}{P:Program}{e:TypeId}{p:Nat→Bool}:∀{ds:List (DataW H)}{d:DataW H},(DataW.weightsAll P e ds).all p=true→d ∈ ds→(d.weights P e).all p=true
 |[],_,_,h=>by cases h
 |d::ds,x,h,hm=>by
  simp only[DataW.weightsAll,List.all_append,Bool.and_eq_true]at h
  rcases List.mem_cons.1 hm with rfl|hm
  ·exact h.1
  ·exact weightsAll_mem h.2 hm
theorem weightsEach_get{H:Type}{P:Program}{p:Nat→Bool}:∀{ts:List TypeId}{ds:List (DataW H)},(DataW.weightsEach P ts ds).all p=true→∀(i:Nat) t d,ts[i]? =some t→ds[i]? =some d→(d.weights P t).all p=true
 |[],_,_,i,t,d,h,_=>by simp at h
 |_::_,[],_,i,t,d,_,h=>by simp at h
 |t::ts,d::ds,h,i,t',d',h1,h2=>by
  simp only[DataW.weightsEach,List.all_append,Bool.and_eq_true]at h
  cases i with
  |zero=>
   cases h1
   cases h2
   exact h.1
  |succ i=>exact weightsEach_get h.2 i t' d' (by simpa using h1) (by simpa using h2)
theorem Reps.one{G:Gh}{d:D}{v:Value}(h:Rep G d v):Reps G [d] [v]:=by simp only[Reps];exact⟨v,[],rfl,h,rfl⟩
theorem wf_u8{n:Int}(h:(Lit.int .u8 n).wf=true):∃b:UInt8,n=(b.toNat:Int):=by
 simp only[Lit.wf,Bool.and_eq_true,decide_eq_true_eq]at h
 have h1:IntKind.u8.min=0:=by decide
 have h2:IntKind.u8.max=255:=by decide
 rw[h1,h2]at h
 exact⟨UInt8.ofNat n.toNat,by simp;omega⟩
section
variable {H:Type}{enc:TypeId×Value→H}{P:Program}{w:World}{base:Nat}{sp:Nat→Bool}{held:Bool}
theorem cells_row{a:Addr}{n:Nat}{cs:List Value}(h:w.cells? base a n=some cs):cs.length=n∧∀i,i<n→w.cell? (a.add i)=cs[i]? :=by
 unfold World.cells? at h
 split at h<;>try (cases h;done)
 exact⟨by simpa using mapM_some_length h,fun i hi=>mapM_some_get h i i (by simp[hi])⟩
theorem cells_of_reps{G:Gh}{b:Nat}:∀{xs:List D}{vs:List Value}{o:Nat},Reps (snap G w) xs vs→(∀i v,vs[i]? =some v→w.cell? ⟨b,o+i,none⟩=some v)→Cells (snap G w) b o xs
 |[],_,_,_,_=>trivial
 |x::xs,_,o,h,k=>by
  simp only[Reps]at h
  obtain⟨v,r,rfl,h1,h2⟩:=h
  refine⟨⟨v,k 0 v rfl,h1⟩,cells_of_reps h2 fun i u hu=> ?_⟩
  have:=k (i+1) u (by simpa using hu)
  rwa[show o+1+i=o+(i+1) from by omega]
theorem flat_reps{G:Gh}{α:Type}{E:Enc α}:∀{xs:List α}{vss:List (List Value)},vss.length=xs.length→(∀(i:Nat) x vs,xs[i]? =some x→vss[i]? =some vs→Reps G (E.cells x) vs)→Reps G (flatE E xs) vss.flatten
 |[],vss,hl,_=>by
  have:vss=[]:=List.length_eq_zero_iff.1 (by simpa using hl)
  subst this
  rw[show flatE E ([]:List α)=[] from E.fnil]
  simp only[List.flatten_nil,Reps]
 |x::xs,[],hl,_=>by simp at hl
 |x::xs,vs::vss,hl,h=>by
  rw[show flatE E (x::xs)=E.cells x++flatE E xs from E.fcons x xs,List.flatten_cons]
  exact(h 0 x vs rfl rfl).append (flat_reps (by simpa using hl) fun i y us hy hu=>h (i+1) y us (by simpa using hy) (by simpa using hu))
theorem flatten_get{α:Type}{sz:Nat}:∀{vss:List (List α)}{i:Nat}{v:α},(∀vs ∈ vss,vs.length=sz)→0<sz→vss.flatten[i]? =some v→∃vs,vss[i / sz]? =some vs∧vs[i % sz]? =some v
 |[],i,v,_,_,h=>by simp at h
 |vs::vss,i,v,hl,hs,h=>by
  have hv:=hl vs (List.mem_cons_self ..)
  rw[List.flatten_cons]at h
  rcases Nat.lt_or_ge i sz with hi|hi
  ·rw[List.getElem?_append_left (by omega)]at h
   exact⟨vs,by rw[Nat.div_eq_of_lt hi];rfl,by rw[Nat.mod_eq_of_lt hi];exact h⟩
  ·rw[List.getElem?_append_right (by omega),hv]at h
   obtain⟨us,h1,h2⟩:=flatten_get (fun u hu=>hl u (List.mem_cons_of_mem _ hu)) hs h
   refine⟨us,?_,?_⟩
   ·have:i / sz=(i-sz) / sz+1:=by
     rw[←Nat.sub_add_cancel hi,Nat.add_div_right _ hs];simp
    rw[this];simpa using h1
   ·rw[Nat.mod_eq_sub_mod hi]
    exact h2
theorem pick_all{α β:Type}{R:Nat→α→β→Prop}:∀n:Nat,(∀i,i<n→∃x y,R i x y)→∃(xs:List α) (ys:List β),xs.length=n∧ys.length=n∧∀(i:Nat) x y,xs[i]? =some x→ys[i]? =some y→R i x y
 |0,_=>⟨[],[],rfl,rfl,fun i x y h=>by simp at h⟩
 |n+1,h=>by
  obtain⟨xs,ys,h1,h2,h3⟩:=pick_all n fun i hi=>h i (by omega)
  obtain⟨x,y,hr⟩:=h n (by omega)
  refine⟨xs++[x],ys++[y],by simp[h1],by simp[h2],fun i a b ha hb=> ?_⟩
  rcases Nat.lt_trichotomy i n with hi|hi|hi
  ·rw[List.getElem?_append_left (by omega)]at ha hb
   exact h3 i a b ha hb
  ·subst hi
   rw[List.getElem?_append_right (by omega),h1]at ha
   rw[List.getElem?_append_right (by omega),h2]at hb
   simp at ha hb
   subst ha hb
   exact hr
  ·rw[List.getElem?_eq_none (by simp;omega)]at ha
   cases ha
mutual
theorem open_tc(G:Gh):∀(n:Nat) (c:TC) (t:TypeId),tcOk P n c t=true→∀(fuel:Nat) (cs:List Value) (x:DataW H×List MemPlace),DataW.trod enc P w base sp held fuel t cs=some x→
 ∃y:c.Den,Reps (snap G w) (c.cells y) cs∧c.ok y∧((x.1.weights P t).all (· ≤reachBytes)=true→c.sm y)
 |0,_,_,h,_,_,_,_=>by simp[tcOk]at h
 |n+1,.byte,t,h,fuel,cs,x,hx=>by
  simp only[tcOk]at h
  split at h<;>try (cases h;done)
  rename_i k hu
  have:=of_decide_eq_true h
  subst this
  obtain⟨m,rfl,_,hw⟩:=DataW.trod_int hu hx
  obtain⟨b,rfl⟩:=wf_u8 hw
  exact⟨b,Reps.one (by simp only[Rep]),trivial,fun _=>trivial⟩
 |n+1,.int k,t,h,fuel,cs,x,hx=>by
  simp only[tcOk]at h
  split at h<;>try (cases h;done)
  rename_i k' hu
  have:=of_decide_eq_true h
  subst this
  obtain⟨m,rfl,_,hw⟩:=DataW.trod_int hu hx
  simp only[Lit.wf,Bool.and_eq_true,decide_eq_true_eq]at hw
  exact⟨m,Reps.one (by simp only[Rep]),hw,fun _=>trivial⟩
 |n+1,.bool,t,h,fuel,cs,x,hx=>by
  simp only[tcOk]at h
  split at h<;>try (cases h;done)
  rename_i hu
  obtain⟨b,rfl,_⟩:=DataW.trod_bool hu hx
  exact⟨b,Reps.one (by simp only[Rep]),trivial,fun _=>trivial⟩
 |n+1,.str,t,h,fuel,cs,x,hx=>by
  simp only[tcOk]at h
  split at h<;>try (cases h;done)
  rename_i hu
  obtain⟨s,rfl,rfl,hs⟩:=DataW.trod_string hu hx
  exact⟨s.data.toList,Reps.one (by simp only[Rep]),by simpa[TC.ok] using hs,fun h=>by simpa[DataW.weights,TC.sm] using h⟩
 |n+1,.sl c,t,h,fuel,cs,x,hx=>by
  simp only[tcOk]at h
  split at h<;>try (cases h;done)
  rename_i e hu
  simp only[Bool.and_eq_true]at h
  obtain⟨h1,h2,h3,h33⟩:=h
  have h2:=nbeq h2
  have h3:0<c.sz:=Nat.le_of_ble_eq_true h3
  have h33:0<P.bytesOf e:=Nat.le_of_ble_eq_true h33
  rcases DataW.trod_slice hu hx with⟨rfl,_⟩|⟨a,len,cap,elems,rest,m,_,rfl,rfl,_,hlc,hcm,hel,hr,_⟩
  ·refine⟨[],Reps.one ?_,by simp[TC.ok,maxLen],fun _=>by simp[TC.sm]⟩
   simp only[Rep]
   exact⟨none,0,rfl,Nat.le_refl _,by omega,(fun h=>by cases h),.inr c.enc.fnil⟩
  ·obtain⟨xs,vss,k1,k2,k3⟩:=pick_all (R:=fun i (y:c.Den) (vs:List Value)=>w.cells? base (a.add (i*P.cellsOf e)) (P.cellsOf e)=some vs∧Reps (snap G w) (c.cells y) vs∧c.ok y∧((DataW.weightsAll P e (elems.map (·.1))).all (· ≤reachBytes)=true→c.sm y)) len fun i hi=>by
    have h4:=hr i hi
    rw[List.getElem?_eq_getElem (by omega)]at h4
    obtain⟨vs,h5,h6⟩:=Option.bind_eq_some_iff.1 h4
    obtain⟨y,h7,h8,h9⟩:=open_tc G n c e h1 m vs _ h6
    exact⟨y,vs,h5,h7,h8,fun hw=>h9 (weightsAll_mem hw (List.mem_map.2 ⟨_,List.getElem_mem _,rfl⟩))⟩
   have hvs:∀vs ∈ vss,vs.length=c.sz:=by
    intro vs hvs
    obtain⟨i,hi⟩:=List.getElem?_of_mem hvs
    have hil:=lt_of_getElem? hi
    obtain⟨h5,_⟩:=k3 i _ vs (List.getElem?_eq_getElem (by omega)) hi
    rw[(cells_row h5).1,h2]
   refine⟨xs,Reps.one ?_,⟨by rw[k1];exact Nat.le_trans hlc hcm,fun y hy=> ?_⟩,fun hw=> ?_⟩
   ·simp only[Rep]
    refine⟨some a,cap,by rw[k1],by rw[k1];exact hlc,hcm,(fun h=>by cases h),?_⟩
    rcases Nat.eq_zero_or_pos len with h0|h0
    ·right
     have:xs=[]:=List.length_eq_zero_iff.1 (by omega)
     subst this
     exact c.enc.fnil
    ·left
     have hs:a.spot=none:=by
      have hv0:0<vss.length:=by omega
      have h0' :=(k3 0 _ _ (List.getElem?_eq_getElem (by omega)) (List.getElem?_eq_getElem hv0)).1
      have h9:=(cells_row h0').2 0 (by omega)
      have hl0:=hvs _ (List.getElem_mem hv0)
      rw[List.getElem?_eq_getElem (by omega),Nat.zero_mul]at h9
      unfold Addr.add at h9
      simp only[if_true]at h9
      unfold World.cell? at h9
      split at h9<;>try (cases h9;done)
      split at h9<;>try (cases h9;done)
      rename_i hn
      simpa using hn
     obtain⟨ab,ao,as⟩:=a
     simp only at hs
     subst hs
     have hcell:∀(i:Nat) v,vss.flatten[i]? =some v→w.cell? ⟨ab,ao+i,none⟩=some v:=by
      intro i v hv
      obtain⟨vs,h5,h6⟩:=flatten_get hvs h3 hv
      have hil:=lt_of_getElem? h5
      obtain⟨h7,_⟩:=k3 _ _ vs (List.getElem?_eq_getElem (by omega)) h5
      have h8:=(cells_row h7).2 (i % c.sz) (by rw[h2];exact Nat.mod_lt _ h3)
      rw[h6,h2]at h8
      have hd:i / c.sz*c.sz+i % c.sz=i:=by rw[Nat.mul_comm];exact Nat.div_add_mod i c.sz
      have hadd:((⟨ab,ao,none⟩:Addr).add (i / c.sz*c.sz)).add (i % c.sz)=⟨ab,ao+i,none⟩:=by
       unfold Addr.add
       by_cases e1:i / c.sz*c.sz=0<;>by_cases e2:i % c.sz=0<;>simp only[e1,e2,if_true,if_false]
       ·rw[show ao+i=ao from by omega]
       ·rw[show ao+i % c.sz=ao+i from by omega]
       ·rw[show ao+i / c.sz*c.sz=ao+i from by omega]
       ·rw[show ao+i / c.sz*c.sz+i % c.sz=ao+i from by omega]
      rw[hadd]at h8
      exact h8
     have hreps:=flat_reps (G:=snap G w) (E:=c.enc) (xs:=xs) (vss:=vss) (by omega) fun i y vs hy hv=>(k3 i y vs hy hv).2.1
     exact⟨ab,ao,rfl,cells_of_reps hreps hcell⟩
   ·obtain⟨i,hi⟩:=List.getElem?_of_mem hy
    have hil:=lt_of_getElem? hi
    exact(k3 i y (vss[i]'(by omega)) hi (List.getElem?_eq_getElem (by omega))).2.2.1
   ·simp only[DataW.weights,hu,List.all_cons,List.all_append,Bool.and_eq_true,decide_eq_true_eq,List.length_map]at hw
    refine⟨?_,fun y hy=> ?_⟩
    ·have h9:=Nat.le_mul_of_pos_right (elems.length+rest.length) h33
     omega
    ·obtain⟨i,hi⟩:=List.getElem?_of_mem hy
     have hil:=lt_of_getElem? hi
     exact(k3 i y (vss[i]'(by omega)) hi (List.getElem?_eq_getElem (by omega))).2.2.2 hw.2.1
 |n+1,.pair a b,t,h,fuel,cs,x,hx=>by
  simp only[tcOk]at h
  split at h<;>try (cases h;done)
  rename_i fs hu
  simp only[Bool.and_eq_true]at h
  obtain⟨xs,m,_,rfl,hl,hxs,hf⟩:=DataW.trod_struct hu hx
  obtain⟨y,h1,h2⟩:=open_fs G n (.pair a b) 0 fs.toList h.1 m cs (((DataW.agg (xs.map (·.1))).weights P t).all (· ≤reachBytes)=true) fun i f hi=>⟨xs[i]'(by rw[hxs];simpa using lt_of_getElem? hi),by
   rw[hf i f (by simpa using hi),List.getElem?_eq_getElem],fun hw=>by
   simp only[DataW.weights,hu]at hw
   exact weightsEach_get hw i f.type _ (by rw[List.getElem?_map,hi];rfl) (by rw[List.getElem?_map,List.getElem?_eq_getElem];rfl)⟩
  refine⟨y,?_,h2⟩
  rw[List.drop_zero,←nbeq h.2,←hl,List.take_length]at h1
  exact h1
 |n+1,.unit,t,h,fuel,cs,x,hx=>by
  simp only[tcOk]at h
  split at h<;>try (cases h;done)
  rename_i fs hu
  simp only[Bool.and_eq_true]at h
  obtain⟨xs,m,_,rfl,hl,hxs,hf⟩:=DataW.trod_struct hu hx
  obtain⟨y,h1,h2⟩:=open_fs G n .unit 0 fs.toList h.1 m cs (((DataW.agg (xs.map (·.1))).weights P t).all (· ≤reachBytes)=true) fun i f hi=>⟨xs[i]'(by rw[hxs];simpa using lt_of_getElem? hi),by
   rw[hf i f (by simpa using hi),List.getElem?_eq_getElem],fun hw=>by
   simp only[DataW.weights,hu]at hw
   exact weightsEach_get hw i f.type _ (by rw[List.getElem?_map,hi];rfl) (by rw[List.getElem?_map,List.getElem?_eq_getElem];rfl)⟩
  refine⟨y,?_,h2⟩
  rw[List.drop_zero,←nbeq h.2,←hl,List.take_length]at h1
  exact h1
 |n+1,.node,t,h,fuel,cs,x,hx=>by simp[tcOk]at h
 |n+1,.spot,t,h,fuel,cs,x,hx=>by simp[tcOk]at h
theorem open_fs(G:Gh):∀(n:Nat) (c:TC) (off:Nat) (fs:List Field),tcFs P n c off fs=true→∀(m:Nat) (cs:List Value) (W:Prop),
 (∀(i:Nat) (f:Field),fs[i]? =some f→∃x,DataW.trod enc P w base sp held m f.type ((cs.drop f.offset).take (P.cellsOf f.type))=some x∧(W→(x.1.weights P f.type).all (· ≤reachBytes)=true))→∃y:c.Den,Reps (snap G w) (c.cells y) ((cs.drop off).take c.sz)∧c.ok y∧(W→c.sm y)
 |0,_,_,_,h,_,_,_,_=>by simp[tcFs]at h
 |n+1,c,off,[],h,m,cs,W,hf=>by
  simp only[tcFs]at h
  split at h<;>try (cases h;done)
  exact⟨(),by simp only[show TC.unit.sz=0 from rfl,List.take_zero];show Reps _ [] [];simp only[Reps],trivial,fun _=>trivial⟩
 |n+1,c,off,[f],h,m,cs,W,hf=>by
  simp only[tcFs,Bool.and_eq_true]at h
  obtain⟨h1,h2,h3⟩:=h
  obtain⟨x,hx,hw⟩:=hf 0 f rfl
  rw[nbeq h1,nbeq h2]at hx
  obtain⟨y,k1,k2,k3⟩:=open_tc G n c f.type h3 m _ x hx
  exact⟨y,k1,k2,fun h=>k3 (hw h)⟩
 |n+1,c,off,f::g::r,h,m,cs,W,hf=>by
  simp only[tcFs]at h
  split at h<;>try (cases h;done)
  rename_i a b
  simp only[Bool.and_eq_true]at h
  obtain⟨h1,h2,h3,h4⟩:=h
  obtain⟨x,hx,hw⟩:=hf 0 f rfl
  rw[nbeq h1,nbeq h2]at hx
  obtain⟨ya,k1,k2,k5⟩:=open_tc G n a f.type h3 m _ x hx
  obtain⟨yb,k3,k4,k6⟩:=open_fs G n b (off+a.sz) (g::r) h4 m cs W fun i f' hi=>hf (i+1) f' (by simpa using hi)
  refine⟨(ya,yb),?_,⟨k2,k4⟩,fun h=>⟨k5 (hw h),k6 h⟩⟩
  have e:(cs.drop off).take (TC.pair a b).sz=(cs.drop off).take a.sz++(cs.drop (off+a.sz)).take b.sz:=by
   rw[show(TC.pair a b).sz=a.sz+b.sz from rfl,List.take_add,List.drop_drop]
  rw[e]
  exact k1.append k3
end
end
end Go.Fw
namespace Go.Fw
open Go.RowKit
theorem grow_below{G:Gh}{w w' :World}(hI:ImmOk G w) (hb:Below w.heap.size w w'):Grow G G w w' where
 le:= .refl G
 below:=hb
 blk:=rfl
 imm b o v hi:=by
  have hc:=hI.imm b o v hi
  rw[hb.cell (p:=⟨b,o,none⟩) (lt_of_cell hc)];exact hc
 mimm b es hm:=by
  obtain⟨hc,hb2⟩:=hI.mimm b es hm
  exact⟨(hb.block b (lt_of_some hc)).trans hc,hb2⟩
 siz b n hs:=by
  obtain⟨vs,et,f,h1,h2⟩:=hI.siz b n hs
  exact⟨vs,et,f,(hb.block b (lt_of_some h1)).trans h1,h2⟩
 imm_new _ _ _:=rfl
 mimm_new _ _:=rfl
def joinMax:Nat:=140737488355328
def F_Join(xs:List (List UInt8)) (sep:List UInt8):Option (List UInt8):=
 bif Nat.ble xs.length joinMax&&Nat.ble (Lib.join xs sep).length joinMax then some (Lib.join xs sep) else none
def k_Join:Ctr:=⟨[.hole (.sl .str),.hole .str],.hole .str,fun(x:List (List UInt8)×List UInt8)=>F_Join x.1 x.2⟩
theorem cells_strs{G:Gh}{w:World}(hI:ImmOk G w) {b:Nat}:∀{xs:List (List UInt8)}{o:Nat},Cells G b o (flatE strEk xs)→∀(j:Nat) x,xs[j]? =some x→w.cell? ⟨b,o+j,none⟩=some (.string ⟨x.toArray⟩)
 |[],_,_,j,x,hj=>by simp at hj
 |y::ys,o,h,j,x,hj=>by
  rw[show flatE strEk (y::ys)= .str y::flatE strEk ys from strEk.fcons y ys]at h
  simp only[Cells]at h
  obtain⟨⟨v,h1,h2⟩,h3⟩:=h
  cases j with
  |zero=>
   simp at hj
   subst hj
   simp only[Rep]at h2
   rw[Nat.add_zero,hI.imm _ _ _ h1,h2]
  |succ j=>
   have:=cells_strs hI h3 j x (by simpa using hj)
   rw[show o+(j+1)=o+1+j from by omega];exact this
theorem join_ctr{P:Program}{f:FuncId}(hf:FnOk P f)
 (h0:∀(a:Option Addr) (c:Nat) (sep:ByteArray) (w:World),Calls P f #[.slice a 0 c,.string sep] w fun e w' =>e= .returned (.string ⟨#[]⟩)∧w' =w)
 (h:∀(bk o c:Nat) (xs:List ByteArray) (sep:ByteArray) (w:World),(∀(j:Nat) x,xs[j]? =some x→w.cell? ⟨bk,o+j,none⟩=some (.string x))→bk<w.heap.size→xs.length≤140737488355328→xs.length≤c→
   (Lib.join (xs.map (·.data.toList)) sep.data.toList).length≤140737488355328→
   Calls P f #[.slice (some ⟨bk,o,none⟩) xs.length c,.string sep] w fun e w' =>e= .returned (.string ⟨(Lib.join (xs.map (·.data.toList)) sep.data.toList).toArray⟩)∧Below w.heap.size w w'):CtrOk P f k_Join:=by
 refine⟨hf,rfl,rfl,?_⟩
 rintro⟨xs,sep⟩ y hy
 have hy:F_Join xs sep=some y:=hy
 unfold F_Join at hy
 cases hc:(Nat.ble xs.length joinMax&&Nat.ble (Lib.join xs sep).length joinMax) with
 |false=>rw[hc]at hy;cases hy
 |true=>
  rw[hc]at hy
  cases hy
  simp only[Bool.and_eq_true]at hc
  have hn:=Nat.le_of_ble_eq_true hc.1
  have hl:=Nat.le_of_ble_eq_true hc.2
  refine⟨.str (Lib.join xs sep),rfl,fun _ _=>by simp only[SV.can,VR],?_⟩
  intro vs hvs ds hds
  cases hvs
  simp only[VRs]at hds
  obtain⟨d1,_,rfl,⟨f1,rfl,_⟩,d2,_,rfl,rfl,rfl⟩:=hds
  intro G w vals hI hG hv
  simp only[Reps]at hv
  obtain⟨v1,_,rfl,r1,v2,_,rfl,r2,rfl⟩:=hv
  simp only[Rep]at r1 r2
  subst r2
  obtain⟨a,cap,rfl,k1,k2,k3,k4⟩:=r1
  cases xs with
  |nil=>
   refine(h0 a cap ⟨sep.toArray⟩ w).mono ?_
   rintro e w' ⟨rfl,rfl⟩
   refine⟨_,G,rfl,grow_below hI (Below.refl _ _),?_⟩
   simp only[SV.can,Rep]
   rfl
  |cons x xs=>
   rcases k4 with⟨b,o,rfl,k5⟩|k5
   ·have hcell:=cells_strs hI (xs:=x::xs) k5
    have hm0:∀l:List (List UInt8),(l.map fun s:List UInt8=>(⟨s.toArray⟩:ByteArray)).map (·.data.toList)=l:=by
     intro l
     induction l with
     |nil=>rfl
     |cons a l ih=>rw[List.map_cons,List.map_cons,ih]
    have hm:=hm0 (x::xs)
    have:=h b o cap ((x::xs).map fun s=>⟨s.toArray⟩) ⟨sep.toArray⟩ w (fun j z hz=>by
     rw[List.getElem?_map]at hz
     obtain⟨s,hs,rfl⟩:=Option.map_eq_some_iff.1 hz
     exact hcell j s hs) (lt_of_cell (hcell 0 x rfl)) (by rw[List.length_map];exact hn) (by rw[List.length_map];exact k1) (by rw[hm];exact hl)
    rw[hm,List.length_map]at this
    refine Calls.mono this ?_
    rintro e w' ⟨rfl,hb⟩
    refine⟨_,G,rfl,grow_below hI hb,?_⟩
    simp only[SV.can,Rep]
   ·rw[show TC.flat .str (x::xs)= .str x::flatE strEk xs from strEk.fcons x xs]at k5
    cases k5
end Go.Fw
namespace Go.Fw
open Go.RowKit Go.WideShapes Go.ChangeShapes
section
variable {H:Type}{enc:TypeId×Value→H}{P:Program}
theorem post_below{f:Func}{s:ChangeSpec}{apart fresh handsOn again:Bool}{W W' :World}{args:Array Value}{v:Value}{ds gs:List (DataW H)}{before pa pv:List MemPlace}
 (hW:DataW.Whole enc P f.params.toList s.vars apart W args.toList ds gs before)
 (hres:∀(b:Nat) (sp:Nat→Bool) (hd:Bool),DataW.TrodAll enc P W' b sp hd f.resultTypes.toList (v.resultList f.resultTypes.size) (s.fn H (ds++gs)).results [])
 (hargs:∀sp:Nat→Bool,(∀p ∈ before,sp p.block=true)→DataW.TrodAll enc P W' 0 sp true f.params.toList args.toList (s.fn H (ds++gs)).args pa)
 (hvars:∀sp:Nat→Bool,(∀p ∈ before,sp p.block=true)→DataW.TrodVars enc P W' sp s.vars (s.fn H (ds++gs)).vars pv)
 (hps:before=pa++pv) (hb:Below W.heap.size W W')
 (hok:∀(j:Nat) (t:TypeId) (r:Value),f.resultTypes[j]? =some t→(v.resultList f.resultTypes.size)[j]? =some r→Value.okWide P W' .any 0 t r):
 s.post enc P f apart fresh handsOn again W args v W' :=by
 have hlt:∀p ∈ before,p.block<W.heap.size:=fun p hp=>hW.lt p hp
 have hold:∀p ∈ before,(fun b=>decide (b<W.heap.size)) p.block=true:=fun p hp=>by simpa using hlt p hp
 refine⟨ds,gs,before,[],pa,pv,hW,hres _ _ _,hargs _ hold,hvars _ hold,World.keptBut_mono (fun p hp=>⟨hp,?_⟩) (hb.frame (· ∈ before)),fun _=> ?_⟩
 ·rw[hps,List.mem_append]at hp
  exact Or.inr hp
 ·obtain⟨_,_,_,_,_,hz,hn⟩:=hW
  refine⟨hok,_,_,([]++pa)++pv,⟨[]++pa,pv,trodAll_append (hargs _ (fun _ _=>rfl)) (hres _ _ _),hvars _ (fun _ _=>rfl),rfl,?_,?_⟩,?_⟩
  ·intro b off hp
   have hin:MemPlace.cell b off ∈ before:=by rw[hps];simpa using hp
   rw[hb.frozen (hlt _ hin)]
   exact hz b off hin
  ·intro ha
   have:=hn ha
   rw[hps]at this
   simpa using this
  ·intro p hp _
   rw[hps]
   simpa using hp
end
def G0:Gh:=⟨fun _ _=>none,fun _=>none,fun _ _=>none,fun _=>none⟩
end Go.Fw
namespace Go.Fw
open Go.RowKit
theorem PureOK.run2{P:Program}{f:FuncId}{ds:List D}{b:Bool}(h:PureOK P f ds (.bool b)) (w:World) (hg:GlobOk P (snap G0 w) w) {vals:List Value}(hv:Reps (snap G0 w) ds vals):
 Calls P f vals.toArray w fun e w' =>e= .returned (.bool b)∧Below w.heap.size w w' :=
 (h (snap G0 w) w vals ⟨fun _ _ _ x=>x,fun _ _ x=>(by cases x),fun _ _ x=>(by cases x)⟩ hg hv).mono fun _ _ ⟨v,G',e1,e2,e3⟩=>⟨by simp only[Rep]at e3;rw[e1,e3],e2.below⟩
end Go.Fw
namespace Go.Fw
open Go.RowKit
theorem tab_pow{P:Program}{w:World}{g:Nat}(hg:P.globalNamed "internal/strconv.uint64pow10" =some g) (h:WTab P w):Lib.TabIs P w "internal/strconv.uint64pow10" .u64 Lib.pow10Tab:=by
 obtain⟨t,f,h1⟩:=h.pow g hg
 unfold Lib.TabIs World.var?
 rw[hg]
 simp[h1]
end Go.Fw
namespace Go.Fw
open Go.RowKit
inductive SoK where
 |pure|mk|ins (k v:D)
structure SRow where
 e:Env
 d:D
 k:SoK
def SRow.key(r:SRow):D:=match r.k with| .ins k _=>k|_=> .junk
def SRow.val(r:SRow):D:=match r.k with| .ins _ v=>v|_=> .junk
def isIns:SoK→Bool
 | .ins _ _=>true
 |_=>false
section
variable {fl:Nat}{P:Program}{N:Nat}{ops:Array Oper}{τ0:Env}{σ0:Sto}{row:Nat→SRow}{m0:Nat}
def mapOf(row:Nat→SRow) (ord:List Nat):AObj:= .map (ord.map fun i=>(row i).key) (ord.map fun i=>(row i).val)
def soSto(row:Nat→SRow) (m0:Nat) (σ0:Sto) (L:Array Bool) (ord:List Nat):Sto:=match L.getD m0 false with
 |true=>σ0++[mapOf row ord]
 |false=>σ0
structure SoupOk (P:Program) (N:Nat) (ops:Array Oper) (τ0:Env) (σ0:Sto) (row:Nat→SRow) (m0:Nat):Prop where
 ng:noGuard ops=true
 plan:planOk ops (masks ops.toList [])=true
 hm0:m0<ops.size
 mkI:∀i,i<ops.size→((row i).k= .mk↔i=m0)
 dlt:∀(i:Nat) o t,ops[i]? =some o→o.dst=some t→t<N
 dne:∀(i j:Nat) oi oj t,ops[i]? =some oi→ops[j]? =some oj→oi.dst=some t→oj.dst=some t→i=j
 env:∀(i:Nat) o,ops[i]? =some o→∀t v,get (row i).e t=some v→(∃(e:Edge) (oj:Oper),e ∈ o.after∧Region.binds .any e=true∧ops[e.on]? =some oj∧oj.dst=some t∧(row e.on).d=v)∨(get τ0 t=some v∧∀(j:Nat) oj,ops[j]? =some oj→oj.dst≠some t)
 pur:∀(i:Nat) o,ops[i]? =some o→(row i).k= .pure→AOp P N o (row i).e σ0 (fun d s=>d=(row i).d∧s=σ0)∧∀ks vs,AOp P N o (row i).e (σ0++[.map ks vs]) (fun d s=>d=(row i).d∧s=σ0++[.map ks vs])
 mkO:∀o,ops[m0]? =some o→AOp P N o (row m0).e σ0 fun d s=>d=(row m0).d∧s=σ0++[.map [] []]
 ins:∀(i:Nat) o k v,ops[i]? =some o→(row i).k= .ins k v→(∃e ∈ o.after,Region.binds .any e=true∧e.on=m0)∧isI64 k=true∧∀ks vs,(∀k' ∈ ks,isI64 k' =true∧keyN k'≠keyN k)→AOp P N o (row i).e (σ0++[.map ks vs]) fun d s=>d=(row i).d∧s=σ0++[.map (ks++[k]) (vs++[v])]
 kne:∀(i j:Nat),i<ops.size→j<ops.size→isIns (row i).k=true→isIns (row j).k=true→keyN (row i).key=keyN (row j).key→i=j
theorem soup_any(h:SoupOk P N ops τ0 σ0 row m0) {Q:AEx→Env→Sto→Prop}
 {τf:Env}(hQ:∀(ord:List Nat),ord.Nodup→(∀i,i ∈ ord↔(i<ops.size∧isIns (row i).k=true))→Q .normal τf (σ0++[mapOf row ord]))
 (hτf:∀t d,get τf t=some d→(∃(j:Nat) (oj:Oper),ops[j]? =some oj∧oj.dst=some t∧(row j).d=d)∨(get τ0 t=some d∧∀(j:Nat) oj,ops[j]? =some oj→oj.dst≠some t)):AnyR fl P N ops τ0 σ0 Q:=by
 intro B G00 G0 w0 a0 fuel0 h00 hR0 hT0 hf0
 have main:∀(fuel:Nat) (L:Array Bool) (a:Act) (w:World),L.size=ops.size→DownCl ops L→L.toList.count false≤fuel→
  (∃(G:Gh) (ord:List Nat),G00.LeB fl G∧Rel B G (soSto row m0 σ0 L ord) w∧a.tmps.size=N∧a.defers=[]∧
    (∀(j:Nat) oj t,ops[j]? =some oj→L.getD j false=true→oj.dst=some t→Rep G (row j).d (a.tmps.getD t undef))∧
    (∀t d,get τ0 t=some d→(∀(j:Nat) oj,ops[j]? =some oj→oj.dst≠some t)→Rep G d (a.tmps.getD t undef))∧ord.Nodup∧(∀i,i ∈ ord↔(L.getD i false=true∧i<ops.size∧isIns (row i).k=true)))→
  wpAny P .any ops (liftQ fl B G00 N Q) fuel L a w:=by
  intro fuel
  have fin:∀(L:Array Bool) (a:Act) (w:World),L.size=ops.size→Region.ready .any ops L=[]→
   (∃(G:Gh) (ord:List Nat),G00.LeB fl G∧Rel B G (soSto row m0 σ0 L ord) w∧a.tmps.size=N∧a.defers=[]∧
     (∀(j:Nat) oj t,ops[j]? =some oj→L.getD j false=true→oj.dst=some t→Rep G (row j).d (a.tmps.getD t undef))∧
     (∀t d,get τ0 t=some d→(∀(j:Nat) oj,ops[j]? =some oj→oj.dst≠some t)→Rep G d (a.tmps.getD t undef))∧ord.Nodup∧(∀i,i ∈ ord↔(L.getD i false=true∧i<ops.size∧isIns (row i).k=true)))→
   liftQ fl B G00 N Q .normal a w:=by
   rintro L a w hs hr ⟨G,ord,k0,k1,k2,k3,k4,k5,k6,k7⟩
   have hL:∀i,i<ops.size→L.getD i false=true:=by
    intro i hi
    cases hb:L.getD i false with
    |true=>rfl
    |false=>
     have:L.getD i true=false:=by rw[getD_tf (by omega)];exact hb
     obtain⟨j,hj⟩:=ready_some h.plan hs i i (Nat.le_refl _) this
     rw[hr]at hj;cases hj
   have e1:soSto row m0 σ0 L ord=σ0++[mapOf row ord]:=by unfold soSto;rw[hL _ h.hm0]
   rw[e1]at k1
   refine⟨G,τf,_,k0,k1,⟨k2,k3,fun t d hg=> ?_⟩,hQ ord k6 (fun i=> ?_)⟩
   ·rcases hτf t d hg with⟨j,oj,h1,h2,rfl⟩|⟨h1,h2⟩
    ·exact k4 j oj t h1 (hL j (Array.getElem?_eq_some_iff.1 h1).1) h2
    ·exact k5 t d h1 h2
   ·rw[k7]
    exact⟨fun x=>x.2,fun x=>⟨hL i x.1,x⟩⟩
  induction fuel with
  |zero=>
   intro L a w hs hd hc hJ
   have hr:Region.ready .any ops L=[]:=by
    rw[List.eq_nil_iff_forall_not_mem]
    intro i hi
    obtain⟨hun,_⟩:=mem_ready.1 hi
    obtain⟨hlt,hf⟩:=getD_false_of hun
    have:=count_false_zero (Nat.le_zero.1 hc) i (by simpa using hlt)
    simp[Array.getD_eq_getD_getElem?,hlt]at hf
    simp[hlt,hf]at this
   exact⟨hr,fin L a w hs hr hJ⟩
  |succ fuel ih=>
   intro L a w hs hd hc hJ
   refine⟨fun hr=>fin L a w hs hr hJ,fun i hi=> ?_⟩
   obtain⟨h1,o,h2,h3⟩:=mem_ready.1 hi
   obtain⟨hil,hif⟩:=getD_false_of h1
   have hio:i<ops.size:=by omega
   obtain⟨G,ord,k0,k1,k2,k3,k4,k5,k6,k7⟩:=hJ
   have hTR:TRel G N (row i).e a:=by
    refine⟨k2,k3,fun t v hg=> ?_⟩
    rcases h.env i o h2 t v hg with⟨e,oj,g1,g2,g3,g4,rfl⟩|⟨g1,g2⟩
    ·exact k4 e.on oj t g3 (h3 e g1 g2) g4
    ·exact k5 t v g1 g2
   have hcnt:(L.setIfInBounds i true).toList.count false≤fuel:=by
    have h6:L.toList[i]? =some false:=by
     simp[Array.getD_eq_getD_getElem?,hil]at hif
     simp[hil,hif]
    have:=count_false_set h6
    rw[Array.toList_setIfInBounds]
    omega
   have hLL:∀j,(L.setIfInBounds i true).getD j false=true↔(j=i∨L.getD j false=true):=fun j=>getD_set_iff hil
   have next:∀{G' :Gh}{ord' :List Nat}{v:Value}{w' :World},G.Le G'→Rel B G' (soSto row m0 σ0 (L.setIfInBounds i true) ord') w'→Rep G' (row i).d v→ord'.Nodup→(∀j,j ∈ ord'↔((L.setIfInBounds i true).getD j false=true∧j<ops.size∧isIns (row j).k=true))→
    wpAny P .any ops (liftQ fl B G00 N Q) fuel (L.setIfInBounds i true) (a.put o.dst v) w' :=by
    intro G' ord' v w' hle hR' hv hn' hm'
    refine ih _ _ _ (by simpa using hs) (hd.step hs hi) hcnt ⟨G',ord',k0.trans hle.b,hR',?_,?_,fun j oj t hj hLj ht=> ?_,fun t d hg hno=> ?_,hn',hm'⟩
    ·cases hdd:o.dst<;>simp[Act.put,k2]
    ·cases hdd:o.dst<;>simp[Act.put,k3]
    ·have htl:t<a.tmps.size:=by rw[k2];exact h.dlt j oj t hj ht
     rw[put_getD htl]
     by_cases e:o.dst=some t
     ·rw[if_pos e]
      have:=h.dne i j o oj t h2 hj e ht
      subst this
      exact hv
     ·rw[if_neg e]
      have hji:j≠i:=fun e' =>by subst e';rw[h2]at hj;cases hj;exact e ht
      rcases (hLL j).1 hLj with rfl|hLj
      ·exact absurd rfl hji
      ·exact Rep.mono hle _ _ (k4 j oj t hj hLj ht)
    ·rw[put_getD' (hno i o h2)]
     exact Rep.mono hle _ _ (k5 t d hg hno)
   cases hk:(row i).k with
   |pure=>
    have hne:i≠m0:=fun e=>by have:=(h.mkI i hio).2 e;rw[hk]at this;cases this
    have hst:∀ord,soSto row m0 σ0 (L.setIfInBounds i true) ord=soSto row m0 σ0 L ord:=fun ord=>by unfold soSto;rw[getD_set_ne false hne]
    have hord:∀j,j ∈ ord↔((L.setIfInBounds i true).getD j false=true∧j<ops.size∧isIns (row j).k=true):=fun j=>by
     rw[k7,hLL]
     constructor
     ·exact fun x=>⟨.inr x.1,x.2⟩
     ·rintro⟨rfl|x,y⟩
      ·rw[hk]at y;cases y.2
      ·exact⟨x,y⟩
    obtain⟨p1,p2⟩:=h.pur i o h2 hk
    have hop:AOp P N o (row i).e (soSto row m0 σ0 L ord) fun d s=>d=(row i).d∧s=soSto row m0 σ0 L ord:=by
     unfold soSto
     split
     ·exact p2 _ _
     ·exact p1
    refine wpOp_sub' h.ng h2 (hop B G w a k1 hTR _ _ ?_)
    rintro v w' G' d s hle hR' hd ⟨rfl,rfl⟩
    exact next hle (by rw[hst];exact hR') hd k6 hord
   |mk=>
    have hi0:i=m0:=(h.mkI i hio).1 hk
    subst hi0
    have hns:∀j,L.getD j false=true→isIns (row j).k=true→j<ops.size→False:=by
     intro j hj hji hjo
     cases hkk:(row j).k with
     |ins kk vv=>
      have hoj:ops[j]? =some ops[j]:=Array.getElem?_eq_getElem hjo
      obtain⟨⟨e,g1,g2,g3⟩,_⟩:=h.ins j _ kk vv hoj hkk
      have:=hd j _ hoj hj e g1 g2
      rw[g3,hif]at this;cases this
     |pure=>rw[hkk]at hji;cases hji
     |mk=>rw[hkk]at hji;cases hji
    have hnil:ord=[]:=by
     rw[List.eq_nil_iff_forall_not_mem]
     intro j hj
     obtain⟨a1,a2,a3⟩:=(k7 j).1 hj
     exact hns j a1 a3 a2
    subst hnil
    have e1:soSto row i σ0 L []=σ0:=by unfold soSto;rw[hif]
    rw[e1]at k1
    refine wpOp_sub' h.ng h2 (h.mkO o h2 B G w a k1 hTR _ _ ?_)
    rintro v w' G' d s hle hR' hdd ⟨rfl,rfl⟩
    have e2:soSto row i σ0 (L.setIfInBounds i true) []=σ0++[.map [] []]:=by unfold soSto;rw[(hLL i).2 (.inl rfl)];rfl
    refine next (ord' :=[]) hle (by rw[e2];exact hR') hdd .nil fun j=> ?_
    rw[hLL]
    constructor
    ·intro x;cases x
    ·rintro⟨rfl|x,y1,y2⟩
     ·rw[hk]at y2;cases y2
     ·exact(hns j x y2 y1).elim
   |ins kk vv=>
    obtain⟨⟨e,g1,g2,g3⟩,g4,g5⟩:=h.ins i o kk vv h2 hk
    have hm0:L.getD m0 false=true:=by rw[←g3];exact h3 e g1 g2
    have hne:i≠m0:=fun e=>by have:=(h.mkI i hio).2 e;rw[hk]at this;cases this
    have e1:soSto row m0 σ0 L ord=σ0++[mapOf row ord]:=by unfold soSto;rw[hm0]
    rw[e1]at k1
    have hkey:(row i).key=kk:=by unfold SRow.key;rw[hk]
    have hval:(row i).val=vv:=by unfold SRow.val;rw[hk]
    have hiord:i ∉ ord:=fun x=>by have:=((k7 i).1 x).1;rw[hif]at this;cases this
    have hks:∀k' ∈ ord.map (fun i=>(row i).key),isI64 k' =true∧keyN k'≠keyN kk:=by
     intro k' hk'
     obtain⟨j,hj,rfl⟩:=List.mem_map.1 hk'
     obtain⟨a1,a2,a3⟩:=(k7 j).1 hj
     refine⟨?_,fun ee=> ?_⟩
     ·cases hkk:(row j).k with
      |ins k2 v2=>
       have hoj:ops[j]? =some ops[j]:=Array.getElem?_eq_getElem a2
       have:=(h.ins j _ k2 v2 hoj hkk).2.1
       unfold SRow.key;rw[hkk];exact this
      |pure=>rw[hkk]at a3;cases a3
      |mk=>rw[hkk]at a3;cases a3
     ·have:=h.kne j i a2 hio a3 (by rw[hk];rfl) (by rw[ee,hkey])
      subst this
      exact hiord hj
    refine wpOp_sub' h.ng h2 (g5 _ _ hks B G w a k1 hTR _ _ ?_)
    rintro v w' G' d s hle hR' hdd ⟨rfl,rfl⟩
    have e2:soSto row m0 σ0 (L.setIfInBounds i true) (ord++[i])=σ0++[.map (ord.map (fun i=>(row i).key)++[kk]) (ord.map (fun i=>(row i).val)++[vv])]:=by
     unfold soSto
     rw[(hLL m0).2 (.inr hm0)]
     simp only[mapOf,List.map_append,List.map_cons,List.map_nil,hkey,hval]
    refine next (ord' :=ord++[i]) hle (by rw[e2];exact hR') hdd (List.nodup_append.2 ⟨k6,List.nodup_cons.2 ⟨by simp,.nil⟩,fun x hx y hy=>by simp at hy;subst hy;exact fun e=>hiord (e▸hx)⟩) fun j=> ?_
    rw[hLL,List.mem_append,k7]
    constructor
    ·rintro(x|x)
     ·exact⟨.inr x.1,x.2⟩
     ·simp at x;subst x;exact⟨.inl rfl,hio,by rw[hk];rfl⟩
    ·rintro⟨rfl|x,y⟩
     ·exact .inr (by simp)
     ·exact .inl ⟨x,y⟩
 refine main fuel0 _ a0 w0 (by simp) (fun j oj hoj hL=> ?_) (by simp;exact hf0) ⟨G0,[],h00,?_,hT0.size,hT0.defers,fun j oj t hj hL _=> ?_,fun t d hg _=>hT0.slot t d hg,.nil,fun i=> ?_⟩
 all_goals
  have hrep:∀j,(Array.replicate ops.size false).getD j false=false:=by
   intro j
   rcases Nat.lt_or_ge j ops.size with h' |h'
   ·simp[Array.getD_eq_getD_getElem?,h']
   ·simp[Array.getD_eq_getD_getElem?,h']
 ·rw[hrep]at hL;cases hL
 ·unfold soSto;rw[hrep];exact hR0
 ·rw[hrep]at hL;cases hL
 ·rw[hrep];simp
end
theorem preps_perm2{G:Gh}{ps ps' :List (D×D)}(h:ps.Perm ps'):∀{l:List MapEntry},PReps G ps l→∃l' :List MapEntry,l'.Perm l∧PReps G ps' l' :=by
 induction h with
 |nil=>exact fun h=>⟨_,.refl _,h⟩
 |cons p _ ih=>
  intro l h
  cases l with
  |nil=>obtain⟨h1,_⟩:=h;simp[Reps]at h1
  |cons e l=>
   obtain⟨h1,h2⟩:=h
   simp only[List.map_cons,Reps]at h1 h2
   obtain⟨v,r,e1,a1,a2⟩:=h1
   obtain⟨v2,r2,e2,b1,b2⟩:=h2
   cases e1;cases e2
   obtain⟨l',k1,k2⟩:=ih ⟨a2,b2⟩
   exact⟨e::l',k1.cons e,by simp only[List.map_cons,Reps];exact⟨_,_,rfl,a1,k2.1⟩,by simp only[List.map_cons,Reps];exact⟨_,_,rfl,b1,k2.2⟩⟩
 |swap p q ps=>
  intro l h
  obtain⟨h1,h2⟩:=h
  match l,h1,h2 with
  |[],h1,_=>simp[Reps]at h1
  |[_],h1,_=>
   simp only[List.map_cons,List.map_nil,Reps]at h1
   obtain⟨_,_,e0,_,_,_,e1,_⟩:=h1
   cases e0;cases e1
  |e::e' ::l,h1,h2=>
   simp only[List.map_cons,Reps]at h1 h2
   obtain⟨v,r,e1,a1,v',r',e1',a1',a2⟩:=h1
   obtain⟨u,s,e2,b1,u',s',e2',b1',b2⟩:=h2
   cases e1;cases e1';cases e2;cases e2'
   refine⟨e' ::e::l,.swap _ _ _,?_,?_⟩
   ·simp only[List.map_cons,Reps];exact⟨_,_,rfl,a1',_,_,rfl,a1,a2⟩
   ·simp only[List.map_cons,Reps];exact⟨_,_,rfl,b1',_,_,rfl,b1,b2⟩
 |trans _ _ ih1 ih2=>
  intro l h
  obtain⟨l1,k1,k2⟩:=ih1 h
  obtain⟨l2,m1,m2⟩:=ih2 k2
  exact⟨l2,m1.trans k1,m2⟩
theorem pmap_of_cmap{G:Gh}{ks vs ks' vs' :List D}{v:Value}(h:Rep G (.cmap ks vs) v) (hl:ks'.length=vs'.length) (hp:(ks.zip vs).Perm (ks'.zip vs')):Rep G (.pmap ks' vs') v:=by
 simp only[Rep]at h⊢
 obtain⟨b,es,rfl,hm,h1,h2⟩:=h
 have hlen:ks.length=vs.length:=by rw[h1.length,h2.length];simp
 have hpr:PReps G (ks.zip vs) es.toList:=⟨by rw[List.map_fst_zip (by omega)];exact h1,by rw[List.map_snd_zip (by omega)];exact h2⟩
 obtain⟨l',k1,k2⟩:=preps_perm2 hp hpr
 refine⟨b,es,l',rfl,hm,k1,?_,?_⟩
 ·have:=k2.1;rw[List.map_fst_zip (by omega)]at this;exact this
 ·have:=k2.2;rw[List.map_snd_zip (by omega)]at this;exact this
end Go.Fw
