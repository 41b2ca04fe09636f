/- A framework for proofs about Go programs in this model: part E. Everything is proved; no condition is added. -/
import Derived.IntWalk
import Derived.Test.YtgliijeioigckaaGreatDoorFwD
set_option linter.unusedVariables false
set_option linter.unusedSimpArgs false
namespace Go.Fw
open Go.RowKit
def mv(ks:List Nat):D→D
 | .ptr j u o=> .ptr (ks.getD j 0) u o
 | .sl j u o n sz f=> .sl (ks.getD j 0) u o n sz f
 | .map j=> .map (ks.getD j 0)
 |d=>d
def okv(n:Nat):D→Bool
 | .ptr j _ _=>Nat.blt j n
 | .sl j _ _ _ _ _=>Nat.blt j n
 | .map j=>Nat.blt j n
 |d=>d.pure
def mvO(ks:List Nat):AObj→AObj
 | .cells cs f v=> .cells (cs.map (mv ks)) f v
 |ob=>ob
def okO(n:Nat):AObj→Bool
 | .cells cs _ _=>cs.all (okv n)
 | .map a b=>pureL a&&pureL b
 | .miter a b _ _=>pureL a&&pureL b
 |_=>true
def Gh.sel(G:Gh) (ks:List Nat):Gh:={G with blk:=fun j u=>match ks[j]? with
 |some l=>G.blk l u
 |none=>none}
theorem sel_blk{G:Gh}{ks:List Nat}{j u b:Nat}(hj:j<ks.length) (h:G.blk (ks.getD j 0) u=some b):(G.sel ks).blk j u=some b:=by
 have e:ks[j]? =some (ks.getD j 0):=by rw[List.getD_eq_getElem?_getD,List.getElem?_eq_getElem hj];rfl
 simp only[Gh.sel,e];exact h
theorem mv_rep{G:Gh}{ks:List Nat}{d:D}{v:Value}(hk:okv ks.length d=true) (h:Rep G (mv ks d) v):Rep (G.sel ks) d v:=by
 have pure:d.pure=true→mv ks d=d→Rep (G.sel ks) d v:=fun hp e=>by
  rw[e]at h
  exact Rep.pure (G:=G) (G' :=G.sel ks) (fun _ _ _ x=>x) (fun _ _ x=>x) d v hp h
 cases d
 case ptr j u o=>
  have hk:j<ks.length:=Nat.le_of_ble_eq_true hk
  simp only[mv,Rep]at h⊢
  obtain⟨b,hb,e⟩:=h
  exact⟨b,sel_blk hk hb,e⟩
 case sl j u o n sz f=>
  have hk:j<ks.length:=Nat.le_of_ble_eq_true hk
  simp only[mv,Rep]at h⊢
  rcases h with⟨b,cap,tot,hb,e⟩|h
  ·exact .inl ⟨b,cap,tot,sel_blk hk hb,e⟩
  ·exact .inr h
 case map j=>
  have hk:j<ks.length:=Nat.le_of_ble_eq_true hk
  simp only[mv,Rep]at h⊢
  obtain⟨b,hb,e⟩:=h
  exact⟨b,sel_blk hk hb,e⟩
 all_goals exact pure hk rfl
theorem mv_reps{G:Gh}{ks:List Nat}:∀{ds:List D}{vs:List Value},ds.all (okv ks.length)=true→Reps G (ds.map (mv ks)) vs→Reps (G.sel ks) ds vs
 |[],_,_,h=>by simpa only[List.map_nil,Reps] using h
 |d::ds,_,hk,h=>by
  simp only[List.all_cons,Bool.and_eq_true]at hk
  simp only[List.map_cons,Reps]at h⊢
  obtain⟨v,r,e,h1,h2⟩:=h
  exact⟨v,r,e,mv_rep hk.1 h1,mv_reps hk.2 h2⟩
theorem mvO_obj{G:Gh}{ks:List Nat}{w:World}{b:Nat}{ob:AObj}(hk:okO ks.length ob=true) (h:ObjAt G w b (mvO ks ob)):ObjAt (G.sel ks) w b ob:=by
 cases ob with
 |cells cs f v=>
  obtain⟨vs,et,h1,h2,tl,hd,h3,h4⟩:=h
  exact⟨vs,et,h1,h2,tl,hd,h3,mv_reps hk h4⟩
 |map a c=>
  simp only[okO,Bool.and_eq_true]at hk
  obtain⟨es,h1,h2,h3⟩:=h
  exact⟨es,h1,Reps.pure (G:=G) (G' :=G.sel ks) (fun _ _ _ x=>x) (fun _ _ x=>x) _ _ hk.1 h2,Reps.pure (G:=G) (G' :=G.sel ks) (fun _ _ _ x=>x) (fun _ _ x=>x) _ _ hk.2 h3⟩
 |siter s p=>exact h
 |miter a c r cur=>
  simp only[okO,Bool.and_eq_true]at hk
  obtain⟨m,es,seen,h1,h2,h3,h4,h5,h6⟩:=h
  exact⟨m,es,seen,h1,h2,Reps.pure (G:=G) (G' :=G.sel ks) (fun _ _ _ x=>x) (fun _ _ x=>x) _ _ hk.1 h3,Reps.pure (G:=G) (G' :=G.sel ks) (fun _ _ _ x=>x) (fun _ _ x=>x) _ _ hk.2 h4,h5,h6⟩
 |dead=>exact h
 |gone=>exact h
theorem mvO_ver{ks:List Nat}(ob:AObj):(mvO ks ob).ver=ob.ver∧(mvO ks ob).frz=ob.frz∧(mvO ks ob).len=ob.len:=by
 cases ob<;>simp[mvO,AObj.ver,AObj.frz,AObj.len]
theorem Rel.sel{P:Program}{B:Base P}{G:Gh}{σ σ' :Sto}{w:World}(hR:Rel B G σ w) {ks:List Nat}(hnd:ks.Nodup) (hlen:σ'.length=ks.length)
 (hob:∀(j l:Nat) (ob:AObj),ks[j]? =some l→σ'[j]? =some ob→σ[l]? =some (mvO ks ob)∧okO ks.length ob=true):Rel B (G.sel ks) σ' w:=by
 have hb:∀{j u b:Nat},(G.sel ks).blk j u=some b→∃l,ks[j]? =some l∧G.blk l u=some b:=by
  intro j u b h
  simp only[Gh.sel]at h
  split at h
  ·rename_i l hl;exact⟨l,hl,h⟩
  ·cases h
 have hin:∀{j:Nat}{ob:AObj},σ'[j]? =some ob→∃l,ks[j]? =some l:=by
  intro j ob h
  have:=lt_of_getElem? h
  exact⟨ks[j]'(by omega),List.getElem?_eq_getElem (by omega)⟩
 refine⟨hR.below,hR.imm,hR.mimm,hR.siz,fun j u b h=> ?_,fun j u j' u' b h h' => ?_,fun j ob b ho h=> ?_,fun j cs f u b ho h=> ?_,fun j a c b ho h=> ?_,fun j ob ho=> ?_,fun j ob ho=> ?_,hR.bimm,hR.bmimm⟩
 ·obtain⟨l,hl,h⟩:=hb h
  exact⟨by rw[hlen];exact lt_of_getElem? hl,(hR.blk _ _ _ h).2⟩
 ·obtain⟨l,hl,h⟩:=hb h
  obtain⟨l',hl',h'⟩:=hb h'
  have e:=hR.inj _ _ _ _ _ h h'
  subst e
  have h1:=lt_of_getElem? hl
  have h2:=lt_of_getElem? hl'
  rw[List.getElem?_eq_getElem h1]at hl
  rw[List.getElem?_eq_getElem h2]at hl'
  have e:=(Option.some.inj hl).trans (Option.some.inj hl').symm
  rcases Nat.lt_trichotomy j j' with h3|h3|h3
  ·exact absurd e (List.pairwise_iff_getElem.1 hnd j j' h1 h2 h3)
  ·exact h3
  ·exact absurd e.symm (List.pairwise_iff_getElem.1 hnd j' j h2 h1 h3)
 ·obtain⟨l,hl,h⟩:=hb h
  obtain⟨h1,h2⟩:=hob j l ob hl ho
  exact mvO_obj h2 (hR.obj l _ b h1 (by rw[(mvO_ver ob).1];exact h))
 ·obtain⟨l,hl,h⟩:=hb h
  obtain⟨h1,h2⟩:=hob j l _ hl ho
  exact hR.own l _ f u b h1 h
 ·obtain⟨l,hl,h⟩:=hb h
  obtain⟨h1,h2⟩:=hob j l _ hl ho
  exact hR.ownm l _ _ b h1 h
 ·obtain⟨l,hl⟩:=hin ho
  obtain⟨h1,h2⟩:=hob j l ob hl ho
  have h3:=hR.ver l _ h1
  rw[(mvO_ver ob).1,(mvO_ver ob).2.2]at h3
  refine⟨h3.1,fun u b h=> ?_⟩
  obtain⟨l',hl',h⟩:=hb h
  rw[hl]at hl';cases hl'
  exact h3.2 u b h
 ·obtain⟨l,hl⟩:=hin ho
  obtain⟨h1,h2⟩:=hob j l ob hl ho
  have h3:=hR.frzle l _ h1
  rw[(mvO_ver ob).2.1,(mvO_ver ob).2.2]at h3
  exact h3
theorem TRel.sel{G:Gh}{N:Nat}{τ τ' :Env}{a:Act}(hT:TRel G N τ a) {ks:List Nat}(h:∀t d,get τ' t=some d→get τ t=some (mv ks d)∧okv ks.length d=true):TRel (G.sel ks) N τ' a:=
 ⟨hT.size,hT.defers,fun t d hg=>mv_rep (h t d hg).2 (hT.slot t _ (h t d hg).1)⟩
theorem AWp.gc{i:Nat}{P:Program}{N:Nat}{c:Code}{τ τ' :Env}{σ σ' :Sto}{Q:AEx→Env→Sto→Prop}(ks:List Nat) (hi:∀l,l<i→ks[l]? =some l) (hnd:ks.Nodup) (hlen:σ'.length=ks.length)
 (hob:∀(j l:Nat) (ob:AObj),ks[j]? =some l→σ'[j]? =some ob→σ[l]? =some (mvO ks ob)∧okO ks.length ob=true)
 (hτ:∀t d,get τ' t=some d→get τ t=some (mv ks d)∧okv ks.length d=true) (h:AWp i P N c τ' σ' Q):AWp i P N c τ σ Q:=by
 intro B G w a hR hT
 refine wp_mono (h B (G.sel ks) w a (hR.sel hnd hlen hob) (hT.sel hτ)) fun e a w x=>liftQ_le ?_ (fun _ _ _ y=>y) e a w x
 exact⟨fun _ _ _ x=>x,fun _ _ x=>x,fun _ _ x=>x,fun l u b hl x=>by simp only[Gh.sel,hi l hl];exact x⟩
end Go.Fw
namespace Go.Fw
open Go.RowKit
structure Enc (α:Type) where
 sz:Nat
 cells:α→List D
 flat:List α→List D
 fnil:flat []=[]
 fcons:∀a r,flat (a::r)=cells a++flat r
 len:∀a,(cells a).length=sz
 pure:∀a,pureL (cells a)=true
 cell:∀a,(cells a).all D.isCell=true
def flatOf{α:Type}(cells:α→List D):List α→List D
 |[]=>[]
 |a::r=>cells a++flatOf cells r
def mkE{α:Type}(sz:Nat) (cells:α→List D) (len:∀a,(cells a).length=sz) (pure:∀a,pureL (cells a)=true) (cell:∀a,(cells a).all D.isCell=true):Enc α:=
 ⟨sz,cells,flatOf cells,rfl,fun _ _=>rfl,len,pure,cell⟩
def flatE{α:Type}(E:Enc α) (xs:List α):List D:=E.flat xs
section
variable {α:Type}
theorem flatE_nil(E:Enc α):flatE E []=[]:=E.fnil
theorem flatE_cons(E:Enc α) (a:α) (r:List α):flatE E (a::r)=E.cells a++flatE E r:=E.fcons a r
theorem flatE_len(E:Enc α):∀xs:List α,(flatE E xs).length=xs.length*E.sz
 |[]=>by simp[flatE_nil]
 |a::r=>by simp[flatE_cons,E.len,flatE_len E r,Nat.add_mul,Nat.add_comm]
theorem pureL_append:∀a b:List D,pureL (a++b)=(pureL a&&pureL b)
 |[],b=>by simp[pureL]
 |d::a,b=>by simp[pureL,pureL_append a b,Bool.and_assoc]
theorem flat_pure(E:Enc α):∀xs:List α,pureL (flatE E xs)=true
 |[]=>by rw[flatE_nil];rfl
 |a::r=>by simp[flatE_cons,pureL_append,E.pure,flat_pure E r]
theorem flat_cell(E:Enc α):∀xs:List α,(flatE E xs).all D.isCell=true
 |[]=>by rw[flatE_nil];rfl
 |a::r=>by simp only[flatE_cons,List.all_append,E.cell,flat_cell E r,Bool.and_self]
theorem flatE_append(E:Enc α):∀xs ys:List α,flatE E (xs++ys)=flatE E xs++flatE E ys
 |[],ys=>by simp[flatE_nil]
 |a::r,ys=>by simp[flatE_cons,flatE_append E r ys]
theorem flatE_take(E:Enc α):∀(n:Nat) (xs:List α),(flatE E xs).take (n*E.sz)=flatE E (xs.take n)
 |0,xs=>by simp[flatE_nil]
 |n+1,[]=>by simp[flatE_nil]
 |n+1,a::r=>by
  have e:(n+1)*E.sz=(E.cells a).length+n*E.sz:=by rw[E.len,Nat.add_mul,Nat.one_mul,Nat.add_comm]
  simp only[flatE_cons,List.take_succ_cons]
  rw[e,List.take_length_add_append,flatE_take E n r]
theorem flatE_drop(E:Enc α):∀(n:Nat) (xs:List α),(flatE E xs).drop (n*E.sz)=flatE E (xs.drop n)
 |0,xs=>by simp
 |n+1,[]=>by simp[flatE_nil]
 |n+1,a::r=>by
  have e:(n+1)*E.sz=(E.cells a).length+n*E.sz:=by rw[E.len,Nat.add_mul,Nat.one_mul,Nat.add_comm]
  simp only[flatE_cons,List.drop_succ_cons]
  rw[e,List.drop_length_add_append,flatE_drop E n r]
theorem flatE_get{E:Enc α}{xs:List α}{i:Nat}{a:α}(h:xs[i]? =some a):((flatE E xs).drop (i*E.sz)).take E.sz=E.cells a:=by
 have hlt:=lt_of_getElem? h
 rw[flatE_drop,List.drop_eq_getElem_cons hlt]
 rw[List.getElem?_eq_getElem hlt]at h
 cases h
 rw[flatE_cons]
 have e:E.sz=(E.cells xs[i]).length:=(E.len _).symm
 rw[e,List.take_left]
def ix(xs:List α) (i:Int):Option α:=if 0≤i then xs[i.toNat]? else none
theorem ix_inv{xs:List α}{i:Int}{a:α}(h:ix xs i=some a):0≤i∧i<xs.length∧xs[i.toNat]? =some a:=by
 unfold ix at h
 split at h<;>try (cases h;done)
 rename_i h0
 have:=lt_of_getElem? h
 exact⟨h0,by omega,h⟩
variable {T:Tys}{τ:Env}{σ:Sto}{E:Enc α}{xs:List α}
end
section
variable {P:Program}{T:Tys}{N:Nat}{all:Array Oper}{o:Oper}{r:List Oper}{τ τ' :Env}{σ σ' :Sto}{d:D}{Kt:Env→Sto→Prop}
theorem goA(tok:TOk T P) (h1:wantD all τ o=some true) (h2:aop T τ σ o.op=some (d,σ')) (h3:putD N o.dst d τ=some τ') (h:AOps P N all r τ' σ' Kt):AOps P N all (o::r) τ σ Kt:=
 .inl ⟨h1,(aop_aop tok h2).mono (by rintro d' s ⟨rfl,rfl⟩;exact⟨τ',h3,h⟩)⟩
end
def fits(k:IntKind) (n:Int):Bool:=decide (k.wrap n=n)
theorem bind_inv{α β:Type}{x:Option α}{f:α→Option β}{b:β}(h:x.bind f=some b):∃a,x=some a∧f a=some b:=by
 cases x with
 |none=>cases h
 |some a=>exact⟨a,rfl,h⟩
end Go.Fw
namespace Go.Fw
abbrev Bs:=List UInt8
open Go.RowKit
section
variable {P:Program}{T:Tys}{N:Nat}{all:Array Oper}{o:Oper}{r:List Oper}{τ τ' :Env}{σ σ' :Sto}{Kt:Env→Sto→Prop}
theorem aop_nilEq{t ty:TypeId}{x:Operand}{cs:List D}{n:Nat}{f:Bool}{e:TypeId}(ho:o.op= .binOp .eql t x (.const (.slice none 0 0)) ty) (ht:P.underlying t=some (.slice e)) (hx:ev τ x=some (.list cs n f)):
 AOp P N o τ σ (fun d s=>s=σ∧∃b:Bool,d= .bool b∧(b=true→cs=[])):=by
 intro B G w a hR hT next Q hn
 have hxr:=ev_ok hT hx
 simp only[Rep]at hxr
 obtain⟨ad,cap,hv,h1,h2,h3,h4⟩:=hxr
 have key:∃b:Bool,(Op.equal t (.slice ad n cap) (.slice none 0 0)).run P w= .ok b w∧(b=true→cs=[]):=by
  have e2:∀x y,Op.equal t x y=Op.equalIn (9999+1) t x y:=fun _ _=>rfl
  simp only[e2]
  clear e2
  generalize (9999:Nat)=dep
  cases ad with
  |none=>
   refine⟨true,by simp[Op.equalIn,run_underlying ht],fun _=> ?_⟩
   rcases h4 with⟨b,o',h,_⟩|h
   ·cases h
   ·exact h
  |some ad=>exact⟨false,by simp[Op.equalIn,run_underlying ht],fun h=>by cases h⟩
 obtain⟨b,hb,hc⟩:=key
 have hrun:(execOp a.eval o).run P w= .ok (.value (.bool b)) w:=by
  obtain⟨dst,op,ty',pos,after,guard⟩:=o
  simp only at ho
  subst ho
  unfold execOp
  have e1:a.eval (.const (.slice none 0 0))= .slice none 0 0:=rfl
  have hg:(eqGuard .eql t x (.const (.slice none 0 0)) (.slice ad n cap) (.slice none 0 0)).run P w= .ok () w:=eqGuard_prim (fun _ _=> .inl (by simp)) (.inl (by simp))
  have hbin:(binOp .eql t (.slice ad n cap) (.slice none 0 0)).run P w= .ok (.bool b) w:=by
   rw[bin_eql (by simp[notNum]),hb];rfl
  simp only[hv,e1,Sem.run_bind,hg,Result.andThen_ok,hbin,Sem.run_pure]
 unfold Oper.wp
 rw[hrun]
 exact hn _ w G _ σ (.refl G) hR (by simp only[Rep]) ⟨rfl,b,rfl,hc⟩
theorem go_nilEq{t ty:TypeId}{x:Operand}{cs:List D}{n:Nat}{f:Bool}{e:TypeId}{tt:Nat}(h1:wantD all τ o=some true) (ho:o.op= .binOp .eql t x (.const (.slice none 0 0)) ty) (ht:P.underlying t=some (.slice e))
 (hx:ev τ x=some (.list cs n f)) (hd:o.dst=some tt) (hN:Nat.blt tt N=true) (h:∀b:Bool,(b=true→cs=[])→AOps P N all r ((tt,.bool b)::τ) σ Kt):AOps P N all (o::r) τ σ Kt:=by
 refine .inl ⟨h1,(aop_nilEq ho ht hx).mono ?_⟩
 rintro d s ⟨rfl,b,rfl,hb⟩
 refine⟨(tt,.bool b)::τ,?_,h b hb⟩
 unfold putD;rw[hd];simp only;exact if_pos (Nat.le_of_ble_eq_true hN)
end
theorem app_new{T:Tys}{τ:Env}{σ:Sto}{t tx:TypeId}{s x:Operand}{sz by' n:Nat}{cs:List D}{f:Bool}(h1:lk2 T.app t tx=some (sz,by')) (h2:ev τ s=some (.list [] 0 true)) (h3:ev τ x=some (.list cs n f))
 (hn:0<n) (hl:cs.length=n*sz) (hc:cs.all D.isCell=true) (hb:n*by'≤limit) (hb' :n≤limit):aop T τ σ (.call {callee:= .builtin .append,args:= #[s,x],argTypes:= #[t,tx]})=some (.sl σ.length 0 0 n sz false,σ++[.cells cs 0 0]):=by
 show oAppend T τ σ [s,x] [t,tx]=_
 have hn' :¬n=0:=by omega
 simp[oAppend,h1,h2,h3,appD,srcD,hl,hc,hn',hb,hb']
theorem frz_own{σ:Sto}{l u n sz fz:Nat}{cs:List D}{f:Bool}(hl:σ[l]? =some (.cells cs fz u)) (hn:cs.length=n*sz):frzR σ (.sl l u 0 n sz f)=some (.list cs n f,σ.set l (.cells cs cs.length u)):=by
 have h1:¬(n*sz)>cs.length:=by omega
 simp[frzR,frz1,frzC,hl,hn,List.take_of_length_le (Nat.le_of_eq hn)]
end Go.Fw
namespace Go.Fw
open Go.RowKit
def Weak(d e:D):Prop:=∀(G:Gh) (v:Value),Rep G d v→Rep G e v
theorem Weak.refl(d:D):Weak d d:=fun _ _ h=>h
theorem Weak.list{cs:List D}{n:Nat}{f:Bool}:Weak (.list cs n f) (.list cs n false):=by
 intro G v h
 simp only[Rep]at h⊢
 obtain⟨a,cap,e,h1,h2,_,h4⟩:=h
 refine⟨a,cap,e,h1,h2,?_,h4⟩
 intro h
 cases h
def Weaks:List D→List D→Prop
 |[],l=>l=[]
 |d::ds,l=>match l with
  |e::es=>Weak d e∧Weaks ds es
  |[]=>False
theorem Weaks.reps{G:Gh}:∀{ds es:List D}{vs:List Value},Weaks ds es→Reps G ds vs→Reps G es vs
 |[],es,_,h,hv=>by
  have h:es=[]:=h
  subst h;exact hv
 |d::ds,[],_,h,_=>h.elim
 |d::ds,e::es,_,h,hv=>by
  simp only[Reps]at hv⊢
  obtain⟨v,r,rfl,h1,h2⟩:=hv
  exact⟨v,r,rfl,h.1 G v h1,Weaks.reps h.2 h2⟩
theorem Weak.agg{ds es:List D}(h:Weaks ds es):Weak (.agg ds) (.agg es):=by
 intro G v hv
 simp only[Rep]at hv⊢
 obtain⟨a,e,h1⟩:=hv
 exact⟨a,e,h.reps h1⟩
theorem Weak.tuple{ds es:List D}(h:Weaks ds es):Weak (.tuple ds) (.tuple es):=by
 intro G v hv
 simp only[Rep]at hv⊢
 obtain⟨a,e,h1⟩:=hv
 exact⟨a,e,h.reps h1⟩
theorem PureOK.weak{P:Program}{f:FuncId}{ds:List D}{d e:D}(h:PureOK P f ds d) (hw:Weak d e):PureOK P f ds e:=
 fun G w vals h1 h2 h3=>(h G w vals h1 h2 h3).mono fun _ _ ⟨v,G',e1,e2,e3⟩=>⟨v,G',e1,e2,hw _ _ e3⟩
section
variable {P:Program}{T:Tys}{N:Nat}{all:Array Oper}{o:Oper}{r:List Oper}{τ τ' :Env}{σ σ' :Sto}{d e:D}{Kt:Env→Sto→Prop}
theorem AOp.weak(h:AOp P N o τ σ fun d' s=>d' =d∧s=σ') (hw:Weak d e):AOp P N o τ σ fun d' s=>d' =e∧s=σ' :=by
 intro B G w a hR hT next Q hn
 refine h B G w a hR hT next Q ?_
 rintro v w' G' d' s h1 h2 h3 ⟨rfl,rfl⟩
 exact hn v w' G' e _ h1 h2 (hw _ _ h3) ⟨rfl,rfl⟩
theorem goP(h1:wantD all τ o=some true) (h2:AOp P N o τ σ fun d' s=>d' =d∧s=σ') (h3:putD N o.dst d τ=some τ') (h:AOps P N all r τ' σ' Kt):AOps P N all (o::r) τ σ Kt:=
 .inl ⟨h1,h2.mono (by rintro d' s ⟨rfl,rfl⟩;exact⟨τ',h3,h⟩)⟩
end
def slc{α:Type}(xs:List α) (lo hi:Int):Option (List α):=if 0≤lo∧lo≤hi∧hi≤xs.length then some ((xs.take hi.toNat).drop lo.toNat) else none
theorem slc_inv{α:Type}{xs ys:List α}{lo hi:Int}(h:slc xs lo hi=some ys):0≤lo∧lo≤hi∧hi≤xs.length∧ys=(xs.take hi.toNat).drop lo.toNat∧ys.length=hi.toNat-lo.toNat:=by
 unfold slc at h
 split at h<;>try (cases h;done)
 rename_i hc
 cases h
 refine⟨hc.1,hc.2.1,hc.2.2,rfl,?_⟩
 simp only[List.length_drop,List.length_take]
 omega
theorem flatE_part{α:Type}(E:Enc α) (xs:List α) (l h:Nat) (hlh:l≤h):((flatE E xs).drop (l*E.sz)).take ((h-l)*E.sz)=flatE E ((xs.take h).drop l):=by
 rw[flatE_drop,flatE_take,List.drop_take]
section
variable {α:Type}{T:Tys}{τ:Env}{σ:Sto}{E:Enc α}{xs ys:List α}
def cat(a b:List UInt8):Option (List UInt8):=if a.length+b.length≤9223372036854775807 then some (a++b) else none
def byteE:Enc UInt8:=mkE 1 (fun b=>[.int .u8 b.toNat]) (fun _=>rfl) (fun _=>rfl) (fun _=>rfl)
def boolE:Enc Bool:=mkE 1 (fun b=>[.bool b]) (fun _=>rfl) (fun _=>rfl) (fun _=>rfl)
def listE{β:Type}(F:Enc β):Enc (List β):=mkE 1 (fun xs=>[.list (flatE F xs) xs.length false]) (fun _=>rfl) (fun _=>by simp[pureL,D.pure,flat_pure]) (fun _=>rfl)
theorem flat_bytes:∀s:List UInt8,flatE byteE s=s.map fun b=> .int .u8 b.toNat
 |[]=>rfl
 |b::s=>by rw[flatE_cons,flat_bytes s];rfl
theorem bytes_flat:∀s:List UInt8,bytesOfD (flatE byteE s)=some s
 |[]=>rfl
 |b::s=>by
  have:byteOfD (.int .u8 b.toNat)=some b:=by simp[byteOfD]
  show(match byteOfD (.int .u8 b.toNat),bytesOfD (flatE byteE s) with
   |some b,some bs=>some (b::bs)
   |_,_=>none)=_
  rw[this,bytes_flat s]
def small(s:List UInt8):Option (List UInt8):=if s.length≤limit then some s else none
def toB(n:Int):Option UInt8:=if 0≤n∧n<256 then some (UInt8.ofNat n.toNat) else none
theorem toB_inv{n:Int}{b:UInt8}(h:toB n=some b):n=(b.toNat:Int):=by
 unfold toB at h
 split at h<;>try (cases h;done)
 rename_i hc
 cases h
 simp only[UInt8.toNat_ofNat']
 omega
end
section
variable {α:Type}{T:Tys}{τ:Env}{σ:Sto}{E:Enc α}{xs:List α}
end
def allEq:List LK→List D→List D→Option Bool
 |[],[],[]=>some true
 |k::ks,a::as,b::bs=>match cellEq k a b,allEq ks as bs with
  |some r,some s=>some (r&&s)
  |_,_=>none
 |_,_,_=>none
theorem allEq_cells:∀(ks:List LK) (a b:List D) (r:Bool),allEq ks a b=some r→cellsEq ks a b=some r
 |[],[],[],r,h=>h
 |[],[],_::_,r,h=>by cases h
 |[],_::_,_,r,h=>by cases h
 |k::ks,[],_,r,h=>by cases h
 |k::ks,a::as,[],r,h=>by cases h
 |k::ks,a::as,b::bs,r,h=>by
  simp only[allEq]at h
  split at h<;>try (cases h;done)
  rename_i x y h1 h2
  cases h
  have:=allEq_cells ks as bs y h2
  simp only[cellsEq,h1]
  cases x
  ·rfl
  ·simpa using this
section
variable {T:Tys}{τ:Env}{σ:Sto}
end
section
variable {P:Program}{T:Tys}{N:Nat}{ops:Array Oper}{A:Res}{M:List Nat}{o:Oper}{r:List Oper}{i:Nat}{τ τ2:Env}{S:List Sto}{C:List Nat}{tab:List Rc}{K:Env→Sto→Prop}{σ σ' :Sto}{d:D}
theorem dr_end(h1:AllP (fun(x:Nat×Nat×List D)=>∃r:Rc,tab[x.1]? =some r∧r.kd= .alloc x.2.1 x.2.2) A) (h2:S.getLast? =some σ) (h:K τ σ):ADr P N ops A M [] i τ S C tab K:=⟨h1,σ,h2,h⟩
theorem dr_no(h1:wantD ops (rst ops o τ) o=some false) (h2:putD N o.dst (.tuple []) τ=some τ2) (h:ADr P N ops A M r (i+1) τ2 S C (tab++[⟨o,rst ops o τ,.tuple [],.skip⟩]) K):ADr P N ops A M (o::r) i τ S C tab K:=
 .inl ⟨h1,τ2,h2,h⟩
theorem dr_read(h1:wantD ops (rst ops o τ) o=some true) (h2:AllP (fun s=>AOp P N o (rst ops o τ) s fun d' s' =>d' =d∧s' =s) ((keepS (M.getD i 0) S C).flatMap fun σ=>(subsA A (M.getD i 0)).map (hide · σ)))
 (h3:putD N o.dst d τ=some τ2) (h:ADr P N ops A M r (i+1) τ2 S C (tab++[⟨o,rst ops o τ,d,.read⟩]) K):ADr P N ops A M (o::r) i τ S C tab K:=
 .inr (.inl ⟨h1,d,τ2,h2,h3,h⟩)
theorem dr_alloc(tok:TOk T P) {e:TypeId}{l:Nat}{cs:List D}(h1:wantD ops (rst ops o τ) o=some true) (h2:o.op= .alloc e) (h3:resOf? A i=some (l,cs)) (h4:lk T.zero e=some cs) (h5:putD N o.dst (.ptr l 0 0) τ=some τ2)
 (h:ADr P N ops A M r (i+1) τ2 S C (tab++[⟨o,rst ops o τ,.ptr l 0 0,.alloc l cs⟩]) K):ADr P N ops A M (o::r) i τ S C tab K:=
 .inr (.inr (.inr ⟨h1,e,l,cs,τ2,h2,h3,lk_of tok.zero h4,h5,h⟩))
end
end Go.Fw
namespace Go.Fw
open Go.RowKit
theorem set_same{α:Type}{l:List α}{i:Nat}{x:α}(h:l[i]? =some x):l.set i x=l:=by
 apply List.ext_getElem?
 intro j
 by_cases e:i=j
 ·subst e
  rw[List.getElem?_set_self (lt_of_getElem? h),h]
 ·rw[List.getElem?_set_ne e]
section
variable {P:Program}{B:Base P}{G:Gh}{σ:Sto}{w:World}{N:Nat}{i:Nat}{c:Code}{τ τ' :Env}{σ' :Sto}{Q:AEx→Env→Sto→Prop}
theorem Rel.newObj(hR:Rel B G σ w):Rel B G (σ++[.cells [] 0 0]) w:=by
 have old:∀{l u b:Nat}{ob:AObj},G.blk l u=some b→(σ++[AObj.cells [] 0 0])[l]? =some ob→σ[l]? =some ob:=by
  intro l u b ob hb ho
  rwa[List.getElem?_append_left (hR.blk _ _ _ hb).1]at ho
 have look:∀{l:Nat}{ob:AObj},(σ++[AObj.cells [] 0 0])[l]? =some ob→σ[l]? =some ob∨(l=σ.length∧ob= .cells [] 0 0):=by
  intro l ob ho
  rcases Nat.lt_or_ge l σ.length with h|h
  ·rw[List.getElem?_append_left h]at ho;exact .inl ho
  ·rw[List.getElem?_append_right h]at ho
   cases hk:l-σ.length with
   |zero=>rw[hk]at ho;simp at ho;exact .inr ⟨by omega,ho.symm⟩
   |succ k=>rw[hk]at ho;simp at ho
 refine⟨hR.below,hR.imm,hR.mimm,hR.siz,fun l u b hb=> ?_,hR.inj,fun l ob b ho hb=>hR.obj l ob b (old hb ho) hb,fun l cs frz u b ho hb=>hR.own l cs frz u b (old hb ho) hb,fun l ks vs b ho hb=>hR.ownm l ks vs b (old hb ho) hb,fun l ob ho=> ?_,fun l ob ho=> ?_,hR.bimm,hR.bmimm⟩
 ·obtain⟨h1,h2⟩:=hR.blk l u b hb
  exact⟨by simp;omega,h2⟩
 ·rcases look ho with h|⟨rfl,rfl⟩
  ·exact hR.ver l ob h
  ·exact⟨Nat.le_refl _,fun u b hb=>absurd (hR.blk _ _ _ hb).1 (Nat.lt_irrefl _)⟩
 ·rcases look ho with h|⟨rfl,rfl⟩
  ·exact hR.frzle l ob h
  ·exact Nat.le_refl _
theorem Rel.weakObj(hR:Rel B G σ w) {l f v:Nat}{cs cs' :List D}(hl:σ[l]? =some (.cells cs f v)) (hlen:cs'.length=cs.length) (hw:∀vs,Reps G cs vs→Reps G cs' vs):Rel B G (σ.set l (.cells cs' f v)) w:=by
 have hlt:=lt_of_getElem? hl
 have look:∀{l' :Nat}{ob:AObj},(σ.set l (.cells cs' f v))[l']? =some ob→(l' =l∧ob= .cells cs' f v)∨(l'≠l∧σ[l']? =some ob):=by
  intro l' ob h
  by_cases e:l' =l
  ·subst e
   rw[List.getElem?_set_self hlt]at h
   exact .inl ⟨rfl,(Option.some.inj h).symm⟩
  ·rw[List.getElem?_set_ne (Ne.symm e)]at h
   exact .inr ⟨e,h⟩
 refine⟨hR.below,hR.imm,hR.mimm,hR.siz,fun l' u' b hb=> ?_,hR.inj,fun l' ob b ho hb=> ?_,fun l' cs2 frz' u' b ho hb o x hi=> ?_,fun l' ks vs b ho hb=> ?_,fun l' ob ho=> ?_,fun l' ob ho=> ?_,hR.bimm,hR.bmimm⟩
 ·rw[List.length_set];exact hR.blk l' u' b hb
 ·rcases look ho with⟨rfl,rfl⟩|⟨_,h⟩
  ·obtain⟨vs,et,h1,h2,tl,hd,h3,h4⟩:=hR.obj l' (.cells cs f v) b hl hb
   exact⟨vs,et,h1,h2,tl,hd,h3,hw _ h4⟩
  ·exact hR.obj l' ob b h hb
 ·rcases look ho with⟨rfl,h⟩|⟨_,h⟩
  ·cases h
   exact hR.own l' _ _ _ b hl hb o x hi
  ·exact hR.own l' _ _ _ b h hb o x hi
 ·rcases look ho with⟨_,h⟩|⟨_,h⟩
  ·cases h
  ·exact hR.ownm l' ks vs b h hb
 ·rcases look ho with⟨rfl,rfl⟩|⟨_,h⟩
  ·have:=hR.ver l' _ hl
   exact⟨by simp only[AObj.ver,AObj.len]at this⊢;omega,this.2⟩
  ·exact hR.ver l' ob h
 ·rcases look ho with⟨rfl,rfl⟩|⟨_,h⟩
  ·have:=hR.frzle l' _ hl
   simp only[AObj.frz,AObj.len]at this⊢;omega
  ·exact hR.frzle l' ob h
theorem nil_own{l sz:Nat}{v:Value}(h:Rep G (.list [] 0 true) v):Rep G (.sl l 0 0 0 sz false) v:=by
 simp only[Rep]at h⊢
 obtain⟨a,cap,rfl,_,_,h3,_⟩:=h
 have:=h3 trivial
 subst this
 exact .inr ⟨trivial,a,rfl⟩
theorem Reps.set_weak{d d' :D}(hw:∀v,Rep G d v→Rep G d' v):∀{cs:List D}{o:Nat}{vs:List Value},cs[o]? =some d→Reps G cs vs→Reps G (cs.set o d') vs
 |[],_,_,h,_=>by simp at h
 |x::cs,0,vs,h,hv=>by
  simp at h
  subst h
  simp only[List.set_cons_zero,Reps]at hv⊢
  obtain⟨v,r,e,h1,h2⟩:=hv
  exact⟨v,r,e,hw v h1,h2⟩
 |x::cs,o+1,vs,h,hv=>by
  simp only[List.getElem?_cons_succ]at h
  simp only[List.set_cons_succ,Reps]at hv⊢
  obtain⟨v,r,e,h1,h2⟩:=hv
  exact⟨v,r,e,h1,Reps.set_weak hw h h2⟩
end
def app{α:Type}(by' :Nat) (xs ys:List α):Option (List α):=if (xs.length+ys.length)*by'≤limit∧xs.length+ys.length≤limit then some (xs++ys) else none
section
variable {α:Type}{P:Program}{T:Tys}{τ τ' :Env}{σ σ' :Sto}{E:Enc α}{xs ys zs:List α}
theorem AOp.frz{N:Nat}{o:Oper}{d e:D}{σ1:Sto}(h:AOp P N o τ σ fun d' s=>d' =d∧s=σ1) (hz:frzC σ1 d=some (e,σ')):AOp P N o τ σ fun d' s=>d' =e∧s=σ' :=by
 intro B G w a hR hT next Q hn
 refine h B G w a hR hT next Q ?_
 rintro v w' G' d' s h1 h2 h3 ⟨rfl,rfl⟩
 obtain⟨G2,k1,k2,k3⟩:=frzC_ok h2 hz h3
 exact hn v w' G2 e _ (h1.trans k1) k2 k3 ⟨rfl,rfl⟩
end
end Go.Fw
namespace Go.Fw
section
variable {P:Program}{T:Tys}{N:Nat}{all:Array Oper}{o:Oper}{r:List Oper}{τ τ' :Env}{σ σ1 σ' :Sto}{Kt:Env→Sto→Prop}
end
end Go.Fw
namespace Go.Fw
open Go.RowKit
section
variable {P:Program}{N:Nat}{all:Array Oper}{Kt:Env→Sto→Prop}
theorem AOps.monoK{K K' :Env→Sto→Prop}(hk:∀τ σ,K τ σ→K' τ σ):∀(l:List Oper) (τ:Env) (σ:Sto),AOps P N all l τ σ K→AOps P N all l τ σ K'
 |[],τ,σ,h=>hk τ σ h
 |o::r,τ,σ,h=>by
  rcases h with⟨h1,h2⟩|⟨h1,τ1,h2,h3⟩
  ·refine .inl ⟨h1,h2.mono ?_⟩
   rintro d s ⟨τ1,h3,h4⟩
   exact⟨τ1,h3,AOps.monoK hk r τ1 s h4⟩
  ·exact .inr ⟨h1,τ1,h2,AOps.monoK hk r τ1 σ h3⟩
end
end Go.Fw
namespace Go.Fw
section
variable {i:Nat}{P:Program}{N:Nat}{c c1 c2:Code}{τ:Env}{σ:Sto}{Q:AEx→Env→Sto→Prop}
end
end Go.Fw
namespace Go.Fw
open Go.RowKit
section
variable {P:Program}{T:Tys}{N:Nat}{o:Oper}{τ:Env}{σ σ' :Sto}
theorem Rel.oneMore{P:Program}{B:Base P}{G:Gh}{w:World}{ob:AObj}(hv:ob.ver=0) (hR:Rel B G (σ++[ob]) w):Rel B G (σ++[.gone]) w:=by
 have look:∀{l:Nat}{x:AObj},(σ++[AObj.gone])[l]? =some x→(l<σ.length∧(σ++[ob])[l]? =some x)∨(l=σ.length∧x= .gone):=by
  intro l x h
  rcases Nat.lt_or_ge l σ.length with hl|hl
  ·rw[List.getElem?_append_left hl]at h
   exact .inl ⟨hl,by rw[List.getElem?_append_left hl];exact h⟩
  ·rw[List.getElem?_append_right hl]at h
   cases hk:l-σ.length with
   |zero=>rw[hk]at h;simp at h;exact .inr ⟨by omega,h.symm⟩
   |succ k=>rw[hk]at h;simp at h
 have top:(σ++[ob])[σ.length]? =some ob:=by simp
 refine⟨hR.below,hR.imm,hR.mimm,hR.siz,fun l u b hb=> ?_,hR.inj,fun l x b ho hb=> ?_,fun l cs frz u b ho hb=> ?_,fun l ks vs b ho hb=> ?_,fun l x ho=> ?_,fun l x ho=> ?_,hR.bimm,hR.bmimm⟩
 ·have:=hR.blk l u b hb
  exact⟨by simpa using this.1,this.2⟩
 ·rcases look ho with⟨_,h⟩|⟨rfl,rfl⟩
  ·exact hR.obj l x b h hb
  ·exact(hR.blk _ _ _ hb).2.2
 ·rcases look ho with⟨_,h⟩|⟨_,h⟩
  ·exact hR.own l cs frz u b h hb
  ·cases h
 ·rcases look ho with⟨_,h⟩|⟨_,h⟩
  ·exact hR.ownm l ks vs b h hb
  ·cases h
 ·rcases look ho with⟨_,h⟩|⟨rfl,rfl⟩
  ·exact hR.ver l x h
  ·refine⟨Nat.le_refl _,fun u b hb=> ?_⟩
   have:=(hR.ver _ _ top).2 u b hb
   rw[hv]at this
   exact this
 ·rcases look ho with⟨_,h⟩|⟨_,rfl⟩
  ·exact hR.frzle l x h
  ·exact Nat.le_refl _
variable {α:Type}{E:Enc α}{xs ys zs:List α}
end
end Go.Fw
namespace Go.Fw
open Go.RowKit
mutual
def lent(σ:Sto):Nat→D→Option D
 |0,_=>none
 |n+1,d=>match d.pure with
  |true=>some d
  |false=>match d with
   | .sl l u o len sz f=>match σ[l]? with
     |some (.cells cs _ v)=>match Nat.beq v u&&Nat.ble (o+len*sz) cs.length with
      |true=>match lents σ n ((cs.drop o).take (len*sz)) with
       |some xs=>some (.list xs len f)
       |none=>none
      |false=>none
     |_=>none
   | .agg cs=>match lents σ n cs with
     |some xs=>some (.agg xs)
     |none=>none
   |_=>none
def lents(σ:Sto):Nat→List D→Option (List D)
 |0,_=>none
 |n+1,l=>match l with
  |[]=>some []
  |d::ds=>match lent σ n d with
   |some x=>match lents σ n ds with
    |some xs=>some (x::xs)
    |none=>none
   |none=>none
end
def snap(G:Gh) (w:World):Gh:=⟨fun b o=>w.cell? ⟨b,o,none⟩,G.mimm,fun _ _=>none,G.siz⟩
section
variable {P:Program}{B:Base P}{G:Gh}{σ:Sto}{w:World}
end
end Go.Fw
namespace Go.Fw
open Go.RowKit
section
variable {fl:Nat}{P:Program}{N:Nat}{ops:Array Oper}{A:Res}{M:List Nat}{τ0:Env}{s0:Sto}{tab:List Rc}{S:List Sto}{C:List Nat}{τ:Env}
theorem drawn_stepL(hT:TabOk P N ops A M τ0 s0 tab S C τ) (hM:masks ops.toList []=M) (hp:planOk ops M=true)
 (hal:∀x ∈ A,∃r:Rc,tab[x.1]? =some r∧r.kd= .alloc x.2.1 x.2.2) (hinj:∀x ∈ A,∀y ∈ A,x.2.1=y.2.1→x.1=y.1)
 {B:Base P}{G0:Gh}{L:Array Bool}{a:Act}{w:World}(hI:Inv fl ops A τ0 tab S C N B G0 L a w) {i:Nat}(hir:i<tab.length) (hi:i ∈ Region.ready .any ops L) {Q:Exit→Act→World→Prop}
 {K:Act→World→Prop}(hK:∀a' w',Inv fl ops A τ0 tab S C N B G0 (L.setIfInBounds i true) a' w'→K a' w'):wpOp P ops Q i K a w:=by
 obtain⟨hun,o,ho,hall⟩:=mem_ready.1 hi
 obtain⟨hilt,hif⟩:=getD_false_of hun
 obtain⟨r,hr⟩:∃r,tab[i]? =some r:=⟨_,List.getElem?_eq_getElem hir⟩
 obtain⟨hor,hkd⟩:=hT.rc i r hr
 rw[ho]at hor;cases hor
 have hPM:=masks_ok (ops:=ops) (L:=L) hI.down ops.toList [] [] (by simp) rfl (fun j m oj h=>by simp at h)
 rw[hM]at hPM
 have hn:NeedsL L (M.getD i 0):=by
  intro j hj
  cases hm:M[i]? with
  |none=>rw[List.getD_eq_getElem?_getD,hm]at hj;simp at hj
  |some m=>
   rw[List.getD_eq_getElem?_getD,hm]at hj
   exact hPM i m _ hm ho hall j hj
 obtain⟨G,k,σ,h0,hS,hC,hR,hsz,hdf,hnew,hold⟩:=hI.st
 have htr:=hI.trel hT hM hp hnew hold hr hun hn
 have hwin:Win M C i k:=by
  intro k' c hc
  constructor
  ·intro hlt
   have hL:=(hC k' c hc).2 hlt
   cases hb:Nat.testBit (M.getD c 0) i with
   |false=>rfl
   |true=>
    obtain⟨rc,hrc,_⟩:=hT.ch k' c hc
    have hoc:=(hT.rc c rc hrc).1
    cases hm:M[c]? with
    |none=>rw[List.getD_eq_getElem?_getD,hm]at hb;simp at hb
    |some m=>
     rw[List.getD_eq_getElem?_getD,hm]at hb
     have:=hPM c m _ hm hoc (fun e he hbb=>hI.down c _ hoc hL e he hbb) i hb
     rw[hif]at this;cases this
  ·intro hle
   cases hb:Nat.testBit (M.getD i 0) c with
   |false=>rfl
   |true=>
    have:=(hC k' c hc).1 (hn c hb)
    omega
 have hw0:∀{b:Bool},wantD ops r.env r.o=some b→Region.wanted r.o (yielded ops a.tmps)=b:=fun h=>wantD_ok htr h
 have nochain:(∀k,r.kd≠.chain k)→∀(k1 c:Nat),C[k1]? =some c→((L.setIfInBounds i true).getD c false=true↔k1<k):=by
  intro hno k1 c hc
  have:c≠i:=by
   rintro rfl
   obtain⟨rc,hrc,hkk⟩:=hT.ch k1 c hc
   rw[hr]at hrc;cases hrc
   exact hno _ hkk
  rw[getD_set_ne false (Ne.symm this)]
  exact hC k1 c hc
 have noalloc:(∀l cs,r.kd≠.alloc l cs)→∀x ∈ A,x.1≠i:=by
  rintro hno x hx rfl
  obtain⟨r',hr',hkk⟩:=hal x hx
  rw[hr]at hr';cases hr'
  exact hno _ _ hkk
 have hmem:=hidden_mem hn A
 unfold KdOk at hkd
 unfold wpOp
 rw[ho]
 simp only
 cases hk:r.kd with
 |skip=>
  simp only[hk]at hkd
  rw[if_neg (by rw[hw0 hkd.1];simp)]
  refine hK _ _ (hI.next hT hp hr hun hall ⟨G,h0,.refl G,hnew,hold⟩ hS (nochain (by rw[hk];simp)) ?_ ?_)
  ·rw[hide_congr (hidden_same (noalloc (by rw[hk];simp)))];exact hR
  ·rw[hkd.2];simp only[Rep,undef];exact⟨#[],rfl,by simp[Reps]⟩
 |read=>
  simp only[hk]at hkd
  rw[if_pos (hw0 hkd.1)]
  refine .inl (hkd.2 k σ hS hwin _ hmem B G w a hR htr _ _ ?_)
  rintro v w' G' d s' hle hR' hd ⟨rfl,rfl⟩
  refine hK _ _ (hI.next hT hp hr hun hall ⟨G,h0,hle,hnew,hold⟩ hS (nochain (by rw[hk];simp)) ?_ hd)
  rw[hide_congr (hidden_same (noalloc (by rw[hk];simp)))];exact hR'
 |chain k0=>
  simp only[hk]at hkd
  obtain⟨hw,hci,hprev,σ1,σ2,hs1,hs2,hop⟩:=hkd
  rw[if_pos (hw0 hw)]
  have hk0:k0=k:=by
   have h1:¬k0<k:=fun h=>by
    have:=(hC k0 i hci).2 h
    rw[hif]at this;cases this
   rcases Nat.lt_or_ge k k0 with h2|h2
   ·exfalso
    obtain⟨k1,rfl⟩:∃k1,k0=k1+1:=⟨k0-1,by omega⟩
    have hlt:=lt_of_getElem? hci
    obtain⟨c,hc⟩:∃c,C[k1]? =some c:=⟨C[k1],List.getElem?_eq_getElem (by omega)⟩
    have:=(hC k1 c hc).1 (hn c (hprev k1 c rfl hc))
    omega
   ·omega
  subst hk0
  rw[hS]at hs1;cases hs1
  refine .inl (hop _ hmem B G w a hR htr _ _ ?_)
  rintro v w' G' d s' hle hR' hd ⟨rfl,rfl⟩
  refine hK _ _ (hI.next hT hp hr hun hall ⟨G,h0,hle,hnew,hold⟩ hs2 ?_ ?_ hd)
  ·intro k1 c hc
   rw[getD_set_iff hilt,hC k1 c hc]
   constructor
   ·rintro(rfl|h)
    ·obtain⟨rc,hrc,hkk⟩:=hT.ch k1 c hc
     rw[hr]at hrc;cases hrc
     rw[hk]at hkk;cases hkk;omega
    ·omega
   ·intro h
    rcases Nat.lt_or_ge k1 k0 with h' |h'
    ·exact .inr h'
    ·have:k1=k0:=by omega
     subst this
     rw[hci]at hc;cases hc;exact .inl rfl
  ·rw[hide_congr (hidden_same (noalloc (by rw[hk];simp)))];exact hR'
 |alloc l cs=>
  simp only[hk]at hkd
  obtain⟨hw,hAm,hv,e,hop,hz⟩:=hkd
  rw[if_pos (hw0 hw)]
  obtain⟨x,hx,rfl,hx2⟩:∃x ∈ A,x.1=i∧x.2=(l,cs):=⟨_,hAm,rfl,rfl⟩
  have hσl:σ[l]? =some (.cells cs 0 0):=by
   have:=hT.res x hx k σ hS fun k' c hc hlt=>(hwin k' c hc).1 hlt
   rw[hx2]at this;exact this
  have hin:l ∈ hidden L A:=mem_hidden.2 ⟨x,hx,hif,by rw[hx2]⟩
  have hdead:(hide (hidden L A) σ)[l]? =some .dead:=by
   rw[hide_get,if_pos ⟨hin,lt_of_getElem? hσl⟩]
  refine .inl (aop_alloc_at (N:=N) (τ:=r.env) hop hz hdead B G w a hR htr _ _ ?_)
  rintro v w' G' d s' hle hR' hd ⟨rfl,rfl⟩
  refine hK _ _ (hI.next hT hp hr hun hall ⟨G,h0,hle,hnew,hold⟩ hS (nochain (by rw[hk];simp)) ?_ (by rw[hv];exact hd))
  rw[←hide_set (ls:=hidden L A) (l:=l) ?_ hσl]
  ·exact hR'
  ·intro y
   simp only[mem_hidden]
   constructor
   ·rintro⟨z,h1,h2,h3⟩
    have hne:z.1≠x.1:=by
     intro e'
     rw[e',(getD_set_iff hilt).2 (.inl rfl)]at h2;cases h2
    rw[getD_set_ne false (Ne.symm hne)]at h2
    refine⟨⟨z,h1,h2,h3⟩,?_⟩
    rintro rfl
    exact hne (hinj z h1 x hx (by rw[h3,hx2]))
   ·rintro⟨⟨z,h1,h2,h3⟩,hne⟩
    refine⟨z,h1,?_,h3⟩
    have:z.1≠x.1:=by
     intro e'
     obtain⟨rz,hrz,hkz⟩:=hal z h1
     rw[e',hr]at hrz;cases hrz
     rw[hk]at hkz;cases hkz
     exact hne h3.symm
    rw[getD_set_ne false (Ne.symm this)];exact h2
theorem adr_tabL{suf:List Oper}{K:Env→Sto→Prop}:∀(r:List Oper) (τ:Env) (S:List Sto) (C:List Nat) (tab:List Rc) (pre:List Oper),ops.toList=pre++r++suf→tab.length=pre.length→
 TabOk P N ops A M τ0 s0 tab S C τ→ADr P N ops A M r tab.length τ S C tab K→
 ∃(tab' :List Rc) (S' :List Sto) (C' :List Nat) (τ' :Env) (σ' :Sto),tab'.length+suf.length=ops.size∧TabOk P N ops A M τ0 s0 tab' S' C' τ'∧S'.getLast? =some σ'∧K τ' σ'∧(∀x ∈ A,∃r:Rc,tab'[x.1]? =some r∧r.kd= .alloc x.2.1 x.2.2)
 |[],τ,S,C,tab,pre,hops,hlen,hT,h=>by
  obtain⟨hal,σ,h1,h2⟩:=h
  have:ops.size=pre.length+suf.length:=by have:=congrArg List.length hops;simpa using this
  exact⟨tab,S,C,τ,σ,by omega,hT,h1,h2,hal.mem⟩
 |o::r,τ,S,C,tab,pre,hops,hlen,hT,h=>by
  have ho:ops[tab.length]? =some o:=by rw[←Array.getElem?_toList,hops,hlen,List.append_assoc];simp
  have next:∀(r' :Rc) (τ2:Env) (S' :List Sto) (C' :List Nat),r'.o=o→TabOk P N ops A M τ0 s0 (tab++[r']) S' C' τ2→ADr P N ops A M r (tab.length+1) τ2 S' C' (tab++[r']) K→
   ∃(tab' :List Rc) (S' :List Sto) (C' :List Nat) (τ' :Env) (σ' :Sto),tab'.length+suf.length=ops.size∧TabOk P N ops A M τ0 s0 tab' S' C' τ'∧S'.getLast? =some σ'∧K τ' σ'∧(∀x ∈ A,∃r:Rc,tab'[x.1]? =some r∧r.kd= .alloc x.2.1 x.2.2):=by
   intro r' τ2 S' C' hr hT' h'
   exact adr_tabL r τ2 S' C' (tab++[r']) (pre++[o]) (by simp[hops]) (by simp[hlen]) hT' (by simpa using h')
  rcases h with⟨hw,τ2,hp,h⟩|⟨hw,d,τ2,hall,hp,h⟩|⟨hw,hch,d,τ2,σ,σ',hlast,hall,hre,hres,hp,h⟩|⟨hw,e,l,cs,τ2,hop,hA,hz,hp,h⟩
  ·exact next ⟨o,rst ops o τ,.tuple [],.skip⟩ τ2 S C rfl (hT.push ho ⟨hw,rfl⟩ hp rfl) h
  ·refine next ⟨o,rst ops o τ,d,.read⟩ τ2 S C rfl (hT.push ho ⟨hw,fun k σ hk hwin ls hls=> ?_⟩ hp rfl) h
   refine hall.mem _ (List.mem_flatMap.2 ⟨σ,keepS_mem hk fun k' c hc hle=>(hwin k' c hc).2 hle,List.mem_map.2 ⟨ls,hls,rfl⟩⟩)
  ·refine next ⟨o,rst ops o τ,d,.chain C.length⟩ τ2 (S++[σ']) (C++[tab.length]) rfl (hT.pushC ho rfl ⟨hw,by simp,fun k1 c hk1 hc=> ?_,σ,σ',?_,?_,fun ls hls=>hall.mem ls hls⟩ hre.mem hres.mem hp rfl) h
   ·have hc' :C.getLast? =some c:=by
     rw[List.getElem?_append_left (by omega)]at hc
     rw[List.getLast?_eq_getElem?,hk1];exact hc
    unfold chOk at hch
    rw[hc']at hch
    exact hch
   ·have:S[C.length]? =some σ:=by
     rw[List.getLast?_eq_getElem?,hT.slen]at hlast;exact hlast
    exact push_old this
   ·rw[←hT.slen];simp
  ·refine next ⟨o,rst ops o τ,.ptr l 0 0,.alloc l cs⟩ τ2 S C rfl (hT.push ho ⟨hw,resOf_mem hA,rfl,e,hop,hz⟩ hp rfl) h
def fullM(n m:Nat):Bool:=(List.range n).all fun j=>Nat.testBit m j
theorem fullM_ok{n m:Nat}(h:fullM n m=true):∀j,j<n→Nat.testBit m j=true:=fun j hj=>List.all_eq_true.1 h j (List.mem_range.2 hj)
theorem wpAny_done{Q:Exit→Act→World→Prop}{fuel:Nat}{L:Array Bool}{a:Act}{w:World}(hr:Region.ready .any ops L=[]) (h:Q .normal a w):wpAny P .any ops Q fuel L a w:=by
 cases fuel with
 |zero=>exact⟨hr,h⟩
 |succ n=>exact⟨fun _=>h,fun i hi=>by rw[hr]at hi;cases hi⟩
end
end Go.Fw
namespace Go.Fw
open Go.RowKit
theorem nbeq'{a b:Nat}(h:Nat.beq a b=true):a=b:=Nat.eq_of_beq_eq_true h
section
variable {P:Program}{ops:Array Oper}{ids:List Nat}
def noGuard(ops:Array Oper):Bool:=ops.toList.all fun o=>o.guard.isNone
theorem noGuard_ok(h:noGuard ops=true) {i:Nat}{o:Oper}(ho:ops[i]? =some o):o.guard=none:=by
 have:=List.all_eq_true.1 h o (List.mem_of_getElem? (by rw[Array.getElem?_toList];exact ho))
 simpa using this
theorem wpOp_sub'{Q:Exit→Act→World→Prop}{K:Act→World→Prop}{a:Act}{w:World}(hg:noGuard ops=true) {i:Nat}{o:Oper}(h1:ops[i]? =some o) (h:o.wp P a w K Q):wpOp P ops Q i K a w:=by
 have hn:=noGuard_ok hg h1
 unfold wpOp
 rw[h1]
 simp only
 have e1:∀y,Region.wanted o y=true:=fun y=>by unfold Region.wanted;rw[hn]
 rw[if_pos (e1 _)]
 exact .inl h
theorem getD_tf{L:Array Bool}{i:Nat}(h:i<L.size):L.getD i true=L.getD i false:=by
 simp[Array.getD_eq_getD_getElem?,h]
theorem DownCl.step{L:Array Bool}(h:DownCl ops L) (hs:L.size=ops.size) {i:Nat}(hi:i ∈ Region.ready .any ops L):DownCl ops (L.setIfInBounds i true):=by
 obtain⟨h1,o,h2,h3⟩:=mem_ready.1 hi
 have hil:=(getD_false_of h1).1
 intro j oj hoj hL e he hb
 have hnow:L.getD e.on false=true:=by
  rcases (getD_set_iff hil).1 hL with rfl|hL
  ·rw[h2]at hoj;cases hoj;exact h3 e he hb
  ·exact h j oj hoj hL e he hb
 exact(getD_set_iff hil).2 (.inr hnow)
end
end Go.Fw
namespace Go.Fw
open Go.RowKit
section
variable {P:Program}{N:Nat}{ops:Array Oper}{A:Res}{M:List Nat}{τ0:Env}{s0:Sto}{tab:List Rc}{S:List Sto}{C:List Nat}{τ τ2:Env}
end
section
variable {fl:Nat}{P:Program}{N:Nat}{ops:Array Oper}{A:Res}{M:List Nat}{τ τ1:Env}{σ:Sto}{tab:List Rc}{S:List Sto}{C:List Nat}
def AnyR(fl:Nat) (P:Program) (N:Nat) (ops:Array Oper) (τ:Env) (σ:Sto) (Q:AEx→Env→Sto→Prop):Prop:=
 ∀(B:Base P) (G0 G:Gh) (w:World) (a:Act) (fuel:Nat),G0.LeB fl G→Rel B G σ w→TRel G N τ a→ops.size≤fuel→wpAny P .any ops (liftQ fl B G0 N Q) fuel (Array.replicate ops.size false) a w
theorem AnyR.awp{id:Nat}{Q:AEx→Env→Sto→Prop}(hm:P.follows .mixedOrders=true) (h:AnyR fl P N ops τ σ Q):AWp fl P N (.region id ops true) τ σ Q:=
 fun B G w a hR hT=>wp_region_any hm (h B G G _ a ops.size (.refl G) hR.drawn hT (Nat.le_refl _))
def pick:List Nat→List Bool→List Nat
 |i::r,b::D=>match b with
  |true=>pick r D
  |false=>i::pick r D
 |_,_=>[]
def hasN(x:Nat) (l:List Nat):Bool:=l.any (Nat.beq x)
theorem hasN_iff{x:Nat}{l:List Nat}:hasN x l=true↔x ∈ l:=by
 unfold hasN
 rw[List.any_eq_true]
 exact⟨fun⟨y,h1,h2⟩=>(nbeq' h2)▸h1,fun h=>⟨x,h,Nat.beq_refl x⟩⟩
end
end Go.Fw
namespace Go.Fw
open Go.RowKit
section
variable {fl:Nat}{P:Program}{N:Nat}{ops:Array Oper}{A:Res}{M:List Nat}{τ0:Env}{s0:Sto}{tab:List Rc}{S:List Sto}{C:List Nat}{τ:Env}
def PreL(ops:Array Oper) (m:Nat) (L:Array Bool):Prop:=L.size=ops.size∧∀j,j<ops.size→(L.getD j false=true↔j<m)
theorem PreL.down{m:Nat}{L:Array Bool}(h:PreL ops m L) (hp:planOk ops M=true):DownCl ops L:=by
 intro j oj ho hj e he hb
 have hlt:=(Array.getElem?_eq_some_iff.1 ho).1
 unfold planOk at hp
 simp only[Bool.and_eq_true]at hp
 have h1:=ordOk_ok hp.1.2 (i:=j) (o:=oj) (by rw[Array.getElem?_toList];exact ho) e he hb
 have h2:=(h.2 j hlt).1 hj
 exact(h.2 e.on (by omega)).2 (by omega)
theorem PreL.step{m:Nat}{L:Array Bool}(h:PreL ops m L) (hm:m<ops.size):PreL ops (m+1) (L.setIfInBounds m true):=by
 refine⟨by rw[Array.size_setIfInBounds];exact h.1,fun j hj=> ?_⟩
 rw[getD_set_iff (by rw[h.1];exact hm),h.2 j hj]
 omega
theorem PreL.no{m:Nat}{L:Array Bool}(h:PreL ops m L) {x:Nat}(hx:x ∈ Region.ready .any ops L):m≤x∧x<ops.size:=by
 obtain⟨hxu,ox,hox,_⟩:=mem_ready.1 hx
 obtain⟨hxl,hxf⟩:=getD_false_of hxu
 have hxs:=(Array.getElem?_eq_some_iff.1 hox).1
 refine⟨?_,hxs⟩
 rcases Nat.lt_or_ge x m with h' |h'
 ·rw[(h.2 x hxs).2 h']at hxf;cases hxf
 ·exact h'
theorem needs_of{L:Array Bool}(hd:DownCl ops L) (hM:masks ops.toList []=M) {i:Nat}{oi:Oper}(ho:ops[i]? =some oi) (hall:∀e ∈ oi.after,Region.binds .any e=true→L.getD e.on false=true) (hfull:fullM i (M.getD i 0)=true):∀j,j<i→L.getD j false=true:=by
 have hPM:=masks_ok (ops:=ops) (L:=L) hd ops.toList [] [] (by simp) rfl (fun j m oj h=>by simp at h)
 rw[hM]at hPM
 have hn:NeedsL L (M.getD i 0):=by
  intro j hj
  cases hm:M[i]? with
  |none=>rw[List.getD_eq_getElem?_getD,hm]at hj;simp at hj
  |some m=>
   rw[List.getD_eq_getElem?_getD,hm]at hj
   exact hPM _ m _ hm ho hall j hj
 exact fun j hj=>hn j (fullM_ok hfull j hj)
theorem tail_wp(hM:masks ops.toList []=M) (hp:planOk ops M=true) {B:Base P}{G0:Gh}{Q:AEx→Env→Sto→Prop}:
 ∀(suf:List Oper) (m fuel:Nat) (L:Array Bool) (τ:Env) (σ:Sto) (G:Gh) (a:Act) (w:World),m+suf.length=ops.size→ops.toList.drop m=suf→PreL ops m L→(∀j,m≤j→j<ops.size→fullM j (M.getD j 0)=true)→suf.length≤fuel→
  G0.LeB fl G→Rel B G σ w→TRel G N τ a→AOps P N ops suf τ σ (fun τ' σ' =>Q .normal τ' σ')→wpAny P .any ops (liftQ fl B G0 N Q) fuel L a w
 |[],m,fuel,L,τ,σ,G,a,w,hm,hd,hL,hf,hfu,h0,hR,hT,hQ=>by
  refine wpAny_done ?_ ⟨G,τ,σ,h0,hR,hT,hQ⟩
  rw[List.eq_nil_iff_forall_not_mem]
  intro x hx
  have:=hL.no hx
  simp only[List.length_nil]at hm
  omega
 |o::r,m,fuel,L,τ,σ,G,a,w,hm,hd,hL,hf,hfu,h0,hR,hT,hQ=>by
  simp only[List.length_cons]at hm hfu
  obtain⟨fuel,rfl⟩:∃f,fuel=f+1:=⟨fuel-1,by omega⟩
  have hlo:ops[m]? =some o:=by
   have:(ops.toList.drop m)[0]? =some o:=by rw[hd];rfl
   rw[List.getElem?_drop,Nat.add_zero,Array.getElem?_toList]at this
   exact this
  have hlm:m<L.size:=by rw[hL.1];omega
  have hmf:L.getD m false=false:=by
   cases e:L.getD m false with
   |false=>rfl
   |true=>have:=(hL.2 m (by omega)).1 e;omega
  have hmt:L.getD m true=false:=by
   rw[Array.getD_eq_getD_getElem?,Array.getElem?_eq_getElem hlm]at hmf⊢
   exact hmf
  have hd' :ops.toList.drop (m+1)=r:=by rw[←List.drop_drop,hd];rfl
  refine⟨fun hr=> ?_,fun i hi=> ?_⟩
  ·have:m ∈ Region.ready .any ops L:=mem_ready.2 ⟨hmt,o,hlo,fun e he hb=>by
    have hp2:=hp
    unfold planOk at hp2
    simp only[Bool.and_eq_true]at hp2
    have h1:=ordOk_ok hp2.1.2 (i:=m) (o:=o) (by rw[Array.getElem?_toList];exact hlo) e he hb
    exact(hL.2 e.on (by omega)).2 (by omega)⟩
   rw[hr]at this;cases this
  ·obtain⟨hge,hlt⟩:=hL.no hi
   obtain⟨hun,oi,ho,hall⟩:=mem_ready.1 hi
   have him:i=m:=by
    rcases Nat.lt_or_ge m i with h|h
    ·have:=needs_of (hL.down hp) hM ho hall (hf i (by omega) hlt) m h
     rw[hmf]at this;cases this
    ·omega
   subst him
   unfold wpOp
   rw[hlo]
   simp only
   rcases hQ with⟨hw,hop⟩|⟨hw,τ',hpd,hr⟩
   ·rw[if_pos (wantD_ok hT hw)]
    refine .inl (hop B G w a hR hT _ _ ?_)
    rintro v w' G' d σ' hle hR' hdd ⟨τ',hpd,hr⟩
    exact tail_wp hM hp r (i+1) fuel _ τ' σ' G' _ _ (by omega) hd' (hL.step (by omega)) (fun j h1 h2=>hf j (by omega) h2) (by omega) (h0.trans hle.b) hR' (putD_ok (hT.mono hle) hpd hdd) hr
   ·rw[if_neg (by rw[wantD_ok hT hw];simp)]
    exact tail_wp hM hp r (i+1) fuel _ τ' σ G _ _ (by omega) hd' (hL.step (by omega)) (fun j h1 h2=>hf j (by omega) h2) (by omega) h0 hR (putD_ok hT hpd (by simp only[Rep,undef];exact⟨#[],rfl,by simp[Reps]⟩)) hr
theorem drawn_wpT(hT:TabOk P N ops A M τ0 s0 tab S C τ) (hM:masks ops.toList []=M) (hp:planOk ops M=true) {o:Oper}{r:List Oper}(hlen:tab.length+(r.length+1)=ops.size) (hlo:ops.toList.drop tab.length=o::r) (hfull:∀j,tab.length≤j→j<ops.size→fullM j (M.getD j 0)=true)
 (hal:∀x ∈ A,∃r:Rc,tab[x.1]? =some r∧r.kd= .alloc x.2.1 x.2.2) (hinj:∀x ∈ A,∀y ∈ A,x.2.1=y.2.1→x.1=y.1)
 {B:Base P}{G0:Gh}{Q:AEx→Env→Sto→Prop}{σ:Sto}(hlast:S.getLast? =some σ) (hQ:AOps P N ops (o::r) τ σ fun τ' σ' =>Q .normal τ' σ'):
 ∀(fuel:Nat) (L:Array Bool) (a:Act) (w:World),L.toList.count false≤fuel→(∀j,tab.length≤j→L.getD j false=false)→Inv fl ops A τ0 tab S C N B G0 L a w→wpAny P .any ops (liftQ fl B G0 N Q) fuel L a w:=by
 have fin:∀(L:Array Bool) (a:Act) (w:World),Inv fl ops A τ0 tab S C N B G0 L a w→(∀i,i<tab.length→L.getD i false=true)→∃G,G0.LeB fl G∧Rel B G σ w∧TRel G N τ a:=by
  intro L a w hI hL
  obtain⟨G,k,σ',h0,hS,hC,hR,hsz,hdf,hnew,hold⟩:=hI.st
  have hk:k=C.length:=by
   have h1:k<S.length:=lt_of_getElem? hS
   rw[hT.slen]at h1
   rcases Nat.lt_or_ge k C.length with h2|h2
   ·exfalso
    obtain⟨c,hc⟩:∃c,C[k]? =some c:=⟨C[k],List.getElem?_eq_getElem h2⟩
    obtain⟨rc,hrc,_⟩:=hT.ch k c hc
    have hlt:=lt_of_getElem? hrc
    have:=(hC k c hc).1 (hL c hlt)
    omega
   ·omega
  have hσ:σ' =σ:=by
   rw[List.getLast?_eq_getElem?,hT.slen]at hlast
   subst hk
   have hlast' :S[C.length]? =some σ:=hlast
   rw[hS]at hlast';exact Option.some.inj hlast'
  subst hσ
  have hh:hide (hidden L A) σ' =σ' :=by
   rw[hide_congr (ls' :=[]) ?_]
   ·rfl
   ·intro x
    simp only[mem_hidden,List.not_mem_nil,iff_false]
    rintro⟨y,hy,hf,_⟩
    obtain⟨r,hr',_⟩:=hal y hy
    have hlt:=lt_of_getElem? hr'
    rw[hL y.1 hlt]at hf;cases hf
  rw[hh]at hR
  refine⟨G,h0,hR,⟨hsz,hdf,fun t d hg=> ?_⟩⟩
  rcases hT.fin t d hg with⟨j,rj,hj,hrj,hdj,rfl⟩|⟨hno,hg0⟩
  ·exact hnew j rj t hrj (hL j hj) hdj
  ·exact hold t d hg0 fun j rj hrj _=>hno j rj (lt_of_getElem? hrj) hrj
 have hts:tab.length<ops.size:=by omega
 have tailOf:∀(fuel:Nat) (L:Array Bool) (a:Act) (w:World),(∀i,i<tab.length→L.getD i false=true)→(∀j,tab.length≤j→L.getD j false=false)→r.length+1≤fuel→Inv fl ops A τ0 tab S C N B G0 L a w→wpAny P .any ops (liftQ fl B G0 N Q) fuel L a w:=by
  intro fuel L a w h1 h2 hfu hI
  obtain⟨G,h0,hR,hTR⟩:=fin L a w hI h1
  exact tail_wp hM hp (o::r) tab.length fuel L τ σ G a w (by simpa using hlen) hlo ⟨hI.size,fun j hj=>⟨fun h=>(by
   rcases Nat.lt_or_ge j tab.length with h' |h'
   ·exact h'
   ·rw[h2 j h']at h;cases h),h1 j⟩⟩ hfull (by simpa using hfu) h0 hR hTR hQ
 intro fuel
 induction fuel with
 |zero=>
  intro L a w hc hlf hI
  have hlt:tab.length<L.size:=by rw[hI.size];exact hts
  have hf:=hlf tab.length (Nat.le_refl _)
  have:=count_false_zero (Nat.le_zero.1 hc) tab.length (by simpa using hlt)
  simp[Array.getD_eq_getD_getElem?,hlt]at hf
  simp[hlt,hf]at this
 |succ fuel ih=>
  intro L a w hc hlf hI
  by_cases hdone:∀i,i<tab.length→L.getD i false=true
  ·refine tailOf _ L a w hdone hlf ?_ hI
   have hcnt:r.length+1≤L.toList.count false:=by
    have h1:L.toList.drop tab.length=List.replicate (r.length+1) false:=by
     refine List.ext_getElem? fun k=> ?_
     rw[List.getElem?_drop,List.getElem?_replicate,Array.getElem?_toList]
     by_cases hk:k<r.length+1
     ·have hlt:tab.length+k<L.size:=by rw[hI.size];omega
      have:=hlf (tab.length+k) (by omega)
      rw[Array.getD_eq_getD_getElem?,Array.getElem?_eq_getElem hlt]at this
      rw[if_pos hk,Array.getElem?_eq_getElem hlt]
      exact congrArg some this
     ·rw[if_neg hk,Array.getElem?_eq_none (by rw[hI.size];omega)]
    have h2:=congrArg (List.count false) (List.take_append_drop tab.length L.toList)
    rw[List.count_append,h1,List.count_replicate_self]at h2
    omega
   omega
  refine⟨fun hr=> ?_,fun i hi=> ?_⟩
  ·have hlt:tab.length<L.size:=by rw[hI.size];exact hts
   have hf:=hlf tab.length (Nat.le_refl _)
   obtain⟨j,hj⟩:=ready_some hp hI.size tab.length tab.length (Nat.le_refl _) (by
    rw[Array.getD_eq_getD_getElem?,Array.getElem?_eq_getElem hlt]at hf⊢
    exact hf)
   rw[hr]at hj;cases hj
  obtain⟨hun,oi,ho,hall⟩:=mem_ready.1 hi
  obtain⟨hlt,hf⟩:=getD_false_of hun
  rcases Nat.lt_or_ge i tab.length with hir|hir
  ·refine drawn_stepL hT hM hp hal hinj hI hir hi fun a' w' hI' =>ih _ a' w' ?_ ?_ hI'
   ·have h1:L.toList[i]? =some false:=by
     simp[Array.getD_eq_getD_getElem?,hlt]at hf
     simp[hlt,hf]
    have:=count_false_set h1
    rw[Array.toList_setIfInBounds]
    omega
   ·intro j hj
    cases e:(L.setIfInBounds i true).getD j false with
    |false=>rfl
    |true=>
     rcases (getD_set_iff hlt).1 e with h|h
     ·omega
     ·rw[hlf j hj]at h;cases h
  ·exact absurd (fun j hj=>needs_of hI.down hM ho hall (hfull i hir (by have:=hI.size;omega)) j (by omega)) hdone
end
theorem awp_drawnT{fl:Nat}{P:Program}{N:Nat}{τ:Env}{σ:Sto}{id:Nat}{ops:Array Oper}{Q:AEx→Env→Sto→Prop}(hm:P.follows .mixedOrders=true) (A:Res) {M:List Nat}{pre:List Oper}{o:Oper}{r:List Oper}(hops:ops.toList=pre++(o::r)) (hfull:∀j,pre.length≤j→j<ops.size→fullM j (M.getD j 0)=true)
 (hM:masks ops.toList []=M) (hp:planOk ops M=true) (hA:A.map (·.2.1)=List.range' σ.length A.length)
 (h:ADr P N ops A M pre 0 τ [σ++A.map fun x=>AObj.cells x.2.2 0 0] [] [] (fun τ' σ' =>AOps P N ops (o::r) τ' σ' fun τ2 σ2=>Q .normal τ2 σ2)):AWp fl P N (.region id ops true) τ σ Q:=by
 intro B G w a hR hT
 have hget:∀x ∈ A,(σ++A.map fun x=>AObj.cells x.2.2 0 0)[x.2.1]? =some (.cells x.2.2 0 0)∧∃n,A[n]? =some x∧x.2.1=σ.length+n:=by
  intro x hx
  obtain⟨n,hn⟩:=List.getElem?_of_mem hx
  have h1:(A.map (·.2.1))[n]? =some x.2.1:=by simp[hn]
  rw[hA]at h1
  have hlt:=lt_of_getElem? hn
  rw[List.getElem?_range' hlt]at h1
  simp at h1
  refine⟨?_,n,hn,h1.symm⟩
  rw[←h1,List.getElem?_append_right (by omega)]
  simp[hn]
 have hinj:∀x ∈ A,∀y ∈ A,x.2.1=y.2.1→x.1=y.1:=by
  intro x hx y hy e
  obtain⟨_,n,hn,h1⟩:=hget x hx
  obtain⟨_,m,hm',h2⟩:=hget y hy
  have:n=m:=by omega
  subst this
  rw[hn]at hm';cases hm';rfl
 obtain⟨tab',S',C',τ',σ',hlen,hTab,hlast,hK,hal⟩:=adr_tabL (suf:=o::r) (τ0:=τ) (s0:=σ++A.map fun x=>AObj.cells x.2.2 0 0) pre τ _ [] [] [] (by simp[hops]) rfl ⟨fun i r h=>by simp at h,rfl,rfl,fun k c h=>by simp at h,
  fun x hx k s hs _=>by
   have:s=σ++A.map fun x=>AObj.cells x.2.2 0 0:=by
    cases k with
    |zero=>simp at hs;exact hs.symm
    |succ k=>simp at hs
   subst this
   exact(hget x hx).1,fun i r h=>by simp at h,fun t d hg=> .inr ⟨fun j rj hj _=>absurd hj (Nat.not_lt_zero _),hg⟩,fun i r t h=>by simp at h⟩ h
 have hsz:ops.size=pre.length+(r.length+1):=by have:=congrArg List.length hops;simpa using this
 have hpl:tab'.length=pre.length:=by simp at hlen;omega
 refine wp_region_any hm (drawn_wpT hTab hM hp (by omega) (o:=o) (r:=r) (by rw[hpl,hops,List.drop_left]) (fun j h1 h2=>hfull j (by omega) h2) hal hinj hlast hK ops.size _ a _ (by simp) (fun j hj=>by
  rcases Nat.lt_or_ge j ops.size with h' |h' <;>simp[Array.getD_eq_getD_getElem?,h']) ⟨by simp,fun j oj hoj hL=> ?_,?_⟩)
 ·exfalso
  rcases Nat.lt_or_ge j ops.size with h' |h'
  ·simp[Array.getD_eq_getD_getElem?,h']at hL
  ·simp[Array.getD_eq_getD_getElem?,h']at hL
 ·have hrep:∀j,(Array.replicate ops.size false).getD j false=false:=by
   intro j
   rcases Nat.lt_or_ge j ops.size with h' |h'
   ·simp[Array.getD_eq_getD_getElem?,h']
   ·simp[Array.getD_eq_getD_getElem?,h']
  refine⟨G,0,_,.refl G,hTab.hd,fun k' c hc=> ?_,?_,hT.size,hT.defers,fun i r t _ hL _=> ?_,fun t d hg _=>hT.slot t d hg⟩
  ·rw[hrep c];simp
  ·have:hide (hidden (Array.replicate ops.size false) A) (σ++A.map fun x=>AObj.cells x.2.2 0 0)=σ++List.replicate A.length .dead:=by
    refine sto_ext fun x=> ?_
    rw[hide_get]
    have hin:x ∈ hidden (Array.replicate ops.size false) A↔(σ.length≤x∧x<σ.length+A.length):=by
     rw[mem_hidden]
     constructor
     ·rintro⟨y,hy,_,rfl⟩
      obtain⟨_,n,hn,h1⟩:=hget y hy
      have:=lt_of_getElem? hn
      omega
     ·rintro⟨h1,h2⟩
      have hlt:x-σ.length<A.length:=by omega
      refine⟨A[x-σ.length],List.getElem_mem _,hrep _,?_⟩
      obtain⟨_,n,hn,h3⟩:=hget _ (List.getElem_mem hlt)
      have h4:(A.map (·.2.1))[x-σ.length]? =some (A[x-σ.length]).2.1:=by simp[hlt]
      rw[hA,List.getElem?_range' hlt]at h4
      simp at h4
      omega
    by_cases hx:σ.length≤x∧x<σ.length+A.length
    ·rw[if_pos ⟨hin.2 hx,by simp;exact hx.2⟩,List.getElem?_append_right hx.1,List.getElem?_replicate,if_pos (by omega)]
    ·rw[if_neg (fun h=>hx (hin.1 h.1))]
     rcases Nat.lt_or_ge x σ.length with h' |h'
     ·rw[List.getElem?_append_left h',List.getElem?_append_left h']
     ·rw[List.getElem?_eq_none (by simp;omega),List.getElem?_eq_none (by simp;omega)]
   rw[this]
   exact(hR.dead _).drawn
  ·rw[hrep i]at hL;cases hL
end Go.Fw
