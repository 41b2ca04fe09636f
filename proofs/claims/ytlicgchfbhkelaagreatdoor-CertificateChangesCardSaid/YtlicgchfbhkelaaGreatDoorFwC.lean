/- A framework for proofs about Go programs in this model: part C. Everything is proved; no condition is added. -/
import Derived.ScopeJumps
import Derived.IntWalk
import Derived.Test.YtlicgchfbhkelaaGreatDoorFwB
set_option linter.unusedVariables false
set_option linter.unusedSimpArgs false
set_option linter.defProp false
def anC:=@Option.bind_eq_some_iff
def aoH:=@Go.wp_mono
namespace Go.Fw
open Go.RowKit
abbrev Env:=List (Nat×D)
abbrev Sto:=List aq
def AOp(P:Program)(N:Nat)(o:Oper)(τ:Env)(σ:Sto)(K:D->Sto->Prop):Prop:=
 ∀(B:bE P)(G:Gh)(w:World)(a:Act),Rel B G σ w->de G N τ a->∀(next:Act->World->Prop)(Q:Exit->Act->World->Prop),
  (∀v e b d σ',G.Le b->Rel B b σ' e->Rep b d v->K d σ'->next (a.put o.dst v) e)->o.wp P a w next Q
def AOp.mono{P:Program}{N:Nat}{o:Oper}{τ:Env}{σ:Sto}{K b:D->Sto->Prop}(h:AOp P N o τ σ K)(g:∀d s,K d s->b d s):AOp P N o τ σ b:=
 λB G w a e f next Q hn=>h B G w a e f next Q λv w' G' d σ' h1 h2 h3 h4=>hn v w' G' d σ' h1 h2 h3 (g _ _ h4)
def aO{P:Program}{T:Tys}(g:TOk T P){N:Nat}{o:Oper}{τ:Env}{σ σ':Sto}{d:D}(h:aop T τ σ o.op=some (d,σ')):AOp P N o τ σ (λp s=>p=d/\s=σ'):=by
 intro B G w a q r next Q m
 obtain⟨v,n,k,f,e,b,l⟩:=agh g q r o h;unfold Oper.wp;rcases f with j|⟨j,rfl⟩
 ·rw[j];exact m v n k d σ' e b l ⟨rfl,rfl⟩
 ·rw[j];exact m undef n k d σ' e b l ⟨rfl,rfl⟩
def fI(P:Program)(f:FuncId):Prop:=∃b,P.funcs[f]?=some b/\b.body.isSome=true/\(b.name== "runtime.NumGoroutine")=false
structure Gh.LeB(i:Nat)(G G':Gh):Prop where
 imm:∀b o v,G.imm b o=some v->G'.imm b o=some v
 mimm:∀b es,G.mimm b=some es->G'.mimm b=some es
 siz:∀b n,G.siz b=some n->G'.siz b=some n
 blk:∀l u b,l<i->G.blk l u=some b->G'.blk l u=some b
def Gh.LeB.refl{i:Nat}(G:Gh):G.LeB i G:=⟨λ_ _ _ x=>x,λ_ _ x=>x,λ_ _ x=>x,λ_ _ _ _ x=>x⟩
def Gh.LeB.trans{i:Nat}{A B C:Gh}(h:A.LeB i B)(k:B.LeB i C):A.LeB i C:=
 ⟨λ_ _ _ x=>k.imm _ _ _ (h.imm _ _ _ x),λ_ _ x=>k.mimm _ _ (h.mimm _ _ x),λ_ _ x=>k.siz _ _ (h.siz _ _ x),λ_ _ _ e x=>k.blk _ _ _ e (h.blk _ _ _ e x)⟩
def Gh.Le.b{i:Nat}{A B:Gh}(h:A.Le B):A.LeB i B:=⟨h.imm,h.mimm,h.siz,λ_ _ _ _ x=>h.blk _ _ _ x⟩
def Gh.LeB.le{P:Program}{B:bE P}{σ:Sto}{w:World}{G G':Gh}(d:Rel B G σ w)(h:G.LeB σ.length G'):G.Le G':=⟨h.imm,h.mimm,λl u b x=>h.blk l u b (d.blk l u b x).1 x,h.siz⟩
def qX(i:Nat)(P:Program)(f:FuncId)(ds:List D)(σ:Sto)(R:D->Sto->Prop):Prop:=
 ∀(B:bE P)(G:Gh)(w:World)(b:List Value),Rel B G σ w->af G ds b->
  Calls P f b.toArray w λe h=>∃v g d σ',e=.returned v/\G.LeB i g/\Rel B g σ' h/\Rep g d v/\R d σ'
abbrev tD(P:Program)(f:FuncId)(ds:List D)(σ:Sto)(R:D->Sto->Prop):Prop:=qX σ.length P f ds σ R
def qX.mono{i:Nat}{P:Program}{f:FuncId}{ds:List D}{σ:Sto}{R e:D->Sto->Prop}(h:qX i P f ds σ R)(q:∀d s,R d s->e d s):qX i P f ds σ e:=
 λB G w b o p=>(h B G w b o p).mono λ_ _ ⟨v,g,d,σ',j,k,l,m,n⟩=>⟨v,g,d,σ',j,k,l,m,q _ _ n⟩
structure me(G:Gh)(w:World):Prop where
 imm:∀b o v,G.imm b o=some v->w.cell? ⟨b,o,none⟩=some v
 mimm:∀b es,G.mimm b=some es->Rj w b es
 siz:∀b n,G.siz b=some n->∃vs et f,w.heap[b]?=some (.cells vs et f)/\vs.size=n
def UK{P:Program}{g:Nat}{cs:List D}(h:mX P g=some cs):bo cs=true:=by
 unfold mX OU at h;obtain⟨v,_,h⟩:=anC.1 h;split at h
 ·cases h;rfl
 ·split at h
  ·cases h;rfl
  ·cases h
def Rel.glob{P:Program}{B:bE P}{G:Gh}{σ:Sto}{w:World}(e:Rel B G σ w):GlobOk P G w:=⟨λg f h=>by
 obtain⟨k,l⟩:=B.gl.1 g f h;have m:=UK h;exact⟨alO k e.below.size,Rep.pure (λb o v d=>by rw[e.bimm b o (B.lim b o v d)];exact d) (λb j d=>by rw[e.bmimm b (B.lmm b j d)];exact d) _ _ (by simpa only[D.pure] using m) l⟩,B.gl.2.below e.below rfl⟩
def cq(P:Program)(f:FuncId)(ds:List D)(d:D):Prop:=
 ∀(G:Gh)(w:World)(b:List Value),me G w->GlobOk P G w->af G ds b->
  Calls P f b.toArray w λe h=>∃v g,e=.returned v/\FW G g w h/\Rep g d v
def cq.acall{P:Program}{f:FuncId}{ds:List D}{d:D}(h:cq P f ds d)(σ:Sto):tD P f ds σ (λk s=>k=d/\s=σ):=
 λ_ G w e b n=>(h G w e ⟨b.imm,b.mimm,b.siz⟩ b.glob n).mono λ_ _ ⟨v,j,l,g,m⟩=>⟨v,j,d,σ,l,g.le.b,b.grow g,m,rfl,rfl⟩
def env0:Nat->List D->Env
 |_,[]=>[]
 |i,d::b=>(i,d)::env0 (i+1) b
def RT:∀(ds:List D)(i t:Nat)(d:D),get (env0 i ds) t=some d->i<=t/\ds[t-i]?=some d
 |[],_,_,_,h=>by simp[env0,get]at h
 |d::ds,i,t,b,h=>by
  simp only[env0,get]at h;by_cases e:i=t
  ·subst e;simp only[al1,ak1]at h;subst h;simp
  ·simp only[e,alV]at h;obtain⟨g,f⟩:=RT ds (i+1) t b h;refine⟨omq,?_⟩;have:t-i=(t-(i+1))+1:=omq;rw[this];simpa using f
inductive AEx where
 |normal|exit(id:Nat)|goto(l:Nat)|ret
 deriving DecidableEq
def jH{P:Program}(i:Nat)(B:bE P)(G:Gh)(N:Nat)(Q:AEx->Env->Sto->Prop):Exit->Act->World->Prop
 |.normal,a,w=>∃b τ σ,G.LeB i b/\Rel B b σ w/\de b N τ a/\Q .normal τ σ
 |.exit id,a,w=>∃b τ σ,G.LeB i b/\Rel B b σ w/\de b N τ a/\Q (.exit id) τ σ
 |.goto l,a,w=>∃b τ σ,G.LeB i b/\Rel B b σ w/\de b N τ a/\Q (.goto l) τ σ
 |.ret,a,w=>∃b τ σ,G.LeB i b/\Rel B b σ w/\de b N τ a/\Q .ret τ σ
 |.panic _,_,_=>False
 |.outgrown,_,_=>False
def lP{i:Nat}{P:Program}{B:bE P}{G G':Gh}{N:Nat}{Q Q':AEx->Env->Sto->Prop}(h:G.LeB i G')(k:∀e τ σ,Q e τ σ->Q' e τ σ)(e:Exit)(a:Act)(w:World)(x:jH i B G' N Q e a w):jH i B G N Q' e a w:=by
 cases e<;>simp only[jH]at x⊢<;>first|exact x|(obtain⟨b,τ,σ,d,f,g,j⟩:=x;exact⟨b,τ,σ,h.trans d,f,g,k _ _ _ j⟩)
def AWp(i:Nat)(P:Program)(N:Nat)(c:Code)(τ:Env)(σ:Sto)(Q:AEx->Env->Sto->Prop):Prop:=
 ∀(B:bE P)(G:Gh)(w:World)(a:Act),Rel B G σ w->de G N τ a->c.wp P (jH i B G N Q) a w
section
variable {i:Nat}{P:Program}{N:Nat}{c c1 c2:Code}{τ τ' :Env}{σ σ' :Sto}{Q Q' :AEx→Env→Sto→Prop}
def AWp.mono(h:AWp i P N c τ σ Q)(f:∀e τ σ,Q e τ σ->Q' e τ σ):AWp i P N c τ σ Q':=
 λB G w a b d=>aoH (h B G w a b d) λe a w x=>lP (.refl G) f e a w x
def AWp.sub(h:AWp i P N c τ' σ Q)(f:∀t d,get τ' t=some d->get τ t=some d):AWp i P N c τ σ Q:=
 λB G w a b e=>h B G w a b (e.sub f)
def nq(h:Q .normal τ σ):AWp i P N .skip τ σ Q:=λ_ G _ _ b d=>wp_skip ⟨G,τ,σ,.refl G,b,d,h⟩
def PR{l:Nat}(h:Q .normal τ σ):AWp i P N (.label l) τ σ Q:=λ_ G _ _ b d=>wp_label ⟨G,τ,σ,.refl G,b,d,h⟩
variable{Z:Nat}
def Lu(h:Q (.exit Z) τ σ):AWp i P N (.exit Z) τ σ Q:=λ_ G _ _ b d=>wp_exit ⟨G,τ,σ,.refl G,b,d,h⟩
def nT(h:Q .ret τ σ):AWp i P N .ret τ σ Q:=λ_ G _ _ b d=>wp_ret ⟨G,τ,σ,.refl G,b,d,h⟩
def Ws(next:Env->Sto->Prop)(Q:AEx->Env->Sto->Prop):AEx->Env->Sto->Prop
 |.normal,τ,σ=>next τ σ
 |.exit id,τ,σ=>Q (.exit id) τ σ
 |.goto l,τ,σ=>Q (.goto l) τ σ
 |.ret,τ,σ=>Q .ret τ σ
def cV(h:AWp i P N c1 τ σ (Ws (λτ' σ'=>AWp i P N c2 τ' σ' Q) Q)):AWp i P N (.seq c1 c2) τ σ Q:=by
 intro B G w a m n;refine wp_seq (aoH (h B G w a m n) λe d o x=> ?_);cases e with
 |normal=>
  obtain⟨b,q,p,f,g,j,k⟩:=x;exact aoH (k B b o d g j) λe a w x=>lP f (λ_ _ _ y=>y) e a w x
 |exit id=>exact x
 |goto l=>exact x
 |ret=>exact x
 |panic r=>exact x
 |outgrown=>exact x
def RU{x:Operand}{b:Bool}(g:ev τ x=some (.bool b))(h:AWp i P N (if b then c1 else c2) τ σ Q):AWp i P N (.cond x c1 c2) τ σ Q:=by
 intro B G w a f d;have e:=bg d g;simp only[Rep]at e;exact wp_cond e (h B G w a f d)
def MN(id:Nat)(Q:AEx->Env->Sto->Prop):AEx->Env->Sto->Prop
 |.normal,τ,σ=>Q .normal τ σ
 |.exit b,τ,σ=>if b=id then Q .normal τ σ else Q (.exit b) τ σ
 |.goto l,τ,σ=>Q (.goto l) τ σ
 |.ret,τ,σ=>Q .ret τ σ
def BY(h:AWp i P N c τ σ (MN Z Q)):AWp i P N (.block Z c) τ σ Q:=by
 intro B G w a o p;refine wp_block (aoH (h B G w a o p) λe q s x=> ?_);cases e with
 |normal=>exact x
 |exit g=>
  obtain⟨j,f,d,k,m,n,b⟩:=x;simp only[Exit.inBlock,MN]at b⊢;by_cases e:g=Z
  ·simp only[e,al1]at b⊢;exact⟨j,f,d,k,m,n,b⟩
  ·simp only[e,alV]at b⊢;exact⟨j,f,d,k,m,n,b⟩
 |goto l=>exact x
 |ret=>exact x
 |panic r=>exact x
 |outgrown=>exact x
def UL{Q:Exit->Act->World->Prop}{a:Act}{w:World}{n:Nat}(I:Nat->Act->World->Prop)(v:I n a w)
 (q:∀n a w,I n a w->c.wp P (Exit.then (λr s=>∃m,m<n/\I m r s) Q) a w):(Code.loop c).wp P Q a w:=by
 intro b k z;have C:∀n a w,I n a w->
  ∃e r s,Q e r s/\Arrives P (lone (b.at a (.code c:: .inLoop c::k)) z w) b k z e r s:=by
  intro n;induction n using Nat.strongRecOn with
  |_ n E=>
   intro a w D;obtain⟨e,f,g,j,d⟩:=q n a w D b (.inLoop c::k) z;cases e with
   |normal=>
    obtain⟨m,A,o⟩:=j;obtain⟨u,t,y,p,h⟩:=E m A f g o;exact⟨u,t,y,p,.of_steps (Steps.trans d (.one step_inLoop)) h⟩
   |exit id=>exact⟨_,f,g,j,.pass (x:=.inLoop c) rfl (λ_ _=>.inl siq) d⟩
   |goto l=>exact⟨_,f,g,j,.pass (x:=.inLoop c) rfl (λ_ _=>.inl siq) d⟩
   |ret=>exact⟨_,f,g,j,.pass (x:=.inLoop c) rfl (λ_ _=>.inl siq) d⟩
   |panic F=>exact⟨_,f,g,j,.pass (x:=.inLoop c) rfl (λ_ _=>.inl siq) d⟩
   |outgrown=>exact⟨_,f,g,j,.pass (x:=.inLoop c) rfl (λ_ _=>.inl siq) d⟩
 obtain⟨e,r,s,j,d⟩:=C n a w v;exact⟨e,r,s,j,.of_steps (.one step_loop) d⟩
def aa7(I:Nat->Env->Sto->Prop){n:Nat}(s:I n τ σ)(b:∀n τ σ,I n τ σ->AWp i P N c τ σ (Ws (λτ' σ'=>∃m,m<n/\I m τ' σ') Q)):AWp i P N (.loop c) τ σ Q:=by
 intro B G w a z A;refine UL (λn a w=>∃f τ σ,G.LeB i f/\Rel B f σ w/\de f N τ a/\I n τ σ) ⟨G,τ,σ,.refl G,z,A,s⟩ ?_;rintro n a w ⟨q,o,j,d,t,u,v⟩;refine aoH (b n o j v B q w a t u) λe g h x=> ?_;cases e with
 |normal=>
  obtain⟨r,p,k,C,D,E,m,F,H⟩:=x;exact⟨m,F,r,p,k,d.trans C,D,E,H⟩
 |exit id=>exact lP d (Q:=Q) (λ_ _ _ y=>y) (.exit id) g h x
 |goto l=>exact lP d (Q:=Q) (λ_ _ _ y=>y) (.goto l) g h x
 |ret=>exact lP d (Q:=Q) (λ_ _ _ y=>y) .ret g h x
 |panic J=>exact x
 |outgrown=>exact x
end
def RW(T:Tys)(τ:Env)(σ:Sto):ResultVar->Option D
 |.tmp t=>get τ t
 |.cell t b=>ML T τ σ b (.tmp t)
def wt(T:Tys)(τ:Env)(σ:Sto):List ResultVar->Option (List D)
 |[]=>some []
 |r::e=>match RW T τ σ r,wt T τ σ e with
  |some d,some b=>some (d::b)
  |_,_=>none
def tE(T:Tys)(e:List ResultVar)(τ:Env)(σ:Sto):Option D:=
 match wt T τ σ e with
 |some [d]=>some d
 |some b=>some (.tuple b)
 |none=>none
section
variable {P:Program}{T:Tys}{B:bE P}{G:Gh}{σ:Sto}{w:World}{N:Nat}{τ:Env}{a:Act}
def JI(tmps:Array Value):ResultVar->Sem Value
 |.tmp t=>Pure.pure (tmps.getD t undef)
 |.cell x t=>do loadVar t (<-asAddr (tmps.getD x undef))
def Wt(fn:Func)(tmps:Array Value):results fn tmps=(fn.results.mapM (JI tmps)).bind λb=>Sem.pure (if h:b.size=1 then b[0] else .tuple b):=by
 unfold results;congr 1
def E7(g:TOk T P)(q:Rel B G σ w)(s:de G N τ a):∀{I:List ResultVar}{ds:List D},wt T τ σ I=some ds->
 ∃p,(I.mapM (JI a.tmps)).run P w=.ok p w/\af G ds p
 |[],_,h=>by simp only[wt,ak1]at h;subst h;exact⟨[],by simp,by simp[af]⟩
 |r::I,_,h=>by
  simp only[wt]at h;split at h<;>try (cases h;done)
  rename_i d ds e x;cases h;obtain⟨p,K,L⟩:=E7 g q s x;have O:∃v,((JI a.tmps) r).run P w=.ok v w/\Rep G d v:=by
   cases r with
   |tmp t=>exact⟨_,rfl,s.slot _ _ e⟩
   |cell t S=>
    simp only[RW,ML]at e;split at e<;>try (cases e;done)
    rename_i n b V A z;have A:=fU g.ld A;split at e<;>try (cases e;done)
    rename_i M;split at e<;>try (cases e;done)
    rename_i U j;have k:=bg s z;obtain⟨u,C,f⟩:=Vi q A k j M;obtain⟨J,o,_,l,_⟩:=IT q j k;refine⟨u,?_,?_⟩
    ·have m:a.tmps.getD t undef=.pointer (some ⟨J,o,none⟩):=l;have E:(loadVar S ⟨J,o,none⟩).run P w=.ok u w:=by
      unfold Instr.loadAt at C;rw[l]at C;simpa[Instr.sureAddr] using C
     simp only[JI,m,asAddr,alh,als,ak9,E]
    ·unfold Rf at e;cases b with
     |true=>simp only[al1,ak1]at e f;subst e;exact f
     |false=>
      simp only[alU,alV]at e f;obtain⟨y,rfl,R⟩:=f;simp only[ak1]at e;subst e;exact R
  obtain⟨v,F,H⟩:=O;refine⟨v::p,?_,by simp only[af];exact⟨v,p,rfl,H,L⟩⟩;simp only[List.mapM_cons,alh,F,K,ak9,als]
def MO(f:TOk T P)(p:Rel B G σ w)(q:de G N τ a){fn:Func}{d:D}(h:tE T fn.results.toList τ σ=some d):∃v,(results fn a.tmps).run P w=.ok v w/\Rep G d v:=by
 unfold tE at h;have r:∀b,(fn.results.toList.mapM (JI a.tmps)).run P w=.ok b w->
  (results fn a.tmps).run P w=.ok (if h:b.toArray.size=1 then b.toArray[0] else .tuple b.toArray) w:=by
  intro b o;rw[Wt];show Sem.run P ((fn.results.mapM (JI a.tmps))>>=λb=>Pure.pure (if h:b.size=1 then b[0] else .tuple b)) w=_;simp only[alh,aoP,Sem.run_map,o,ak9,als]
 split at h
 ·rename_i z t;cases h;obtain⟨b,j,g⟩:=E7 f p q t;obtain⟨v,rfl,y⟩:=LX g;exact⟨v,by rw[r _ j];rfl,y⟩
 ·rename_i s m k;cases h;obtain⟨b,j,g⟩:=E7 f p q k;have u:=g.length;have n:¬b.toArray.size=1:=by
   intro e;obtain⟨x,rfl⟩:=LY (l:=s) (by rw[u];simpa using e.symm);exact m x rfl
  refine⟨.tuple b.toArray,by rw[r _ j,dif_neg n],?_⟩;simp only[Rep];exact⟨_,rfl,by simpa using g⟩
 ·cases h
def E8{i:Nat}(n:TOk T P){f:FuncId}{fn:Func}{c:Code}{ds:List D}{R:D->Sto->Prop}(C:P.funcs[f]?=some fn)(A:fn.body=some c)(J:ds.length<=fn.ntmps)
 (h:AWp i P fn.ntmps c (env0 0 ds) σ λe τ' σ'=>(e=.normal∨e=.ret)/\∃d,tE T fn.results.toList τ' σ'=some d/\R d σ'):qX i P f ds σ R:=by
 intro B G w b z y;have I:=y.length;refine calls_of_wp C A (aoH (h B G w _ z ⟨?_,rfl,?_⟩) λe F K x=> ?_)
 ·simp;omega
 ·intro t d E;obtain⟨_,k⟩:=RT ds 0 t d E;obtain⟨v,g,j⟩:=y.get _ k;have o:t<b.length:=by
   rcases alf t b.length with q|q
   ·exact q
   ·rw[aoI,alg q]at g;cases g
  have:(b.toArray++Array.replicate (fn.ntmps-b.toArray.size) undef).getD t undef=v:=by
   rw[aoI,akZ o]at g;cases g;simp[ak6,Array.getElem?_append,o]
  show Rep G d ((b.toArray++Array.replicate (fn.ntmps-b.toArray.size) undef).getD t undef);rw[this];exact j
 ·cases e with
  |normal=>
   obtain⟨p,τ',σ',r,k,m,_,d,s,u⟩:=x;obtain⟨v,g,j⟩:=MO n k m s;exact⟨m.defers,v,g,v,p,d,σ',rfl,r,k,j,u⟩
  |ret=>
   obtain⟨p,τ',σ',r,k,m,_,d,s,u⟩:=x;obtain⟨v,g,j⟩:=MO n k m s;exact⟨m.defers,v,g,v,p,d,σ',rfl,r,k,j,u⟩
  |exit id=>obtain⟨_,_,_,_,_,_,h,_⟩:=x;rcases h with h|h<;>cases h
  |goto l=>obtain⟨_,_,_,_,_,_,h,_⟩:=x;rcases h with h|h<;>cases h
  |panic H=>exact x.elim
  |outgrown=>exact x.elim
end
end Go.Fw
def akX:=@Option.bind_some
def alw:=@List.take_of_length_le
namespace Go.Fw
open Go.RowKit
section
variable {P:Program}{T:Tys}{N:Nat}{o:Oper}{τ:Env}{σ σ1:Sto}
def lI(T:Tys)(τ:Env)(c:Call):Option (FuncId×List D):=
 match c.callee with
 |.value x=>match ev τ x,evs τ c.args.toList with
  |some (.func (.func f) first cap),some a=>some (f,first++a++cap)
  |_,_=>none
 |.invoke x name=>match ev τ x,evs τ c.args.toList with
  |some (.iface t v),some a=>match lkM T.meth t name with
   |some f=>some (f,v::a)
   |none=>none
  |_,_=>none
 |_=>none
def Bu{f:FuncId}{w:World}(i:fI P f)(args:Array Value):(callFunc f args).run P w=.ok (.enter f args) w:=by
 obtain⟨g,e,a,c⟩:=i;have h:g.body.isNone=false:=by
  cases d:g.body with
  |none=>rw[d]at a;cases a
  |some b=>rfl
 simp only[callFunc,alh,amq,ak9,e,c,alU,alV,h,als]
def Xe{t:TypeId}{v:Value}{a:String}{f:FuncId}{w:World}(n:Nat)(h:H2 P t a=some f):(method (n+1) t v a).run P w=.ok (f,v) w:=by
 unfold H2 at h;split at h<;>try (cases h;done)
 rename_i i e;split at h<;>try (cases h;done)
 rename_i m g;split at h<;>try (cases h;done)
 rename_i k l c b j;cases h;unfold method;have d:m.path.toList=[]:=c;simp only[typeInfo,alh,amq,ak9,e,als,g,d,follow,b,receiverAt,ald j,Place.get]
def CL{T:Tys}(l:TOk T P){G:Gh}{a:Act}{c:Call}{f:FuncId}{ds:List D}{w:World}{ty:TypeId}(j:de G N τ a)(h:lI T τ c=some (f,ds)):
 ∃e,af G ds e/\(do let d <-resolve a.eval c ty;invoke d.target d.args:Sem Next).run P w=(callFunc f e.toArray).run P w:=by
 unfold lI at h;split at h
 ·rename_i x m;split at h<;>try (cases h;done)
  rename_i F first E k u i
  cases h;have b:=bg j u;simp only[Rep]at b;obtain⟨H,C,r,q,p⟩:=b;have g:=Al j i;refine⟨H.toList++c.args.toList.map a.eval++C.toList,(q.append g).append p,?_⟩;simp only[resolve,m,r,Deferred.ofValue,alh,als,ak9,invoke];congr 2;apply ank;simp
 ·rename_i x B m;split at h<;>try (cases h;done)
  rename_i t v k u i;split at h<;>try (cases h;done)
  rename_i F s;cases h;have b:=bg j u;simp only[Rep]at b;obtain⟨y,K,z⟩:=b;have g:=Al j i;refine⟨y::c.args.toList.map a.eval,by simp only[af];exact⟨_,_,rfl,z,g⟩,?_⟩;have s:=RJ (f:=H2 P) l.meth s;simp only[resolve,m,alh,als,ak9,invoke];have I:(#[a.eval x]++c.args.map a.eval)[0]?=some (a.eval x):=by rw[Array.getElem?_append_left siq];rfl
  simp only[I];rw[K];simp only[callMethod,alh,amq,ak9];have A:0<Made.depth:=by decide
  obtain⟨n,J⟩:∃n,P.types.size+Made.depth=n+1:=⟨P.types.size+Made.depth-1,omq⟩;rw[J,Xe n s];simp only[ak9];congr 2;apply ank;simp[alw]
 ·cases h
def Ti{T:Tys}(l:TOk T P){c:Call}{f:FuncId}{ds g:List D}{K:D->Sto->Prop}(E:o.op=.call c)(z:lI T τ c=some (f,ds))
 (F:xh σ ds=some (g,σ1))(A:fI P f)(h:tD P f g σ1 K):AOp P N o τ σ K:=by
 intro B G w a x y next Q C
 obtain⟨k,i,b⟩:=CL l (w:=w) (ty:=o.type) y z;rw[Bu A]at b;obtain⟨q,H,n,I⟩:=Fj x F i;have j:(execOp a.eval o).run P w=.ok (.enter f k.toArray) w:=by
  unfold execOp;rw[E];exact b
 unfold Oper.wp;rw[j,Oper.upon_enter];refine(h B q w _ n I).mono ?_;rintro e J ⟨v,p,d,m,rfl,r,s,t,u⟩;exact C v J p d m (H.trans (r.le n)) s t u
def O3(k:ExK)(ds:List D):Option D:=
 match k,ds with
 |.count,[.str s,.int .u8 c]=>some (.int .i64 ((⟨s.toArray⟩:ByteArray).foldl (λ(n:Int) x=>if x==c.toNat.toUInt8 then n+1 else n) ((0:Nat):Int)))
 |.indexByte,[.str s,.int .u8 c]=>some (match (List.range (⟨s.toArray⟩:ByteArray).size).find? λi=>(⟨s.toArray⟩:ByteArray)[i]! ==c.toNat.toUInt8 with
  |some i=>.int .i64 i
  |none=>.int .i64 (-1))
 |_,_=>none
def Ze:Extern.allNextRows.lookup "internal/bytealg.CountString" =none:=krq
def Zf:Extern.allNextRows.lookup "internal/bytealg.IndexByteString" =none:=krq
def Qc:Extern.allNextRows.lookup "" =none:=krq
def Zg:Extern.allGenericRows.lookup "internal/bytealg.CountString" =none:=krq
def Zh:Extern.allGenericRows.lookup "internal/bytealg.IndexByteString" =none:=krq
def Zi:Extern.allTypedRows.lookup "internal/bytealg.CountString" =none:=krq
def Zj:Extern.allTypedRows.lookup "internal/bytealg.IndexByteString" =none:=krq
def Zk:Extern.allRows.lookup "internal/bytealg.CountString" =some Extern.BytealgCount.count:=krq
def Zl:Extern.allRows.lookup "internal/bytealg.IndexByteString" =some Extern.BytealgIndexByte.indexByte:=krq
def adJ:ExK->Array Value->Sem Value
 |.count=>Extern.BytealgCount.count
 |.indexByte=>Extern.BytealgIndexByte.indexByte
def Tj(m:Mark)(w:World):(mark m).run P w=.ok () w:=rfl
def Tk{f:FuncId}{k:ExK}{w:World}(h:Rb P f=some k)(args:Array Value):(callFunc f args).run P w=((adJ k args).run P w).andThen λv l=>.ok (.value v) l:=by
 unfold Rb at h;split at h<;>try (cases h;done)
 rename_i b d;split at h<;>try (cases h;done)
 rename_i j;split at h<;>try (cases h;done)
 rename_i c;have c:b.origin= "" :=by simpa using c
 split at h
 ·rename_i a;have a:b.name= "internal/bytealg.CountString" :=by simpa using a
  cases h;have e:(b.name== "runtime.NumGoroutine")=false:=by rw[a];rfl
  have g:Extern.findNext b=none:=by unfold Extern.findNext;simp only[a,c,Ze,Qc];rfl
  have i:Extern.find b=some Extern.BytealgCount.count:=by unfold Extern.find;simp only[a,c,Zg,Zi,Zk];rfl
  simp only[callFunc,alh,amq,ak9,d,e,alU,alV,j,Option.isNone_none,al1,Tj,g,i];rfl
 ·split at h<;>try (cases h;done)
  rename_i a;have a:b.name= "internal/bytealg.IndexByteString" :=by simpa using a
  cases h;have e:(b.name== "runtime.NumGoroutine")=false:=by rw[a];rfl
  have g:Extern.findNext b=none:=by unfold Extern.findNext;simp only[a,c,Zf,Qc];rfl
  have i:Extern.find b=some Extern.BytealgIndexByte.indexByte:=by unfold Extern.find;simp only[a,c,Zh,Zj,Zl];rfl
  simp only[callFunc,alh,amq,ak9,d,e,alU,alV,j,Option.isNone_none,al1,Tj,g,i];rfl
def aeY{k:ExK}{ds:List D}{d:D}{G:Gh}{vals:List Value}{w:World}(h:O3 k ds=some d)(a:af G ds vals):∃v,(adJ k vals.toArray).run P w=.ok v w/\Rep G d v:=by
 unfold O3 at h;split at h<;>try (cases h;done)
 ·rename_i s c;cases h;simp only[af,Rep]at a;obtain⟨g,e,rfl,rfl,j,f,rfl,rfl,rfl⟩:=a;exact⟨_,rfl,by simp only[Rep];rfl⟩
 ·rename_i s c;cases h;simp only[af,Rep]at a;obtain⟨g,e,rfl,rfl,j,f,rfl,rfl,rfl⟩:=a;cases b:(List.range (⟨s.toArray⟩:ByteArray).size).find? λi=>(⟨s.toArray⟩:ByteArray)[i]! ==c.toNat.toUInt8 with
  |some i=>
   refine⟨.int .i64 i,?_,by simp only[Rep]⟩;show(match (List.range (⟨s.toArray⟩:ByteArray).size).find? λi=>(⟨s.toArray⟩:ByteArray)[i]! ==c.toNat.toUInt8 with
    |some i=>(Pure.pure (goInt i):Sem Value)
    |none=>Pure.pure (goInt (-1))).run P w=_
   rw[b];rfl
  |none=>
   refine⟨.int .i64 (-1),?_,by simp only[Rep]⟩;show(match (List.range (⟨s.toArray⟩:ByteArray).size).find? λi=>(⟨s.toArray⟩:ByteArray)[i]! ==c.toNat.toUInt8 with
    |some i=>(Pure.pure (goInt i):Sem Value)
    |none=>Pure.pure (goInt (-1))).run P w=_
   rw[b];rfl
def JR{T:Tys}(e:TOk T P){c:Call}{f:FuncId}{k:ExK}{ds:List D}{d:D}(u:o.op=.call c)(q:lI T τ c=some (f,ds))
 (r:lk T.ext f=some k)(hd:O3 k ds=some d):AOp P N o τ σ (λj s=>j=d/\s=σ):=by
 intro B G w a n p next Q t
 obtain⟨i,g,b⟩:=CL e (w:=w) (ty:=o.type) p q;rw[Tk (fU e.ext r)]at b;obtain⟨v,l,m⟩:=aeY (P:=P) (w:=w) hd g;rw[l]at b;have h:(execOp a.eval o).run P w=.ok (.value v) w:=by
  unfold execOp;rw[u];exact b
 unfold Oper.wp;rw[h];exact t v w G d σ (.refl G) n m ⟨rfl,rfl⟩
def Zm{t:Operand}{l:Nat}{ks vs:List D}{c:List Nat}{g:Option Nat}(r:o.op=.next t false)(hit:ev τ t=some (.ptr l 0 0))(F:σ[l]?=some (.miter ks vs c g)):
 AOp P N o τ σ (λd s=>(c=[]/\d=.tuple [.bool false]/\s=σ)∨
  (∃i a b,i∈c/\ks[i]?=some a/\vs[i]?=some b/\d=.tuple [.bool true,a,b]/\s=σ.set l (.miter ks vs (c.filter (· !=i)) (some i)))):=by
 intro B G w a C E next Q q
 obtain⟨u,p,e,h⟩:=WN (P:=P) C o.type F (bg E hit);have n:(execOp a.eval o).run P w=.ok (.value u) p:=by
  obtain⟨v,I,J,H,f,guard⟩:=o;simp only at r;subst r;unfold execOp;simp only[alh,e,ak9,als]
 unfold Oper.wp;rw[n];rcases h with⟨j,k,m⟩|⟨i,x,y,j,k,m,z,A⟩
 ·exact q u p G _ _ (.refl G) k m (.inl ⟨j,rfl,rfl⟩)
 ·exact q u p G _ _ (.refl G) z A (.inr ⟨i,x,y,j,k,m,rfl,rfl⟩)
def KOk(P:Program)(K:FuncId->List D->Option D):Prop:=∀f a d,K f a=some d->fI P f/\cq P f a d
def adK(T:Tys)(K:FuncId->List D->Option D)(τ:Env)(σ:Sto)(c:Call):Option (D×Sto):=
 match lI T τ c with
 |some (f,b)=>match lk T.ext f with
  |some k=>match O3 k b with
   |some d=>some (d,σ)
   |none=>none
  |none=>match xh σ b with
   |some (a,σ1)=>match K f a with
    |some d=>some (d,σ1)
    |none=>none
   |none=>none
 |_=>none
def Qd:Callee->Bool
 |.builtin _=>true
 |_=>false
def opE(T:Tys)(K:FuncId->List D->Option D)(τ:Env)(σ:Sto)(a:Op):Option (D×Sto):=
 match a with
 |.call c=>match Qd c.callee with
  |true=>aop T τ σ a
  |false=>adK T K τ σ c
 |_=>aop T τ σ a
def aiR(a:TOk T P){K:FuncId->List D->Option D}(n:KOk P K){d:D}{σ':Sto}(h:opE T K τ σ o.op=some (d,σ')):AOp P N o τ σ (λe s=>e=d/\s=σ'):=by
 unfold opE at h;split at h
 ·rename_i c b;split at h
  ·exact aO a h
  ·unfold adK at h;split at h<;>try (cases h;done)
   rename_i f r i;split at h
   ·rename_i k g;split at h<;>try (cases h;done)
    rename_i e p;cases h;exact JR a b i g p
   ·split at h<;>try (cases h;done)
    rename_i j σ1 q;split at h<;>try (cases h;done)
    rename_i e g;cases h;obtain⟨l,m⟩:=n _ _ _ g;exact Ti a b i q l (m.acall _)
 ·exact aO a h
def bw(all:Array Oper)(τ:Env)(o:Oper):Option Bool:=
 match o.guard with
 |none=>some true
 |some (j,want)=>match (all[j]?).bind (·.dst) with
  |some t=>match get τ t with
   |some (.bool b)=>some (b==want)
   |some (.tuple _)=>some false
   |_=>none
  |none=>none
def eg(N:Nat)(dst:Option Tmp)(d:D)(τ:Env):Option Env:=
 match dst with
 |none=>some τ
 |some t=>if t<N then some ((t,d)::τ) else none
def wU{G:Gh}{a:Act}{all:Array Oper}{b:Bool}(n:de G N τ a)(h:bw all τ o=some b):Region.wanted o (yielded all a.tmps)=b:=by
 unfold bw at h;unfold Region.wanted;split at h
 ·rename_i k;rw[k];cases h;rfl
 ·rename_i j f k;rw[k];simp only;unfold yielded;split at h<;>try (cases h;done)
  rename_i t p;simp only[p,akX];split at h<;>try (cases h;done)
  ·rename_i d g;have c:=n.slot _ _ g;simp only[Rep]at c;have:a.tmps[t]?=some (.bool d):=by
    rw[ak6]at c;cases e:a.tmps[t]? with
    |none=>rw[e]at c;simp[undef]at c
    |some v=>rw[e]at c;simpa using c
   rw[this];cases h;cases d<;>cases f<;>rfl
  ·rename_i q g;have c:=n.slot _ _ g;simp only[Rep]at c;obtain⟨x,e,_⟩:=c;have l:∀d,a.tmps[t]?≠some (.bool d):=by
    intro d i;rw[ak6,i]at e;simp at e
   cases h;cases m:a.tmps[t]? with
   |none=>rfl
   |some v=>
    cases v<;>first|rfl|exact absurd m (l _)
def Ey{G:Gh}{a:Act}{dst:Option Tmp}{d:D}{v:Value}{τ':Env}(b:de G N τ a)(h:eg N dst d τ=some τ')(e:Rep G d v):de G N τ' (a.put dst v):=by
 unfold eg at h;split at h
 ·cases h;exact b
 ·split at h<;>try (cases h;done)
  rename_i c;cases h;exact b.put c e
def eR(P:Program)(N:Nat)(all:Array Oper):List Oper->Env->Sto->(Env->Sto->Prop)->Prop
 |[],τ,σ,K=>K τ σ
 |o::r,τ,σ,K=>
  (bw all τ o=some true/\AOp P N o τ σ λd b=>∃a,eg N o.dst d τ=some a/\eR P N all r a b K)∨
  (bw all τ o=some false/\∃a,eg N o.dst (.tuple []) τ=some a/\eR P N all r a σ K)
def O4{i:Nat}{B:bE P}{all:Array Oper}{Q:AEx->Env->Sto->Prop}{G0:Gh}:∀(l:List Oper)(e:List Nat)(τ:Env)(σ:Sto)(G:Gh)(a:Act)(w:World),G0.LeB i G->l.map some=e.map (all[·]?)->
 eR P N all l τ σ (λb f=>Q .normal b f)->Rel B G σ w->de G N τ a->wpOps P all (jH i B G0 N Q) e a w
 |[],e,τ,σ,G,a,w,j,c,h,hR,hT=>by
  match e,c with
  |[],_=>exact⟨G,τ,σ,j,hR,hT,h⟩
 |o::r,e,τ,σ,G,a,w,j,c,h,hR,hT=>by
  match e,c with
  |i::e,c=>
   simp only[alc,am2]at c;obtain⟨u,c⟩:=c;simp only[wpOps,<-u];rcases h with⟨q,m⟩|⟨q,b,n,p⟩
   ·rw[ali (wU hT q)];refine .inl (m B G w a hR hT _ _ ?_);rintro v x s d f g k t ⟨b,n,p⟩;exact O4 r e b f s _ x (j.trans g.b) c p k (Ey (hT.mono g) n t)
   ·rw[alJ (by rw[wU hT q];simp)];exact O4 r e b σ G _ w j c p hR (Ey hT n (by simp only[Rep,undef];exact⟨#[],rfl,by simp[af]⟩))
def bJ{i:Nat}{id:Nat}{ops:Array Oper}{Q:AEx->Env->Sto->Prop}(h:eR P N ops ops.toList τ σ (λc b=>Q .normal c b)):AWp i P N (.region id ops false) τ σ Q:=by
 intro B G w a e f;refine wp_region (O4 ops.toList (List.range ops.size) τ σ G a w (.refl G) ?_ h e f);apply amv;intro i;simp only[al4,alK];by_cases d:i<ops.size
 ·simp[List.getElem?_range d,alo d]
 ·rw[anp omq,alg soq];rfl
def Gh.strip(G:Gh):Gh:={G with blk:=λ_ _=>none}
def Bv{i:Nat}{f:FuncId}{ds:List D}{d:D}(I:bo ds=true)(h:qX i P f ds [] λz n=>∃j,C6 n z=some (d,j)/\d.pure=true):cq P f ds d:=by
 intro G w g m H J;let B0:bE P:=⟨w,G,H,λb o v h=>ed (m.imm b o v h),λb B h=>bB (m.mimm b B h).1⟩;have E:Rel B0 G.strip [] w:=by
  refine⟨amh _ _,m.imm,m.mimm,m.siz,?_,?_,?_,?_,?_,?_,?_,λ_ _ _=>rfl,λ_ _=>rfl⟩
  ·intro l u b q;cases q
  ·intro l u R S b q;cases q
  ·intro l A b c;simp at c
  ·intro l O C u b c;simp at c
  ·intro l Q U b c;simp at c
  ·intro l A c;simp at c
  ·intro l A c;simp at c
 refine(h B0 G.strip w g E (af.pure (G:=G) (G':=G.strip) (λ_ _ _ x=>x) (λ_ _ x=>x) ds g I J)).mono ?_;rintro e V ⟨v,G',z,n,rfl,r,p,F,j,K,s⟩;obtain⟨t,L,k,M⟩:=aeu p K F;let y:Gh:={t with blk:=G.blk};refine⟨v,y,rfl,?_,Rep.pure (G:=t) (G':=y) (λ_ _ _ x=>x) (λ_ _ x=>x) d v s M⟩;have a:=r.trans (L.b (i:=i));exact {
  le:=⟨a.imm,a.mimm,λ_ _ _ x=>x,a.siz⟩
  below:=k.below
  blk:=rfl
  imm:=k.imm
  mimm:=k.mimm
  siz:=k.siz
  imm_new:=k.bimm
  mimm_new:=k.bmimm}
def Tl{i:Nat}(g:TOk T P){f:FuncId}{fn:Func}{c:Code}{ds:List D}{d:D}(m:P.funcs[f]?=some fn)(l:fn.body=some c)(n:ds.length<=fn.ntmps)(p:bo ds=true)
 (h:AWp i P fn.ntmps c (env0 0 ds) [] λe j a=>(e=.normal∨e=.ret)/\∃k,tE T fn.results.toList j a=some k/\∃b,C6 a k=some (d,b)/\d.pure=true):cq P f ds d:=
 Bv p (E8 g m l n h)
end
end Go.Fw
namespace Go.Fw
open Go.RowKit
section
variable {P:Program}{T:Tys}{K:FuncId→List D→Option D}{N:Nat}{all:Array Oper}{o:Oper}{r:List Oper}{τ τ' :Env}{σ σ' :Sto}{d:D}{Kt:Env→Sto→Prop}
def go1(tok:TOk T P)(a:KOk P K)(b:bw all τ o=some true)(c:opE T K τ σ o.op=some (d,σ'))(e:eg N o.dst d τ=some τ')(h:eR P N all r τ' σ' Kt):eR P N all (o::r) τ σ Kt:=
 .inl ⟨b,(aiR tok a c).mono (by rintro f s ⟨rfl,rfl⟩;exact⟨τ',e,h⟩)⟩
def no1(a:bw all τ o=some false)(b:eg N o.dst (.tuple []) τ=some τ')(h:eR P N all r τ' σ Kt):eR P N all (o::r) τ σ Kt:=
 .inr ⟨a,τ',b,h⟩
def ahq(T:Tys)(c:List ResultVar)(d:D):AEx->Env->Sto->Prop:=λe τ' σ'=>
 (e=.normal∨e=.ret)/\∃b,tE T c τ' σ'=some b/\∃a,C6 σ' b=some (d,a)/\d.pure=true
def adP{i:Nat}(tok:TOk T P){f:FuncId}{fn:Func}{c:Code}{ds:List D}{d:D}(b:P.funcs[f]?=some fn)(a:fn.body=some c)(e:Nat.ble ds.length fn.ntmps=true)(g:bo ds=true)
 (h:AWp i P fn.ntmps c (env0 0 ds) [] (ahq T fn.results.toList d)):cq P f ds d:=
 Tl tok b a (alb e) g h
def ES{c:List ResultVar}{d b:D}{a:Sto}(e:tE T c τ σ=some b)(f:C6 σ b=some (d,a))(g:d.pure=true):ahq T c d .ret τ σ:=
 ⟨.inr rfl,b,e,a,f,g⟩
end
end Go.Fw
def alk:=@List.getD_eq_getElem?_getD
def amc:=@List.getElem?_of_mem
def amI:=@Bool.or_eq_true
def amT:=@List.mem_append_left
def am5:=@List.mem_append_right
def anh:=@List.getElem?_set
namespace Go.Fw
open Go.RowKit
def zp(acc:List Nat):List Edge->Nat
 |[]=>0
 |e::a=>match Region.binds .any e with
  |true=>Nat.lor (Nat.lor (Nat.pow 2 e.on) (acc.getD e.on 0)) (zp acc a)
  |false=>zp acc a
def bj:List Oper->List Nat->List Nat
 |[],acc=>acc
 |o::r,acc=>bj r (acc++[zp acc o.after.toList])
def oS(L:Array Bool)(m:Nat):Prop:=∀j,m.testBit j=true->L.getD j false=true
def tF(ops:Array Oper)(L:Array Bool):Prop:=
 ∀j a,ops[j]?=some a->L.getD j false=true->∀e∈a.after,Region.binds .any e=true->L.getD e.on false=true
def RX{L:Array Bool}{acc:List Nat}(b:∀j m,acc[j]?=some m->L.getD j false=true->oS L m):∀(es:List Edge),
 (∀e∈es,Region.binds .any e=true->L.getD e.on false=true)->oS L (zp acc es)
 |[],_,j,a=>by simp[zp]at a
 |e::es,h,j,a=>by
  have f:=RX b es (λx k=>h x (alj _ k));simp only[zp]at a;split at a
  ·rename_i i;have d:=h e (alG ..) i;have g:Nat.lor (Nat.lor (Nat.pow 2 e.on) (acc.getD e.on 0)) (zp acc es)=((2 ^ e.on|||acc.getD e.on 0)|||zp acc es):=rfl;rw[g,Nat.testBit_or,Nat.testBit_or,Nat.testBit_two_pow]at a;simp only[amI,alL]at a;rcases a with(rfl|a)|a
   ·exact d
   ·cases c:acc[e.on]? with
    |none=>rw[alk,c]at a;simp at a
    |some m=>
     rw[alk,c]at a;exact b _ _ c d j a
   ·exact f j a
  ·exact f j a
def rR{ops:Array Oper}{L:Array Bool}(hd:tF ops L):∀(r pre:List Oper)(acc:List Nat),ops.toList=pre++r->acc.length=pre.length->
 (∀(j m:Nat)(f:Oper),acc[j]?=some m->ops[j]?=some f->(∀e∈f.after,Region.binds .any e=true->L.getD e.on false=true)->oS L m)->
 (∀(j m:Nat)(f:Oper),(bj r acc)[j]?=some m->ops[j]?=some f->(∀e∈f.after,Region.binds .any e=true->L.getD e.on false=true)->oS L m)
 |[],_,_,_,_,h=>h
 |o::r,pre,acc,hops,hlen,h=>by
  refine rR hd r (pre++[o]) (acc++[zp acc o.after.toList]) (by simp[hops]) (by simp[hlen]) ?_;intro j m f b d a;rcases alf j acc.length with s|p
  ·rw[ak8 s]at b;exact h j m f b d a
  ·rw[ale p]at b;have q:j=acc.length:=by
    cases w:j-acc.length with
    |zero=>omega
    |succ k=>rw[w]at b;simp at b
   subst q;simp at b;subst b;have v:ops[acc.length]?=some o:=by
    rw[<-alK,hops,hlen];simp
   rw[v]at d;cases d;refine RX (λg x c u=> ?_) _ (λe n l=>a e (by simpa using n) l);have t:g<acc.length:=by
    rcases alf g acc.length with i|i
    ·exact i
    ·rw[alg i]at c;cases c
   have:g<ops.size:=by
    have:ops.toList.length=pre.length+(o::r).length:=by rw[hops];simp
    simp at this;omega
   exact h g x ops[g] c (alo this) (λe n l=>hd g _ (alo this) u e n l)
def gx{α:Type}(f:α->Prop):List α->Prop
 |[]=>True
 |x::r=>f x/\gx f r
def gx.mem{α:Type}{f:α->Prop}:∀{l:List α},gx f l->∀x∈l,f x
 |_::_,h,x,a=>by
  rcases alr.1 a with rfl|a
  ·exact h.1
  ·exact h.2.mem x a
def cp:List Nat->Sto->Sto
 |[],a=>a
 |l::b,a=>(cp b a).set l .dead
def oT:∀(ls:List Nat)(σ:Sto),(cp ls σ).length=σ.length
 |[],_=>rfl
 |l::ls,σ=>by simp[cp,oT ls σ]
def iI:∀(ls:List Nat)(σ:Sto)(x:Nat),(cp ls σ)[x]?=if x∈ls/\x<σ.length then some .dead else σ[x]?
 |[],_,_=>by simp[cp]
 |l::ls,σ,x=>by
  simp only[cp,anh,oT,iI ls σ x,alr];by_cases e:l=x
  ·subst e;by_cases a:l<σ.length
   ·simp[a]
   ·simp only[a,alV];have c:¬(l<σ.length):=a;simp[alg (Nat.le_of_not_lt a)]
  ·have b:¬x=l:=λh=>e h.symm;simp[e,b]
abbrev Res:=List (Nat×Nat×List D)
def fj:Res->Nat->List (List Nat)
 |[],_=>[[]]
 |(j,l,_)::A,m=>match Nat.testBit m j with
  |true=>fj A m
  |false=>fj A m++(fj A m).map (l::·)
def dM(L:Array Bool):Res->List Nat
 |[]=>[]
 |(j,l,_)::A=>match L.getD j false with
  |true=>dM L A
  |false=>l::dM L A
def E9{L:Array Bool}{m:Nat}(h:oS L m):∀(A:Res),dM L A∈fj A m
 |[]=>by simp[dM,fj]
 |(j,l,_)::A=>by
  have a:=E9 h A;simp only[dM,fj];cases b:L.getD j false<;>cases c:Nat.testBit m j<;>simp only
  ·exact am5 _ (alW.2 ⟨_,a,rfl⟩)
  ·rw[h j c]at b;cases b
  ·exact amT _ a
  ·exact a
def nr(m:Nat):List Sto->List Nat->List Sto
 |[],_=>[]
 |a::r,C=>match C.all (λc=> !Nat.testBit m c) with
  |true=>a::nr m r C.tail
  |false=>nr m r C.tail
def BZ{m:Nat}:∀{S:List Sto}{C:List Nat}{k:Nat}{σ:Sto},S[k]?=some σ->(∀b c,C[b]?=some c->k<=b->Nat.testBit m c=false)->σ∈nr m S C
 |[],_,_,_,h,_=>by simp at h
 |s::S,C,0,σ,h,d=>by
  simp at h;subst h;simp only[nr];have:C.all (λc=> !Nat.testBit m c)=true:=by
   rw[alv];intro c e;obtain⟨b,a⟩:=amc e;simp[d b c a (al2 _)]
  rw[this];exact alG ..
 |s::S,C,k+1,σ,h,d=>by
  simp only[aml]at h;have f:=BZ (S:=S) (C:=C.tail) h (λb c a g=>d (b+1) c (by rw[<-a,List.getElem?_tail]) omq);simp only[nr];split
  ·exact alj _ f
  ·exact f
inductive Kd where
 |skip|read|chain(k:Nat)|alloc(l:Nat)(cs:List D)
structure Rc where
 o:Oper
 env:Env
 v:D
 kd:Kd
def rst(ops:Array Oper)(o:Oper)(τ:Env):Env:=τ.filter λp=>(o.looksAt ops).contains p.1
def reS(A:Res)(M C:List Nat)(σ:Sto):Nat->List Rc->List (Rc×Sto)
 |_,[]=>[]
 |j,r::a=>match r.kd with
  |.read=>match C.all (λc=> !Nat.testBit (M.getD c 0) j) with
   |true=>((fj A (M.getD j 0)).map λb=>(r,cp b σ))++reS A M C σ (j+1) a
   |false=>reS A M C σ (j+1) a
  |_=>reS A M C σ (j+1) a
def Fa(m:Nat)(C:List Nat):Bool:=match C.getLast? with
 |none=>true
 |some c=>Nat.testBit m c
def tG(A:Res)(i:Nat):Option (Nat×List D):=match A.find? (λx=>x.1==i) with
 |some x=>some x.2
 |none=>none
def ADr(P:Program)(N:Nat)(ops:Array Oper)(A:Res)(M:List Nat):List Oper->Nat->Env->List Sto->List Nat->List Rc->(Env->Sto->Prop)->Prop
 |[],_,b,S,_,tab,K=>gx (λ(x:Nat×Nat×List D)=>∃r,tab[x.1]?=some r/\r.kd=.alloc x.2.1 x.2.2) A/\∃f,S.getLast?=some f/\K b f
 |o::r,i,b,S,C,tab,K=>
  (bw ops (rst ops o b) o=some false/\∃a,eg N o.dst (.tuple []) b=some a/\ADr P N ops A M r (i+1) a S C (tab++[⟨o,rst ops o b,.tuple [],.skip⟩]) K)∨
  (bw ops (rst ops o b) o=some true/\∃d a,
    gx (λs=>AOp P N o (rst ops o b) s λg h=>g=d/\h=s) ((nr (M.getD i 0) S C).flatMap λf=>(fj A (M.getD i 0)).map (cp · f))/\
    eg N o.dst d b=some a/\ADr P N ops A M r (i+1) a S C (tab++[⟨o,rst ops o b,d,.read⟩]) K)∨
  (bw ops (rst ops o b) o=some true/\Fa (M.getD i 0) C=true/\∃d a f c,S.getLast?=some f/\
    gx (λk=>AOp P N o (rst ops o b) (cp k f) λg h=>g=d/\h=cp k c) (fj A (M.getD i 0))/\
    gx (λ(x:Rc×Sto)=>AOp P N x.1.o x.1.env x.2 λg h=>g=x.1.v/\h=x.2) (reS A M (C++[i]) c 0 tab)/\
    gx (λ(x:Nat×Nat×List D)=>match Nat.testBit (M.getD i 0) x.1 with|true=>True|false=>c[x.2.1]?=some (.cells x.2.2 0 0)) A/\
    eg N o.dst d b=some a/\ADr P N ops A M r (i+1) a (S++[c]) (C++[i]) (tab++[⟨o,rst ops o b,d,.chain C.length⟩]) K)∨
  (bw ops (rst ops o b) o=some true/\∃e l j a,o.op=.alloc e/\tG A i=some (l,j)/\mZ P e=some j/\
    eg N o.dst (.ptr l 0 0) b=some a/\ADr P N ops A M r (i+1) a S C (tab++[⟨o,rst ops o b,.ptr l 0 0,.alloc l j⟩]) K)
end Go.Fw
def amf:=@List.getLast?_eq_getElem?
def an1:=@List.mem_flatMap
def aoo:=@List.filter_cons
namespace Go.Fw
open Go.RowKit
def Win(M C:List Nat)(i k:Nat):Prop:=
 ∀(a c:Nat),C[a]?=some c->(a<k->Nat.testBit (M.getD c 0) i=false)/\(k<=a->Nat.testBit (M.getD i 0) c=false)
def On(P:Program)(N:Nat)(ops:Array Oper)(A:Res)(M:List Nat)(S:List Sto)(C:List Nat)(i:Nat)(r:Rc):Prop:=
 match r.kd with
 |.skip=>bw ops r.env r.o=some false/\r.v=.tuple []
 |.read=>bw ops r.env r.o=some true/\∀(k:Nat)(a:Sto),S[k]?=some a->Win M C i k->∀b∈fj A (M.getD i 0),AOp P N r.o r.env (cp b a) (λf g=>f=r.v/\g=cp b a)
 |.chain k=>bw ops r.env r.o=some true/\C[k]?=some i/\(∀(j c:Nat),k=j+1->C[j]?=some c->Nat.testBit (M.getD i 0) c=true)/\
  ∃(a d:Sto),S[k]?=some a/\S[k+1]?=some d/\∀b∈fj A (M.getD i 0),AOp P N r.o r.env (cp b a) (λf g=>f=r.v/\g=cp b d)
 |.alloc l h=>bw ops r.env r.o=some true/\(i,l,h)∈A/\r.v=.ptr l 0 0/\∃e,r.o.op=.alloc e/\mZ P e=some h
def B1(tab:List Rc)(τ0:Env)(i t:Nat)(d:D):Prop:=
 (∃(j:Nat)(a:Rc),j<i/\tab[j]?=some a/\a.o.dst=some t/\a.v=d)∨((∀(j:Nat)(a:Rc),j<i->tab[j]?=some a->a.o.dst≠some t)/\get τ0 t=some d)
structure fo(P:Program)(N:Nat)(ops:Array Oper)(A:Res)(M:List Nat)(τ0:Env)(s0:Sto)(tab:List Rc)(S:List Sto)(C:List Nat)(τ:Env):Prop where
 rc:∀(i:Nat)(r:Rc),tab[i]?=some r->ops[i]?=some r.o/\On P N ops A M S C i r
 slen:S.length=C.length+1
 hd:S[0]?=some s0
 ch:∀(k c:Nat),C[k]?=some c->∃r:Rc,tab[c]?=some r/\r.kd=.chain k
 res:∀x∈A,∀(k:Nat)(σ:Sto),S[k]?=some σ->(∀(k' c:Nat),C[k']?=some c->k'<k->Nat.testBit (M.getD c 0) x.1=false)->σ[x.2.1]?=some (.cells x.2.2 0 0)
 env:∀(i:Nat)(r:Rc),tab[i]?=some r->∀t d,get r.env t=some d->(r.o.looksAt ops).contains t=true/\B1 tab τ0 i t d
 fin:∀t d,get τ t=some d->B1 tab τ0 tab.length t d
 dst:∀(i:Nat)(r:Rc)(t:Nat),tab[i]?=some r->r.o.dst=some t->t<N
def pX{p:Nat->Bool}:∀{τ:Env}{t:Nat}{d:D},get (τ.filter λq=>p q.1) t=some d->p t=true/\get τ t=some d
 |[],_,_,h=>by simp[get]at h
 |(i,x)::τ,t,d,h=>by
  simp only[aoo]at h;by_cases a:p i=true
  ·simp only[a,al1,get]at h⊢;by_cases e:i=t
   ·subst e;simp only[al1]at h⊢;exact⟨a,h⟩
   ·simp only[e,alV]at h⊢;exact pX h
  ·simp only[a]at h;obtain⟨b,c⟩:=pX h;refine⟨b,?_⟩;have:i≠t:=λe=>by subst e;exact a b
   simp only[get,this,alV];exact c
def aj{α:Type}{l:List α}{i:Nat}{x:α}(h:l[i]?=some x):i<l.length:=by
 rcases alf i l.length with a|a
 ·exact a
 ·rw[alg a]at h;cases h
def jY{α:Type}{l:List α}{x y:α}{i:Nat}(h:(l++[x])[i]?=some y):(i<l.length/\l[i]?=some y)∨(i=l.length/\y=x):=by
 have b:=aj h;simp at b;rcases alf i l.length with a|a
 ·rw[ak8 a]at h;exact .inl ⟨a,h⟩
 ·have:i=l.length:=omq;subst this;simp at h;exact .inr ⟨rfl,h.symm⟩
def fJ{α:Type}{l:List α}{x y:α}{i:Nat}(h:l[i]?=some y):(l++[x])[i]?=some y:=by
 rw[ak8 (aj h)];exact h
section
variable {P:Program}{N:Nat}{ops:Array Oper}{A:Res}{M:List Nat}{τ0:Env}{s0:Sto}{tab:List Rc}{S:List Sto}{C:List Nat}{τ τ2:Env}
def B1.push{r:Rc}{i t:Nat}{d:D}(h:B1 tab τ0 i t d)(l:i<=tab.length):B1 (tab++[r]) τ0 i t d:=by
 rcases h with⟨j,c,a,b,e,f⟩|⟨a,b⟩
 ·exact .inl ⟨j,c,a,fJ b,e,f⟩
 ·refine .inr ⟨λj c g k=> ?_,b⟩;rcases jY k with⟨_,h⟩|⟨rfl,_⟩
  ·exact a j c g h
  ·omega
def wu(h:fo P N ops A M τ0 s0 tab S C τ){r:Rc}(b:eg N r.o.dst r.v τ=some τ2)(y:r.env=rst ops r.o τ):
 (∀(i:Nat)(c:Rc),(tab++[r])[i]?=some c->∀t d,get c.env t=some d->(c.o.looksAt ops).contains t=true/\B1 (tab++[r]) τ0 i t d)/\
 (∀t d,get τ2 t=some d->B1 (tab++[r]) τ0 (tab++[r]).length t d)/\(∀(i:Nat)(c:Rc)(t:Nat),(tab++[r])[i]?=some c->c.o.dst=some t->t<N):=by
 refine⟨λi c o t d a=> ?_,λt d a=> ?_,λi c t o u=> ?_⟩
 ·rcases jY o with⟨n,l⟩|⟨rfl,rfl⟩
  ·obtain⟨k,g⟩:=h.env i c l t d a;exact⟨k,g.push (Nat.le_of_lt n)⟩
  ·rw[y]at a;obtain⟨k,g⟩:=pX (p:=λx=>(c.o.looksAt ops).contains x) a;exact⟨k,(h.fin t d g).push (ak7 _)⟩
 ·unfold eg at b;have f:r.o.dst≠some t->get τ t=some d->B1 (tab++[r]) τ0 (tab++[r]).length t d:=by
   intro q a;rcases h.fin t d a with⟨j,s,k,g,v,w⟩|⟨k,g⟩
   ·exact .inl ⟨j,s,by simp;omega,fJ g,v,w⟩
   ·refine .inr ⟨λj s D z=> ?_,g⟩;rcases jY z with⟨n,l⟩|⟨rfl,rfl⟩
    ·exact k j s n l
    ·exact q
  split at b
  ·rename_i m;cases b;exact f (by rw[m];simp) a
  ·rename_i B m;split at b<;>try (cases b;done)
   cases b;simp only[get]at a;by_cases e:B=t
   ·subst e;simp only[al1,ak1]at a;exact .inl ⟨tab.length,r,by simp,by simp,m,a⟩
   ·simp only[e,alV]at a;exact f (by rw[m];simpa using e) a
 ·rcases jY o with⟨n,l⟩|⟨rfl,rfl⟩
  ·exact h.dst i c t l u
  ·unfold eg at b;rw[u]at b;simp only at b;split at b
   ·assumption
   ·cases b
def fo.push(h:fo P N ops A M τ0 s0 tab S C τ){r:Rc}(l:ops[tab.length]?=some r.o)(j:On P N ops A M S C tab.length r)(b:eg N r.o.dst r.v τ=some τ2)(a:r.env=rst ops r.o τ):
 fo P N ops A M τ0 s0 (tab++[r]) S C τ2 where
 rc i d hi:=by
  rcases jY hi with⟨_,e⟩|⟨rfl,rfl⟩
  ·exact h.rc i d e
  ·exact⟨l,j⟩
 slen:=h.slen
 hd:=h.hd
 ch k c hc:=by
  obtain⟨d,f,g⟩:=h.ch k c hc;exact⟨d,fJ f,g⟩
 res:=h.res
 env:=(wu h b a).1
 fin:=(wu h b a).2.1
 dst:=(wu h b a).2.2
def Vc{σ:Sto}:∀{tab:List Rc}{j0 j:Nat}{r:Rc}{ls:List Nat},tab[j]?=some r->r.kd=.read->C.all (λc=> !Nat.testBit (M.getD c 0) (j0+j))=true->ls∈fj A (M.getD (j0+j) 0)->
 (r,cp ls σ)∈reS A M C σ j0 tab
 |[],_,_,_,_,h,_,_,_=>by simp at h
 |x::tab,j0,0,r,ls,h,d,a,b=>by
  simp at h;subst h;simp only[anx]at a b;simp only[reS,d,a];exact amT _ (alW.2 ⟨ls,b,rfl⟩)
 |x::tab,j0,j+1,r,ls,h,d,a,b=>by
  simp only[aml]at h;have e:j0+(j+1)=(j0+1)+j:=omq;rw[e]at a b;have f:=Vc (σ:=σ) (j0:=j0+1) h d a b;simp only[reS];split
  ·split
   ·exact am5 _ f
   ·exact f
  ·exact f
def fo.pushC(h:fo P N ops A M τ0 s0 tab S C τ){r:Rc}{σ':Sto}(O:ops[tab.length]?=some r.o)(w:r.kd=.chain C.length)
 (n:On P N ops A M (S++[σ']) (C++[tab.length]) tab.length r)
 (z:∀x∈reS A M (C++[tab.length]) σ' 0 tab,AOp P N x.1.o x.1.env x.2 λG R=>G=x.1.v/\R=x.2)
 (p:∀x∈A,match Nat.testBit (M.getD tab.length 0) x.1 with|true=>True|false=>σ'[x.2.1]?=some (.cells x.2.2 0 0))
 (y:eg N r.o.dst r.v τ=some τ2)(u:r.env=rst ops r.o τ):
 fo P N ops A M τ0 s0 (tab++[r]) (S++[σ']) (C++[tab.length]) τ2 where
 rc i s hi:=by
  rcases jY hi with⟨f,g⟩|⟨rfl,rfl⟩
  ·obtain⟨j,b⟩:=h.rc i s g;refine⟨j,?_⟩;unfold On at b⊢;cases a:s.kd with
   |skip=>simp only[a]at b⊢;exact b
   |alloc l T=>simp only[a]at b⊢;exact b
   |read=>
    simp only[a]at b⊢;refine⟨b.1,λk m n E F o=> ?_⟩;rcases jY n with⟨_,e⟩|⟨rfl,rfl⟩
    ·exact b.2 k m e (λq c d=>E q c (fJ d)) F o
    ·refine z (s,cp F m) (Vc g a ?_ (by simpa using o));rw[alv];intro c d;obtain⟨q,e⟩:=amc d;have f:=aj e;have:=(E q c e).1 (by rw[h.slen];simpa using f);rw[alS,this];rfl
   |chain k=>
    simp only[a]at b⊢;obtain⟨H,D,I,m,B,J,K,L⟩:=b;refine⟨H,fJ D,λQ c v d=> ?_,m,B,fJ J,fJ K,L⟩;subst v;have:=aj D;rw[ak8 omq]at d;exact I Q c rfl d
  ·exact⟨O,n⟩
 slen:=by simp[h.slen]
 hd:=fJ h.hd
 ch k c d:=by
  rcases jY d with⟨_,g⟩|⟨rfl,rfl⟩
  ·obtain⟨s,j,b⟩:=h.ch k c g;exact⟨s,fJ j,b⟩
  ·exact⟨r,by simp,w⟩
 res x hx k m n d:=by
  rcases jY n with⟨_,g⟩|⟨rfl,rfl⟩
  ·exact h.res x hx k m g λq c t f=>d q c (fJ t) f
  ·have j:=p x hx;have b:=d C.length tab.length siq (by rw[h.slen];omega);rw[b]at j;exact j
 env:=(wu h y u).1
 fin:=(wu h y u).2.1
 dst:=(wu h y u).2.2
def H3{i l:Nat}{cs:List D}(h:tG A i=some (l,cs)):(i,l,cs)∈A:=by
 unfold tG at h;split at h
 ·rename_i x d;have c:=List.find?_some d;have e:=List.mem_of_find?_eq_some d;simp only[amy]at c;obtain⟨a,b⟩:=x;simp only at c h;cases h;subst c;exact e
 ·cases h
def Oo{K:Env->Sto->Prop}:∀(r:List Oper)(τ:Env)(S:List Sto)(C:List Nat)(tab:List Rc)(pre:List Oper),ops.toList=pre++r->tab.length=pre.length->
 fo P N ops A M τ0 s0 tab S C τ->ADr P N ops A M r tab.length τ S C tab K->
 ∃(a:List Rc)(S':List Sto)(g:List Nat)(τ':Env)(σ':Sto),a.length=ops.size/\fo P N ops A M τ0 s0 a S' g τ'/\S'.getLast?=some σ'/\K τ' σ'/\(∀x∈A,∃r:Rc,a[x.1]?=some r/\r.kd=.alloc x.2.1 x.2.2)
 |[],τ,S,C,tab,pre,hops,hlen,hT,h=>by
  obtain⟨s,σ,B,D⟩:=h;have:ops.size=pre.length:=by have:=alD List.length hops;simpa using this
  exact⟨tab,S,C,τ,σ,omq,hT,B,D,s.mem⟩
 |o::r,τ,S,C,tab,pre,hops,hlen,hT,h=>by
  have ho:ops[tab.length]?=some o:=by rw[<-alK,hops,hlen];simp
  have next:∀(p:Rc)(τ2:Env)(S':List Sto)(g:List Nat),p.o=o->fo P N ops A M τ0 s0 (tab++[p]) S' g τ2->ADr P N ops A M r (tab.length+1) τ2 S' g (tab++[p]) K->
   ∃(a:List Rc)(S':List Sto)(g:List Nat)(τ':Env)(σ':Sto),a.length=ops.size/\fo P N ops A M τ0 s0 a S' g τ'/\S'.getLast?=some σ'/\K τ' σ'/\(∀x∈A,∃r:Rc,a[x.1]?=some r/\r.kd=.alloc x.2.1 x.2.2):=by
   intro p τ2 S' g H q z;exact Oo r τ2 S' g (tab++[p]) (pre++[o]) (by simp[hops]) (by simp[hlen]) q (by simpa using z)
  rcases h with⟨m,τ2,j,h⟩|⟨m,d,τ2,b,j,h⟩|⟨m,i,d,τ2,σ,σ',f,b,w,n,j,h⟩|⟨m,e,l,y,τ2,v,E,F,j,h⟩
  ·exact next ⟨o,rst ops o τ,.tuple [],.skip⟩ τ2 S C rfl (hT.push ho ⟨m,rfl⟩ j rfl) h
  ·refine next ⟨o,rst ops o τ,d,.read⟩ τ2 S C rfl (hT.push ho ⟨m,λk σ hk hwin ls hls=> ?_⟩ j rfl) h
   refine b.mem _ (an1.2 ⟨σ,BZ hk λG c hc u=>(hwin G c hc).2 u,alW.2 ⟨ls,hls,rfl⟩⟩)
  ·refine next ⟨o,rst ops o τ,d,.chain C.length⟩ τ2 (S++[σ']) (C++[tab.length]) rfl (hT.pushC ho rfl ⟨m,by simp,λk1 c hk1 hc=> ?_,σ,σ',?_,?_,λls hls=>b.mem ls hls⟩ w.mem n.mem j rfl) h
   ·have t:C.getLast?=some c:=by
     rw[ak8 omq]at hc;rw[amf,hk1];exact hc
    unfold Fa at i;rw[t]at i;exact i
   ·have:S[C.length]?=some σ:=by
     rw[amf,hT.slen]at f;exact f
    exact fJ this
   ·rw[<-hT.slen];simp
  ·refine next ⟨o,rst ops o τ,.ptr l 0 0,.alloc l y⟩ τ2 S C rfl (hT.push ho ⟨m,H3 E,rfl,e,v,F⟩ j rfl) h
end
end Go.Fw
def amu:=@Bool.not_eq_true'
def aof:=@List.getElem?_replicate
namespace Go.Fw
open Go.RowKit
def mLt:List Nat->Nat->Bool
 |[],_=>true
 |m::r,i=>Nat.blt m (Nat.pow 2 i)&&mLt r (i+1)
def Fb:List Oper->Nat->Bool
 |[],_=>true
 |o::r,i=>(o.after.toList.all λe=> !Region.binds .any e||Nat.blt e.on i)&&Fb r (i+1)
def DD(M:List Nat)(ops:Array Oper)(i:Nat)(o:Oper):Nat->List Oper->Bool
 |_,[]=>true
 |j,p::r=>(match p.dst with
  |none=>true
  |some t=>Nat.beq i j||((!(o.looksAt ops).contains t||Nat.testBit (M.getD i 0) j||Nat.testBit (M.getD j 0) i)&& !(o.dst==some t)))&&DD M ops i o (j+1) r
def DE(M:List Nat)(ops:Array Oper):Nat->List Oper->Bool
 |_,[]=>true
 |i,o::r=>DD M ops i o 0 ops.toList&&DE M ops (i+1) r
def dR(ops:Array Oper)(M:List Nat):Bool:=mLt M 0&&Fb ops.toList 0&&DE M ops 0 ops.toList
def RY:∀{M:List Nat}{i0 i m:Nat},mLt M i0=true->M[i]?=some m->m<2 ^ (i0+i)
 |[],_,_,_,_,h=>by simp at h
 |x::M,i0,0,m,h,a=>by
  simp at a;subst a;simp only[mLt,akY]at h;exact alb h.1
 |x::M,i0,i+1,m,h,a=>by
  simp only[mLt,akY]at h;have:=RY h.2 (by simpa using a);rwa[show i0+(i+1)=i0+1+i by omega]
def Fc:∀{l:List Oper}{i0 i:Nat}{o:Oper},Fb l i0=true->l[i]?=some o->∀e∈o.after,Region.binds .any e=true->e.on<i0+i
 |[],_,_,_,_,h=>by simp at h
 |x::l,i0,0,o,h,b=>by
  simp at b;subst b;simp only[Fb,akY,alv,amI,amu]at h;intro e d c;rcases h.1 e (by simpa using d) with a|a
  ·rw[c]at a;cases a
  ·exact alb a
 |x::l,i0,i+1,o,h,b=>by
  simp only[Fb,akY]at h;have:=Fc h.2 (by simpa using b);intro e d c;have:=this e d c;omega
def B2{M:List Nat}{ops:Array Oper}{i:Nat}{o:Oper}:∀{l:List Oper}{j0 j:Nat}{p:Oper}{t:Nat},DD M ops i o j0 l=true->l[j]?=some p->p.dst=some t->i≠j0+j->
 ((o.looksAt ops).contains t=true->Nat.testBit (M.getD i 0) (j0+j)=true∨Nat.testBit (M.getD (j0+j) 0) i=true)/\o.dst≠some t
 |[],_,_,_,_,_,h,_,_=>by simp at h
 |x::l,j0,0,p,t,h,b,c,hne=>by
  simp at b;subst b;simp only[DD,c,akY,amI,amu]at h;rcases h.1 with a|⟨a,d⟩
  ·exact absurd (amp a) hne
  ·refine⟨λe=> ?_,by simpa using d⟩;rcases a with(a|a)|a
   ·rw[e]at a;cases a
   ·exact .inl a
   ·exact .inr a
 |x::l,j0,j+1,p,t,h,b,c,hne=>by
  simp only[DD,akY]at h;rw[show j0+(j+1)=j0+1+j by omega]at hne⊢;exact B2 h.2 (by simpa using b) c hne
def Fd{M:List Nat}{ops:Array Oper}:∀{l:List Oper}{i0 i:Nat}{o:Oper},DE M ops i0 l=true->l[i]?=some o->DD M ops (i0+i) o 0 ops.toList=true
 |[],_,_,_,_,h=>by simp at h
 |x::l,i0,0,o,h,a=>by
  simp at a;subst a;simp only[DE,akY]at h;exact h.1
 |x::l,i0,i+1,o,h,a=>by
  simp only[DE,akY]at h;rw[show i0+(i+1)=i0+1+i by omega];exact Fd h.2 (by simpa using a)
def gX{L:Array Bool}{y:Nat}:∀{A:Res},y∈dM L A↔∃x∈A,L.getD x.1 false=false/\x.2.1=y
 |[]=>by simp[dM]
 |(j,l,e)::A=>by
  simp only[dM];cases d:L.getD j false<;>simp only[alr,gX (A:=A)]
  ·constructor
   ·rintro(rfl|⟨x,b,a⟩)
    ·exact⟨_,.inl rfl,d,rfl⟩
    ·exact⟨x,.inr b,a⟩
   ·rintro⟨x,rfl|b,a,c⟩
    ·exact .inl c.symm
    ·exact .inr ⟨x,b,a,c⟩
  ·constructor
   ·rintro⟨x,b,a⟩;exact⟨x,.inr b,a⟩
   ·rintro⟨x,rfl|b,a,c⟩
    ·rw[d]at a;cases a
    ·exact⟨x,b,a,c⟩
def DF{σ σ':Sto}(h:∀x:Nat,σ[x]?=σ'[x]?):σ=σ':=amv h
def jI{ls ls':List Nat}{σ:Sto}(h:∀x,x∈ls↔x∈ls'):cp ls σ=cp ls' σ:=
 DF λx=>by simp only[iI,h x]
def RZ{ls ls':List Nat}{σ:Sto}{l:Nat}{ob:aq}(h:∀x,x∈ls'↔(x∈ls/\x≠l))(a:σ[l]?=some ob):(cp ls σ).set l ob=cp ls' σ:=by
 refine DF λx=> ?_;simp only[anh,oT,iI,h x];by_cases e:l=x
 ·subst e;have:=aj a;rw[akZ this]at a;simp[this,alX a]
 ·have b:x≠l:=λh=>e h.symm;simp[e,b]
def Rel.drawn{P:Program}{B:bE P}{G:Gh}{σ:Sto}{w:World}(h:Rel B G σ w):Rel B G σ {w with drawn:=w.drawn+1}:=h.drew
def Rel.dead{P:Program}{B:bE P}{G:Gh}{σ:Sto}{w:World}(h:Rel B G σ w)(n:Nat):Rel B G (σ++List.replicate n .dead) w:=by
 have j:∀(l:Nat)(d:aq),(σ++List.replicate n aq.dead)[l]?=some d->σ[l]?=some d∨(σ.length<=l/\d=.dead):=by
  intro l d g;rcases alf l σ.length with c|c
  ·rw[ak8 c]at g;exact .inl g
  ·rw[ale c,aof]at g;split at g
   ·cases g;exact .inr ⟨c,rfl⟩
   ·cases g
 have m:∀l u b,G.blk l u=some b->¬σ.length<=l:=λl u b e a=>absurd (h.blk l u b e).1 omq;refine⟨h.below,h.imm,h.mimm,h.siz,λl u b e=> ?_,h.inj,λl d b f e=> ?_,λl o k u b f e=> ?_,λl p q b f e=> ?_,λl d f=> ?_,λl d f=> ?_,h.bimm,h.bmimm⟩
 ·obtain⟨r,i⟩:=h.blk l u b e;exact⟨by simp;omega,i⟩
 ·rcases j l d f with c|⟨a,rfl⟩
  ·exact h.obj l d b c e
  ·exact absurd a (m _ _ _ e)
 ·rcases j l _ f with c|⟨a,i⟩
  ·exact h.own l o k u b c e
  ·cases i
 ·rcases j l _ f with c|⟨a,i⟩
  ·exact h.ownm l p q b c e
  ·cases i
 ·rcases j l d f with c|⟨a,rfl⟩
  ·exact h.ver l d c
  ·exact⟨ak7 _,λu b e=>absurd a (m _ _ _ e)⟩
 ·rcases j l d f with c|⟨a,rfl⟩
  ·exact h.frzle l d c
  ·exact ak7 _
def aa8{P:Program}{B:bE P}{G:Gh}{σ:Sto}{w:World}(e:Rel B G σ w){l:Nat}(g:σ[l]?=some .dead){t:TypeId}{cs:List D}(h:mZ P t=some cs):
 ∃m d v,(Instr.alloc t true (.tuple #[])).run P w=.ok v m/\G.Le d/\Rel B d (σ.set l (.cells cs 0 0)) m/\Rep d (.ptr l 0 0) v:=by
 obtain⟨i,v,q,r,s⟩:=lD h;have k:=aj g;have a:=(e.ver l .dead g).2;have p:G.blk l 0=none:=by
  cases f:G.blk l 0 with
  |none=>rfl
  |some b=>exact(e.obj l .dead b g f).elim
 obtain⟨n,o⟩:=e.bindCells (l:=l) (u:=0) (frz:=0) (cs:=cs) (σ':=σ.set l (.cells cs 0 0)) t siq (λy j=>by rw[alI (amO j)])
  (by simp[k]) p ⟨al2 _,λx b f=>a x b f⟩ (al2 _) (c:=v.cells) (hd:=v.cells.toList) (tl:=[]) siq (mY G s)
 refine⟨_,_,.pointer (some ⟨w.heap.size,0,none⟩),?_,n,o,?_⟩
 ·unfold Instr.alloc;simp only[zeroValue,typeInfo,alh,amq,ak9,q,als,r,newVar,newRow,anI];rfl
 ·simp only[Rep];exact⟨w.heap.size,by simp[Gh.bind],rfl⟩
end Go.Fw
def alE:=@Array.getElem?_eq_some_iff
def amE:=@Go.getD_set_ne
def amQ:=@Go.mem_ready
def anf:=@Nat.pow_le_pow_right
namespace Go.Fw
open Go.RowKit
section
variable {fl:Nat}{P:Program}{N:Nat}{ops:Array Oper}{A:Res}{M:List Nat}{τ0:Env}{s0:Sto}{tab:List Rc}{S:List Sto}{C:List Nat}{τ:Env}
structure Inv(fl:Nat)(ops:Array Oper)(A:Res)(τ0:Env)(tab:List Rc)(S:List Sto)(C:List Nat)(N:Nat)(B:bE P)(G0:Gh)(L:Array Bool)(a:Act)(w:World):Prop where
 size:L.size=ops.size
 down:tF ops L
 st:∃G k σ,G0.LeB fl G/\S[k]?=some σ/\(∀(k' c:Nat),C[k']?=some c->(L.getD c false=true↔k'<k))/\Rel B G (cp (dM L A) σ) w/\
  a.tmps.size=N/\a.defers=[]/\
  (∀(i:Nat)(r:Rc)(t:Nat),tab[i]?=some r->L.getD i false=true->r.o.dst=some t->Rep G r.v (a.tmps.getD t undef))/\
  (∀t d,get τ0 t=some d->(∀(i:Nat)(r:Rc),tab[i]?=some r->L.getD i false=true->r.o.dst≠some t)->Rep G d (a.tmps.getD t undef))
def cR{L:Array Bool}{i j:Nat}(b:i<L.size):(L.setIfInBounds i true).getD j false=true↔(j=i∨L.getD j false=true):=by
 by_cases e:i=j
 ·subst e;simp[b]
 ·have a:¬j=i:=λh=>e h.symm;rw[amE false e];simp[a]
def cA{L:Array Bool}{i:Nat}(h:L.getD i true=false):i<L.size/\L.getD i false=false:=by
 rcases alf i L.size with a|a
 ·refine⟨a,?_⟩;simp[ak6,a]at h⊢;exact h
 ·simp[ak6,anp a]at h
def R0{a:Act}{dst:Option Tmp}{v:Value}{t:Nat}(b:t<a.tmps.size):(a.put dst v).tmps.getD t undef=if dst=some t then v else a.tmps.getD t undef:=by
 cases dst with
 |none=>simp[Act.put]
 |some d=>
  by_cases e:d=t
  ·subst e;simp[Act.put,ak6,b]
  ·have:¬(some d=some t):=λh=>e (alX h);simp[Act.put,ak6,am4 e,e]
def H4{a:Act}{dst:Option Tmp}{v:Value}{t:Nat}(h:dst≠some t):(a.put dst v).tmps.getD t undef=a.tmps.getD t undef:=by
 cases dst with
 |none=>rfl
 |some d=>
  have:d≠t:=λe=>h (by rw[e]);simp[Act.put,ak6,am4 this]
variable{Z:Gh}
def Inv.next(y:fo P N ops A M τ0 s0 tab S C τ)(Q:dR ops M=true){B:bE P}{L:Array Bool}{a:Act}{w:World}(E:Inv fl ops A τ0 tab S C N B Z L a w)
 {i:Nat}{r:Rc}(u:tab[i]?=some r)(hi:L.getD i true=false)(n:∀e∈r.o.after,Region.binds .any e=true->L.getD e.on false=true)
 {G':Gh}{R:Nat}{σ':Sto}{v:Value}{W:World}
 (K:∃G,Z.LeB fl G/\G.Le G'/\
   (∀(i:Nat)(r:Rc)(t:Nat),tab[i]?=some r->L.getD i false=true->r.o.dst=some t->Rep G r.v (a.tmps.getD t undef))/\
   (∀t d,get τ0 t=some d->(∀(i:Nat)(r:Rc),tab[i]?=some r->L.getD i false=true->r.o.dst≠some t)->Rep G d (a.tmps.getD t undef)))
 (J:S[R]?=some σ')(Y:∀(V c:Nat),C[V]?=some c->((L.setIfInBounds i true).getD c false=true↔V<R))
 (hR:Rel B G' (cp (dM (L.setIfInBounds i true) A) σ') W)(hv:Rep G' r.v v):Inv fl ops A τ0 tab S C N B Z (L.setIfInBounds i true) (a.put r.o.dst v) W:=by
 obtain⟨b,e9⟩:=cA hi;obtain⟨G,X,g,o,s⟩:=K;obtain⟨_,_,_,_,_,_,_,x,I,_,_⟩:=E.st;refine⟨by simpa using E.size,λj oj f k e U T=> ?_,G',R,σ',X.trans g.b,J,Y,hR,?_,?_,λj D t m k z=> ?_,λt d H p=> ?_⟩
 ·have q:L.getD e.on false=true:=by
   rcases (cR b).1 k with rfl|k
   ·have:=(y.rc j r u).1;rw[f]at this;cases this;exact n e U T
   ·exact E.down j oj f k e U T
  exact getD_set_true q
 ·cases H:r.o.dst<;>simp[Act.put,x]
 ·cases H:r.o.dst<;>simp[Act.put,I]
 ·by_cases e:j=i
  ·subst e;rw[u]at m;cases m;rw[R0 (by rw[x];exact y.dst _ _ _ u z),ali z];exact hv
  ·have F:L.getD j false=true:=by
    rcases (cR b).1 k with h|h
    ·exact absurd h e
    ·exact h
   have l:r.o.dst≠some t:=by
    unfold dR at Q;simp only[akY]at Q;have f:=(y.rc j D m).1;have O:=(y.rc i r u).1;have:=Fd Q.2 (by rw[alK];exact O);exact(B2 (j:=j) this (by rw[alK];exact f) z omq).2
   rw[H4 l];exact Rep.mono g _ _ (o j D t m F z)
 ·have l:r.o.dst≠some t:=p i r u ((cR b).2 (.inl rfl));rw[H4 l];exact Rep.mono g _ _ (s t d H λj D m k=>p j D m ((cR b).2 (.inr k)))
def Inv.trel(y:fo P N ops A M τ0 s0 tab S C τ)(W:bj ops.toList []=M)(J:dR ops M=true){B:bE P}{G0 G:Gh}{L:Array Bool}{a:Act}{w:World}(R:Inv fl ops A τ0 tab S C N B G0 L a w)
 (p:∀(i:Nat)(r:Rc)(t:Nat),tab[i]?=some r->L.getD i false=true->r.o.dst=some t->Rep G r.v (a.tmps.getD t undef))
 (q:∀t d,get τ0 t=some d->(∀(i:Nat)(r:Rc),tab[i]?=some r->L.getD i false=true->r.o.dst≠some t)->Rep G d (a.tmps.getD t undef))
 {i:Nat}{r:Rc}(V:tab[i]?=some r)(hi:L.getD i true=false)(hn:oS L (M.getD i 0)):de G N r.env a:=by
 obtain⟨_,_,_,_,_,_,_,O,E,_,_⟩:=R.st;obtain⟨U,o⟩:=cA hi;unfold dR at J;simp only[akY]at J;obtain⟨⟨s,e9⟩,K⟩:=J;refine⟨O,E,λt d Z=> ?_⟩;obtain⟨u,D⟩:=y.env i r V t d Z;have I:=(y.rc i r V).1;have b:=Fd K (by rw[alK];exact I);rw[alS]at b;rcases D with⟨j,v,hj,k,c,rfl⟩|⟨H,F⟩
 ·have g:=(y.rc j v k).1;have:=(B2 (j:=j) b (by rw[alK];exact g) c omq).1 u;rw[alS]at this;rcases this with h|h
  ·exact p j v t k (hn j h) c
  ·exfalso;cases f:M[j]? with
   |none=>rw[alk,f]at h;simp at h
   |some m=>
    have l:=RY s f;rw[alk,f]at h;have:=Nat.testBit_lt_two_pow (i:=i) (x:=m) (alO l (anf omq omq));simp[this]at h
 ·refine q t d F λj v k z c=> ?_;have g:=(y.rc j v k).1;by_cases e:i=j
  ·subst e;rw[o]at z;cases z
  ·have:=(B2 (j:=j) b (by rw[alK];exact g) c omq).1 u;rw[alS]at this;rcases this with h|h
   ·refine H j v ?_ k c;cases f:M[i]? with
    |none=>rw[alk,f]at h;simp at h
    |some m=>
     have l:=RY s f;rw[alk,f]at h;rcases alf j i with Q|Q
     ·exact Q
     ·have:=Nat.testBit_lt_two_pow (i:=j) (x:=m) (alO l (anf omq omq));simp[this]at h
   ·have T:=R.down;have n:=rR (ops:=ops) (L:=L) T ops.toList [] [] siq rfl (λj m oj h=>by simp at h);rw[W]at n;cases f:M[j]? with
    |none=>rw[alk,f]at h;simp at h
    |some m=>
     rw[alk,f]at h;have:=n j m _ f g (λe Y X=>T j _ g z e Y X) i h;rw[o]at this;cases this
def H5{o:Oper}{e:TypeId}{cs:List D}{σ:Sto}{l:Nat}{τ:Env}(f:o.op=.alloc e)(t:mZ P e=some cs)(q:σ[l]?=some .dead):
 AOp P N o τ σ λd s=>d=.ptr l 0 0/\s=σ.set l (.cells cs 0 0):=by
 intro B G w a p x next Q r
 obtain⟨g,h,v,j,k,m,n⟩:=aa8 p q t;have b:(execOp a.eval o).run P w=.ok (.value v) g:=by
  obtain⟨i,y,z,u,c,guard⟩:=o;simp only at f;subst f;unfold execOp;simp[j]
 unfold Oper.wp;rw[b];exact r v g h _ _ k m n ⟨rfl,rfl⟩
def nU{L:Array Bool}{i:Nat}(b:∀x∈A,x.1≠i)(y:Nat):y∈dM (L.setIfInBounds i true) A↔y∈dM L A:=by
 simp only[gX];constructor
 ·rintro⟨x,a,c,d⟩;refine⟨x,a,?_,d⟩;rw[amE false (amO (b x a))]at c;exact c
 ·rintro⟨x,a,c,d⟩;refine⟨x,a,?_,d⟩;rw[amE false (amO (b x a))];exact c
def MP(O:fo P N ops A M τ0 s0 tab S C τ)(hM:bj ops.toList []=M)(hp:dR ops M=true)(n5:tab.length=ops.size)
 (m7:∀x∈A,∃r:Rc,tab[x.1]?=some r/\r.kd=.alloc x.2.1 x.2.2)(m8:∀x∈A,∀y∈A,x.2.1=y.2.1->x.1=y.1)
 {B:bE P}{L:Array Bool}{a:Act}{w:World}(Y:Inv fl ops A τ0 tab S C N B Z L a w){i:Nat}(hi:i∈Region.ready .any ops L){Q:Exit->Act->World->Prop}
 {K:Act->World->Prop}(hK:∀a' w',Inv fl ops A τ0 tab S C N B Z (L.setIfInBounds i true) a' w'->K a' w'):wpOp P ops Q i K a w:=by
 obtain⟨H,o,ho,p⟩:=amQ.1 hi;obtain⟨e9,j9⟩:=cA H;have p8:i<tab.length:=by rw[n5];exact(alE.1 ho).1
 obtain⟨r,R⟩:∃r,tab[i]?=some r:=⟨_,akZ p8⟩;obtain⟨n7,f⟩:=O.rc i r R;rw[ho]at n7;cases n7;have j6:=rR (ops:=ops) (L:=L) Y.down ops.toList [] [] siq rfl (λj m oj h=>by simp at h);rw[hM]at j6;have hn:oS L (M.getD i 0):=by
  intro j hj;cases hm:M[i]? with
  |none=>rw[alk,hm]at hj;simp at hj
  |some m=>
   rw[alk,hm]at hj;exact j6 i m _ hm ho p j hj
 obtain⟨G,k,σ,h0,hS,hC,hR,t8,t7,q,s⟩:=Y.st;have V:=Y.trel O hM hp q s R H hn;have j4:Win M C i k:=by
  intro k' c u;constructor
  ·intro T;have hL:=(hC k' c u).2 T;cases hb:Nat.testBit (M.getD c 0) i with
   |false=>rfl
   |true=>
    obtain⟨rc,D,_⟩:=O.ch k' c u;have n6:=(O.rc c rc D).1;cases hm:M[c]? with
    |none=>rw[alk,hm]at hb;simp at hb
    |some m=>
     rw[alk,hm]at hb;have:=j6 c m _ hm n6 (λe he o9=>Y.down c _ n6 hL e he o9) i hb;rw[j9]at this;cases this
  ·intro F;cases hb:Nat.testBit (M.getD i 0) c with
   |false=>rfl
   |true=>
    have:=(hC k' c u).1 (hn c hb);omega
 have W:∀{b:Bool},bw ops r.env r.o=some b->Region.wanted r.o (yielded ops a.tmps)=b:=λh=>wU V h;have n:(∀k,r.kd≠.chain k)->∀(t c:Nat),C[t]?=some c->((L.setIfInBounds i true).getD c false=true↔t<k):=by
  intro k8 t c u;have:c≠i:=by
   rintro rfl;obtain⟨rc,D,E⟩:=O.ch t c u;rw[R]at D;cases D;exact k8 _ E
  rw[amE false (amO this)];exact hC t c u
 have g:(∀l cs,r.kd≠.alloc l cs)->∀x∈A,x.1≠i:=by
  rintro k8 x hx rfl;obtain⟨r',n8,E⟩:=m7 x hx;rw[R]at n8;cases n8;exact k8 _ _ E
 have j3:=E9 hn A;unfold On at f;unfold wpOp;rw[ho];simp only;cases I:r.kd with
 |skip=>
  simp only[I]at f;rw[alJ (by rw[W f.1];simp)];refine hK _ _ (Y.next O hp R H p ⟨G,h0,.refl G,q,s⟩ hS (n (by rw[I];simp)) ?_ ?_)
  ·rw[jI (nU (g (by rw[I];simp)))];exact hR
  ·rw[f.2];simp only[Rep,undef];exact⟨#[],rfl,by simp[af]⟩
 |read=>
  simp only[I]at f;rw[ali (W f.1)];refine .inl (f.2 k σ hS j4 _ j3 B G w a hR V _ _ ?_);rintro v w' G' d s' F J hd ⟨rfl,rfl⟩;refine hK _ _ (Y.next O hp R H p ⟨G,h0,F,q,s⟩ hS (n (by rw[I];simp)) ?_ hd);rw[jI (nU (g (by rw[I];simp)))];exact J
 |chain k0=>
  simp only[I]at f;obtain⟨hw,j7,m5,u0,u7,o7,r9,k9⟩:=f;rw[ali (W hw)];have p9:k0=k:=by
   have h1:¬k0<k:=λh=>by
    have:=(hC k0 i j7).2 h;rw[j9]at this;cases this
   rcases alf k k0 with X|X
   ·exfalso;obtain⟨t,rfl⟩:∃t,k0=t+1:=⟨k0-1,omq⟩;have T:=aj j7;obtain⟨c,u⟩:∃c,C[t]?=some c:=⟨C[t],akZ omq⟩;have:=(hC t c u).1 (hn c (m5 t c rfl u));omega
   ·omega
  subst p9;rw[hS]at o7;cases o7;refine .inl (k9 _ j3 B G w a hR V _ _ ?_);rintro v w' G' d s' F J hd ⟨rfl,rfl⟩;refine hK _ _ (Y.next O hp R H p ⟨G,h0,F,q,s⟩ r9 ?_ ?_ hd)
  ·intro t c u;rw[cR e9,hC t c u];constructor
   ·rintro(rfl|h)
    ·obtain⟨rc,D,E⟩:=O.ch t c u;rw[R]at D;cases D;rw[I]at E;cases E;omega
    ·omega
   ·intro h;rcases alf t k0 with h'|h'
    ·exact .inr h'
    ·have:t=k0:=omq;subst this;rw[j7]at u;cases u;exact .inl rfl
  ·rw[jI (nU (g (by rw[I];simp)))];exact J
 |alloc l cs=>
  simp only[I]at f;obtain⟨hw,o8,hv,e,k9,hz⟩:=f;rw[ali (W hw)];obtain⟨x,hx,rfl,m6⟩:∃x∈A,x.1=i/\x.2=(l,cs):=⟨_,o8,rfl,rfl⟩;have j5:σ[l]?=some (.cells cs 0 0):=by
   have:=O.res x hx k σ hS λk' c u T=>(j4 k' c u).1 T;rw[m6]at this;exact this
  have p7:l∈dM L A:=gX.2 ⟨x,hx,j9,by rw[m6]⟩;have j8:(cp (dM L A) σ)[l]?=some .dead:=by
   rw[iI,ali ⟨p7,aj j5⟩]
  refine .inl (H5 (N:=N) (τ:=r.env) k9 hz j8 B G w a hR V _ _ ?_);rintro v w' G' d s' F J hd ⟨rfl,rfl⟩;refine hK _ _ (Y.next O hp R H p ⟨G,h0,F,q,s⟩ hS (n (by rw[I];simp)) ?_ (by rw[hv];exact hd));rw[<-RZ (ls:=dM L A) (l:=l) ?_ j5]
  ·exact J
  ·intro y;simp only[gX];constructor
   ·rintro⟨z,h1,X,h3⟩;have U:z.1≠x.1:=by
     intro e';rw[e',(cR e9).2 (.inl rfl)]at X;cases X
    rw[amE false (amO U)]at X;refine⟨⟨z,h1,X,h3⟩,?_⟩;rintro rfl;exact U (m8 z h1 x hx (by rw[h3,m6]))
   ·rintro⟨⟨z,h1,X,h3⟩,U⟩;refine⟨z,h1,?_,h3⟩;have:z.1≠x.1:=by
     intro e';obtain⟨rz,n9,m9⟩:=m7 z h1;rw[e',R]at n9;cases n9;rw[I]at m9;cases m9;exact U h3.symm
    rw[amE false (amO this)];exact X
end
end Go.Fw
def alZ:=@List.getElem_mem
def ang:=@List.getElem?_range'
def ant:=@List.not_mem_nil
def an8:=@Nat.not_lt_zero
namespace Go.Fw
open Go.RowKit
section
variable {fl:Nat}{P:Program}{N:Nat}{ops:Array Oper}{A:Res}{M:List Nat}{τ0:Env}{s0:Sto}{tab:List Rc}{S:List Sto}{C:List Nat}{τ:Env}
def oE{l:List Bool}{i:Nat}(h:l[i]?=some false):(l.set i true).count false+1=l.count false:=by
 have a:=aj h;rw[akZ a]at h;have h:=alX h;have b:0<l.count false:=List.count_pos_iff.2 (by rw[<-h];exact alZ _);rw[List.count_set a];simp[h];omega
def rS{l:List Bool}(h:l.count false=0)(i:Nat)(b:i<l.length):l[i]?=some true:=by
 rw[akZ b];have:=List.count_eq_zero.1 h;cases a:l[i] with
 |true=>rfl
 |false=>exact absurd (by rw[<-a];exact alZ _) this
def zq(a:dR ops M=true){L:Array Bool}(p:L.size=ops.size):∀(n i:Nat),i<=n->L.getD i true=false->∃j,j∈Region.ready .any ops L:=by
 intro n;induction n with
 |zero=>
  intro i l b;have:i=0:=omq;subst this;obtain⟨g,_⟩:=cA b;refine⟨0,amQ.2 ⟨b,ops[0]'(by omega),alo omq,λe d c=> ?_⟩⟩;unfold dR at a;simp only[akY]at a;have:=Fc a.1.2 (i:=0) (o:=ops[0]'(by omega)) (by rw[alK];exact alo omq) e d c;omega
 |succ n m=>
  intro i l b;obtain⟨g,_⟩:=cA b;by_cases k:∃e∈(ops[i]'(by omega)).after,Region.binds .any e=true/\L.getD e.on false=false
  ·obtain⟨e,d,c,f⟩:=k;unfold dR at a;simp only[akY]at a;have h:=Fc a.1.2 (i:=i) (o:=ops[i]'(by omega)) (by rw[alK];exact alo omq) e d c;refine m e.on omq ?_;have:e.on<L.size:=omq;simp[ak6,this]at f⊢;exact f
  ·refine⟨i,amQ.2 ⟨b,ops[i]'(by omega),alo omq,λe d c=> ?_⟩⟩;cases f:L.getD e.on false with
   |true=>rfl
   |false=>exact absurd ⟨e,d,c,f⟩ k
def R3(v:fo P N ops A M τ0 s0 tab S C τ)(hM:bj ops.toList []=M)(hp:dR ops M=true)(g:tab.length=ops.size)
 (z:∀x∈A,∃r:Rc,tab[x.1]?=some r/\r.kd=.alloc x.2.1 x.2.2)(E:∀x∈A,∀y∈A,x.2.1=y.2.1->x.1=y.1)
 {B:bE P}{G0:Gh}{Q:AEx->Env->Sto->Prop}{σ:Sto}(h:S.getLast?=some σ)(hQ:Q .normal τ σ):
 ∀(e:Nat)(L:Array Bool)(a:Act)(w:World),L.toList.count false<=e->Inv fl ops A τ0 tab S C N B G0 L a w->wpAny P .any ops (jH fl B G0 N Q) e L a w:=by
 have u:∀(L:Array Bool)(a:Act)(w:World),Inv fl ops A τ0 tab S C N B G0 L a w->Region.ready .any ops L=[]->jH fl B G0 N Q .normal a w:=by
  intro L a w l s;have O:∀i,i<L.size->L.getD i false=true:=by
   intro i q;cases hb:L.getD i false with
   |true=>rfl
   |false=>
    have:L.getD i true=false:=by
     simp[ak6,q]at hb⊢;exact hb
    obtain⟨j,I⟩:=zq hp l.size i i (ak7 _) this;rw[s]at I;cases I
  obtain⟨G,k,n,h0,hS,hC,hR,Y,R,F,H⟩:=l.st;have hk:k=C.length:=by
   have J:k<S.length:=aj hS;rw[v.slen]at J;rcases alf k C.length with h2|h2
   ·exfalso;obtain⟨c,D⟩:∃c,C[k]?=some c:=⟨C[k],akZ h2⟩;obtain⟨rc,X,_⟩:=v.ch k c D;have b:=aj X;have:=(hC k c D).1 (O c (by rw[l.size,<-g];exact b));omega
   ·omega
  have Z:n=σ:=by
   rw[amf,v.slen]at h;subst hk;have f:S[C.length]?=some σ:=h;rw[hS]at f;exact alX f
  subst Z;have hh:cp (dM L A) n=n:=by
   rw[jI (ls':=[]) ?_]
   ·rfl
   ·intro x;simp only[gX,ant,iff_false];rintro⟨y,hy,o,_⟩;obtain⟨r,W,_⟩:=z y hy;have b:=aj W;rw[O y.1 (by rw[l.size,<-g];exact b)]at o;cases o
  rw[hh]at hR;refine⟨G,τ,n,h0,hR,⟨Y,R,λt d hg=> ?_⟩,hQ⟩;rcases v.fin t d hg with⟨j,rj,I,m,T,rfl⟩|⟨V,U⟩
  ·exact F j rj t m (O j (by rw[l.size,<-g];exact I)) T
  ·exact H t d U λj rj m _=>V j rj (aj m) m
 intro e;induction e with
 |zero=>
  intro L a w D l;have s:Region.ready .any ops L=[]:=by
   rw[ami];intro i q;obtain⟨p,_⟩:=amQ.1 q;obtain⟨b,o⟩:=cA p;have:=rS (Nat.le_zero.1 D) i (by simpa using b);simp[ak6,b]at o;simp[b,o]at this
  exact⟨s,u L a w l s⟩
 |succ e ih=>
  intro L a w D l;refine⟨λs=>u L a w l s,λi q=> ?_⟩;refine MP v hM hp g z E l q λa' w' K=>ih _ a' w' ?_ K;obtain⟨p,_⟩:=amQ.1 q;obtain⟨b,o⟩:=cA p;have J:L.toList[i]?=some false:=by
   simp[ak6,b]at o;simp[b,o]
  have:=oE J;rw[amY];omega
end
def PT{fl:Nat}{P:Program}{N:Nat}{τ:Env}{σ:Sto}{id:Nat}{ops:Array Oper}{Q:AEx->Env->Sto->Prop}(hm:P.follows .mixedOrders=true)(A:Res){M:List Nat}
 (Z:bj ops.toList []=M)(hp:dR ops M=true)(V:A.map (·.2.1)=List.range' σ.length A.length)
 (h:ADr P N ops A M ops.toList 0 τ [σ++A.map λx=>aq.cells x.2.2 0 0] [] [] (λJ I=>Q .normal J I)):AWp fl P N (.region id ops true) τ σ Q:=by
 intro B G w a hR K;have b:∀x∈A,(σ++A.map λx=>aq.cells x.2.2 0 0)[x.2.1]?=some (.cells x.2.2 0 0)/\∃n,A[n]?=some x/\x.2.1=σ.length+n:=by
  intro x o;obtain⟨n,p⟩:=amc o;have q:(A.map (·.2.1))[n]?=some x.2.1:=by simp[p]
  rw[V]at q;have g:=aj p;rw[ang g]at q;simp at q;refine⟨?_,n,p,q.symm⟩;rw[<-q,ale omq];simp[p]
 have E:∀x∈A,∀y∈A,x.2.1=y.2.1->x.1=y.1:=by
  intro x o y T e;obtain⟨_,n,p,q⟩:=b x o;obtain⟨_,m,H,X⟩:=b y T;have:n=m:=omq;subst this;rw[p]at H;cases H;rfl
 obtain⟨W,S',C',J,I,F,u,v,Y,L⟩:=Oo (τ0:=τ) (s0:=σ++A.map λx=>aq.cells x.2.2 0 0) ops.toList τ _ [] [] [] siq rfl ⟨λi r h=>by simp at h,rfl,rfl,λk c h=>by simp at h,
  λx o k s R _=>by
   have:s=σ++A.map λx=>aq.cells x.2.2 0 0:=by
    cases k with
    |zero=>simp at R;exact R.symm
    |succ k=>simp at R
   subst this;exact(b x o).1,λi r h=>by simp at h,λt d O=>.inr ⟨λj rj hj _=>absurd hj (an8 _),O⟩,λi r t h=>by simp at h⟩ h
 refine wp_region_any hm (R3 u Z hp F L E v Y ops.size _ a _ siq ⟨by simp,λj oj e9 z=> ?_,?_⟩)
 ·exfalso;rcases alf j ops.size with f|f
  ·simp[ak6,f]at z
  ·simp[ak6,f]at z
 ·have l:∀j,(Array.replicate ops.size false).getD j false=false:=by
   intro j;rcases alf j ops.size with f|f
   ·simp[ak6,f]
   ·simp[ak6,f]
  refine⟨G,0,_,.refl G,u.hd,λk' c hc=> ?_,?_,K.size,K.defers,λi r t _ z _=> ?_,λt d O _=>K.slot t d O⟩
  ·rw[l c];simp
  ·have:cp (dM (Array.replicate ops.size false) A) (σ++A.map λx=>aq.cells x.2.2 0 0)=σ++List.replicate A.length .dead:=by
    refine DF λx=> ?_;rw[iI];have D:x∈dM (Array.replicate ops.size false) A↔(σ.length<=x/\x<σ.length+A.length):=by
     rw[gX];constructor
     ·rintro⟨y,T,_,rfl⟩;obtain⟨_,n,p,q⟩:=b y T;have:=aj p;omega
     ·rintro⟨q,X⟩;have g:x-σ.length<A.length:=omq;refine⟨A[x-σ.length],alZ _,l _,?_⟩;obtain⟨_,n,p,h3⟩:=b _ (alZ g);have U:(A.map (·.2.1))[x-σ.length]?=some (A[x-σ.length]).2.1:=by simp[g]
      rw[V,ang g]at U;simp at U;omega
    by_cases o:σ.length<=x/\x<σ.length+A.length
    ·rw[ali ⟨D.2 o,by simp;exact o.2⟩,ale o.1,aof,ali omq]
    ·rw[alJ (λh=>o (D.1 h.1))];rcases alf x σ.length with f|f
     ·rw[ak8 f,ak8 f]
     ·rw[alg soq,alg soq]
   rw[this];exact(hR.dead _).drawn
  ·rw[l i]at z;cases z
end Go.Fw
namespace Go.Fw
open Go.RowKit
def bq{a b:Nat}(h:Nat.beq a b=true):a=b:=amp h
mutual
def D.beq:D->D->Bool
 |.bool a,e=>match e with|.bool b=>a==b|_=>false
 |.int k a,e=>match e with|.int l b=>decide (k=l)&&decide (a=b)|_=>false
 |.str a,e=>match e with|.str b=>decide (a=b)|_=>false
 |.nilp,e=>match e with|.nilp=>true|_=>false
 |.ptr l u o,e=>match e with|.ptr l' u' o'=>Nat.beq l l'&&Nat.beq u u'&&Nat.beq o o'|_=>false
 |.rptr cs o,e=>match e with|.rptr cs' o'=>Nat.beq o o'&&D.beqs cs cs'|_=>false
 |.list cs n f,e=>match e with|.list cs' n' f'=>Nat.beq n n'&&f==f'&&D.beqs cs cs'|_=>false
 |.sl l u o n z f,e=>match e with|.sl l' u' o' n' z' f'=>Nat.beq l l'&&Nat.beq u u'&&Nat.beq o o'&&Nat.beq n n'&&Nat.beq z z'&&f==f'|_=>false
 |.map l,e=>match e with|.map l'=>Nat.beq l l'|_=>false
 |.nilmap,e=>match e with|.nilmap=>true|_=>false
 |.cmap ks vs,e=>match e with|.cmap ks' vs'=>D.beqs ks ks'&&D.beqs vs vs'|_=>false
 |.pmap ks vs,e=>match e with|.pmap ks' vs'=>D.beqs ks ks'&&D.beqs vs vs'|_=>false
 |.func fn a b,e=>match e with|.func fn' a' b'=>decide (fn=fn')&&D.beqs a a'&&D.beqs b b'|_=>false
 |.nilf,e=>match e with|.nilf=>true|_=>false
 |.iface t v,e=>match e with|.iface t' v'=>Nat.beq t t'&&D.beq v v'|_=>false
 |.nili,e=>match e with|.nili=>true|_=>false
 |.anyi,e=>match e with|.anyi=>true|_=>false
 |.agg cs,e=>match e with|.agg cs'=>D.beqs cs cs'|_=>false
 |.tuple cs,e=>match e with|.tuple cs'=>D.beqs cs cs'|_=>false
 |.junk,e=>match e with|.junk=>true|_=>false
def D.beqs:List D->List D->Bool
 |[],l=>match l with|[]=>true|_=>false
 |x::r,l=>match l with|y::s=>D.beq x y&&D.beqs r s|[]=>false
end
mutual
def D.beq_eq:∀(a b:D),D.beq a b=true->a=b
 |.bool a,e,h=>by cases e<;>simp only[D.beq]at h<;>first|(cases h;done)|simp_all
 |.int k a,e,h=>by cases e<;>simp only[D.beq]at h<;>first|(cases h;done)|simp_all
 |.str a,e,h=>by cases e<;>simp only[D.beq]at h<;>first|(cases h;done)|simp_all
 |.nilp,e,h=>by cases e<;>simp only[D.beq]at h<;>first|(cases h;done)|rfl
 |.ptr l u o,e,h=>by cases e<;>simp only[D.beq]at h<;>first|(cases h;done)|simp_all
 |.rptr cs o,e,h=>by
  cases e<;>simp only[D.beq]at h<;>first|(cases h;done)|skip
  simp only[akY]at h;rw[bq h.1,D.beqs_eq _ _ h.2]
 |.list cs n f,e,h=>by
  cases e<;>simp only[D.beq]at h<;>first|(cases h;done)|skip
  simp only[akY,amy]at h;rw[bq h.1.1,h.1.2,D.beqs_eq _ _ h.2]
 |.sl l u o n z f,e,h=>by cases e<;>simp only[D.beq]at h<;>first|(cases h;done)|simp_all
 |.map l,e,h=>by cases e<;>simp only[D.beq]at h<;>first|(cases h;done)|simp_all
 |.nilmap,e,h=>by cases e<;>simp only[D.beq]at h<;>first|(cases h;done)|rfl
 |.cmap ks vs,e,h=>by
  cases e<;>simp only[D.beq]at h<;>first|(cases h;done)|skip
  simp only[akY]at h;rw[D.beqs_eq _ _ h.1,D.beqs_eq _ _ h.2]
 |.pmap ks vs,e,h=>by
  cases e<;>simp only[D.beq]at h<;>first|(cases h;done)|skip
  simp only[akY]at h;rw[D.beqs_eq _ _ h.1,D.beqs_eq _ _ h.2]
 |.func fn a b,e,h=>by
  cases e<;>simp only[D.beq]at h<;>first|(cases h;done)|skip
  simp only[akY,alL]at h;rw[h.1.1,D.beqs_eq _ _ h.1.2,D.beqs_eq _ _ h.2]
 |.nilf,e,h=>by cases e<;>simp only[D.beq]at h<;>first|(cases h;done)|rfl
 |.iface t v,e,h=>by
  cases e<;>simp only[D.beq]at h<;>first|(cases h;done)|skip
  simp only[akY]at h;rw[bq h.1,D.beq_eq _ _ h.2]
 |.nili,e,h=>by cases e<;>simp only[D.beq]at h<;>first|(cases h;done)|rfl
 |.anyi,e,h=>by cases e<;>simp only[D.beq]at h<;>first|(cases h;done)|rfl
 |.agg cs,e,h=>by
  cases e<;>simp only[D.beq]at h<;>first|(cases h;done)|skip
  rw[D.beqs_eq _ _ h]
 |.tuple cs,e,h=>by
  cases e<;>simp only[D.beq]at h<;>first|(cases h;done)|skip
  rw[D.beqs_eq _ _ h]
 |.junk,e,h=>by cases e<;>simp only[D.beq]at h<;>first|(cases h;done)|rfl
def D.beqs_eq:∀(a b:List D),D.beqs a b=true->a=b
 |[],e,h=>by cases e<;>simp only[D.beqs]at h<;>first|(cases h;done)|rfl
 |x::r,e,h=>by
  cases e<;>simp only[D.beqs]at h<;>first|(cases h;done)|skip
  simp only[akY]at h;rw[D.beq_eq _ _ h.1,D.beqs_eq _ _ h.2]
end
def aq.beq:aq->aq->Bool
 |.cells d f v,e=>match e with|.cells cs' f' v'=>Nat.beq f f'&&Nat.beq v v'&&D.beqs d cs'|_=>false
 |.map g h,e=>match e with|.map ks' vs'=>D.beqs g ks'&&D.beqs h vs'|_=>false
 |.siter s p,e=>match e with|.siter s' p'=>decide (s=s')&&Nat.beq p p'|_=>false
 |.miter a b r c,e=>match e with|.miter a' b' r' c'=>D.beqs a a'&&D.beqs b b'&&decide (r=r')&&decide (c=c')|_=>false
 |.dead,e=>match e with|.dead=>true|_=>false
 |.gone,e=>match e with|.gone=>true|_=>false
def aq.beq_eq(a b:aq)(h:a.beq b=true):a=b:=by
 cases a<;>cases b<;>simp only[aq.beq]at h<;>first|(cases h;done)|skip
 ·simp only[akY]at h;rw[bq h.1.1,bq h.1.2,D.beqs_eq _ _ h.2]
 ·simp only[akY]at h;rw[D.beqs_eq _ _ h.1,D.beqs_eq _ _ h.2]
 ·simp_all
 ·simp only[akY,alL]at h;rw[D.beqs_eq _ _ h.1.1.1,D.beqs_eq _ _ h.1.1.2,h.1.2,h.2]
 ·rfl
 ·rfl
def Ez:Sto->Sto->Bool
 |[],l=>match l with|[]=>true|_=>false
 |x::r,l=>match l with|y::s=>x.beq y&&Ez r s|[]=>false
def Qe:∀(a b:Sto),Ez a b=true->a=b
 |[],e,h=>by cases e<;>simp only[Ez]at h<;>first|(cases h;done)|rfl
 |x::r,e,h=>by
  cases e<;>simp only[Ez]at h<;>first|(cases h;done)|skip
  simp only[akY]at h;rw[aq.beq_eq _ _ h.1,Qe _ _ h.2]
abbrev rL:=FuncId->List D->Sto->Option (D×Sto)
def ti(P:Program)(call:rL):Prop:=∀f b σ d a,call f b σ=some (d,a)->fI P f/\tD P f b σ (λc s=>c=d/\s=a)
def xop(call:rL)(T:Tys)(τ:Env)(σ:Sto)(a:Op):Option (D×Sto):=
 match a with
 |.call c=>match Qd c.callee with
  |true=>aop T τ σ a
  |false=>match lI T τ c with
   |some (f,b)=>match lk T.ext f with
    |some k=>match O3 k b with
     |some d=>some (d,σ)
     |none=>none
    |none=>call f b σ
   |none=>none
 |_=>aop T τ σ a
section
variable {P:Program}{σ:Sto}
def Zn{T:Tys}(k:TOk T P){N:Nat}{o:Oper}{τ:Env}{c:Call}{f:FuncId}{ds:List D}{K:D->Sto->Prop}(z:o.op=.call c)(u:lI T τ c=some (f,ds))(x:fI P f)(h:tD P f ds σ K):AOp P N o τ σ K:=by
 intro B G w a m t next Q y
 obtain⟨j,g,b⟩:=CL k (w:=w) (ty:=o.type) t u;rw[Bu x]at b;have i:(execOp a.eval o).run P w=.ok (.enter f j.toArray) w:=by
  unfold execOp;rw[z];exact b
 unfold Oper.wp;rw[i,Oper.upon_enter];refine(h B G w _ m g).mono ?_;rintro e A ⟨v,n,d,l,rfl,p,q,r,s⟩;exact y v A n d l (p.le m) q r s
def Zo{f:FuncId}{ds a:List D}{c:Sto}{K:D->Sto->Prop}(s:xh σ ds=some (a,c))(h:tD P f a c K):tD P f ds σ K:=by
 intro B G w b q r;obtain⟨k,t,i,u⟩:=Fj q s r;refine(h B k w b i u).mono ?_;rintro e x ⟨v,j,d,g,rfl,l,m,n,p⟩;exact⟨v,j,d,g,rfl,(t.trans (l.le i)).b,m,n,p⟩
end
section
variable {P:Program}{T:Tys}{call:rL}{N:Nat}{o:Oper}{τ:Env}{σ:Sto}
def adL(a:TOk T P)(l:ti P call){d:D}{σ':Sto}(h:xop call T τ σ o.op=some (d,σ')):AOp P N o τ σ (λe s=>e=d/\s=σ'):=by
 unfold xop at h;split at h
 ·rename_i c b;split at h
  ·exact aO a h
  ·split at h<;>try (cases h;done)
   rename_i f p g;split at h
   ·rename_i k n;split at h<;>try (cases h;done)
    rename_i e m;cases h;exact JR a b g n m
   ·obtain⟨i,j⟩:=l _ _ _ _ _ h;exact Zn a b g i j
 ·exact aO a h
def O5(call:rL)(T:Tys)(N:Nat)(all:Array Oper):List Oper->Env->Sto->Option (Env×Sto)
 |[],τ,σ=>some (τ,σ)
 |o::r,τ,σ=>match bw all τ o with
  |some true=>match xop call T τ σ o.op with
   |some (d,b)=>match eg N o.dst d τ with
    |some a=>O5 call T N all r a b
    |none=>none
   |none=>none
  |some false=>match eg N o.dst (.tuple []) τ with
   |some a=>O5 call T N all r a σ
   |none=>none
  |none=>none
def O6(b:TOk T P)(e:ti P call){all:Array Oper}{j:Env->Sto->Prop}:∀(l:List Oper)(τ:Env)(σ:Sto)(τ':Env)(σ':Sto),O5 call T N all l τ σ=some (τ',σ')->j τ' σ'->eR P N all l τ σ j
 |[],τ,σ,τ',σ',h,c=>by
  simp only[O5,ak1,aln]at h;obtain⟨rfl,rfl⟩:=h;exact c
 |o::r,τ,σ,τ',σ',h,c=>by
  simp only[O5]at h;split at h<;>try (cases h;done)
  ·rename_i i;split at h<;>try (cases h;done)
   rename_i d k f;split at h<;>try (cases h;done)
   rename_i a g;refine .inl ⟨i,(adL b e f).mono ?_⟩;rintro m s ⟨rfl,rfl⟩;exact⟨a,g,O6 b e r a _ τ' σ' h c⟩
  ·rename_i i;split at h<;>try (cases h;done)
   rename_i a g;exact .inr ⟨i,a,g,O6 b e r a _ τ' σ' h c⟩
def isX(call:rL)(T:Tys)(τ:Env)(σ:Sto)(b:Op)(d:D)(σ':Sto):Bool:=
 match xop call T τ σ b with
 |some (a,s)=>D.beq a d&&Ez s σ'
 |none=>false
def Tm(a:TOk T P)(c:ti P call){d:D}{σ':Sto}(h:isX call T τ σ o.op d σ'=true):AOp P N o τ σ (λb s=>b=d/\s=σ'):=by
 unfold isX at h;split at h
 ·rename_i b s e;simp only[akY]at h;rw[<-D.beq_eq _ _ h.1,<-Qe _ _ h.2];exact adL a c e
 ·cases h
def Rn(M:List Nat)(i:Nat)(σ':Sto):Res->Bool
 |[]=>true
 |x::A=>(Nat.testBit (M.getD i 0) x.1||match σ'[x.2.1]? with
   |some a=>a.beq (.cells x.2.2 0 0)
   |none=>false)&&Rn M i σ' A
def JS(a:List Rc):Res->Bool
 |[]=>true
 |x::A=>(match a[x.1]? with
   |some r=>match r.kd with
    |.alloc l b=>Nat.beq l x.2.1&&D.beqs b x.2.2
    |_=>false
   |none=>false)&&JS a A
def O7:Op->Option TypeId
 |.alloc e=>some e
 |_=>none
def xdr(call:rL)(T:Tys)(N:Nat)(ops:Array Oper)(A:Res)(M:List Nat):List Oper->Nat->Env->Sto->List Sto->List Nat->List Rc->Option (Env×Sto)
 |[],_,τ,σ,_,_,tab=>match JS tab A with
  |true=>some (τ,σ)
  |false=>none
 |o::r,i,τ,σ,S,C,tab=>match bw ops (rst ops o τ) o with
  |none=>none
  |some false=>match eg N o.dst (.tuple []) τ with
   |some b=>xdr call T N ops A M r (i+1) b σ S C (tab++[⟨o,rst ops o τ,.tuple [],.skip⟩])
   |none=>none
  |some true=>match O7 o.op with
   |some e=>match tG A i,lk T.zero e with
    |some (l,f),some c=>match D.beqs f c,eg N o.dst (.ptr l 0 0) τ with
     |true,some b=>xdr call T N ops A M r (i+1) b σ S C (tab++[⟨o,rst ops o τ,.ptr l 0 0,.alloc l f⟩])
     |_,_=>none
    |_,_=>none
   |none=>match xop call T (rst ops o τ) σ o.op with
    |some (d,a)=>match eg N o.dst d τ with
     |some b=>match Ez a σ with
      |true=>match ((nr (M.getD i 0) S C).flatMap λσ=>(fj A (M.getD i 0)).map (cp · σ)).all λs=>isX call T (rst ops o τ) s o.op d s with
       |true=>xdr call T N ops A M r (i+1) b σ S C (tab++[⟨o,rst ops o τ,d,.read⟩])
       |false=>none
      |false=>match Fa (M.getD i 0) C&&((fj A (M.getD i 0)).all λg=>isX call T (rst ops o τ) (cp g σ) o.op d (cp g a))&&
       ((reS A M (C++[i]) a 0 tab).all λx=>isX call T x.1.env x.2 x.1.o.op x.1.v x.2)&&Rn M i a A with
        |true=>xdr call T N ops A M r (i+1) b a (S++[a]) (C++[i]) (tab++[⟨o,rst ops o τ,d,.chain C.length⟩])
        |false=>none
     |none=>none
    |none=>none
def Aa{α:Type}{f:α->Prop}:∀{l:List α},(∀x∈l,f x)->gx f l
 |[],_=>trivial
 |x::_,h=>⟨h x (alG ..),Aa λy a=>h y (alj _ a)⟩
def Tn{M:List Nat}{i:Nat}{σ':Sto}:∀{A:Res},Rn M i σ' A=true->∀x∈A,match Nat.testBit (M.getD i 0) x.1 with|true=>True|false=>σ'[x.2.1]?=some (.cells x.2.2 0 0)
 |y::A,h,x,b=>by
  simp only[Rn,akY]at h;rcases alr.1 b with rfl|b
  ·split
   ·trivial
   ·rename_i c;have a:=h.1;rw[c,Bool.false_or]at a;split at a
    ·rename_i e d;rw[d,aq.beq_eq _ _ a]
    ·cases a
  ·exact Tn h.2 x b
def NH{b:List Rc}:∀{A:Res},JS b A=true->∀x∈A,∃r:Rc,b[x.1]?=some r/\r.kd=.alloc x.2.1 x.2.2
 |y::A,h,x,c=>by
  simp only[JS,akY]at h;rcases alr.1 c with rfl|c
  ·have a:=h.1;split at a
   ·rename_i r e;split at a
    ·rename_i l f d;simp only[akY]at a;exact⟨r,e,by rw[d,bq a.1,D.beqs_eq _ _ a.2]⟩
    ·cases a
   ·cases a
  ·exact NH h.2 x c
def I5(b:TOk T P)(g:ti P call){ops:Array Oper}{A:Res}{M:List Nat}{K:Env->Sto->Prop}:∀(l:List Oper)(i:Nat)(τ:Env)(σ:Sto)(S:List Sto)(C:List Nat)(f:List Rc)(τ':Env)(σ':Sto),
 S.getLast?=some σ->xdr call T N ops A M l i τ σ S C f=some (τ',σ')->K τ' σ'->ADr P N ops A M l i τ S C f K
 |[],i,τ,σ,S,C,f,τ',σ',hS,h,j=>by
  simp only[xdr]at h;split at h<;>try (cases h;done)
  rename_i H;cases h;exact⟨Aa (NH H),_,hS,j⟩
 |o::r,i,τ,σ,S,C,f,τ',σ',hS,h,j=>by
  simp only[xdr]at h;split at h<;>try (cases h;done)
  ·rename_i n;split at h<;>try (cases h;done)
   rename_i a k;exact .inl ⟨n,a,k,I5 b g r _ a σ S C _ τ' σ' hS h j⟩
  ·rename_i n;split at h
   ·rename_i e q;split at h<;>try (cases h;done)
    rename_i l v w F L;split at h<;>try (cases h;done)
    rename_i a t k;have m:o.op=.alloc e:=by
     unfold O7 at q;split at q
     ·rename_i Q G;cases q;exact G
     ·cases q
    refine .inr (.inr (.inr ⟨n,e,l,v,a,m,F,?_,k,I5 b g r _ a σ S C _ τ' σ' hS h j⟩));rw[D.beqs_eq _ _ t];exact fU b.zero L
   ·split at h<;>try (cases h;done)
    rename_i d p m;split at h<;>try (cases h;done)
    rename_i a k;split at h
    ·split at h<;>try (cases h;done)
     rename_i c;refine .inr (.inl ⟨n,d,a,Aa λs I=> ?_,k,I5 b g r _ a σ S C _ τ' σ' hS h j⟩);exact Tm b g (alv.1 c s I)
    ·split at h<;>try (cases h;done)
     rename_i c;simp only[akY]at c;obtain⟨⟨⟨y,z⟩,B⟩,E⟩:=c;refine .inr (.inr (.inl ⟨n,y,d,a,σ,p,hS,Aa λO u=> ?_,Aa λx J=> ?_,Aa (Tn E),k,I5 b g r _ a p _ _ _ τ' σ' siq h j⟩))
     ·exact Tm b g (alv.1 z O u)
     ·exact Tm b g (alv.1 B x J)
def JT(T:Tys):List Oper->Nat->Nat->Option Res
 |[],_,_=>some []
 |o::r,i,l=>match O7 o.op with
  |some e=>match lk T.zero e,JT T r (i+1) (l+1) with
   |some a,some A=>some ((i,l,a)::A)
   |_,_=>none
  |none=>JT T r (i+1) l
def Mb:∀{l:List Oper}{i n:Nat}{A:Res},JT T l i n=some A->A.map (·.2.1)=List.range' n A.length
 |[],_,_,_,h=>by simp only[JT,ak1]at h;subst h;rfl
 |o::r,i,n,A,h=>by
  simp only[JT]at h;split at h
  ·split at h<;>try (cases h;done)
   rename_i c b d a;cases h;simp[Mb a,List.range'_succ]
  ·exact Mb h
def Xf(call:rL)(T:Tys)(N:Nat)(ops:Array Oper)(τ:Env)(σ:Sto):Option (Env×Sto):=
 match JT T ops.toList 0 σ.length with
 |some A=>match dR ops (bj ops.toList []) with
  |true=>xdr call T N ops A (bj ops.toList []) ops.toList 0 τ (σ++A.map λx=>aq.cells x.2.2 0 0) [σ++A.map λx=>aq.cells x.2.2 0 0] [] []
  |false=>none
 |none=>none
def ab2{i:Nat}(a:TOk T P)(c:ti P call)(e:P.follows .mixedOrders=true){id:Nat}{ops:Array Oper}{τ':Env}{σ':Sto}{Q:AEx->Env->Sto->Prop}
 (h:Xf call T N ops τ σ=some (τ',σ'))(d:Q .normal τ' σ'):AWp i P N (.region id ops true) τ σ Q:=by
 unfold Xf at h;split at h<;>try (cases h;done)
 rename_i A b;split at h<;>try (cases h;done)
 rename_i f;exact PT e A rfl f (Mb b) (I5 a c _ _ _ _ _ _ _ _ _ siq h d)
end
end Go.Fw
def an2:=@Nat.beq_refl
namespace Go.Fw
open Go.RowKit
def LWp(i:Nat)(P:Program)(N:Nat)(c:Code)(τ:Env)(σ:Sto)(Q:AEx->Env->Sto->Prop):Prop:=
 ∀(B:bE P)(G:Gh)(w:World)(a:Act),Rel B G σ w->de G N τ a->∀b k f,
  ∃e d g,jH i B G N Q e d g/\Arrives P (lone (b.at a (.code c:: .inLoop c::k)) f w) b k f e d g
section
variable {i:Nat}{P:Program}{N:Nat}{c:Code}{τ τ' :Env}{σ σ' :Sto}{Q:AEx→Env→Sto→Prop}
def Qf(h:LWp i P N c τ σ Q):AWp i P N (.loop c) τ σ Q:=by
 intro B G w a j l b k g;obtain⟨e,f,n,m,d⟩:=h B G w a j l b k g;exact⟨e,f,n,m,.of_steps (.one step_loop) d⟩
def I6(h:AWp i P N c τ σ (Ws (λτ' σ'=>LWp i P N c τ' σ' Q) Q)):LWp i P N c τ σ Q:=by
 intro B G w a A C b k r;obtain⟨e,d,f,q,g⟩:=h B G w a A C b (.inLoop c::k) r;cases e with
 |normal=>
  obtain⟨s,E,D,t,u,v,z⟩:=q;obtain⟨n,m,o,p,j⟩:=z B s f d u v b k r;exact⟨n,m,o,lP t (λ_ _ _ y=>y) n m o p,.of_steps (Steps.trans g (.one step_inLoop)) j⟩
 |exit id=>exact⟨.exit id,d,f,(show jH i B G N Q (.exit id) d f from q),.pass (x:=.inLoop c) rfl (λ_ _=>.inl siq) g⟩
 |goto l=>exact⟨.goto l,d,f,(show jH i B G N Q (.goto l) d f from q),.pass (x:=.inLoop c) rfl (λ_ _=>.inl siq) g⟩
 |ret=>exact⟨.ret,d,f,(show jH i B G N Q .ret d f from q),.pass (x:=.inLoop c) rfl (λ_ _=>.inl siq) g⟩
 |panic F=>exact q.elim
 |outgrown=>exact q.elim
def LWp.mono{d:AEx->Env->Sto->Prop}(h:LWp i P N c τ σ Q)(p:∀e τ σ,Q e τ σ->d e τ σ):LWp i P N c τ σ d:=by
 intro B G w a n o b k j;obtain⟨e,f,g,l,m⟩:=h B G w a n o b k j;exact⟨e,f,g,lP (.refl G) p e f g l,m⟩
def aeZ(Q:AEx->Env->Sto->Prop):AEx->Env->Sto->Prop
 |.goto _,_,_=>False
 |.normal,τ,σ=>Q .normal τ σ
 |.exit id,τ,σ=>Q (.exit id) τ σ
 |.ret,τ,σ=>Q .ret τ σ
def Qg(h:AWp i P N c τ σ (aeZ Q)):AWp i P N (.scope c) τ σ Q:=by
 intro B G w a b d;refine wp_scope_straight (aoH (h B G w a b d) λe f j x=> ?_);cases e with
 |normal=>exact x
 |exit id=>exact x
 |goto l=>obtain⟨_,_,_,_,_,_,h⟩:=x;exact h.elim
 |ret=>exact x
 |panic g=>exact x
 |outgrown=>exact x
variable{Z Y:Code}
def pJ{x:Operand}(a:ev τ x=some (.bool true))(h:AWp i P N Z τ σ Q):AWp i P N (.cond x Z Y) τ σ Q:=RU a h
def jU{x:Operand}(a:ev τ x=some (.bool false))(h:AWp i P N Y τ σ Q):AWp i P N (.cond x Z Y) τ σ Q:=RU a h
end
def okF(P:Program)(f:FuncId):Option Func:=
 match P.funcs[f]? with
 |some a=>if a.body.isSome=true/\(a.name== "runtime.NumGoroutine")=false then some a else none
 |none=>none
def eY{P:Program}{f:FuncId}{fn:Func}(this:okF P f=some fn):P.funcs[f]?=some fn/\fI P f:=by
 unfold okF at this;split at this<;>try (cases this;done)
 rename_i d a;split at this<;>try (cases this;done)
 rename_i b;cases this;exact⟨a,fn,a,b.1,b.2⟩
def tidy:Env->List Nat->Env
 |[],_=>[]
 |(t,d)::r,seen=>match seen.any (Nat.beq t) with
  |true=>tidy r seen
  |false=>(t,d)::tidy r (t::seen)
def Mc:∀(τ:Env)(seen:List Nat)(t:Nat)(d:D),get (tidy τ seen) t=some d->seen.any (Nat.beq t)=false/\get τ t=some d
 |[],_,_,_,h=>by simp[tidy,get]at h
 |(i,x)::r,seen,t,d,h=>by
  simp only[tidy]at h;split at h
  ·rename_i f;obtain⟨a,b⟩:=Mc r seen t d h;refine⟨a,?_⟩;have:i≠t:=λe=>by subst e;rw[f]at a;cases a
   simp only[get,this,alV];exact b
  ·rename_i f;simp only[get]at h⊢;by_cases e:i=t
   ·subst e;simp only[al1]at h⊢;exact⟨f,h⟩
   ·simp only[e,alV]at h⊢;obtain⟨a,b⟩:=Mc r (i::seen) t d h;simp only[List.any_cons,aoy]at a;exact⟨a.2,b⟩
def fW(call:rL)(T:Tys)(N:Nat):Nat->Code->Env->Sto->Option (AEx×Env×Sto)
 |0,_,_,_=>none
 |n+1,c,τ,σ=>match c with
  |.skip=>some (.normal,τ,σ)
  |.label _=>some (.normal,τ,σ)
  |.ret=>some (.ret,τ,σ)
  |.exit id=>some (.exit id,τ,σ)
  |.seq a b=>match fW call T N n a τ σ with
   |some (.normal,τ',σ')=>fW call T N n b τ' σ'
   |r=>r
  |.cond x a b=>match ev τ x with
   |some (.bool true)=>fW call T N n a τ σ
   |some (.bool false)=>fW call T N n b τ σ
   |_=>none
  |.block id b=>match fW call T N n b τ σ with
   |some (.exit d,τ',σ')=>match Nat.beq d id with
    |true=>some (.normal,τ',σ')
    |false=>some (.exit d,τ',σ')
   |r=>r
  |.loop b=>match fW call T N n b (tidy τ []) σ with
   |some (.normal,τ',σ')=>fW call T N n (.loop b) τ' σ'
   |r=>r
  |.scope b=>match fW call T N n b τ σ with
   |some (.goto _,_,_)=>none
   |r=>r
  |.region _ ops false=>match O5 call T N ops ops.toList τ σ with
   |some (τ',σ')=>some (.normal,τ',σ')
   |none=>none
  |.region _ ops true=>match Xf call T N ops τ σ with
   |some (τ',σ')=>some (.normal,τ',σ')
   |none=>none
  |_=>none
section
variable {i:Nat}{P:Program}{T:Tys}{call:rL}{N:Nat}
def To(u:TOk T P)(w:ti P call)(A:P.follows .mixedOrders=true):∀(n:Nat),
 (∀(c:Code)(τ:Env)(σ:Sto)(e:AEx)(τ':Env)(σ':Sto),fW call T N n c τ σ=some (e,τ',σ')->AWp i P N c τ σ (λk j g=>k=e/\j=τ'/\g=σ'))/\
 (∀(c:Code)(τ:Env)(σ:Sto)(e:AEx)(τ':Env)(σ':Sto),fW call T N n (.loop c) τ σ=some (e,τ',σ')->LWp i P N c τ σ (λk j g=>k=e/\j=τ'/\g=σ'))
 |0=>⟨λ_ _ _ _ _ _ h=>by simp[fW]at h,λ_ _ _ _ _ _ h=>by simp[fW]at h⟩
 |n+1=>by
  obtain⟨f,z⟩:=To u w A n;have loop:∀(c:Code)(τ:Env)(σ:Sto)(e:AEx)(τ':Env)(σ':Sto),fW call T N (n+1) (.loop c) τ σ=some (e,τ',σ')->LWp i P N c τ σ (λk j g=>k=e/\j=τ'/\g=σ'):=by
   intro c τ σ e τ' σ' h;simp only[fW]at h;refine I6 (AWp.sub (τ':=tidy τ []) ?_ (λt d B=>(Mc τ [] t d B).2));split at h
   ·rename_i s r q;refine(f c _ σ _ _ _ q).mono ?_;rintro k p o ⟨rfl,rfl,rfl⟩;exact z c _ _ e τ' σ' h
   ·rename_i m;refine(f c _ σ _ _ _ h).mono ?_;rintro k p o ⟨rfl,rfl,rfl⟩;cases k with
    |normal=>exact absurd h (m _ _)
    |exit id=>exact⟨rfl,rfl,rfl⟩
    |goto l=>exact⟨rfl,rfl,rfl⟩
    |ret=>exact⟨rfl,rfl,rfl⟩
  refine⟨λc τ σ e τ' σ' h=> ?_,loop⟩;cases c<;>(try (simp only[fW]at h;cases h;done))
  case skip=>simp only[fW,ak1,aln]at h;exact nq ⟨h.1▸rfl,h.2.1▸rfl,h.2.2▸rfl⟩
  case label=>simp only[fW,ak1,aln]at h;exact PR ⟨h.1▸rfl,h.2.1▸rfl,h.2.2▸rfl⟩
  case ret=>simp only[fW,ak1,aln]at h;exact nT ⟨h.1▸rfl,h.2.1▸rfl,h.2.2▸rfl⟩
  case exit id=>simp only[fW,ak1,aln]at h;exact Lu ⟨h.1▸rfl,h.2.1▸rfl,h.2.2▸rfl⟩
  case seq a b=>
   simp only[fW]at h;refine cV ?_;split at h
   ·rename_i s r q;refine(f a τ σ _ _ _ q).mono ?_;rintro k p o ⟨rfl,rfl,rfl⟩;exact f b _ _ e τ' σ' h
   ·rename_i m;refine(f a τ σ _ _ _ h).mono ?_;rintro k p o ⟨rfl,rfl,rfl⟩;cases k with
    |normal=>exact absurd h (m _ _)
    |exit id=>exact⟨rfl,rfl,rfl⟩
    |goto l=>exact⟨rfl,rfl,rfl⟩
    |ret=>exact⟨rfl,rfl,rfl⟩
  case cond x a b=>
   simp only[fW]at h;split at h<;>try (cases h;done)
   ·rename_i y;exact pJ y (f a τ σ _ _ _ h)
   ·rename_i y;exact jU y (f b τ σ _ _ _ h)
  case block id b=>
   simp only[fW]at h;refine BY ?_;split at h
   ·rename_i C s r q;refine(f b τ σ _ _ _ q).mono ?_;rintro k p o ⟨rfl,rfl,rfl⟩;simp only[MN];split at h
    ·rename_i v;have v:=bq v;cases h;rw[ali v];exact⟨rfl,rfl,rfl⟩
    ·rename_i v;cases h;rw[alJ (λe=>by subst e;rw[an2]at v;cases v)];exact⟨rfl,rfl,rfl⟩
   ·rename_i m;refine(f b τ σ _ _ _ h).mono ?_;rintro k p o ⟨rfl,rfl,rfl⟩;cases k with
    |normal=>exact⟨rfl,rfl,rfl⟩
    |exit id=>exact absurd h (m _ _ _)
    |goto l=>exact⟨rfl,rfl,rfl⟩
    |ret=>exact⟨rfl,rfl,rfl⟩
  case scope b=>
   simp only[fW]at h;refine Qg ?_;split at h
   ·cases h
   ·rename_i m;refine(f b τ σ _ _ _ h).mono ?_;rintro k p o ⟨rfl,rfl,rfl⟩;cases k with
    |normal=>exact⟨rfl,rfl,rfl⟩
    |exit id=>exact⟨rfl,rfl,rfl⟩
    |goto l=>exact absurd h (m _ _ _)
    |ret=>exact⟨rfl,rfl,rfl⟩
  case loop b=>exact Qf (loop b τ σ e τ' σ' h)
  case region id ops draw=>
   cases draw with
   |false=>
    simp only[fW]at h;split at h<;>try (cases h;done)
    rename_i s r q;cases h;exact bJ (O6 u w _ _ _ _ _ q ⟨rfl,rfl,rfl⟩)
   |true=>
    simp only[fW]at h;split at h<;>try (cases h;done)
    rename_i s r q;cases h;exact ab2 u w A q ⟨rfl,rfl,rfl⟩
def ab3(T:Tys)(a:List ResultVar):Option (AEx×Env×Sto)->Option (D×Sto)
 |some (.normal,τ,σ)=>match tE T a τ σ with
  |some d=>some (d,σ)
  |none=>none
 |some (.ret,τ,σ)=>match tE T a τ σ with
  |some d=>some (d,σ)
  |none=>none
 |_=>none
def ae0{b:List ResultVar}{r:Option (AEx×Env×Sto)}{d:D}{σ':Sto}(h:ab3 T b r=some (d,σ')):∃e τ,r=some (e,τ,σ')/\(e=.normal∨e=.ret)/\tE T b τ σ'=some d:=by
 unfold ab3 at h;split at h
 ·split at h<;>try (cases h;done)
  rename_i f a;cases h;exact⟨_,_,rfl,.inl rfl,a⟩
 ·split at h<;>try (cases h;done)
  rename_i f a;cases h;exact⟨_,_,rfl,.inr rfl,a⟩
 ·cases h
def xfn(call:rL)(T:Tys)(fn:Func)(ds:List D)(σ:Sto):Option (D×Sto):=
 match fn.body,Nat.ble ds.length fn.ntmps with
 |some c,true=>ab3 T fn.results.toList (fW call T fn.ntmps 100000 c (env0 0 ds) σ)
 |_,_=>none
def Tp(a:TOk T P)(g:ti P call)(n:P.follows .mixedOrders=true){f:FuncId}{fn:Func}{ds:List D}{σ σ':Sto}{d:D}(m:P.funcs[f]?=some fn)
 (h:xfn call T fn ds σ=some (d,σ')):tD P f ds σ (λb s=>b=d/\s=σ'):=by
 unfold xfn at h;split at h<;>try (cases h;done)
 rename_i c j o;obtain⟨e,τ,p,l,k⟩:=ae0 h;refine E8 a m j (alb o) (((To a g n _).1 c _ σ e τ σ' p).mono ?_);rintro q τ' s ⟨rfl,rfl,rfl⟩;exact⟨l,d,k,rfl,rfl⟩
def Bw(O:FuncId->Bool)(K:FuncId->List D->Option D)(P:Program)(T:Tys):Nat->rL
 |0=>λ_ _ _=>none
 |n+1=>λf h σ=>match O f with
  |true=>match okF P f with
   |some e=>xfn (Bw O K P T n) T e h σ
   |none=>none
  |false=>match xh σ h with
   |some (a,b)=>match K f a with
    |some d=>some (d,b)
    |none=>match okF P f with
     |some e=>match bo a with
      |true=>match xfn (Bw O K P T n) T e a [] with
       |some (d,σ')=>match C6 σ' d with
        |some (g,_)=>match g.pure with
         |true=>some (g,b)
         |false=>none
        |none=>none
       |none=>none
      |false=>xfn (Bw O K P T n) T e a b
     |none=>none
   |none=>none
abbrev aiS(K:FuncId->List D->Option D)(P:Program)(T:Tys):Nat->rL:=Bw (λ_=>false) K P T
def Qh{O:FuncId->Bool}{K:FuncId->List D->Option D}(a:TOk T P)(t:KOk P K)(k:P.follows .mixedOrders=true):∀n,ti P (Bw O K P T n)
 |0=>λ_ _ _ _ _ h=>by simp[Bw]at h
 |n+1=>by
  have q:=Qh (O:=O) a t k n;intro f C σ d σ' h;simp only[Bw]at h;split at h
  ·split at h<;>try (cases h;done)
   rename_i u b;obtain⟨e,g⟩:=eY b;exact⟨g,Tp a q k e h⟩
  ·split at h<;>try (cases h;done)
   rename_i m r o;have j:fI P f/\tD P f m r (λl s=>l=d/\s=σ'):=by
    split at h
    ·rename_i l v;cases h;obtain⟨e,g⟩:=t _ _ _ v;exact⟨e,g.acall _⟩
    ·split at h<;>try (cases h;done)
     rename_i u b;obtain⟨e,g⟩:=eY b;refine⟨g,?_⟩;split at h
     ·rename_i w;split at h<;>try (cases h;done)
      rename_i B z x;split at h<;>try (cases h;done)
      rename_i d2 A y;split at h<;>try (cases h;done)
      rename_i p;cases h;have:=Bv (P:=P) (f:=f) (d:=d) w ((Tp a q k e x).mono (by rintro l s ⟨rfl,rfl⟩;exact⟨_,y,p⟩));exact this.acall _
     ·exact Tp a q k e h
   exact⟨j.1,Zo o j.2⟩
def Dq{K:FuncId->List D->Option D}(a:TOk T P)(g:KOk P K)(j:P.follows .mixedOrders=true){n:Nat}{f:FuncId}{ds:List D}{d:D}
 (k:bo ds=true)(b:d.pure=true)(l:C6 [] d=some (d,[]))(h:aiS K P T n f ds []=some (d,[])):cq P f ds d:=by
 obtain⟨o,e⟩:=Qh a g j n _ _ _ _ _ h;exact Bv k (e.mono (by rintro m s ⟨rfl,rfl⟩;exact⟨_,l,b⟩))
end
end Go.Fw
def aoQ:=@List.pairwise_iff_getElem
def aoR:=@Nat.lt_trichotomy
namespace Go.Fw
open Go.RowKit
def mv(ks:List Nat):D->D
 |.ptr j u o=>.ptr (ks.getD j 0) u o
 |.sl j u o n a f=>.sl (ks.getD j 0) u o n a f
 |.map j=>.map (ks.getD j 0)
 |d=>d
def okv(n:Nat):D->Bool
 |.ptr j _ _=>Nat.blt j n
 |.sl j _ _ _ _ _=>Nat.blt j n
 |.map j=>Nat.blt j n
 |d=>d.pure
def mvO(ks:List Nat):aq->aq
 |.cells a f v=>.cells (a.map (mv ks)) f v
 |b=>b
def okO(n:Nat):aq->Bool
 |.cells c _ _=>c.all (okv n)
 |.map a b=>bo a&&bo b
 |.miter a b _ _=>bo a&&bo b
 |_=>true
def Gh.sel(G:Gh)(ks:List Nat):Gh:={G with blk:=λj u=>match ks[j]? with
 |some l=>G.blk l u
 |none=>none}
def Ot{G:Gh}{ks:List Nat}{j u b:Nat}(a:j<ks.length)(h:G.blk (ks.getD j 0) u=some b):(G.sel ks).blk j u=some b:=by
 have e:ks[j]?=some (ks.getD j 0):=by rw[alk,akZ a];rfl
 simp only[Gh.sel,e];exact h
def YB{G:Gh}{ks:List Nat}{d:D}{v:Value}(a:okv ks.length d=true)(h:Rep G (mv ks d) v):Rep (G.sel ks) d v:=by
 have pure:d.pure=true->mv ks d=d->Rep (G.sel ks) d v:=λk e=>by
  rw[e]at h;exact Rep.pure (G:=G) (G':=G.sel ks) (λ_ _ _ x=>x) (λ_ _ x=>x) d v k h
 cases d
 case ptr j u o=>
  have a:j<ks.length:=alb a;simp only[mv,Rep]at h⊢;obtain⟨b,c,e⟩:=h;exact⟨b,Ot a c,e⟩
 case sl j u o n sz f=>
  have a:j<ks.length:=alb a;simp only[mv,Rep]at h⊢;rcases h with⟨b,g,i,c,e⟩|h
  ·exact .inl ⟨b,g,i,Ot a c,e⟩
  ·exact .inr h
 case map j=>
  have a:j<ks.length:=alb a;simp only[mv,Rep]at h⊢;obtain⟨b,c,e⟩:=h;exact⟨b,Ot a c,e⟩
 all_goals exact pure a rfl
def Vg{G:Gh}{ks:List Nat}:∀{ds:List D}{vs:List Value},ds.all (okv ks.length)=true->af G (ds.map (mv ks)) vs->af (G.sel ks) ds vs
 |[],_,_,h=>by simpa only[amj,af] using h
 |d::ds,_,a,h=>by
  simp only[amw,akY]at a;simp only[alc,af]at h⊢;obtain⟨v,r,e,b,c⟩:=h;exact⟨v,r,e,YB a.1 b,Vg a.2 c⟩
def aev{G:Gh}{ks:List Nat}{w:World}{b:Nat}{ob:aq}(d:okO ks.length ob=true)(h:oP G w b (mvO ks ob)):oP (G.sel ks) w b ob:=by
 cases ob with
 |cells z f v=>
  obtain⟨y,n,e,g,u,t,i,k⟩:=h;exact⟨y,n,e,g,u,t,i,Vg d k⟩
 |map a c=>
  simp only[okO,akY]at d;obtain⟨j,e,g,i⟩:=h;exact⟨j,e,af.pure (G:=G) (G':=G.sel ks) (λ_ _ _ x=>x) (λ_ _ x=>x) _ _ d.1 g,af.pure (G:=G) (G':=G.sel ks) (λ_ _ _ x=>x) (λ_ _ x=>x) _ _ d.2 i⟩
 |siter s p=>exact h
 |miter a c r l=>
  simp only[okO,akY]at d;obtain⟨m,j,seen,e,g,i,k,o,q⟩:=h;exact⟨m,j,seen,e,g,af.pure (G:=G) (G':=G.sel ks) (λ_ _ _ x=>x) (λ_ _ x=>x) _ _ d.1 i,af.pure (G:=G) (G':=G.sel ks) (λ_ _ _ x=>x) (λ_ _ x=>x) _ _ d.2 k,o,q⟩
 |dead=>exact h
 |gone=>exact h
def DG{ks:List Nat}(ob:aq):(mvO ks ob).ver=ob.ver/\(mvO ks ob).frz=ob.frz/\(mvO ks ob).len=ob.len:=by
 cases ob<;>simp[mvO,aq.ver,aq.frz,aq.len]
def Rel.sel{P:Program}{B:bE P}{G:Gh}{σ σ':Sto}{w:World}(i:Rel B G σ w){ks:List Nat}(t:ks.Nodup)(s:σ'.length=ks.length)
 (o:∀(j l:Nat)(ob:aq),ks[j]?=some l->σ'[j]?=some ob->σ[l]?=some (mvO ks ob)/\okO ks.length ob=true):Rel B (G.sel ks) σ' w:=by
 have q:∀{j u b:Nat},(G.sel ks).blk j u=some b->∃l,ks[j]?=some l/\G.blk l u=some b:=by
  intro j u b h;simp only[Gh.sel]at h;split at h
  ·rename_i l d;exact⟨l,d,h⟩
  ·cases h
 have r:∀{j:Nat}{ob:aq},σ'[j]?=some ob->∃l,ks[j]?=some l:=by
  intro j ob h;have:=aj h;exact⟨ks[j]'(by omega),akZ omq⟩
 refine⟨i.below,i.imm,i.mimm,i.siz,λj u b h=> ?_,λj u x A b h v=> ?_,λj ob b n h=> ?_,λj z f u b n h=> ?_,λj a c b n h=> ?_,λj ob n=> ?_,λj ob n=> ?_,i.bimm,i.bmimm⟩
 ·obtain⟨l,d,h⟩:=q h;exact⟨by rw[s];exact aj d,(i.blk _ _ _ h).2⟩
 ·obtain⟨l,d,h⟩:=q h;obtain⟨y,k,v⟩:=q v;have e:=i.inj _ _ _ _ _ h v;subst e;have g:=aj d;have p:=aj k;rw[akZ g]at d;rw[akZ p]at k;have e:=(alX d).trans (alX k).symm;rcases aoR j x with m|m|m
  ·exact absurd e (aoQ.1 t j x g p m)
  ·exact m
  ·exact absurd e.symm (aoQ.1 t x j p g m)
 ·obtain⟨l,d,h⟩:=q h;obtain⟨g,p⟩:=o j l ob d n;exact aev p (i.obj l _ b g (by rw[(DG ob).1];exact h))
 ·obtain⟨l,d,h⟩:=q h;obtain⟨g,p⟩:=o j l _ d n;exact i.own l _ f u b g h
 ·obtain⟨l,d,h⟩:=q h;obtain⟨g,p⟩:=o j l _ d n;exact i.ownm l _ _ b g h
 ·obtain⟨l,d⟩:=r n;obtain⟨g,p⟩:=o j l ob d n;have m:=i.ver l _ g;rw[(DG ob).1,(DG ob).2.2]at m;refine⟨m.1,λu b h=> ?_⟩;obtain⟨y,k,h⟩:=q h;rw[d]at k;cases k;exact m.2 u b h
 ·obtain⟨l,d⟩:=r n;obtain⟨g,p⟩:=o j l ob d n;have m:=i.frzle l _ g;rw[(DG ob).2.1,(DG ob).2.2]at m;exact m
def de.sel{G:Gh}{N:Nat}{τ τ':Env}{a:Act}(b:de G N τ a){ks:List Nat}(h:∀t d,get τ' t=some d->get τ t=some (mv ks d)/\okv ks.length d=true):de (G.sel ks) N τ' a:=
 ⟨b.size,b.defers,λt d c=>YB (h t d c).2 (b.slot t _ (h t d c).1)⟩
def AWp.gc{i:Nat}{P:Program}{N:Nat}{c:Code}{τ τ':Env}{σ σ':Sto}{Q:AEx->Env->Sto->Prop}(ks:List Nat)(p:∀l,l<i->ks[l]?=some l)(g:ks.Nodup)(f:σ'.length=ks.length)
 (k:∀(j l:Nat)(ob:aq),ks[j]?=some l->σ'[j]?=some ob->σ[l]?=some (mvO ks ob)/\okO ks.length ob=true)
 (m:∀t d,get τ' t=some d->get τ t=some (mv ks d)/\okv ks.length d=true)(h:AWp i P N c τ' σ' Q):AWp i P N c τ σ Q:=by
 intro B G w a n o;refine aoH (h B (G.sel ks) w a (n.sel g f k) (o.sel m)) λe a w x=>lP ?_ (λ_ _ _ y=>y) e a w x;exact⟨λ_ _ _ x=>x,λ_ _ x=>x,λ_ _ x=>x,λl u b q x=>by simp only[Gh.sel,p l q];exact x⟩
end Go.Fw
def amJ:=@Bool.and_self
def anB:=@List.drop_succ_cons
def anO:=@List.all_append
def anT:=@List.drop_length_add_append
def aoJ:=@List.take_length_add_append
namespace Go.Fw
open Go.RowKit
structure Enc(α:Type) where
 sz:Nat
 cells:α->List D
 flat:List α->List D
 fnil:flat []=[]
 fcons:∀a r,flat (a::r)=cells a++flat r
 len:∀a,(cells a).length=sz
 pure:∀a,bo (cells a)=true
 cell:∀a,(cells a).all D.isCell=true
def YG{α:Type}(cells:α->List D):List α->List D
 |[]=>[]
 |a::r=>cells a++YG cells r
def mkE{α:Type}(sz:Nat)(cells:α->List D)(len:∀a,(cells a).length=sz)(pure:∀a,bo (cells a)=true)(cell:∀a,(cells a).all D.isCell=true):Enc α:=
 ⟨sz,cells,YG cells,rfl,λ_ _=>rfl,len,pure,cell⟩
def bH{α:Type}(E:Enc α)(xs:List α):List D:=E.flat xs
section
variable {α:Type}
def gH(E:Enc α):bH E []=[]:=E.fnil
def gn(E:Enc α)(a:α)(r:List α):bH E (a::r)=E.cells a++bH E r:=E.fcons a r
def eK(E:Enc α):∀xs:List α,(bH E xs).length=xs.length*E.sz
 |[]=>by simp[gH]
 |a::r=>by simp[gn,E.len,eK E r,am3,aoi]
def Bh:∀a b:List D,bo (a++b)=(bo a&&bo b)
 |[],b=>by simp[bo]
 |d::a,b=>by simp[bo,Bh a b,Bool.and_assoc]
def flat_pure(E:Enc α):∀xs:List α,bo (bH E xs)=true
 |[]=>by rw[gH];rfl
 |a::r=>by simp[gn,Bh,E.pure,flat_pure E r]
def CE(E:Enc α):∀xs:List α,(bH E xs).all D.isCell=true
 |[]=>by rw[gH];rfl
 |a::r=>by simp only[gn,anO,E.cell,CE E r,amJ]
def Bi(E:Enc α):∀xs b:List α,bH E (xs++b)=bH E xs++bH E b
 |[],b=>by simp[gH]
 |a::r,b=>by simp[gn,Bi E r b]
def Nl(E:Enc α):∀(n:Nat)(xs:List α),(bH E xs).take (n*E.sz)=bH E (xs.take n)
 |0,xs=>by simp[gH]
 |n+1,[]=>by simp[gH]
 |n+1,a::r=>by
  have e:(n+1)*E.sz=(E.cells a).length+n*E.sz:=by rw[E.len,am3,Nat.one_mul,aoi]
  simp only[gn,am0];rw[e,aoJ,Nl E n r]
def FV(E:Enc α):∀(n:Nat)(xs:List α),(bH E xs).drop (n*E.sz)=bH E (xs.drop n)
 |0,xs=>by simp
 |n+1,[]=>by simp[gH]
 |n+1,a::r=>by
  have e:(n+1)*E.sz=(E.cells a).length+n*E.sz:=by rw[E.len,am3,Nat.one_mul,aoi]
  simp only[gn,anB];rw[e,anT,FV E n r]
def PX{E:Enc α}{xs:List α}{i:Nat}{a:α}(h:xs[i]?=some a):((bH E xs).drop (i*E.sz)).take E.sz=E.cells a:=by
 have b:=aj h;rw[FV,aly b];rw[akZ b]at h;cases h;rw[gn];have e:E.sz=(E.cells xs[i]).length:=(E.len _).symm;rw[e,List.take_left]
def ix(xs:List α)(i:Int):Option α:=if 0<=i then xs[i.toNat]? else none
def SC{xs:List α}{i:Int}{a:α}(h:ix xs i=some a):0<=i/\i<xs.length/\xs[i.toNat]?=some a:=by
 unfold ix at h;split at h<;>try (cases h;done)
 rename_i b;have:=aj h;exact⟨b,omq,h⟩
variable {T:Tys}{τ:Env}{σ:Sto}{E:Enc α}{xs:List α}
end
section
variable {P:Program}{T:Tys}{N:Nat}{all:Array Oper}{o:Oper}{r:List Oper}{τ τ' :Env}{σ σ' :Sto}{d:D}{Kt:Env→Sto→Prop}
def goA(tok:TOk T P)(a:bw all τ o=some true)(b:aop T τ σ o.op=some (d,σ'))(c:eg N o.dst d τ=some τ')(h:eR P N all r τ' σ' Kt):eR P N all (o::r) τ σ Kt:=
 .inl ⟨a,(aO tok b).mono (by rintro e s ⟨rfl,rfl⟩;exact⟨τ',c,h⟩)⟩
end
def akW(k:IntKind)(n:Int):Bool:=decide (k.wrap n=n)
def am{α c:Type}{x:Option α}{f:α->Option c}{b:c}(h:x.bind f=some b):∃a,x=some a/\f a=some b:=by
 cases x with
 |none=>cases h
 |some a=>exact⟨a,rfl,h⟩
end Go.Fw
